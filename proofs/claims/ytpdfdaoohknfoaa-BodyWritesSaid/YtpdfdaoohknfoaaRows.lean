/-
  No cell of these rows narrows 'for every input' (looked for: loops, veiled, ifaces, maps, wideKeys, modest, calm, conditions, laid).
  DERIVED. THE GIVEN ROWS OF THIS SEAT. 12 by the template 'for every input the law returns true; each argument reads behind the call as it read before'; 0 by the template 'total and deterministic' (their statements: YtpdfdaoohknfoaaTotals.lean).
  GIVEN WITH THE SEED: the statements are not yours to turn. If you find one false, say at which input.
  Laid BY PROGRAM, IN A SANDBOX (cutbox-rows.mjs): the forced cells as the released guide's own fill.sh prints them over the translation bbfad570a39f54f9… (all of the seat's roots in one cut). By AI agents, Wed Nov 11 2026. No macro, syntax, notation, axiom, sorry.
-/
import Derived.Test.YtpdfdaoohknfoaaChecked
import GoSem.Claim
import GoSem.ClaimJoined
import GoSem.ClaimMapViews
import Derived.JoinedTies
import Derived.KernelRfl
namespace Go.Proofs.Ytpdfdaoohknfoaa
/- THE CELL 'sum', in the pinned program and in every row, IS THE sha256 OF THE DUMP (.gsa) THAT YtpdfdaoohknfoaaProg.lean LOADS. Nothing in Lean hashes anything: it is a label: what it is worth is what the hold of that sum in a sandbox is worth. -/
noncomputable def Try.pinned : Pinned := { name := "ytpdfdaoohknfoaa", sum := "bbfad570a39f54f94bdc88846ba9769c336bffa84cd9e6615d0b0007b8eee7e9", checked := Try.checked }
namespace Rows
def none {H : Type} : Left H := { results := [], args := [] }

/-- 'psalterylaw16.HeadRights': WHATEVER THE INPUT: true; the input reads as it did. -/
def headRightsSpec : ChangeSpec := { name := "headRights", fn := fun _ => fun
  | [d1, d2, d3] => { results := [.lit (.bool true)], args := [d1, d2, d3] }
  | _ => none }
def headRightsRow : OpenClaim := { program := "ytpdfdaoohknfoaa", sum := "bbfad570a39f54f94bdc88846ba9769c336bffa84cd9e6615d0b0007b8eee7e9", func := "psaltery/psalterylaw16.HeadRights", spec := "headRights", plainKeys := false, apart := false }
def HeadRightsSaid : Prop := headRightsRow.holds Try.pinned (OpenSpec.ofChange headRightsSpec)

/-- ITS FALSE NEIGHBOUR: 'it returns false'. Refute it at one input. -/
def headRightsWrong : ChangeSpec := { name := "headRights", fn := fun _ => fun
  | [d1, d2, d3] => { results := [.lit (.bool false)], args := [d1, d2, d3] }
  | _ => none }
def HeadRightsWrongFalsely : Prop := headRightsRow.holds Try.pinned (OpenSpec.ofChange headRightsWrong)

/-- 'psalterylaw16.HeadWrites': WHATEVER THE INPUT: true; the input reads as it did. -/
def headWritesSpec : ChangeSpec := { name := "headWrites", fn := fun _ => fun
  | [d] => { results := [.lit (.bool true)], args := [d] }
  | _ => none }
def headWritesRow : OpenClaim := { program := "ytpdfdaoohknfoaa", sum := "bbfad570a39f54f94bdc88846ba9769c336bffa84cd9e6615d0b0007b8eee7e9", func := "psaltery/psalterylaw16.HeadWrites", spec := "headWrites", plainKeys := false, apart := false }
def HeadWritesSaid : Prop := headWritesRow.holds Try.pinned (OpenSpec.ofChange headWritesSpec)

/-- ITS FALSE NEIGHBOUR: 'it returns false'. Refute it at one input. -/
def headWritesWrong : ChangeSpec := { name := "headWrites", fn := fun _ => fun
  | [d] => { results := [.lit (.bool false)], args := [d] }
  | _ => none }
def HeadWritesWrongFalsely : Prop := headWritesRow.holds Try.pinned (OpenSpec.ofChange headWritesWrong)

/-- 'psalterylaw16.HeadReads': WHATEVER THE INPUT: true; the input reads as it did. -/
def headReadsSpec : ChangeSpec := { name := "headReads", fn := fun _ => fun
  | [d] => { results := [.lit (.bool true)], args := [d] }
  | _ => none }
def headReadsRow : OpenClaim := { program := "ytpdfdaoohknfoaa", sum := "bbfad570a39f54f94bdc88846ba9769c336bffa84cd9e6615d0b0007b8eee7e9", func := "psaltery/psalterylaw16.HeadReads", spec := "headReads", plainKeys := false, apart := false }
def HeadReadsSaid : Prop := headReadsRow.holds Try.pinned (OpenSpec.ofChange headReadsSpec)

/-- ITS FALSE NEIGHBOUR: 'it returns false'. Refute it at one input. -/
def headReadsWrong : ChangeSpec := { name := "headReads", fn := fun _ => fun
  | [d] => { results := [.lit (.bool false)], args := [d] }
  | _ => none }
def HeadReadsWrongFalsely : Prop := headReadsRow.holds Try.pinned (OpenSpec.ofChange headReadsWrong)

/-- 'psalterylaw16.HeadBack': WHATEVER THE INPUT: true; the input reads as it did. -/
def headBackSpec : ChangeSpec := { name := "headBack", fn := fun _ => fun
  | [d] => { results := [.lit (.bool true)], args := [d] }
  | _ => none }
def headBackRow : OpenClaim := { program := "ytpdfdaoohknfoaa", sum := "bbfad570a39f54f94bdc88846ba9769c336bffa84cd9e6615d0b0007b8eee7e9", func := "psaltery/psalterylaw16.HeadBack", spec := "headBack", plainKeys := false, apart := false }
def HeadBackSaid : Prop := headBackRow.holds Try.pinned (OpenSpec.ofChange headBackSpec)

/-- ITS FALSE NEIGHBOUR: 'it returns false'. Refute it at one input. -/
def headBackWrong : ChangeSpec := { name := "headBack", fn := fun _ => fun
  | [d] => { results := [.lit (.bool false)], args := [d] }
  | _ => none }
def HeadBackWrongFalsely : Prop := headBackRow.holds Try.pinned (OpenSpec.ofChange headBackWrong)

/-- 'psalterylaw16.HeadOnly': WHATEVER THE INPUT: true; the input reads as it did. -/
def headOnlySpec : ChangeSpec := { name := "headOnly", fn := fun _ => fun
  | [d] => { results := [.lit (.bool true)], args := [d] }
  | _ => none }
def headOnlyRow : OpenClaim := { program := "ytpdfdaoohknfoaa", sum := "bbfad570a39f54f94bdc88846ba9769c336bffa84cd9e6615d0b0007b8eee7e9", func := "psaltery/psalterylaw16.HeadOnly", spec := "headOnly", plainKeys := false, apart := false }
def HeadOnlySaid : Prop := headOnlyRow.holds Try.pinned (OpenSpec.ofChange headOnlySpec)

/-- ITS FALSE NEIGHBOUR: 'it returns false'. Refute it at one input. -/
def headOnlyWrong : ChangeSpec := { name := "headOnly", fn := fun _ => fun
  | [d] => { results := [.lit (.bool false)], args := [d] }
  | _ => none }
def HeadOnlyWrongFalsely : Prop := headOnlyRow.holds Try.pinned (OpenSpec.ofChange headOnlyWrong)

/-- 'psalterylaw16.HeadPlain': WHATEVER THE INPUT: true; the input reads as it did. -/
def headPlainSpec : ChangeSpec := { name := "headPlain", fn := fun _ => fun
  | [d1, d2] => { results := [.lit (.bool true)], args := [d1, d2] }
  | _ => none }
def headPlainRow : OpenClaim := { program := "ytpdfdaoohknfoaa", sum := "bbfad570a39f54f94bdc88846ba9769c336bffa84cd9e6615d0b0007b8eee7e9", func := "psaltery/psalterylaw16.HeadPlain", spec := "headPlain", plainKeys := false, apart := false }
def HeadPlainSaid : Prop := headPlainRow.holds Try.pinned (OpenSpec.ofChange headPlainSpec)

/-- ITS FALSE NEIGHBOUR: 'it returns false'. Refute it at one input. -/
def headPlainWrong : ChangeSpec := { name := "headPlain", fn := fun _ => fun
  | [d1, d2] => { results := [.lit (.bool false)], args := [d1, d2] }
  | _ => none }
def HeadPlainWrongFalsely : Prop := headPlainRow.holds Try.pinned (OpenSpec.ofChange headPlainWrong)

/-- 'psalterylaw17.BodyRights': WHATEVER THE INPUT: true; the input reads as it did. -/
def bodyRightsSpec : ChangeSpec := { name := "bodyRights", fn := fun _ => fun
  | [d1, d2] => { results := [.lit (.bool true)], args := [d1, d2] }
  | _ => none }
def bodyRightsRow : OpenClaim := { program := "ytpdfdaoohknfoaa", sum := "bbfad570a39f54f94bdc88846ba9769c336bffa84cd9e6615d0b0007b8eee7e9", func := "psaltery/psalterylaw17.BodyRights", spec := "bodyRights", plainKeys := false, apart := false }
def BodyRightsSaid : Prop := bodyRightsRow.holds Try.pinned (OpenSpec.ofChange bodyRightsSpec)

/-- ITS FALSE NEIGHBOUR: 'it returns false'. Refute it at one input. -/
def bodyRightsWrong : ChangeSpec := { name := "bodyRights", fn := fun _ => fun
  | [d1, d2] => { results := [.lit (.bool false)], args := [d1, d2] }
  | _ => none }
def BodyRightsWrongFalsely : Prop := bodyRightsRow.holds Try.pinned (OpenSpec.ofChange bodyRightsWrong)

/-- 'psalterylaw17.BodyWrites': WHATEVER THE INPUT: true; the input reads as it did. -/
def bodyWritesSpec : ChangeSpec := { name := "bodyWrites", fn := fun _ => fun
  | [d1, d2] => { results := [.lit (.bool true)], args := [d1, d2] }
  | _ => none }
def bodyWritesRow : OpenClaim := { program := "ytpdfdaoohknfoaa", sum := "bbfad570a39f54f94bdc88846ba9769c336bffa84cd9e6615d0b0007b8eee7e9", func := "psaltery/psalterylaw17.BodyWrites", spec := "bodyWrites", recurses := true, plainKeys := false, apart := false }
def BodyWritesSaid : Prop := bodyWritesRow.holds Try.pinned (OpenSpec.ofChange bodyWritesSpec)

/-- ITS FALSE NEIGHBOUR: 'it returns false'. Refute it at one input. -/
def bodyWritesWrong : ChangeSpec := { name := "bodyWrites", fn := fun _ => fun
  | [d1, d2] => { results := [.lit (.bool false)], args := [d1, d2] }
  | _ => none }
def BodyWritesWrongFalsely : Prop := bodyWritesRow.holds Try.pinned (OpenSpec.ofChange bodyWritesWrong)

/-- 'psalterylaw17.BodyReads': WHATEVER THE INPUT: true; the input reads as it did. -/
def bodyReadsSpec : ChangeSpec := { name := "bodyReads", fn := fun _ => fun
  | [d1, d2] => { results := [.lit (.bool true)], args := [d1, d2] }
  | _ => none }
def bodyReadsRow : OpenClaim := { program := "ytpdfdaoohknfoaa", sum := "bbfad570a39f54f94bdc88846ba9769c336bffa84cd9e6615d0b0007b8eee7e9", func := "psaltery/psalterylaw17.BodyReads", spec := "bodyReads", recurses := true, plainKeys := false, apart := false }
def BodyReadsSaid : Prop := bodyReadsRow.holds Try.pinned (OpenSpec.ofChange bodyReadsSpec)

/-- ITS FALSE NEIGHBOUR: 'it returns false'. Refute it at one input. -/
def bodyReadsWrong : ChangeSpec := { name := "bodyReads", fn := fun _ => fun
  | [d1, d2] => { results := [.lit (.bool false)], args := [d1, d2] }
  | _ => none }
def BodyReadsWrongFalsely : Prop := bodyReadsRow.holds Try.pinned (OpenSpec.ofChange bodyReadsWrong)

/-- 'psalterylaw17.BodyBack': WHATEVER THE INPUT: true; the input reads as it did. -/
def bodyBackSpec : ChangeSpec := { name := "bodyBack", fn := fun _ => fun
  | [d1, d2] => { results := [.lit (.bool true)], args := [d1, d2] }
  | _ => none }
def bodyBackRow : OpenClaim := { program := "ytpdfdaoohknfoaa", sum := "bbfad570a39f54f94bdc88846ba9769c336bffa84cd9e6615d0b0007b8eee7e9", func := "psaltery/psalterylaw17.BodyBack", spec := "bodyBack", plainKeys := false, apart := false }
def BodyBackSaid : Prop := bodyBackRow.holds Try.pinned (OpenSpec.ofChange bodyBackSpec)

/-- ITS FALSE NEIGHBOUR: 'it returns false'. Refute it at one input. -/
def bodyBackWrong : ChangeSpec := { name := "bodyBack", fn := fun _ => fun
  | [d1, d2] => { results := [.lit (.bool false)], args := [d1, d2] }
  | _ => none }
def BodyBackWrongFalsely : Prop := bodyBackRow.holds Try.pinned (OpenSpec.ofChange bodyBackWrong)

/-- 'psalterylaw17.BodyAny': WHATEVER THE INPUT: true; the input reads as it did. -/
def bodyAnySpec : ChangeSpec := { name := "bodyAny", fn := fun _ => fun
  | [d1, d2] => { results := [.lit (.bool true)], args := [d1, d2] }
  | _ => none }
def bodyAnyRow : OpenClaim := { program := "ytpdfdaoohknfoaa", sum := "bbfad570a39f54f94bdc88846ba9769c336bffa84cd9e6615d0b0007b8eee7e9", func := "psaltery/psalterylaw17.BodyAny", spec := "bodyAny", plainKeys := false, apart := false }
def BodyAnySaid : Prop := bodyAnyRow.holds Try.pinned (OpenSpec.ofChange bodyAnySpec)

/-- ITS FALSE NEIGHBOUR: 'it returns false'. Refute it at one input. -/
def bodyAnyWrong : ChangeSpec := { name := "bodyAny", fn := fun _ => fun
  | [d1, d2] => { results := [.lit (.bool false)], args := [d1, d2] }
  | _ => none }
def BodyAnyWrongFalsely : Prop := bodyAnyRow.holds Try.pinned (OpenSpec.ofChange bodyAnyWrong)

/-- 'psalterylaw17.BodyShort': WHATEVER THE INPUT: true; the input reads as it did. -/
def bodyShortSpec : ChangeSpec := { name := "bodyShort", fn := fun _ => fun
  | [d1, d2] => { results := [.lit (.bool true)], args := [d1, d2] }
  | _ => none }
def bodyShortRow : OpenClaim := { program := "ytpdfdaoohknfoaa", sum := "bbfad570a39f54f94bdc88846ba9769c336bffa84cd9e6615d0b0007b8eee7e9", func := "psaltery/psalterylaw17.BodyShort", spec := "bodyShort", plainKeys := false, apart := false }
def BodyShortSaid : Prop := bodyShortRow.holds Try.pinned (OpenSpec.ofChange bodyShortSpec)

/-- ITS FALSE NEIGHBOUR: 'it returns false'. Refute it at one input. -/
def bodyShortWrong : ChangeSpec := { name := "bodyShort", fn := fun _ => fun
  | [d1, d2] => { results := [.lit (.bool false)], args := [d1, d2] }
  | _ => none }
def BodyShortWrongFalsely : Prop := bodyShortRow.holds Try.pinned (OpenSpec.ofChange bodyShortWrong)

/- THE SECOND FORM. 'bulk': how many values and letters a reading holds, each counted each time it is reached (what is shared counts as often as it is met; a slice's spare places count too). A statement '..UptoSaid' is the law's where the arguments, and the package variables that the reading takes, are together of bulk at most 1048576: NARROWER than '..Said'. Prove '..Said' where nothing that the law and all that it calls make is longer than what came in: it says more and counts as full. Else prove '..UptoSaid'. A law counts once. -/
mutual
def uptoBulk {H : Type} : DataW H → Nat
  | .lit (.string bytes) => bytes.length + 1
  | .lit _ => 1
  | .nil => 1
  | .ptr d => uptoBulk d + 1
  | .slice elems spare => uptoBulkAll elems + uptoBulkAll spare + 1
  | .agg parts => uptoBulkAll parts + 1
  | .iface _ d => uptoBulk d + 1
  | .map entries => uptoBulkEntries entries + 1
  | .held _ => 1
def uptoBulkAll {H : Type} : List (DataW H) → Nat
  | [] => 0
  | d :: r => uptoBulk d + uptoBulkAll r
def uptoBulkEntries {H : Type} : List (Lit × DataW H) → Nat
  | [] => 0
  | x :: r => uptoBulkEntry x + uptoBulkEntries r
def uptoBulkEntry {H : Type} : Lit × DataW H → Nat
  | (.string bytes, d) => bytes.length + uptoBulk d + 1
  | (_, d) => uptoBulk d + 1
 end
def uptoSmall : (H : Type) → List (DataW H) → Bool := fun _ ds => decide (uptoBulkAll ds ≤ 1048576)
def OpenSpec.upto (s : _root_.Go.ChangeSpec) : _root_.Go.OpenSpec := { _root_.Go.OpenSpec.ofChange s with cond := some uptoSmall }

/-- 'psalterylaw16.HeadRights', WHERE WHAT IT READS IS OF BULK AT MOST 1048576: true; the input reads as it did. -/
def headRightsUptoRow : OpenClaim := { program := "ytpdfdaoohknfoaa", sum := "bbfad570a39f54f94bdc88846ba9769c336bffa84cd9e6615d0b0007b8eee7e9", func := "psaltery/psalterylaw16.HeadRights", spec := "headRights", plainKeys := false, apart := false, narrowed := true }
def HeadRightsUptoSaid : Prop := headRightsUptoRow.holds Try.pinned (OpenSpec.upto headRightsSpec)

/-- 'psalterylaw16.HeadWrites', WHERE WHAT IT READS IS OF BULK AT MOST 1048576: true; the input reads as it did. -/
def headWritesUptoRow : OpenClaim := { program := "ytpdfdaoohknfoaa", sum := "bbfad570a39f54f94bdc88846ba9769c336bffa84cd9e6615d0b0007b8eee7e9", func := "psaltery/psalterylaw16.HeadWrites", spec := "headWrites", plainKeys := false, apart := false, narrowed := true }
def HeadWritesUptoSaid : Prop := headWritesUptoRow.holds Try.pinned (OpenSpec.upto headWritesSpec)

/-- 'psalterylaw16.HeadReads', WHERE WHAT IT READS IS OF BULK AT MOST 1048576: true; the input reads as it did. -/
def headReadsUptoRow : OpenClaim := { program := "ytpdfdaoohknfoaa", sum := "bbfad570a39f54f94bdc88846ba9769c336bffa84cd9e6615d0b0007b8eee7e9", func := "psaltery/psalterylaw16.HeadReads", spec := "headReads", plainKeys := false, apart := false, narrowed := true }
def HeadReadsUptoSaid : Prop := headReadsUptoRow.holds Try.pinned (OpenSpec.upto headReadsSpec)

/-- 'psalterylaw16.HeadBack', WHERE WHAT IT READS IS OF BULK AT MOST 1048576: true; the input reads as it did. -/
def headBackUptoRow : OpenClaim := { program := "ytpdfdaoohknfoaa", sum := "bbfad570a39f54f94bdc88846ba9769c336bffa84cd9e6615d0b0007b8eee7e9", func := "psaltery/psalterylaw16.HeadBack", spec := "headBack", plainKeys := false, apart := false, narrowed := true }
def HeadBackUptoSaid : Prop := headBackUptoRow.holds Try.pinned (OpenSpec.upto headBackSpec)

/-- 'psalterylaw16.HeadOnly', WHERE WHAT IT READS IS OF BULK AT MOST 1048576: true; the input reads as it did. -/
def headOnlyUptoRow : OpenClaim := { program := "ytpdfdaoohknfoaa", sum := "bbfad570a39f54f94bdc88846ba9769c336bffa84cd9e6615d0b0007b8eee7e9", func := "psaltery/psalterylaw16.HeadOnly", spec := "headOnly", plainKeys := false, apart := false, narrowed := true }
def HeadOnlyUptoSaid : Prop := headOnlyUptoRow.holds Try.pinned (OpenSpec.upto headOnlySpec)

/-- 'psalterylaw16.HeadPlain', WHERE WHAT IT READS IS OF BULK AT MOST 1048576: true; the input reads as it did. -/
def headPlainUptoRow : OpenClaim := { program := "ytpdfdaoohknfoaa", sum := "bbfad570a39f54f94bdc88846ba9769c336bffa84cd9e6615d0b0007b8eee7e9", func := "psaltery/psalterylaw16.HeadPlain", spec := "headPlain", plainKeys := false, apart := false, narrowed := true }
def HeadPlainUptoSaid : Prop := headPlainUptoRow.holds Try.pinned (OpenSpec.upto headPlainSpec)

/-- 'psalterylaw17.BodyRights', WHERE WHAT IT READS IS OF BULK AT MOST 1048576: true; the input reads as it did. -/
def bodyRightsUptoRow : OpenClaim := { program := "ytpdfdaoohknfoaa", sum := "bbfad570a39f54f94bdc88846ba9769c336bffa84cd9e6615d0b0007b8eee7e9", func := "psaltery/psalterylaw17.BodyRights", spec := "bodyRights", plainKeys := false, apart := false, narrowed := true }
def BodyRightsUptoSaid : Prop := bodyRightsUptoRow.holds Try.pinned (OpenSpec.upto bodyRightsSpec)

/-- 'psalterylaw17.BodyWrites', WHERE WHAT IT READS IS OF BULK AT MOST 1048576: true; the input reads as it did. -/
def bodyWritesUptoRow : OpenClaim := { program := "ytpdfdaoohknfoaa", sum := "bbfad570a39f54f94bdc88846ba9769c336bffa84cd9e6615d0b0007b8eee7e9", func := "psaltery/psalterylaw17.BodyWrites", spec := "bodyWrites", recurses := true, plainKeys := false, apart := false, narrowed := true }
def BodyWritesUptoSaid : Prop := bodyWritesUptoRow.holds Try.pinned (OpenSpec.upto bodyWritesSpec)

/-- 'psalterylaw17.BodyReads', WHERE WHAT IT READS IS OF BULK AT MOST 1048576: true; the input reads as it did. -/
def bodyReadsUptoRow : OpenClaim := { program := "ytpdfdaoohknfoaa", sum := "bbfad570a39f54f94bdc88846ba9769c336bffa84cd9e6615d0b0007b8eee7e9", func := "psaltery/psalterylaw17.BodyReads", spec := "bodyReads", recurses := true, plainKeys := false, apart := false, narrowed := true }
def BodyReadsUptoSaid : Prop := bodyReadsUptoRow.holds Try.pinned (OpenSpec.upto bodyReadsSpec)

/-- 'psalterylaw17.BodyBack', WHERE WHAT IT READS IS OF BULK AT MOST 1048576: true; the input reads as it did. -/
def bodyBackUptoRow : OpenClaim := { program := "ytpdfdaoohknfoaa", sum := "bbfad570a39f54f94bdc88846ba9769c336bffa84cd9e6615d0b0007b8eee7e9", func := "psaltery/psalterylaw17.BodyBack", spec := "bodyBack", plainKeys := false, apart := false, narrowed := true }
def BodyBackUptoSaid : Prop := bodyBackUptoRow.holds Try.pinned (OpenSpec.upto bodyBackSpec)

/-- 'psalterylaw17.BodyAny', WHERE WHAT IT READS IS OF BULK AT MOST 1048576: true; the input reads as it did. -/
def bodyAnyUptoRow : OpenClaim := { program := "ytpdfdaoohknfoaa", sum := "bbfad570a39f54f94bdc88846ba9769c336bffa84cd9e6615d0b0007b8eee7e9", func := "psaltery/psalterylaw17.BodyAny", spec := "bodyAny", plainKeys := false, apart := false, narrowed := true }
def BodyAnyUptoSaid : Prop := bodyAnyUptoRow.holds Try.pinned (OpenSpec.upto bodyAnySpec)

/-- 'psalterylaw17.BodyShort', WHERE WHAT IT READS IS OF BULK AT MOST 1048576: true; the input reads as it did. -/
def bodyShortUptoRow : OpenClaim := { program := "ytpdfdaoohknfoaa", sum := "bbfad570a39f54f94bdc88846ba9769c336bffa84cd9e6615d0b0007b8eee7e9", func := "psaltery/psalterylaw17.BodyShort", spec := "bodyShort", plainKeys := false, apart := false, narrowed := true }
def BodyShortUptoSaid : Prop := bodyShortUptoRow.holds Try.pinned (OpenSpec.upto bodyShortSpec)

end Rows
end Go.Proofs.Ytpdfdaoohknfoaa
