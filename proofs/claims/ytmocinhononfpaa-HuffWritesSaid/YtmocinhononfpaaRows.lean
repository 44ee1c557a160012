/-
  No cell of these rows narrows 'for every input' (looked for: loops, veiled, ifaces, maps, wideKeys, modest, calm, conditions, laid).
  DERIVED. THE GIVEN ROWS OF THIS SEAT. 7 by the template 'for every input the law returns true; each argument reads behind the call as it read before'; 0 by the template 'total and deterministic' (their statements: YtmocinhononfpaaTotals.lean).
  GIVEN WITH THE SEED: the statements are not yours to turn. If you find one false, say at which input.
  Laid BY PROGRAM, IN A SANDBOX (cutbox-rows.mjs): the forced cells as the released guide's own fill.sh prints them over the translation 67e361bc2ac33f0d… (all of the seat's roots in one cut). By AI agents, Wed Nov 11 2026. No macro, syntax, notation, axiom, sorry.
-/
import Derived.Test.YtmocinhononfpaaChecked
import GoSem.Claim
import GoSem.ClaimJoined
import GoSem.ClaimMapViews
import Derived.JoinedTies
import Derived.KernelRfl
namespace Go.Proofs.Ytmocinhononfpaa
/- THE CELL 'sum', in the pinned program and in every row, IS THE sha256 OF THE DUMP (.gsa) THAT YtmocinhononfpaaProg.lean LOADS. Nothing in Lean hashes anything: it is a label: what it is worth is what the hold of that sum in a sandbox is worth. -/
noncomputable def Try.pinned : Pinned := { name := "ytmocinhononfpaa", sum := "67e361bc2ac33f0dc802f046f6d905de40acd33c9e5dac56d761d1ab1fe25911", checked := Try.checked }
namespace Rows
def none {H : Type} : Left H := { results := [], args := [] }

/-- 'psalterylaw04.HuffRights': WHATEVER THE INPUT: true; the input reads as it did. -/
def huffRightsSpec : ChangeSpec := { name := "huffRights", fn := fun _ => fun
  | [d] => { results := [.lit (.bool true)], args := [d] }
  | _ => none }
def huffRightsRow : OpenClaim := { program := "ytmocinhononfpaa", sum := "67e361bc2ac33f0dc802f046f6d905de40acd33c9e5dac56d761d1ab1fe25911", func := "psaltery/psalterylaw04.HuffRights", spec := "huffRights", plainKeys := false, apart := false }
def HuffRightsSaid : Prop := huffRightsRow.holds Try.pinned (OpenSpec.ofChange huffRightsSpec)

/-- ITS FALSE NEIGHBOUR: 'it returns false'. Refute it at one input. -/
def huffRightsWrong : ChangeSpec := { name := "huffRights", fn := fun _ => fun
  | [d] => { results := [.lit (.bool false)], args := [d] }
  | _ => none }
def HuffRightsWrongFalsely : Prop := huffRightsRow.holds Try.pinned (OpenSpec.ofChange huffRightsWrong)

/-- 'psalterylaw04.HuffCodes': WHATEVER THE INPUT: true; the input reads as it did. -/
def huffCodesSpec : ChangeSpec := { name := "huffCodes", fn := fun _ => fun
  | [d] => { results := [.lit (.bool true)], args := [d] }
  | _ => none }
def huffCodesRow : OpenClaim := { program := "ytmocinhononfpaa", sum := "67e361bc2ac33f0dc802f046f6d905de40acd33c9e5dac56d761d1ab1fe25911", func := "psaltery/psalterylaw04.HuffCodes", spec := "huffCodes", recurses := true, plainKeys := false, apart := false }
def HuffCodesSaid : Prop := huffCodesRow.holds Try.pinned (OpenSpec.ofChange huffCodesSpec)

/-- ITS FALSE NEIGHBOUR: 'it returns false'. Refute it at one input. -/
def huffCodesWrong : ChangeSpec := { name := "huffCodes", fn := fun _ => fun
  | [d] => { results := [.lit (.bool false)], args := [d] }
  | _ => none }
def HuffCodesWrongFalsely : Prop := huffCodesRow.holds Try.pinned (OpenSpec.ofChange huffCodesWrong)

/-- 'psalterylaw04.HuffWrites': WHATEVER THE INPUT: true; the input reads as it did. -/
def huffWritesSpec : ChangeSpec := { name := "huffWrites", fn := fun _ => fun
  | [d1, d2, d3] => { results := [.lit (.bool true)], args := [d1, d2, d3] }
  | _ => none }
def huffWritesRow : OpenClaim := { program := "ytmocinhononfpaa", sum := "67e361bc2ac33f0dc802f046f6d905de40acd33c9e5dac56d761d1ab1fe25911", func := "psaltery/psalterylaw04.HuffWrites", spec := "huffWrites", recurses := true, plainKeys := false, apart := false }
def HuffWritesSaid : Prop := huffWritesRow.holds Try.pinned (OpenSpec.ofChange huffWritesSpec)

/-- ITS FALSE NEIGHBOUR: 'it returns false'. Refute it at one input. -/
def huffWritesWrong : ChangeSpec := { name := "huffWrites", fn := fun _ => fun
  | [d1, d2, d3] => { results := [.lit (.bool false)], args := [d1, d2, d3] }
  | _ => none }
def HuffWritesWrongFalsely : Prop := huffWritesRow.holds Try.pinned (OpenSpec.ofChange huffWritesWrong)

/-- 'psalterylaw04.HuffReads': WHATEVER THE INPUT: true; the input reads as it did. -/
def huffReadsSpec : ChangeSpec := { name := "huffReads", fn := fun _ => fun
  | [d1, d2, d3] => { results := [.lit (.bool true)], args := [d1, d2, d3] }
  | _ => none }
def huffReadsRow : OpenClaim := { program := "ytmocinhononfpaa", sum := "67e361bc2ac33f0dc802f046f6d905de40acd33c9e5dac56d761d1ab1fe25911", func := "psaltery/psalterylaw04.HuffReads", spec := "huffReads", recurses := true, plainKeys := false, apart := false }
def HuffReadsSaid : Prop := huffReadsRow.holds Try.pinned (OpenSpec.ofChange huffReadsSpec)

/-- ITS FALSE NEIGHBOUR: 'it returns false'. Refute it at one input. -/
def huffReadsWrong : ChangeSpec := { name := "huffReads", fn := fun _ => fun
  | [d1, d2, d3] => { results := [.lit (.bool false)], args := [d1, d2, d3] }
  | _ => none }
def HuffReadsWrongFalsely : Prop := huffReadsRow.holds Try.pinned (OpenSpec.ofChange huffReadsWrong)

/-- 'psalterylaw04.HuffBack': WHATEVER THE INPUT: true; the input reads as it did. -/
def huffBackSpec : ChangeSpec := { name := "huffBack", fn := fun _ => fun
  | [d1, d2] => { results := [.lit (.bool true)], args := [d1, d2] }
  | _ => none }
def huffBackRow : OpenClaim := { program := "ytmocinhononfpaa", sum := "67e361bc2ac33f0dc802f046f6d905de40acd33c9e5dac56d761d1ab1fe25911", func := "psaltery/psalterylaw04.HuffBack", spec := "huffBack", plainKeys := false, apart := false }
def HuffBackSaid : Prop := huffBackRow.holds Try.pinned (OpenSpec.ofChange huffBackSpec)

/-- ITS FALSE NEIGHBOUR: 'it returns false'. Refute it at one input. -/
def huffBackWrong : ChangeSpec := { name := "huffBack", fn := fun _ => fun
  | [d1, d2] => { results := [.lit (.bool false)], args := [d1, d2] }
  | _ => none }
def HuffBackWrongFalsely : Prop := huffBackRow.holds Try.pinned (OpenSpec.ofChange huffBackWrong)

/-- 'psalterylaw04.HuffApart': WHATEVER THE INPUT: true; the input reads as it did. -/
def huffApartSpec : ChangeSpec := { name := "huffApart", fn := fun _ => fun
  | [d1, d2, d3] => { results := [.lit (.bool true)], args := [d1, d2, d3] }
  | _ => none }
def huffApartRow : OpenClaim := { program := "ytmocinhononfpaa", sum := "67e361bc2ac33f0dc802f046f6d905de40acd33c9e5dac56d761d1ab1fe25911", func := "psaltery/psalterylaw04.HuffApart", spec := "huffApart", plainKeys := false, apart := false }
def HuffApartSaid : Prop := huffApartRow.holds Try.pinned (OpenSpec.ofChange huffApartSpec)

/-- ITS FALSE NEIGHBOUR: 'it returns false'. Refute it at one input. -/
def huffApartWrong : ChangeSpec := { name := "huffApart", fn := fun _ => fun
  | [d1, d2, d3] => { results := [.lit (.bool false)], args := [d1, d2, d3] }
  | _ => none }
def HuffApartWrongFalsely : Prop := huffApartRow.holds Try.pinned (OpenSpec.ofChange huffApartWrong)

/-- 'psalterylaw04.HuffAll': WHATEVER THE INPUT: true; the input reads as it did. -/
def huffAllSpec : ChangeSpec := { name := "huffAll", fn := fun _ => fun
  | [d1, d2] => { results := [.lit (.bool true)], args := [d1, d2] }
  | _ => none }
def huffAllRow : OpenClaim := { program := "ytmocinhononfpaa", sum := "67e361bc2ac33f0dc802f046f6d905de40acd33c9e5dac56d761d1ab1fe25911", func := "psaltery/psalterylaw04.HuffAll", spec := "huffAll", plainKeys := false, apart := false }
def HuffAllSaid : Prop := huffAllRow.holds Try.pinned (OpenSpec.ofChange huffAllSpec)

/-- ITS FALSE NEIGHBOUR: 'it returns false'. Refute it at one input. -/
def huffAllWrong : ChangeSpec := { name := "huffAll", fn := fun _ => fun
  | [d1, d2] => { results := [.lit (.bool false)], args := [d1, d2] }
  | _ => none }
def HuffAllWrongFalsely : Prop := huffAllRow.holds Try.pinned (OpenSpec.ofChange huffAllWrong)

/- THE SECOND FORM. 'bulk': how many values and letters a reading holds, each counted each time it is reached (what is shared counts as often as it is met; a slice's spare places count too). A statement '..UptoSaid' is the law's where the arguments, and the package variables that the reading takes, are together of bulk at most 1048576: NARROWER than '..Said'. Prove '..Said' where nothing that the law and all that it calls make is longer than what came in: it says more and counts as full. Else prove '..UptoSaid'. A law counts once. -/
mutual
def uptoBulk {H : Type} : DataW H → Nat
  | .lit (.string bytes) => bytes.length + 1
  | .lit _ => 1
  | .nil => 1
  | .ptr d => uptoBulk d + 1
  | .slice elems spare => uptoBulkAll elems + uptoBulkAll spare + 1
  | .agg parts => uptoBulkAll parts + 1
  | .iface _ d => uptoBulk d + 1
  | .map entries => uptoBulkEntries entries + 1
  | .held _ => 1
def uptoBulkAll {H : Type} : List (DataW H) → Nat
  | [] => 0
  | d :: r => uptoBulk d + uptoBulkAll r
def uptoBulkEntries {H : Type} : List (Lit × DataW H) → Nat
  | [] => 0
  | x :: r => uptoBulkEntry x + uptoBulkEntries r
def uptoBulkEntry {H : Type} : Lit × DataW H → Nat
  | (.string bytes, d) => bytes.length + uptoBulk d + 1
  | (_, d) => uptoBulk d + 1
 end
def uptoSmall : (H : Type) → List (DataW H) → Bool := fun _ ds => decide (uptoBulkAll ds ≤ 1048576)
def OpenSpec.upto (s : _root_.Go.ChangeSpec) : _root_.Go.OpenSpec := { _root_.Go.OpenSpec.ofChange s with cond := some uptoSmall }

/-- 'psalterylaw04.HuffRights', WHERE WHAT IT READS IS OF BULK AT MOST 1048576: true; the input reads as it did. -/
def huffRightsUptoRow : OpenClaim := { program := "ytmocinhononfpaa", sum := "67e361bc2ac33f0dc802f046f6d905de40acd33c9e5dac56d761d1ab1fe25911", func := "psaltery/psalterylaw04.HuffRights", spec := "huffRights", plainKeys := false, apart := false, narrowed := true }
def HuffRightsUptoSaid : Prop := huffRightsUptoRow.holds Try.pinned (OpenSpec.upto huffRightsSpec)

/-- 'psalterylaw04.HuffCodes', WHERE WHAT IT READS IS OF BULK AT MOST 1048576: true; the input reads as it did. -/
def huffCodesUptoRow : OpenClaim := { program := "ytmocinhononfpaa", sum := "67e361bc2ac33f0dc802f046f6d905de40acd33c9e5dac56d761d1ab1fe25911", func := "psaltery/psalterylaw04.HuffCodes", spec := "huffCodes", recurses := true, plainKeys := false, apart := false, narrowed := true }
def HuffCodesUptoSaid : Prop := huffCodesUptoRow.holds Try.pinned (OpenSpec.upto huffCodesSpec)

/-- 'psalterylaw04.HuffWrites', WHERE WHAT IT READS IS OF BULK AT MOST 1048576: true; the input reads as it did. -/
def huffWritesUptoRow : OpenClaim := { program := "ytmocinhononfpaa", sum := "67e361bc2ac33f0dc802f046f6d905de40acd33c9e5dac56d761d1ab1fe25911", func := "psaltery/psalterylaw04.HuffWrites", spec := "huffWrites", recurses := true, plainKeys := false, apart := false, narrowed := true }
def HuffWritesUptoSaid : Prop := huffWritesUptoRow.holds Try.pinned (OpenSpec.upto huffWritesSpec)

/-- 'psalterylaw04.HuffReads', WHERE WHAT IT READS IS OF BULK AT MOST 1048576: true; the input reads as it did. -/
def huffReadsUptoRow : OpenClaim := { program := "ytmocinhononfpaa", sum := "67e361bc2ac33f0dc802f046f6d905de40acd33c9e5dac56d761d1ab1fe25911", func := "psaltery/psalterylaw04.HuffReads", spec := "huffReads", recurses := true, plainKeys := false, apart := false, narrowed := true }
def HuffReadsUptoSaid : Prop := huffReadsUptoRow.holds Try.pinned (OpenSpec.upto huffReadsSpec)

/-- 'psalterylaw04.HuffBack', WHERE WHAT IT READS IS OF BULK AT MOST 1048576: true; the input reads as it did. -/
def huffBackUptoRow : OpenClaim := { program := "ytmocinhononfpaa", sum := "67e361bc2ac33f0dc802f046f6d905de40acd33c9e5dac56d761d1ab1fe25911", func := "psaltery/psalterylaw04.HuffBack", spec := "huffBack", plainKeys := false, apart := false, narrowed := true }
def HuffBackUptoSaid : Prop := huffBackUptoRow.holds Try.pinned (OpenSpec.upto huffBackSpec)

/-- 'psalterylaw04.HuffApart', WHERE WHAT IT READS IS OF BULK AT MOST 1048576: true; the input reads as it did. -/
def huffApartUptoRow : OpenClaim := { program := "ytmocinhononfpaa", sum := "67e361bc2ac33f0dc802f046f6d905de40acd33c9e5dac56d761d1ab1fe25911", func := "psaltery/psalterylaw04.HuffApart", spec := "huffApart", plainKeys := false, apart := false, narrowed := true }
def HuffApartUptoSaid : Prop := huffApartUptoRow.holds Try.pinned (OpenSpec.upto huffApartSpec)

/-- 'psalterylaw04.HuffAll', WHERE WHAT IT READS IS OF BULK AT MOST 1048576: true; the input reads as it did. -/
def huffAllUptoRow : OpenClaim := { program := "ytmocinhononfpaa", sum := "67e361bc2ac33f0dc802f046f6d905de40acd33c9e5dac56d761d1ab1fe25911", func := "psaltery/psalterylaw04.HuffAll", spec := "huffAll", plainKeys := false, apart := false, narrowed := true }
def HuffAllUptoSaid : Prop := huffAllUptoRow.holds Try.pinned (OpenSpec.upto huffAllSpec)

end Rows
end Go.Proofs.Ytmocinhononfpaa
