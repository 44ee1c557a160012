/-
  No cell of these rows narrows 'for every input' (looked for: loops, veiled, ifaces, maps, wideKeys, modest, calm, conditions, laid).
  DERIVED. THE GIVEN ROWS OF THIS SEAT. 12 by the template 'for every input the law returns true; each argument reads behind the call as it read before'; 0 by the template 'total and deterministic' (their statements: YtajnllkkgedgfaaTotals.lean).
  GIVEN WITH THE SEED: the statements are not yours to turn. If you find one false, say at which input.
  Laid BY PROGRAM, IN A SANDBOX (cutbox-rows.mjs): the forced cells as the released guide's own fill.sh prints them over the translation 2db557bfad0f92cc… (all of the seat's roots in one cut). By AI agents, Wed Nov 11 2026. No macro, syntax, notation, axiom, sorry.
-/
import Derived.Test.YtajnllkkgedgfaaChecked
import GoSem.Claim
import GoSem.ClaimJoined
import GoSem.ClaimMapViews
import Derived.JoinedTies
import Derived.KernelRfl
namespace Go.Proofs.Ytajnllkkgedgfaa
/- THE CELL 'sum', in the pinned program and in every row, IS THE sha256 OF THE DUMP (.gsa) THAT YtajnllkkgedgfaaProg.lean LOADS. Nothing in Lean hashes anything: it is a label: what it is worth is what the hold of that sum in a sandbox is worth. -/
noncomputable def Try.pinned : Pinned := { name := "ytajnllkkgedgfaa", sum := "2db557bfad0f92ccfd18483cd3290143e39ef1ffa31f11d9bdba48cffa9b7c3c", checked := Try.checked }
namespace Rows
def none {H : Type} : Left H := { results := [], args := [] }

/-- 'psalterylaw01.BitsRights': WHATEVER THE INPUT: true; the input reads as it did. -/
def bitsRightsSpec : ChangeSpec := { name := "bitsRights", fn := fun _ => fun
  | [d1, d2] => { results := [.lit (.bool true)], args := [d1, d2] }
  | _ => none }
def bitsRightsRow : OpenClaim := { program := "ytajnllkkgedgfaa", sum := "2db557bfad0f92ccfd18483cd3290143e39ef1ffa31f11d9bdba48cffa9b7c3c", func := "psaltery/psalterylaw01.BitsRights", spec := "bitsRights", apart := false }
def BitsRightsSaid : Prop := bitsRightsRow.holds Try.pinned (OpenSpec.ofChange bitsRightsSpec)

/-- ITS FALSE NEIGHBOUR: 'it returns false'. Refute it at one input. -/
def bitsRightsWrong : ChangeSpec := { name := "bitsRights", fn := fun _ => fun
  | [d1, d2] => { results := [.lit (.bool false)], args := [d1, d2] }
  | _ => none }
def BitsRightsWrongFalsely : Prop := bitsRightsRow.holds Try.pinned (OpenSpec.ofChange bitsRightsWrong)

/-- 'psalterylaw01.BitsPuts': WHATEVER THE INPUT: true; the input reads as it did. -/
def bitsPutsSpec : ChangeSpec := { name := "bitsPuts", fn := fun _ => fun
  | [d1, d2, d3] => { results := [.lit (.bool true)], args := [d1, d2, d3] }
  | _ => none }
def bitsPutsRow : OpenClaim := { program := "ytajnllkkgedgfaa", sum := "2db557bfad0f92ccfd18483cd3290143e39ef1ffa31f11d9bdba48cffa9b7c3c", func := "psaltery/psalterylaw01.BitsPuts", spec := "bitsPuts", apart := false }
def BitsPutsSaid : Prop := bitsPutsRow.holds Try.pinned (OpenSpec.ofChange bitsPutsSpec)

/-- ITS FALSE NEIGHBOUR: 'it returns false'. Refute it at one input. -/
def bitsPutsWrong : ChangeSpec := { name := "bitsPuts", fn := fun _ => fun
  | [d1, d2, d3] => { results := [.lit (.bool false)], args := [d1, d2, d3] }
  | _ => none }
def BitsPutsWrongFalsely : Prop := bitsPutsRow.holds Try.pinned (OpenSpec.ofChange bitsPutsWrong)

/-- 'psalterylaw01.BitsGets': WHATEVER THE INPUT: true; the input reads as it did. -/
def bitsGetsSpec : ChangeSpec := { name := "bitsGets", fn := fun _ => fun
  | [d1, d2, d3] => { results := [.lit (.bool true)], args := [d1, d2, d3] }
  | _ => none }
def bitsGetsRow : OpenClaim := { program := "ytajnllkkgedgfaa", sum := "2db557bfad0f92ccfd18483cd3290143e39ef1ffa31f11d9bdba48cffa9b7c3c", func := "psaltery/psalterylaw01.BitsGets", spec := "bitsGets", apart := false }
def BitsGetsSaid : Prop := bitsGetsRow.holds Try.pinned (OpenSpec.ofChange bitsGetsSpec)

/-- ITS FALSE NEIGHBOUR: 'it returns false'. Refute it at one input. -/
def bitsGetsWrong : ChangeSpec := { name := "bitsGets", fn := fun _ => fun
  | [d1, d2, d3] => { results := [.lit (.bool false)], args := [d1, d2, d3] }
  | _ => none }
def BitsGetsWrongFalsely : Prop := bitsGetsRow.holds Try.pinned (OpenSpec.ofChange bitsGetsWrong)

/-- 'psalterylaw01.BitsBack': WHATEVER THE INPUT: true; the input reads as it did. -/
def bitsBackSpec : ChangeSpec := { name := "bitsBack", fn := fun _ => fun
  | [d] => { results := [.lit (.bool true)], args := [d] }
  | _ => none }
def bitsBackRow : OpenClaim := { program := "ytajnllkkgedgfaa", sum := "2db557bfad0f92ccfd18483cd3290143e39ef1ffa31f11d9bdba48cffa9b7c3c", func := "psaltery/psalterylaw01.BitsBack", spec := "bitsBack", apart := false }
def BitsBackSaid : Prop := bitsBackRow.holds Try.pinned (OpenSpec.ofChange bitsBackSpec)

/-- ITS FALSE NEIGHBOUR: 'it returns false'. Refute it at one input. -/
def bitsBackWrong : ChangeSpec := { name := "bitsBack", fn := fun _ => fun
  | [d] => { results := [.lit (.bool false)], args := [d] }
  | _ => none }
def BitsBackWrongFalsely : Prop := bitsBackRow.holds Try.pinned (OpenSpec.ofChange bitsBackWrong)

/-- 'psalterylaw01.BitsParts': WHATEVER THE INPUT: true; the input reads as it did. -/
def bitsPartsSpec : ChangeSpec := { name := "bitsParts", fn := fun _ => fun
  | [d1, d2, d3, d4] => { results := [.lit (.bool true)], args := [d1, d2, d3, d4] }
  | _ => none }
def bitsPartsRow : OpenClaim := { program := "ytajnllkkgedgfaa", sum := "2db557bfad0f92ccfd18483cd3290143e39ef1ffa31f11d9bdba48cffa9b7c3c", func := "psaltery/psalterylaw01.BitsParts", spec := "bitsParts", apart := false }
def BitsPartsSaid : Prop := bitsPartsRow.holds Try.pinned (OpenSpec.ofChange bitsPartsSpec)

/-- ITS FALSE NEIGHBOUR: 'it returns false'. Refute it at one input. -/
def bitsPartsWrong : ChangeSpec := { name := "bitsParts", fn := fun _ => fun
  | [d1, d2, d3, d4] => { results := [.lit (.bool false)], args := [d1, d2, d3, d4] }
  | _ => none }
def BitsPartsWrongFalsely : Prop := bitsPartsRow.holds Try.pinned (OpenSpec.ofChange bitsPartsWrong)

/-- 'psalterylaw01.BitsStays': WHATEVER THE INPUT: true; the input reads as it did. -/
def bitsStaysSpec : ChangeSpec := { name := "bitsStays", fn := fun _ => fun
  | [d1, d2, d3] => { results := [.lit (.bool true)], args := [d1, d2, d3] }
  | _ => none }
def bitsStaysRow : OpenClaim := { program := "ytajnllkkgedgfaa", sum := "2db557bfad0f92ccfd18483cd3290143e39ef1ffa31f11d9bdba48cffa9b7c3c", func := "psaltery/psalterylaw01.BitsStays", spec := "bitsStays", apart := false }
def BitsStaysSaid : Prop := bitsStaysRow.holds Try.pinned (OpenSpec.ofChange bitsStaysSpec)

/-- ITS FALSE NEIGHBOUR: 'it returns false'. Refute it at one input. -/
def bitsStaysWrong : ChangeSpec := { name := "bitsStays", fn := fun _ => fun
  | [d1, d2, d3] => { results := [.lit (.bool false)], args := [d1, d2, d3] }
  | _ => none }
def BitsStaysWrongFalsely : Prop := bitsStaysRow.holds Try.pinned (OpenSpec.ofChange bitsStaysWrong)

/-- 'psalterylaw03.NumRoots': WHATEVER THE INPUT: true; the input reads as it did. -/
def numRootsSpec : ChangeSpec := { name := "numRoots", fn := fun _ => fun
  | [d1, d2] => { results := [.lit (.bool true)], args := [d1, d2] }
  | _ => none }
def numRootsRow : OpenClaim := { program := "ytajnllkkgedgfaa", sum := "2db557bfad0f92ccfd18483cd3290143e39ef1ffa31f11d9bdba48cffa9b7c3c", func := "psaltery/psalterylaw03.NumRoots", spec := "numRoots", apart := false }
def NumRootsSaid : Prop := numRootsRow.holds Try.pinned (OpenSpec.ofChange numRootsSpec)

/-- ITS FALSE NEIGHBOUR: 'it returns false'. Refute it at one input. -/
def numRootsWrong : ChangeSpec := { name := "numRoots", fn := fun _ => fun
  | [d1, d2] => { results := [.lit (.bool false)], args := [d1, d2] }
  | _ => none }
def NumRootsWrongFalsely : Prop := numRootsRow.holds Try.pinned (OpenSpec.ofChange numRootsWrong)

/-- 'psalterylaw03.NumLogs': WHATEVER THE INPUT: true; the input reads as it did. -/
def numLogsSpec : ChangeSpec := { name := "numLogs", fn := fun _ => fun
  | [d1, d2] => { results := [.lit (.bool true)], args := [d1, d2] }
  | _ => none }
def numLogsRow : OpenClaim := { program := "ytajnllkkgedgfaa", sum := "2db557bfad0f92ccfd18483cd3290143e39ef1ffa31f11d9bdba48cffa9b7c3c", func := "psaltery/psalterylaw03.NumLogs", spec := "numLogs", recurses := true, apart := false }
def NumLogsSaid : Prop := numLogsRow.holds Try.pinned (OpenSpec.ofChange numLogsSpec)

/-- ITS FALSE NEIGHBOUR: 'it returns false'. Refute it at one input. -/
def numLogsWrong : ChangeSpec := { name := "numLogs", fn := fun _ => fun
  | [d1, d2] => { results := [.lit (.bool false)], args := [d1, d2] }
  | _ => none }
def NumLogsWrongFalsely : Prop := numLogsRow.holds Try.pinned (OpenSpec.ofChange numLogsWrong)

/-- 'psalterylaw03.NumMuls': WHATEVER THE INPUT: true; the input reads as it did. -/
def numMulsSpec : ChangeSpec := { name := "numMuls", fn := fun _ => fun
  | [d1, d2] => { results := [.lit (.bool true)], args := [d1, d2] }
  | _ => none }
def numMulsRow : OpenClaim := { program := "ytajnllkkgedgfaa", sum := "2db557bfad0f92ccfd18483cd3290143e39ef1ffa31f11d9bdba48cffa9b7c3c", func := "psaltery/psalterylaw03.NumMuls", spec := "numMuls", apart := false }
def NumMulsSaid : Prop := numMulsRow.holds Try.pinned (OpenSpec.ofChange numMulsSpec)

/-- ITS FALSE NEIGHBOUR: 'it returns false'. Refute it at one input. -/
def numMulsWrong : ChangeSpec := { name := "numMuls", fn := fun _ => fun
  | [d1, d2] => { results := [.lit (.bool false)], args := [d1, d2] }
  | _ => none }
def NumMulsWrongFalsely : Prop := numMulsRow.holds Try.pinned (OpenSpec.ofChange numMulsWrong)

/-- 'psalterylaw03.NumDivs': WHATEVER THE INPUT: true; the input reads as it did. -/
def numDivsSpec : ChangeSpec := { name := "numDivs", fn := fun _ => fun
  | [d1, d2] => { results := [.lit (.bool true)], args := [d1, d2] }
  | _ => none }
def numDivsRow : OpenClaim := { program := "ytajnllkkgedgfaa", sum := "2db557bfad0f92ccfd18483cd3290143e39ef1ffa31f11d9bdba48cffa9b7c3c", func := "psaltery/psalterylaw03.NumDivs", spec := "numDivs", apart := false }
def NumDivsSaid : Prop := numDivsRow.holds Try.pinned (OpenSpec.ofChange numDivsSpec)

/-- ITS FALSE NEIGHBOUR: 'it returns false'. Refute it at one input. -/
def numDivsWrong : ChangeSpec := { name := "numDivs", fn := fun _ => fun
  | [d1, d2] => { results := [.lit (.bool false)], args := [d1, d2] }
  | _ => none }
def NumDivsWrongFalsely : Prop := numDivsRow.holds Try.pinned (OpenSpec.ofChange numDivsWrong)

/-- 'psalterylaw03.NumNear': WHATEVER THE INPUT: true; the input reads as it did. -/
def numNearSpec : ChangeSpec := { name := "numNear", fn := fun _ => fun
  | [d1, d2, d3] => { results := [.lit (.bool true)], args := [d1, d2, d3] }
  | _ => none }
def numNearRow : OpenClaim := { program := "ytajnllkkgedgfaa", sum := "2db557bfad0f92ccfd18483cd3290143e39ef1ffa31f11d9bdba48cffa9b7c3c", func := "psaltery/psalterylaw03.NumNear", spec := "numNear", apart := false }
def NumNearSaid : Prop := numNearRow.holds Try.pinned (OpenSpec.ofChange numNearSpec)

/-- ITS FALSE NEIGHBOUR: 'it returns false'. Refute it at one input. -/
def numNearWrong : ChangeSpec := { name := "numNear", fn := fun _ => fun
  | [d1, d2, d3] => { results := [.lit (.bool false)], args := [d1, d2, d3] }
  | _ => none }
def NumNearWrongFalsely : Prop := numNearRow.holds Try.pinned (OpenSpec.ofChange numNearWrong)

/-- 'psalterylaw03.NumShifts': WHATEVER THE INPUT: true; the input reads as it did. -/
def numShiftsSpec : ChangeSpec := { name := "numShifts", fn := fun _ => fun
  | [d1, d2, d3, d4] => { results := [.lit (.bool true)], args := [d1, d2, d3, d4] }
  | _ => none }
def numShiftsRow : OpenClaim := { program := "ytajnllkkgedgfaa", sum := "2db557bfad0f92ccfd18483cd3290143e39ef1ffa31f11d9bdba48cffa9b7c3c", func := "psaltery/psalterylaw03.NumShifts", spec := "numShifts", apart := false }
def NumShiftsSaid : Prop := numShiftsRow.holds Try.pinned (OpenSpec.ofChange numShiftsSpec)

/-- ITS FALSE NEIGHBOUR: 'it returns false'. Refute it at one input. -/
def numShiftsWrong : ChangeSpec := { name := "numShifts", fn := fun _ => fun
  | [d1, d2, d3, d4] => { results := [.lit (.bool false)], args := [d1, d2, d3, d4] }
  | _ => none }
def NumShiftsWrongFalsely : Prop := numShiftsRow.holds Try.pinned (OpenSpec.ofChange numShiftsWrong)

/- THE SECOND FORM. 'bulk': how many values and letters a reading holds, each counted each time it is reached (what is shared counts as often as it is met; a slice's spare places count too). A statement '..UptoSaid' is the law's where the arguments, and the package variables that the reading takes, are together of bulk at most 1048576: NARROWER than '..Said'. Prove '..Said' where nothing that the law and all that it calls make is longer than what came in: it says more and counts as full. Else prove '..UptoSaid'. A law counts once. -/
mutual
def uptoBulk {H : Type} : DataW H → Nat
  | .lit (.string bytes) => bytes.length + 1
  | .lit _ => 1
  | .nil => 1
  | .ptr d => uptoBulk d + 1
  | .slice elems spare => uptoBulkAll elems + uptoBulkAll spare + 1
  | .agg parts => uptoBulkAll parts + 1
  | .iface _ d => uptoBulk d + 1
  | .map entries => uptoBulkEntries entries + 1
  | .held _ => 1
def uptoBulkAll {H : Type} : List (DataW H) → Nat
  | [] => 0
  | d :: r => uptoBulk d + uptoBulkAll r
def uptoBulkEntries {H : Type} : List (Lit × DataW H) → Nat
  | [] => 0
  | x :: r => uptoBulkEntry x + uptoBulkEntries r
def uptoBulkEntry {H : Type} : Lit × DataW H → Nat
  | (.string bytes, d) => bytes.length + uptoBulk d + 1
  | (_, d) => uptoBulk d + 1
 end
def uptoSmall : (H : Type) → List (DataW H) → Bool := fun _ ds => decide (uptoBulkAll ds ≤ 1048576)
def OpenSpec.upto (s : _root_.Go.ChangeSpec) : _root_.Go.OpenSpec := { _root_.Go.OpenSpec.ofChange s with cond := some uptoSmall }

/-- 'psalterylaw01.BitsRights', WHERE WHAT IT READS IS OF BULK AT MOST 1048576: true; the input reads as it did. -/
def bitsRightsUptoRow : OpenClaim := { program := "ytajnllkkgedgfaa", sum := "2db557bfad0f92ccfd18483cd3290143e39ef1ffa31f11d9bdba48cffa9b7c3c", func := "psaltery/psalterylaw01.BitsRights", spec := "bitsRights", apart := false, narrowed := true }
def BitsRightsUptoSaid : Prop := bitsRightsUptoRow.holds Try.pinned (OpenSpec.upto bitsRightsSpec)

/-- 'psalterylaw01.BitsPuts', WHERE WHAT IT READS IS OF BULK AT MOST 1048576: true; the input reads as it did. -/
def bitsPutsUptoRow : OpenClaim := { program := "ytajnllkkgedgfaa", sum := "2db557bfad0f92ccfd18483cd3290143e39ef1ffa31f11d9bdba48cffa9b7c3c", func := "psaltery/psalterylaw01.BitsPuts", spec := "bitsPuts", apart := false, narrowed := true }
def BitsPutsUptoSaid : Prop := bitsPutsUptoRow.holds Try.pinned (OpenSpec.upto bitsPutsSpec)

/-- 'psalterylaw01.BitsGets', WHERE WHAT IT READS IS OF BULK AT MOST 1048576: true; the input reads as it did. -/
def bitsGetsUptoRow : OpenClaim := { program := "ytajnllkkgedgfaa", sum := "2db557bfad0f92ccfd18483cd3290143e39ef1ffa31f11d9bdba48cffa9b7c3c", func := "psaltery/psalterylaw01.BitsGets", spec := "bitsGets", apart := false, narrowed := true }
def BitsGetsUptoSaid : Prop := bitsGetsUptoRow.holds Try.pinned (OpenSpec.upto bitsGetsSpec)

/-- 'psalterylaw01.BitsBack', WHERE WHAT IT READS IS OF BULK AT MOST 1048576: true; the input reads as it did. -/
def bitsBackUptoRow : OpenClaim := { program := "ytajnllkkgedgfaa", sum := "2db557bfad0f92ccfd18483cd3290143e39ef1ffa31f11d9bdba48cffa9b7c3c", func := "psaltery/psalterylaw01.BitsBack", spec := "bitsBack", apart := false, narrowed := true }
def BitsBackUptoSaid : Prop := bitsBackUptoRow.holds Try.pinned (OpenSpec.upto bitsBackSpec)

/-- 'psalterylaw01.BitsParts', WHERE WHAT IT READS IS OF BULK AT MOST 1048576: true; the input reads as it did. -/
def bitsPartsUptoRow : OpenClaim := { program := "ytajnllkkgedgfaa", sum := "2db557bfad0f92ccfd18483cd3290143e39ef1ffa31f11d9bdba48cffa9b7c3c", func := "psaltery/psalterylaw01.BitsParts", spec := "bitsParts", apart := false, narrowed := true }
def BitsPartsUptoSaid : Prop := bitsPartsUptoRow.holds Try.pinned (OpenSpec.upto bitsPartsSpec)

/-- 'psalterylaw01.BitsStays', WHERE WHAT IT READS IS OF BULK AT MOST 1048576: true; the input reads as it did. -/
def bitsStaysUptoRow : OpenClaim := { program := "ytajnllkkgedgfaa", sum := "2db557bfad0f92ccfd18483cd3290143e39ef1ffa31f11d9bdba48cffa9b7c3c", func := "psaltery/psalterylaw01.BitsStays", spec := "bitsStays", apart := false, narrowed := true }
def BitsStaysUptoSaid : Prop := bitsStaysUptoRow.holds Try.pinned (OpenSpec.upto bitsStaysSpec)

/-- 'psalterylaw03.NumRoots', WHERE WHAT IT READS IS OF BULK AT MOST 1048576: true; the input reads as it did. -/
def numRootsUptoRow : OpenClaim := { program := "ytajnllkkgedgfaa", sum := "2db557bfad0f92ccfd18483cd3290143e39ef1ffa31f11d9bdba48cffa9b7c3c", func := "psaltery/psalterylaw03.NumRoots", spec := "numRoots", apart := false, narrowed := true }
def NumRootsUptoSaid : Prop := numRootsUptoRow.holds Try.pinned (OpenSpec.upto numRootsSpec)

/-- 'psalterylaw03.NumLogs', WHERE WHAT IT READS IS OF BULK AT MOST 1048576: true; the input reads as it did. -/
def numLogsUptoRow : OpenClaim := { program := "ytajnllkkgedgfaa", sum := "2db557bfad0f92ccfd18483cd3290143e39ef1ffa31f11d9bdba48cffa9b7c3c", func := "psaltery/psalterylaw03.NumLogs", spec := "numLogs", recurses := true, apart := false, narrowed := true }
def NumLogsUptoSaid : Prop := numLogsUptoRow.holds Try.pinned (OpenSpec.upto numLogsSpec)

/-- 'psalterylaw03.NumMuls', WHERE WHAT IT READS IS OF BULK AT MOST 1048576: true; the input reads as it did. -/
def numMulsUptoRow : OpenClaim := { program := "ytajnllkkgedgfaa", sum := "2db557bfad0f92ccfd18483cd3290143e39ef1ffa31f11d9bdba48cffa9b7c3c", func := "psaltery/psalterylaw03.NumMuls", spec := "numMuls", apart := false, narrowed := true }
def NumMulsUptoSaid : Prop := numMulsUptoRow.holds Try.pinned (OpenSpec.upto numMulsSpec)

/-- 'psalterylaw03.NumDivs', WHERE WHAT IT READS IS OF BULK AT MOST 1048576: true; the input reads as it did. -/
def numDivsUptoRow : OpenClaim := { program := "ytajnllkkgedgfaa", sum := "2db557bfad0f92ccfd18483cd3290143e39ef1ffa31f11d9bdba48cffa9b7c3c", func := "psaltery/psalterylaw03.NumDivs", spec := "numDivs", apart := false, narrowed := true }
def NumDivsUptoSaid : Prop := numDivsUptoRow.holds Try.pinned (OpenSpec.upto numDivsSpec)

/-- 'psalterylaw03.NumNear', WHERE WHAT IT READS IS OF BULK AT MOST 1048576: true; the input reads as it did. -/
def numNearUptoRow : OpenClaim := { program := "ytajnllkkgedgfaa", sum := "2db557bfad0f92ccfd18483cd3290143e39ef1ffa31f11d9bdba48cffa9b7c3c", func := "psaltery/psalterylaw03.NumNear", spec := "numNear", apart := false, narrowed := true }
def NumNearUptoSaid : Prop := numNearUptoRow.holds Try.pinned (OpenSpec.upto numNearSpec)

/-- 'psalterylaw03.NumShifts', WHERE WHAT IT READS IS OF BULK AT MOST 1048576: true; the input reads as it did. -/
def numShiftsUptoRow : OpenClaim := { program := "ytajnllkkgedgfaa", sum := "2db557bfad0f92ccfd18483cd3290143e39ef1ffa31f11d9bdba48cffa9b7c3c", func := "psaltery/psalterylaw03.NumShifts", spec := "numShifts", apart := false, narrowed := true }
def NumShiftsUptoSaid : Prop := numShiftsUptoRow.holds Try.pinned (OpenSpec.upto numShiftsSpec)

end Rows
end Go.Proofs.Ytajnllkkgedgfaa
