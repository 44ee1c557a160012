/-
  No cell of these rows narrows 'for every input' (looked for: loops, veiled, ifaces, maps, wideKeys, modest, calm, conditions, laid).
  DERIVED. THE GIVEN ROWS OF THIS SEAT. 12 by the template 'for every input the law returns true; each argument reads behind the call as it read before'; 0 by the template 'total and deterministic' (their statements: YtfipeildlleoeaaTotals.lean).
  GIVEN WITH THE SEED: the statements are not yours to turn. If you find one false, say at which input.
  Laid BY PROGRAM, IN A SANDBOX (cutbox-rows.mjs): the forced cells as the released guide's own fill.sh prints them over the translation c679563f0436d0fd… (all of the seat's roots in one cut). By AI agents, Wed Nov 11 2026. No macro, syntax, notation, axiom, sorry.
-/
import Derived.Test.YtfipeildlleoeaaChecked
import GoSem.Claim
import GoSem.ClaimJoined
import GoSem.ClaimMapViews
import Derived.JoinedTies
import Derived.KernelRfl
namespace Go.Proofs.Ytfipeildlleoeaa
/- THE CELL 'sum', in the pinned program and in every row, IS THE sha256 OF THE DUMP (.gsa) THAT YtfipeildlleoeaaProg.lean LOADS. Nothing in Lean hashes anything: it is a label: what it is worth is what the hold of that sum in a sandbox is worth. -/
noncomputable def Try.pinned : Pinned := { name := "ytfipeildlleoeaa", sum := "c679563f0436d0fd028c42001a3d6820f4f77622f5c67475a1ff925bca574be2", checked := Try.checked }
namespace Rows
def none {H : Type} : Left H := { results := [], args := [] }

/-- 'psalterylaw21.RemapQuantizes': WHATEVER THE INPUT: true; the input reads as it did. -/
def remapQuantizesSpec : ChangeSpec := { name := "remapQuantizes", fn := fun _ => fun
  | [d1, d2] => { results := [.lit (.bool true)], args := [d1, d2] }
  | _ => none }
def remapQuantizesRow : OpenClaim := { program := "ytfipeildlleoeaa", sum := "c679563f0436d0fd028c42001a3d6820f4f77622f5c67475a1ff925bca574be2", func := "psaltery/psalterylaw21.RemapQuantizes", spec := "remapQuantizes", unfollowed := true, recurses := true, apart := false }
def RemapQuantizesSaid : Prop := remapQuantizesRow.holds Try.pinned (OpenSpec.ofChange remapQuantizesSpec)

/-- ITS FALSE NEIGHBOUR: 'it returns false'. Refute it at one input. -/
def remapQuantizesWrong : ChangeSpec := { name := "remapQuantizes", fn := fun _ => fun
  | [d1, d2] => { results := [.lit (.bool false)], args := [d1, d2] }
  | _ => none }
def RemapQuantizesWrongFalsely : Prop := remapQuantizesRow.holds Try.pinned (OpenSpec.ofChange remapQuantizesWrong)

/-- 'psalterylaw21.RemapRestores': WHATEVER THE INPUT: true; the input reads as it did. -/
def remapRestoresSpec : ChangeSpec := { name := "remapRestores", fn := fun _ => fun
  | [d1, d2] => { results := [.lit (.bool true)], args := [d1, d2] }
  | _ => none }
def remapRestoresRow : OpenClaim := { program := "ytfipeildlleoeaa", sum := "c679563f0436d0fd028c42001a3d6820f4f77622f5c67475a1ff925bca574be2", func := "psaltery/psalterylaw21.RemapRestores", spec := "remapRestores", unfollowed := true, recurses := true, apart := false }
def RemapRestoresSaid : Prop := remapRestoresRow.holds Try.pinned (OpenSpec.ofChange remapRestoresSpec)

/-- ITS FALSE NEIGHBOUR: 'it returns false'. Refute it at one input. -/
def remapRestoresWrong : ChangeSpec := { name := "remapRestores", fn := fun _ => fun
  | [d1, d2] => { results := [.lit (.bool false)], args := [d1, d2] }
  | _ => none }
def RemapRestoresWrongFalsely : Prop := remapRestoresRow.holds Try.pinned (OpenSpec.ofChange remapRestoresWrong)

/-- 'psalterylaw21.RemapNear': WHATEVER THE INPUT: true; the input reads as it did. -/
def remapNearSpec : ChangeSpec := { name := "remapNear", fn := fun _ => fun
  | [d1, d2] => { results := [.lit (.bool true)], args := [d1, d2] }
  | _ => none }
def remapNearRow : OpenClaim := { program := "ytfipeildlleoeaa", sum := "c679563f0436d0fd028c42001a3d6820f4f77622f5c67475a1ff925bca574be2", func := "psaltery/psalterylaw21.RemapNear", spec := "remapNear", unfollowed := true, recurses := true, apart := false }
def RemapNearSaid : Prop := remapNearRow.holds Try.pinned (OpenSpec.ofChange remapNearSpec)

/-- ITS FALSE NEIGHBOUR: 'it returns false'. Refute it at one input. -/
def remapNearWrong : ChangeSpec := { name := "remapNear", fn := fun _ => fun
  | [d1, d2] => { results := [.lit (.bool false)], args := [d1, d2] }
  | _ => none }
def RemapNearWrongFalsely : Prop := remapNearRow.holds Try.pinned (OpenSpec.ofChange remapNearWrong)

/-- 'psalterylaw21.RemapBest': WHATEVER THE INPUT: true; the input reads as it did. -/
def remapBestSpec : ChangeSpec := { name := "remapBest", fn := fun _ => fun
  | [d] => { results := [.lit (.bool true)], args := [d] }
  | _ => none }
def remapBestRow : OpenClaim := { program := "ytfipeildlleoeaa", sum := "c679563f0436d0fd028c42001a3d6820f4f77622f5c67475a1ff925bca574be2", func := "psaltery/psalterylaw21.RemapBest", spec := "remapBest", unfollowed := true, recurses := true, apart := false }
def RemapBestSaid : Prop := remapBestRow.holds Try.pinned (OpenSpec.ofChange remapBestSpec)

/-- ITS FALSE NEIGHBOUR: 'it returns false'. Refute it at one input. -/
def remapBestWrong : ChangeSpec := { name := "remapBest", fn := fun _ => fun
  | [d] => { results := [.lit (.bool false)], args := [d] }
  | _ => none }
def RemapBestWrongFalsely : Prop := remapBestRow.holds Try.pinned (OpenSpec.ofChange remapBestWrong)

/-- 'psalterylaw21.RemapAgain': WHATEVER THE INPUT: true; the input reads as it did. -/
def remapAgainSpec : ChangeSpec := { name := "remapAgain", fn := fun _ => fun
  | [d1, d2] => { results := [.lit (.bool true)], args := [d1, d2] }
  | _ => none }
def remapAgainRow : OpenClaim := { program := "ytfipeildlleoeaa", sum := "c679563f0436d0fd028c42001a3d6820f4f77622f5c67475a1ff925bca574be2", func := "psaltery/psalterylaw21.RemapAgain", spec := "remapAgain", unfollowed := true, recurses := true, apart := false }
def RemapAgainSaid : Prop := remapAgainRow.holds Try.pinned (OpenSpec.ofChange remapAgainSpec)

/-- ITS FALSE NEIGHBOUR: 'it returns false'. Refute it at one input. -/
def remapAgainWrong : ChangeSpec := { name := "remapAgain", fn := fun _ => fun
  | [d1, d2] => { results := [.lit (.bool false)], args := [d1, d2] }
  | _ => none }
def RemapAgainWrongFalsely : Prop := remapAgainRow.holds Try.pinned (OpenSpec.ofChange remapAgainWrong)

/-- 'psalterylaw21.RemapApart': WHATEVER THE INPUT: true; the input reads as it did. -/
def remapApartSpec : ChangeSpec := { name := "remapApart", fn := fun _ => fun
  | [d1, d2, d3, d4, d5] => { results := [.lit (.bool true)], args := [d1, d2, d3, d4, d5] }
  | _ => none }
def remapApartRow : OpenClaim := { program := "ytfipeildlleoeaa", sum := "c679563f0436d0fd028c42001a3d6820f4f77622f5c67475a1ff925bca574be2", func := "psaltery/psalterylaw21.RemapApart", spec := "remapApart", unfollowed := true, recurses := true, apart := false }
def RemapApartSaid : Prop := remapApartRow.holds Try.pinned (OpenSpec.ofChange remapApartSpec)

/-- ITS FALSE NEIGHBOUR: 'it returns false'. Refute it at one input. -/
def remapApartWrong : ChangeSpec := { name := "remapApart", fn := fun _ => fun
  | [d1, d2, d3, d4, d5] => { results := [.lit (.bool false)], args := [d1, d2, d3, d4, d5] }
  | _ => none }
def RemapApartWrongFalsely : Prop := remapApartRow.holds Try.pinned (OpenSpec.ofChange remapApartWrong)

/-- 'psalterylaw15.CoupleOnes': WHATEVER THE INPUT: true; the input reads as it did. -/
def coupleOnesSpec : ChangeSpec := { name := "coupleOnes", fn := fun _ => fun
  | [d1, d2] => { results := [.lit (.bool true)], args := [d1, d2] }
  | _ => none }
def coupleOnesRow : OpenClaim := { program := "ytfipeildlleoeaa", sum := "c679563f0436d0fd028c42001a3d6820f4f77622f5c67475a1ff925bca574be2", func := "psaltery/psalterylaw15.CoupleOnes", spec := "coupleOnes", unfollowed := true, recurses := true, apart := false }
def CoupleOnesSaid : Prop := coupleOnesRow.holds Try.pinned (OpenSpec.ofChange coupleOnesSpec)

/-- ITS FALSE NEIGHBOUR: 'it returns false'. Refute it at one input. -/
def coupleOnesWrong : ChangeSpec := { name := "coupleOnes", fn := fun _ => fun
  | [d1, d2] => { results := [.lit (.bool false)], args := [d1, d2] }
  | _ => none }
def CoupleOnesWrongFalsely : Prop := coupleOnesRow.holds Try.pinned (OpenSpec.ofChange coupleOnesWrong)

/-- 'psalterylaw15.CoupleLists': WHATEVER THE INPUT: true; the input reads as it did. -/
def coupleListsSpec : ChangeSpec := { name := "coupleLists", fn := fun _ => fun
  | [d1, d2] => { results := [.lit (.bool true)], args := [d1, d2] }
  | _ => none }
def coupleListsRow : OpenClaim := { program := "ytfipeildlleoeaa", sum := "c679563f0436d0fd028c42001a3d6820f4f77622f5c67475a1ff925bca574be2", func := "psaltery/psalterylaw15.CoupleLists", spec := "coupleLists", unfollowed := true, recurses := true, apart := false }
def CoupleListsSaid : Prop := coupleListsRow.holds Try.pinned (OpenSpec.ofChange coupleListsSpec)

/-- ITS FALSE NEIGHBOUR: 'it returns false'. Refute it at one input. -/
def coupleListsWrong : ChangeSpec := { name := "coupleLists", fn := fun _ => fun
  | [d1, d2] => { results := [.lit (.bool false)], args := [d1, d2] }
  | _ => none }
def CoupleListsWrongFalsely : Prop := coupleListsRow.holds Try.pinned (OpenSpec.ofChange coupleListsWrong)

/-- 'psalterylaw15.CoupleBack': WHATEVER THE INPUT: true; the input reads as it did. -/
def coupleBackSpec : ChangeSpec := { name := "coupleBack", fn := fun _ => fun
  | [d1, d2] => { results := [.lit (.bool true)], args := [d1, d2] }
  | _ => none }
def coupleBackRow : OpenClaim := { program := "ytfipeildlleoeaa", sum := "c679563f0436d0fd028c42001a3d6820f4f77622f5c67475a1ff925bca574be2", func := "psaltery/psalterylaw15.CoupleBack", spec := "coupleBack", unfollowed := true, recurses := true, apart := false }
def CoupleBackSaid : Prop := coupleBackRow.holds Try.pinned (OpenSpec.ofChange coupleBackSpec)

/-- ITS FALSE NEIGHBOUR: 'it returns false'. Refute it at one input. -/
def coupleBackWrong : ChangeSpec := { name := "coupleBack", fn := fun _ => fun
  | [d1, d2] => { results := [.lit (.bool false)], args := [d1, d2] }
  | _ => none }
def CoupleBackWrongFalsely : Prop := coupleBackRow.holds Try.pinned (OpenSpec.ofChange coupleBackWrong)

/-- 'psalterylaw15.CoupleSizes': WHATEVER THE INPUT: true; the input reads as it did. -/
def coupleSizesSpec : ChangeSpec := { name := "coupleSizes", fn := fun _ => fun
  | [d1, d2] => { results := [.lit (.bool true)], args := [d1, d2] }
  | _ => none }
def coupleSizesRow : OpenClaim := { program := "ytfipeildlleoeaa", sum := "c679563f0436d0fd028c42001a3d6820f4f77622f5c67475a1ff925bca574be2", func := "psaltery/psalterylaw15.CoupleSizes", spec := "coupleSizes", unfollowed := true, recurses := true, apart := false }
def CoupleSizesSaid : Prop := coupleSizesRow.holds Try.pinned (OpenSpec.ofChange coupleSizesSpec)

/-- ITS FALSE NEIGHBOUR: 'it returns false'. Refute it at one input. -/
def coupleSizesWrong : ChangeSpec := { name := "coupleSizes", fn := fun _ => fun
  | [d1, d2] => { results := [.lit (.bool false)], args := [d1, d2] }
  | _ => none }
def CoupleSizesWrongFalsely : Prop := coupleSizesRow.holds Try.pinned (OpenSpec.ofChange coupleSizesWrong)

/-- 'psalterylaw15.CoupleParts': WHATEVER THE INPUT: true; the input reads as it did. -/
def couplePartsSpec : ChangeSpec := { name := "coupleParts", fn := fun _ => fun
  | [d1, d2] => { results := [.lit (.bool true)], args := [d1, d2] }
  | _ => none }
def couplePartsRow : OpenClaim := { program := "ytfipeildlleoeaa", sum := "c679563f0436d0fd028c42001a3d6820f4f77622f5c67475a1ff925bca574be2", func := "psaltery/psalterylaw15.CoupleParts", spec := "coupleParts", unfollowed := true, recurses := true, apart := false }
def CouplePartsSaid : Prop := couplePartsRow.holds Try.pinned (OpenSpec.ofChange couplePartsSpec)

/-- ITS FALSE NEIGHBOUR: 'it returns false'. Refute it at one input. -/
def couplePartsWrong : ChangeSpec := { name := "coupleParts", fn := fun _ => fun
  | [d1, d2] => { results := [.lit (.bool false)], args := [d1, d2] }
  | _ => none }
def CouplePartsWrongFalsely : Prop := couplePartsRow.holds Try.pinned (OpenSpec.ofChange couplePartsWrong)

/-- 'psalterylaw15.CoupleListsBack': WHATEVER THE INPUT: true; the input reads as it did. -/
def coupleListsBackSpec : ChangeSpec := { name := "coupleListsBack", fn := fun _ => fun
  | [d1, d2] => { results := [.lit (.bool true)], args := [d1, d2] }
  | _ => none }
def coupleListsBackRow : OpenClaim := { program := "ytfipeildlleoeaa", sum := "c679563f0436d0fd028c42001a3d6820f4f77622f5c67475a1ff925bca574be2", func := "psaltery/psalterylaw15.CoupleListsBack", spec := "coupleListsBack", unfollowed := true, recurses := true, apart := false }
def CoupleListsBackSaid : Prop := coupleListsBackRow.holds Try.pinned (OpenSpec.ofChange coupleListsBackSpec)

/-- ITS FALSE NEIGHBOUR: 'it returns false'. Refute it at one input. -/
def coupleListsBackWrong : ChangeSpec := { name := "coupleListsBack", fn := fun _ => fun
  | [d1, d2] => { results := [.lit (.bool false)], args := [d1, d2] }
  | _ => none }
def CoupleListsBackWrongFalsely : Prop := coupleListsBackRow.holds Try.pinned (OpenSpec.ofChange coupleListsBackWrong)

/- THE SECOND FORM. 'bulk': how many values and letters a reading holds, each counted each time it is reached (what is shared counts as often as it is met; a slice's spare places count too). A statement '..UptoSaid' is the law's where the arguments, and the package variables that the reading takes, are together of bulk at most 1048576: NARROWER than '..Said'. Prove '..Said' where nothing that the law and all that it calls make is longer than what came in: it says more and counts as full. Else prove '..UptoSaid'. A law counts once. -/
mutual
def uptoBulk {H : Type} : DataW H → Nat
  | .lit (.string bytes) => bytes.length + 1
  | .lit _ => 1
  | .nil => 1
  | .ptr d => uptoBulk d + 1
  | .slice elems spare => uptoBulkAll elems + uptoBulkAll spare + 1
  | .agg parts => uptoBulkAll parts + 1
  | .iface _ d => uptoBulk d + 1
  | .map entries => uptoBulkEntries entries + 1
  | .held _ => 1
def uptoBulkAll {H : Type} : List (DataW H) → Nat
  | [] => 0
  | d :: r => uptoBulk d + uptoBulkAll r
def uptoBulkEntries {H : Type} : List (Lit × DataW H) → Nat
  | [] => 0
  | x :: r => uptoBulkEntry x + uptoBulkEntries r
def uptoBulkEntry {H : Type} : Lit × DataW H → Nat
  | (.string bytes, d) => bytes.length + uptoBulk d + 1
  | (_, d) => uptoBulk d + 1
 end
def uptoSmall : (H : Type) → List (DataW H) → Bool := fun _ ds => decide (uptoBulkAll ds ≤ 1048576)
def OpenSpec.upto (s : _root_.Go.ChangeSpec) : _root_.Go.OpenSpec := { _root_.Go.OpenSpec.ofChange s with cond := some uptoSmall }

/-- 'psalterylaw21.RemapQuantizes', WHERE WHAT IT READS IS OF BULK AT MOST 1048576: true; the input reads as it did. -/
def remapQuantizesUptoRow : OpenClaim := { program := "ytfipeildlleoeaa", sum := "c679563f0436d0fd028c42001a3d6820f4f77622f5c67475a1ff925bca574be2", func := "psaltery/psalterylaw21.RemapQuantizes", spec := "remapQuantizes", unfollowed := true, recurses := true, apart := false, narrowed := true }
def RemapQuantizesUptoSaid : Prop := remapQuantizesUptoRow.holds Try.pinned (OpenSpec.upto remapQuantizesSpec)

/-- 'psalterylaw21.RemapRestores', WHERE WHAT IT READS IS OF BULK AT MOST 1048576: true; the input reads as it did. -/
def remapRestoresUptoRow : OpenClaim := { program := "ytfipeildlleoeaa", sum := "c679563f0436d0fd028c42001a3d6820f4f77622f5c67475a1ff925bca574be2", func := "psaltery/psalterylaw21.RemapRestores", spec := "remapRestores", unfollowed := true, recurses := true, apart := false, narrowed := true }
def RemapRestoresUptoSaid : Prop := remapRestoresUptoRow.holds Try.pinned (OpenSpec.upto remapRestoresSpec)

/-- 'psalterylaw21.RemapNear', WHERE WHAT IT READS IS OF BULK AT MOST 1048576: true; the input reads as it did. -/
def remapNearUptoRow : OpenClaim := { program := "ytfipeildlleoeaa", sum := "c679563f0436d0fd028c42001a3d6820f4f77622f5c67475a1ff925bca574be2", func := "psaltery/psalterylaw21.RemapNear", spec := "remapNear", unfollowed := true, recurses := true, apart := false, narrowed := true }
def RemapNearUptoSaid : Prop := remapNearUptoRow.holds Try.pinned (OpenSpec.upto remapNearSpec)

/-- 'psalterylaw21.RemapBest', WHERE WHAT IT READS IS OF BULK AT MOST 1048576: true; the input reads as it did. -/
def remapBestUptoRow : OpenClaim := { program := "ytfipeildlleoeaa", sum := "c679563f0436d0fd028c42001a3d6820f4f77622f5c67475a1ff925bca574be2", func := "psaltery/psalterylaw21.RemapBest", spec := "remapBest", unfollowed := true, recurses := true, apart := false, narrowed := true }
def RemapBestUptoSaid : Prop := remapBestUptoRow.holds Try.pinned (OpenSpec.upto remapBestSpec)

/-- 'psalterylaw21.RemapAgain', WHERE WHAT IT READS IS OF BULK AT MOST 1048576: true; the input reads as it did. -/
def remapAgainUptoRow : OpenClaim := { program := "ytfipeildlleoeaa", sum := "c679563f0436d0fd028c42001a3d6820f4f77622f5c67475a1ff925bca574be2", func := "psaltery/psalterylaw21.RemapAgain", spec := "remapAgain", unfollowed := true, recurses := true, apart := false, narrowed := true }
def RemapAgainUptoSaid : Prop := remapAgainUptoRow.holds Try.pinned (OpenSpec.upto remapAgainSpec)

/-- 'psalterylaw21.RemapApart', WHERE WHAT IT READS IS OF BULK AT MOST 1048576: true; the input reads as it did. -/
def remapApartUptoRow : OpenClaim := { program := "ytfipeildlleoeaa", sum := "c679563f0436d0fd028c42001a3d6820f4f77622f5c67475a1ff925bca574be2", func := "psaltery/psalterylaw21.RemapApart", spec := "remapApart", unfollowed := true, recurses := true, apart := false, narrowed := true }
def RemapApartUptoSaid : Prop := remapApartUptoRow.holds Try.pinned (OpenSpec.upto remapApartSpec)

/-- 'psalterylaw15.CoupleOnes', WHERE WHAT IT READS IS OF BULK AT MOST 1048576: true; the input reads as it did. -/
def coupleOnesUptoRow : OpenClaim := { program := "ytfipeildlleoeaa", sum := "c679563f0436d0fd028c42001a3d6820f4f77622f5c67475a1ff925bca574be2", func := "psaltery/psalterylaw15.CoupleOnes", spec := "coupleOnes", unfollowed := true, recurses := true, apart := false, narrowed := true }
def CoupleOnesUptoSaid : Prop := coupleOnesUptoRow.holds Try.pinned (OpenSpec.upto coupleOnesSpec)

/-- 'psalterylaw15.CoupleLists', WHERE WHAT IT READS IS OF BULK AT MOST 1048576: true; the input reads as it did. -/
def coupleListsUptoRow : OpenClaim := { program := "ytfipeildlleoeaa", sum := "c679563f0436d0fd028c42001a3d6820f4f77622f5c67475a1ff925bca574be2", func := "psaltery/psalterylaw15.CoupleLists", spec := "coupleLists", unfollowed := true, recurses := true, apart := false, narrowed := true }
def CoupleListsUptoSaid : Prop := coupleListsUptoRow.holds Try.pinned (OpenSpec.upto coupleListsSpec)

/-- 'psalterylaw15.CoupleBack', WHERE WHAT IT READS IS OF BULK AT MOST 1048576: true; the input reads as it did. -/
def coupleBackUptoRow : OpenClaim := { program := "ytfipeildlleoeaa", sum := "c679563f0436d0fd028c42001a3d6820f4f77622f5c67475a1ff925bca574be2", func := "psaltery/psalterylaw15.CoupleBack", spec := "coupleBack", unfollowed := true, recurses := true, apart := false, narrowed := true }
def CoupleBackUptoSaid : Prop := coupleBackUptoRow.holds Try.pinned (OpenSpec.upto coupleBackSpec)

/-- 'psalterylaw15.CoupleSizes', WHERE WHAT IT READS IS OF BULK AT MOST 1048576: true; the input reads as it did. -/
def coupleSizesUptoRow : OpenClaim := { program := "ytfipeildlleoeaa", sum := "c679563f0436d0fd028c42001a3d6820f4f77622f5c67475a1ff925bca574be2", func := "psaltery/psalterylaw15.CoupleSizes", spec := "coupleSizes", unfollowed := true, recurses := true, apart := false, narrowed := true }
def CoupleSizesUptoSaid : Prop := coupleSizesUptoRow.holds Try.pinned (OpenSpec.upto coupleSizesSpec)

/-- 'psalterylaw15.CoupleParts', WHERE WHAT IT READS IS OF BULK AT MOST 1048576: true; the input reads as it did. -/
def couplePartsUptoRow : OpenClaim := { program := "ytfipeildlleoeaa", sum := "c679563f0436d0fd028c42001a3d6820f4f77622f5c67475a1ff925bca574be2", func := "psaltery/psalterylaw15.CoupleParts", spec := "coupleParts", unfollowed := true, recurses := true, apart := false, narrowed := true }
def CouplePartsUptoSaid : Prop := couplePartsUptoRow.holds Try.pinned (OpenSpec.upto couplePartsSpec)

/-- 'psalterylaw15.CoupleListsBack', WHERE WHAT IT READS IS OF BULK AT MOST 1048576: true; the input reads as it did. -/
def coupleListsBackUptoRow : OpenClaim := { program := "ytfipeildlleoeaa", sum := "c679563f0436d0fd028c42001a3d6820f4f77622f5c67475a1ff925bca574be2", func := "psaltery/psalterylaw15.CoupleListsBack", spec := "coupleListsBack", unfollowed := true, recurses := true, apart := false, narrowed := true }
def CoupleListsBackUptoSaid : Prop := coupleListsBackUptoRow.holds Try.pinned (OpenSpec.upto coupleListsBackSpec)

end Rows
end Go.Proofs.Ytfipeildlleoeaa
