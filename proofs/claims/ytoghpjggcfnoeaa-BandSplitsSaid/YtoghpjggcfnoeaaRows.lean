/-
  No cell of these rows narrows 'for every input' (looked for: loops, veiled, ifaces, maps, wideKeys, modest, calm, conditions, laid).
  DERIVED. THE GIVEN ROWS OF THIS SEAT. 12 by the template 'for every input the law returns true; each argument reads behind the call as it read before'; 0 by the template 'total and deterministic' (their statements: YtoghpjggcfnoeaaTotals.lean).
  GIVEN WITH THE SEED: the statements are not yours to turn. If you find one false, say at which input.
  Laid BY PROGRAM, IN A SANDBOX (cutbox-rows.mjs): the forced cells as the released guide's own fill.sh prints them over the translation e6a1324c76674f19… (all of the seat's roots in one cut). By AI agents, Wed Nov 11 2026. No macro, syntax, notation, axiom, sorry.
-/
import Derived.Test.YtoghpjggcfnoeaaChecked
import GoSem.Claim
import GoSem.ClaimJoined
import GoSem.ClaimMapViews
import Derived.JoinedTies
import Derived.KernelRfl
namespace Go.Proofs.Ytoghpjggcfnoeaa
/- THE CELL 'sum', in the pinned program and in every row, IS THE sha256 OF THE DUMP (.gsa) THAT YtoghpjggcfnoeaaProg.lean LOADS. Nothing in Lean hashes anything: it is a label: what it is worth is what the hold of that sum in a sandbox is worth. -/
noncomputable def Try.pinned : Pinned := { name := "ytoghpjggcfnoeaa", sum := "e6a1324c76674f19f520946023b2f61e7f5e97248340ca2864925da9c5a689c2", checked := Try.checked }
namespace Rows
def none {H : Type} : Left H := { results := [], args := [] }

/-- 'psalterylaw14.FloorPlaces': WHATEVER THE INPUT: true; the input reads as it did. -/
def floorPlacesSpec : ChangeSpec := { name := "floorPlaces", fn := fun _ => fun
  | [d1, d2] => { results := [.lit (.bool true)], args := [d1, d2] }
  | _ => none }
def floorPlacesRow : OpenClaim := { program := "ytoghpjggcfnoeaa", sum := "e6a1324c76674f19f520946023b2f61e7f5e97248340ca2864925da9c5a689c2", func := "psaltery/psalterylaw14.FloorPlaces", spec := "floorPlaces", apart := false }
def FloorPlacesSaid : Prop := floorPlacesRow.holds Try.pinned (OpenSpec.ofChange floorPlacesSpec)

/-- ITS FALSE NEIGHBOUR: 'it returns false'. Refute it at one input. -/
def floorPlacesWrong : ChangeSpec := { name := "floorPlaces", fn := fun _ => fun
  | [d1, d2] => { results := [.lit (.bool false)], args := [d1, d2] }
  | _ => none }
def FloorPlacesWrongFalsely : Prop := floorPlacesRow.holds Try.pinned (OpenSpec.ofChange floorPlacesWrong)

/-- 'psalterylaw14.FloorLines': WHATEVER THE INPUT: true; the input reads as it did. -/
def floorLinesSpec : ChangeSpec := { name := "floorLines", fn := fun _ => fun
  | [d] => { results := [.lit (.bool true)], args := [d] }
  | _ => none }
def floorLinesRow : OpenClaim := { program := "ytoghpjggcfnoeaa", sum := "e6a1324c76674f19f520946023b2f61e7f5e97248340ca2864925da9c5a689c2", func := "psaltery/psalterylaw14.FloorLines", spec := "floorLines", apart := false }
def FloorLinesSaid : Prop := floorLinesRow.holds Try.pinned (OpenSpec.ofChange floorLinesSpec)

/-- ITS FALSE NEIGHBOUR: 'it returns false'. Refute it at one input. -/
def floorLinesWrong : ChangeSpec := { name := "floorLines", fn := fun _ => fun
  | [d] => { results := [.lit (.bool false)], args := [d] }
  | _ => none }
def FloorLinesWrongFalsely : Prop := floorLinesRow.holds Try.pinned (OpenSpec.ofChange floorLinesWrong)

/-- 'psalterylaw14.FloorFits': WHATEVER THE INPUT: true; the input reads as it did. -/
def floorFitsSpec : ChangeSpec := { name := "floorFits", fn := fun _ => fun
  | [d1, d2] => { results := [.lit (.bool true)], args := [d1, d2] }
  | _ => none }
def floorFitsRow : OpenClaim := { program := "ytoghpjggcfnoeaa", sum := "e6a1324c76674f19f520946023b2f61e7f5e97248340ca2864925da9c5a689c2", func := "psaltery/psalterylaw14.FloorFits", spec := "floorFits", apart := false }
def FloorFitsSaid : Prop := floorFitsRow.holds Try.pinned (OpenSpec.ofChange floorFitsSpec)

/-- ITS FALSE NEIGHBOUR: 'it returns false'. Refute it at one input. -/
def floorFitsWrong : ChangeSpec := { name := "floorFits", fn := fun _ => fun
  | [d1, d2] => { results := [.lit (.bool false)], args := [d1, d2] }
  | _ => none }
def FloorFitsWrongFalsely : Prop := floorFitsRow.holds Try.pinned (OpenSpec.ofChange floorFitsWrong)

/-- 'psalterylaw14.FloorThrough': WHATEVER THE INPUT: true; the input reads as it did. -/
def floorThroughSpec : ChangeSpec := { name := "floorThrough", fn := fun _ => fun
  | [d] => { results := [.lit (.bool true)], args := [d] }
  | _ => none }
def floorThroughRow : OpenClaim := { program := "ytoghpjggcfnoeaa", sum := "e6a1324c76674f19f520946023b2f61e7f5e97248340ca2864925da9c5a689c2", func := "psaltery/psalterylaw14.FloorThrough", spec := "floorThrough", apart := false }
def FloorThroughSaid : Prop := floorThroughRow.holds Try.pinned (OpenSpec.ofChange floorThroughSpec)

/-- ITS FALSE NEIGHBOUR: 'it returns false'. Refute it at one input. -/
def floorThroughWrong : ChangeSpec := { name := "floorThrough", fn := fun _ => fun
  | [d] => { results := [.lit (.bool false)], args := [d] }
  | _ => none }
def FloorThroughWrongFalsely : Prop := floorThroughRow.holds Try.pinned (OpenSpec.ofChange floorThroughWrong)

/-- 'psalterylaw14.FloorBounds': WHATEVER THE INPUT: true; the input reads as it did. -/
def floorBoundsSpec : ChangeSpec := { name := "floorBounds", fn := fun _ => fun
  | [d] => { results := [.lit (.bool true)], args := [d] }
  | _ => none }
def floorBoundsRow : OpenClaim := { program := "ytoghpjggcfnoeaa", sum := "e6a1324c76674f19f520946023b2f61e7f5e97248340ca2864925da9c5a689c2", func := "psaltery/psalterylaw14.FloorBounds", spec := "floorBounds", apart := false }
def FloorBoundsSaid : Prop := floorBoundsRow.holds Try.pinned (OpenSpec.ofChange floorBoundsSpec)

/-- ITS FALSE NEIGHBOUR: 'it returns false'. Refute it at one input. -/
def floorBoundsWrong : ChangeSpec := { name := "floorBounds", fn := fun _ => fun
  | [d] => { results := [.lit (.bool false)], args := [d] }
  | _ => none }
def FloorBoundsWrongFalsely : Prop := floorBoundsRow.holds Try.pinned (OpenSpec.ofChange floorBoundsWrong)

/-- 'psalterylaw14.FloorBest': WHATEVER THE INPUT: true; the input reads as it did. -/
def floorBestSpec : ChangeSpec := { name := "floorBest", fn := fun _ => fun
  | [d1, d2, d3] => { results := [.lit (.bool true)], args := [d1, d2, d3] }
  | _ => none }
def floorBestRow : OpenClaim := { program := "ytoghpjggcfnoeaa", sum := "e6a1324c76674f19f520946023b2f61e7f5e97248340ca2864925da9c5a689c2", func := "psaltery/psalterylaw14.FloorBest", spec := "floorBest", apart := false }
def FloorBestSaid : Prop := floorBestRow.holds Try.pinned (OpenSpec.ofChange floorBestSpec)

/-- ITS FALSE NEIGHBOUR: 'it returns false'. Refute it at one input. -/
def floorBestWrong : ChangeSpec := { name := "floorBest", fn := fun _ => fun
  | [d1, d2, d3] => { results := [.lit (.bool false)], args := [d1, d2, d3] }
  | _ => none }
def FloorBestWrongFalsely : Prop := floorBestRow.holds Try.pinned (OpenSpec.ofChange floorBestWrong)

/-- 'psalterylaw10.BandPlaces': WHATEVER THE INPUT: true; the input reads as it did. -/
def bandPlacesSpec : ChangeSpec := { name := "bandPlaces", fn := fun _ => fun
  | [d1, d2] => { results := [.lit (.bool true)], args := [d1, d2] }
  | _ => none }
def bandPlacesRow : OpenClaim := { program := "ytoghpjggcfnoeaa", sum := "e6a1324c76674f19f520946023b2f61e7f5e97248340ca2864925da9c5a689c2", func := "psaltery/psalterylaw10.BandPlaces", spec := "bandPlaces", apart := false }
def BandPlacesSaid : Prop := bandPlacesRow.holds Try.pinned (OpenSpec.ofChange bandPlacesSpec)

/-- ITS FALSE NEIGHBOUR: 'it returns false'. Refute it at one input. -/
def bandPlacesWrong : ChangeSpec := { name := "bandPlaces", fn := fun _ => fun
  | [d1, d2] => { results := [.lit (.bool false)], args := [d1, d2] }
  | _ => none }
def BandPlacesWrongFalsely : Prop := bandPlacesRow.holds Try.pinned (OpenSpec.ofChange bandPlacesWrong)

/-- 'psalterylaw10.BandGains': WHATEVER THE INPUT: true; the input reads as it did. -/
def bandGainsSpec : ChangeSpec := { name := "bandGains", fn := fun _ => fun
  | [d] => { results := [.lit (.bool true)], args := [d] }
  | _ => none }
def bandGainsRow : OpenClaim := { program := "ytoghpjggcfnoeaa", sum := "e6a1324c76674f19f520946023b2f61e7f5e97248340ca2864925da9c5a689c2", func := "psaltery/psalterylaw10.BandGains", spec := "bandGains", apart := false }
def BandGainsSaid : Prop := bandGainsRow.holds Try.pinned (OpenSpec.ofChange bandGainsSpec)

/-- ITS FALSE NEIGHBOUR: 'it returns false'. Refute it at one input. -/
def bandGainsWrong : ChangeSpec := { name := "bandGains", fn := fun _ => fun
  | [d] => { results := [.lit (.bool false)], args := [d] }
  | _ => none }
def BandGainsWrongFalsely : Prop := bandGainsRow.holds Try.pinned (OpenSpec.ofChange bandGainsWrong)

/-- 'psalterylaw10.BandSplits': WHATEVER THE INPUT: true; the input reads as it did. -/
def bandSplitsSpec : ChangeSpec := { name := "bandSplits", fn := fun _ => fun
  | [d] => { results := [.lit (.bool true)], args := [d] }
  | _ => none }
def bandSplitsRow : OpenClaim := { program := "ytoghpjggcfnoeaa", sum := "e6a1324c76674f19f520946023b2f61e7f5e97248340ca2864925da9c5a689c2", func := "psaltery/psalterylaw10.BandSplits", spec := "bandSplits", apart := false }
def BandSplitsSaid : Prop := bandSplitsRow.holds Try.pinned (OpenSpec.ofChange bandSplitsSpec)

/-- ITS FALSE NEIGHBOUR: 'it returns false'. Refute it at one input. -/
def bandSplitsWrong : ChangeSpec := { name := "bandSplits", fn := fun _ => fun
  | [d] => { results := [.lit (.bool false)], args := [d] }
  | _ => none }
def BandSplitsWrongFalsely : Prop := bandSplitsRow.holds Try.pinned (OpenSpec.ofChange bandSplitsWrong)

/-- 'psalterylaw10.BandNear': WHATEVER THE INPUT: true; the input reads as it did. -/
def bandNearSpec : ChangeSpec := { name := "bandNear", fn := fun _ => fun
  | [d] => { results := [.lit (.bool true)], args := [d] }
  | _ => none }
def bandNearRow : OpenClaim := { program := "ytoghpjggcfnoeaa", sum := "e6a1324c76674f19f520946023b2f61e7f5e97248340ca2864925da9c5a689c2", func := "psaltery/psalterylaw10.BandNear", spec := "bandNear", apart := false }
def BandNearSaid : Prop := bandNearRow.holds Try.pinned (OpenSpec.ofChange bandNearSpec)

/-- ITS FALSE NEIGHBOUR: 'it returns false'. Refute it at one input. -/
def bandNearWrong : ChangeSpec := { name := "bandNear", fn := fun _ => fun
  | [d] => { results := [.lit (.bool false)], args := [d] }
  | _ => none }
def BandNearWrongFalsely : Prop := bandNearRow.holds Try.pinned (OpenSpec.ofChange bandNearWrong)

/-- 'psalterylaw10.BandRises': WHATEVER THE INPUT: true; the input reads as it did. -/
def bandRisesSpec : ChangeSpec := { name := "bandRises", fn := fun _ => fun
  | [d1, d2] => { results := [.lit (.bool true)], args := [d1, d2] }
  | _ => none }
def bandRisesRow : OpenClaim := { program := "ytoghpjggcfnoeaa", sum := "e6a1324c76674f19f520946023b2f61e7f5e97248340ca2864925da9c5a689c2", func := "psaltery/psalterylaw10.BandRises", spec := "bandRises", apart := false }
def BandRisesSaid : Prop := bandRisesRow.holds Try.pinned (OpenSpec.ofChange bandRisesSpec)

/-- ITS FALSE NEIGHBOUR: 'it returns false'. Refute it at one input. -/
def bandRisesWrong : ChangeSpec := { name := "bandRises", fn := fun _ => fun
  | [d1, d2] => { results := [.lit (.bool false)], args := [d1, d2] }
  | _ => none }
def BandRisesWrongFalsely : Prop := bandRisesRow.holds Try.pinned (OpenSpec.ofChange bandRisesWrong)

/-- 'psalterylaw10.BandOwn': WHATEVER THE INPUT: true; the input reads as it did. -/
def bandOwnSpec : ChangeSpec := { name := "bandOwn", fn := fun _ => fun
  | [d] => { results := [.lit (.bool true)], args := [d] }
  | _ => none }
def bandOwnRow : OpenClaim := { program := "ytoghpjggcfnoeaa", sum := "e6a1324c76674f19f520946023b2f61e7f5e97248340ca2864925da9c5a689c2", func := "psaltery/psalterylaw10.BandOwn", spec := "bandOwn", apart := false }
def BandOwnSaid : Prop := bandOwnRow.holds Try.pinned (OpenSpec.ofChange bandOwnSpec)

/-- ITS FALSE NEIGHBOUR: 'it returns false'. Refute it at one input. -/
def bandOwnWrong : ChangeSpec := { name := "bandOwn", fn := fun _ => fun
  | [d] => { results := [.lit (.bool false)], args := [d] }
  | _ => none }
def BandOwnWrongFalsely : Prop := bandOwnRow.holds Try.pinned (OpenSpec.ofChange bandOwnWrong)

/- THE SECOND FORM. 'bulk': how many values and letters a reading holds, each counted each time it is reached (what is shared counts as often as it is met; a slice's spare places count too). A statement '..UptoSaid' is the law's where the arguments, and the package variables that the reading takes, are together of bulk at most 1048576: NARROWER than '..Said'. Prove '..Said' where nothing that the law and all that it calls make is longer than what came in: it says more and counts as full. Else prove '..UptoSaid'. A law counts once. -/
mutual
def uptoBulk {H : Type} : DataW H → Nat
  | .lit (.string bytes) => bytes.length + 1
  | .lit _ => 1
  | .nil => 1
  | .ptr d => uptoBulk d + 1
  | .slice elems spare => uptoBulkAll elems + uptoBulkAll spare + 1
  | .agg parts => uptoBulkAll parts + 1
  | .iface _ d => uptoBulk d + 1
  | .map entries => uptoBulkEntries entries + 1
  | .held _ => 1
def uptoBulkAll {H : Type} : List (DataW H) → Nat
  | [] => 0
  | d :: r => uptoBulk d + uptoBulkAll r
def uptoBulkEntries {H : Type} : List (Lit × DataW H) → Nat
  | [] => 0
  | x :: r => uptoBulkEntry x + uptoBulkEntries r
def uptoBulkEntry {H : Type} : Lit × DataW H → Nat
  | (.string bytes, d) => bytes.length + uptoBulk d + 1
  | (_, d) => uptoBulk d + 1
 end
def uptoSmall : (H : Type) → List (DataW H) → Bool := fun _ ds => decide (uptoBulkAll ds ≤ 1048576)
def OpenSpec.upto (s : _root_.Go.ChangeSpec) : _root_.Go.OpenSpec := { _root_.Go.OpenSpec.ofChange s with cond := some uptoSmall }

/-- 'psalterylaw14.FloorPlaces', WHERE WHAT IT READS IS OF BULK AT MOST 1048576: true; the input reads as it did. -/
def floorPlacesUptoRow : OpenClaim := { program := "ytoghpjggcfnoeaa", sum := "e6a1324c76674f19f520946023b2f61e7f5e97248340ca2864925da9c5a689c2", func := "psaltery/psalterylaw14.FloorPlaces", spec := "floorPlaces", apart := false, narrowed := true }
def FloorPlacesUptoSaid : Prop := floorPlacesUptoRow.holds Try.pinned (OpenSpec.upto floorPlacesSpec)

/-- 'psalterylaw14.FloorLines', WHERE WHAT IT READS IS OF BULK AT MOST 1048576: true; the input reads as it did. -/
def floorLinesUptoRow : OpenClaim := { program := "ytoghpjggcfnoeaa", sum := "e6a1324c76674f19f520946023b2f61e7f5e97248340ca2864925da9c5a689c2", func := "psaltery/psalterylaw14.FloorLines", spec := "floorLines", apart := false, narrowed := true }
def FloorLinesUptoSaid : Prop := floorLinesUptoRow.holds Try.pinned (OpenSpec.upto floorLinesSpec)

/-- 'psalterylaw14.FloorFits', WHERE WHAT IT READS IS OF BULK AT MOST 1048576: true; the input reads as it did. -/
def floorFitsUptoRow : OpenClaim := { program := "ytoghpjggcfnoeaa", sum := "e6a1324c76674f19f520946023b2f61e7f5e97248340ca2864925da9c5a689c2", func := "psaltery/psalterylaw14.FloorFits", spec := "floorFits", apart := false, narrowed := true }
def FloorFitsUptoSaid : Prop := floorFitsUptoRow.holds Try.pinned (OpenSpec.upto floorFitsSpec)

/-- 'psalterylaw14.FloorThrough', WHERE WHAT IT READS IS OF BULK AT MOST 1048576: true; the input reads as it did. -/
def floorThroughUptoRow : OpenClaim := { program := "ytoghpjggcfnoeaa", sum := "e6a1324c76674f19f520946023b2f61e7f5e97248340ca2864925da9c5a689c2", func := "psaltery/psalterylaw14.FloorThrough", spec := "floorThrough", apart := false, narrowed := true }
def FloorThroughUptoSaid : Prop := floorThroughUptoRow.holds Try.pinned (OpenSpec.upto floorThroughSpec)

/-- 'psalterylaw14.FloorBounds', WHERE WHAT IT READS IS OF BULK AT MOST 1048576: true; the input reads as it did. -/
def floorBoundsUptoRow : OpenClaim := { program := "ytoghpjggcfnoeaa", sum := "e6a1324c76674f19f520946023b2f61e7f5e97248340ca2864925da9c5a689c2", func := "psaltery/psalterylaw14.FloorBounds", spec := "floorBounds", apart := false, narrowed := true }
def FloorBoundsUptoSaid : Prop := floorBoundsUptoRow.holds Try.pinned (OpenSpec.upto floorBoundsSpec)

/-- 'psalterylaw14.FloorBest', WHERE WHAT IT READS IS OF BULK AT MOST 1048576: true; the input reads as it did. -/
def floorBestUptoRow : OpenClaim := { program := "ytoghpjggcfnoeaa", sum := "e6a1324c76674f19f520946023b2f61e7f5e97248340ca2864925da9c5a689c2", func := "psaltery/psalterylaw14.FloorBest", spec := "floorBest", apart := false, narrowed := true }
def FloorBestUptoSaid : Prop := floorBestUptoRow.holds Try.pinned (OpenSpec.upto floorBestSpec)

/-- 'psalterylaw10.BandPlaces', WHERE WHAT IT READS IS OF BULK AT MOST 1048576: true; the input reads as it did. -/
def bandPlacesUptoRow : OpenClaim := { program := "ytoghpjggcfnoeaa", sum := "e6a1324c76674f19f520946023b2f61e7f5e97248340ca2864925da9c5a689c2", func := "psaltery/psalterylaw10.BandPlaces", spec := "bandPlaces", apart := false, narrowed := true }
def BandPlacesUptoSaid : Prop := bandPlacesUptoRow.holds Try.pinned (OpenSpec.upto bandPlacesSpec)

/-- 'psalterylaw10.BandGains', WHERE WHAT IT READS IS OF BULK AT MOST 1048576: true; the input reads as it did. -/
def bandGainsUptoRow : OpenClaim := { program := "ytoghpjggcfnoeaa", sum := "e6a1324c76674f19f520946023b2f61e7f5e97248340ca2864925da9c5a689c2", func := "psaltery/psalterylaw10.BandGains", spec := "bandGains", apart := false, narrowed := true }
def BandGainsUptoSaid : Prop := bandGainsUptoRow.holds Try.pinned (OpenSpec.upto bandGainsSpec)

/-- 'psalterylaw10.BandSplits', WHERE WHAT IT READS IS OF BULK AT MOST 1048576: true; the input reads as it did. -/
def bandSplitsUptoRow : OpenClaim := { program := "ytoghpjggcfnoeaa", sum := "e6a1324c76674f19f520946023b2f61e7f5e97248340ca2864925da9c5a689c2", func := "psaltery/psalterylaw10.BandSplits", spec := "bandSplits", apart := false, narrowed := true }
def BandSplitsUptoSaid : Prop := bandSplitsUptoRow.holds Try.pinned (OpenSpec.upto bandSplitsSpec)

/-- 'psalterylaw10.BandNear', WHERE WHAT IT READS IS OF BULK AT MOST 1048576: true; the input reads as it did. -/
def bandNearUptoRow : OpenClaim := { program := "ytoghpjggcfnoeaa", sum := "e6a1324c76674f19f520946023b2f61e7f5e97248340ca2864925da9c5a689c2", func := "psaltery/psalterylaw10.BandNear", spec := "bandNear", apart := false, narrowed := true }
def BandNearUptoSaid : Prop := bandNearUptoRow.holds Try.pinned (OpenSpec.upto bandNearSpec)

/-- 'psalterylaw10.BandRises', WHERE WHAT IT READS IS OF BULK AT MOST 1048576: true; the input reads as it did. -/
def bandRisesUptoRow : OpenClaim := { program := "ytoghpjggcfnoeaa", sum := "e6a1324c76674f19f520946023b2f61e7f5e97248340ca2864925da9c5a689c2", func := "psaltery/psalterylaw10.BandRises", spec := "bandRises", apart := false, narrowed := true }
def BandRisesUptoSaid : Prop := bandRisesUptoRow.holds Try.pinned (OpenSpec.upto bandRisesSpec)

/-- 'psalterylaw10.BandOwn', WHERE WHAT IT READS IS OF BULK AT MOST 1048576: true; the input reads as it did. -/
def bandOwnUptoRow : OpenClaim := { program := "ytoghpjggcfnoeaa", sum := "e6a1324c76674f19f520946023b2f61e7f5e97248340ca2864925da9c5a689c2", func := "psaltery/psalterylaw10.BandOwn", spec := "bandOwn", apart := false, narrowed := true }
def BandOwnUptoSaid : Prop := bandOwnUptoRow.holds Try.pinned (OpenSpec.upto bandOwnSpec)

end Rows
end Go.Proofs.Ytoghpjggcfnoeaa
