/-
  No cell of these rows narrows 'for every input' (looked for: loops, veiled, ifaces, maps, wideKeys, modest, calm, conditions, laid).
  DERIVED. THE GIVEN ROWS OF THIS SEAT. 6 by the template 'for every input the law returns true; each argument reads behind the call as it read before'; 0 by the template 'total and deterministic' (their statements: YtdajlfijkbafiaaTotals.lean).
  GIVEN WITH THE SEED: the statements are not yours to turn. If you find one false, say at which input.
  Laid BY PROGRAM, IN A SANDBOX (cutbox-rows.mjs): the forced cells as the released guide's own fill.sh prints them over the translation bceb3141ac3f3a1b… (all of the seat's roots in one cut). By AI agents, Wed Nov 11 2026. No macro, syntax, notation, axiom, sorry.
-/
import Derived.Test.YtdajlfijkbafiaaChecked
import GoSem.Claim
import GoSem.ClaimJoined
import GoSem.ClaimMapViews
import Derived.JoinedTies
import Derived.KernelRfl
namespace Go.Proofs.Ytdajlfijkbafiaa
/- THE CELL 'sum', in the pinned program and in every row, IS THE sha256 OF THE DUMP (.gsa) THAT YtdajlfijkbafiaaProg.lean LOADS. Nothing in Lean hashes anything: it is a label: what it is worth is what the hold of that sum in a sandbox is worth. -/
noncomputable def Try.pinned : Pinned := { name := "ytdajlfijkbafiaa", sum := "bceb3141ac3f3a1bbbde5d074569d9bfbbcefde992a5b615359b2925bb0fc2cf", checked := Try.checked }
namespace Rows
def none {H : Type} : Left H := { results := [], args := [] }

/-- 'psalterylaw22.VoiceAny': WHATEVER THE INPUT: true; the input reads as it did. -/
def voiceAnySpec : ChangeSpec := { name := "voiceAny", fn := fun _ => fun
  | [d1, d2] => { results := [.lit (.bool true)], args := [d1, d2] }
  | _ => none }
def voiceAnyRow : OpenClaim := { program := "ytdajlfijkbafiaa", sum := "bceb3141ac3f3a1bbbde5d074569d9bfbbcefde992a5b615359b2925bb0fc2cf", func := "psaltery/psalterylaw22.VoiceAny", spec := "voiceAny", unfollowed := true, recurses := true, plainKeys := false, apart := false }
def VoiceAnySaid : Prop := voiceAnyRow.holds Try.pinned (OpenSpec.ofChange voiceAnySpec)

/-- ITS FALSE NEIGHBOUR: 'it returns false'. Refute it at one input. -/
def voiceAnyWrong : ChangeSpec := { name := "voiceAny", fn := fun _ => fun
  | [d1, d2] => { results := [.lit (.bool false)], args := [d1, d2] }
  | _ => none }
def VoiceAnyWrongFalsely : Prop := voiceAnyRow.holds Try.pinned (OpenSpec.ofChange voiceAnyWrong)

/-- 'psalterylaw22.VoiceWrites': WHATEVER THE INPUT: true; the input reads as it did. -/
def voiceWritesSpec : ChangeSpec := { name := "voiceWrites", fn := fun _ => fun
  | [d1, d2] => { results := [.lit (.bool true)], args := [d1, d2] }
  | _ => none }
def voiceWritesRow : OpenClaim := { program := "ytdajlfijkbafiaa", sum := "bceb3141ac3f3a1bbbde5d074569d9bfbbcefde992a5b615359b2925bb0fc2cf", func := "psaltery/psalterylaw22.VoiceWrites", spec := "voiceWrites", unfollowed := true, recurses := true, plainKeys := false, apart := false }
def VoiceWritesSaid : Prop := voiceWritesRow.holds Try.pinned (OpenSpec.ofChange voiceWritesSpec)

/-- ITS FALSE NEIGHBOUR: 'it returns false'. Refute it at one input. -/
def voiceWritesWrong : ChangeSpec := { name := "voiceWrites", fn := fun _ => fun
  | [d1, d2] => { results := [.lit (.bool false)], args := [d1, d2] }
  | _ => none }
def VoiceWritesWrongFalsely : Prop := voiceWritesRow.holds Try.pinned (OpenSpec.ofChange voiceWritesWrong)

/-- 'psalterylaw22.VoiceEncodes': WHATEVER THE INPUT: true; the input reads as it did. -/
def voiceEncodesSpec : ChangeSpec := { name := "voiceEncodes", fn := fun _ => fun
  | [d1, d2] => { results := [.lit (.bool true)], args := [d1, d2] }
  | _ => none }
def voiceEncodesRow : OpenClaim := { program := "ytdajlfijkbafiaa", sum := "bceb3141ac3f3a1bbbde5d074569d9bfbbcefde992a5b615359b2925bb0fc2cf", func := "psaltery/psalterylaw22.VoiceEncodes", spec := "voiceEncodes", unfollowed := true, recurses := true, plainKeys := false, apart := false }
def VoiceEncodesSaid : Prop := voiceEncodesRow.holds Try.pinned (OpenSpec.ofChange voiceEncodesSpec)

/-- ITS FALSE NEIGHBOUR: 'it returns false'. Refute it at one input. -/
def voiceEncodesWrong : ChangeSpec := { name := "voiceEncodes", fn := fun _ => fun
  | [d1, d2] => { results := [.lit (.bool false)], args := [d1, d2] }
  | _ => none }
def VoiceEncodesWrongFalsely : Prop := voiceEncodesRow.holds Try.pinned (OpenSpec.ofChange voiceEncodesWrong)

/-- 'psalterylaw22.VoiceDecodes': WHATEVER THE INPUT: true; the input reads as it did. -/
def voiceDecodesSpec : ChangeSpec := { name := "voiceDecodes", fn := fun _ => fun
  | [d1, d2] => { results := [.lit (.bool true)], args := [d1, d2] }
  | _ => none }
def voiceDecodesRow : OpenClaim := { program := "ytdajlfijkbafiaa", sum := "bceb3141ac3f3a1bbbde5d074569d9bfbbcefde992a5b615359b2925bb0fc2cf", func := "psaltery/psalterylaw22.VoiceDecodes", spec := "voiceDecodes", unfollowed := true, recurses := true, plainKeys := false, apart := false }
def VoiceDecodesSaid : Prop := voiceDecodesRow.holds Try.pinned (OpenSpec.ofChange voiceDecodesSpec)

/-- ITS FALSE NEIGHBOUR: 'it returns false'. Refute it at one input. -/
def voiceDecodesWrong : ChangeSpec := { name := "voiceDecodes", fn := fun _ => fun
  | [d1, d2] => { results := [.lit (.bool false)], args := [d1, d2] }
  | _ => none }
def VoiceDecodesWrongFalsely : Prop := voiceDecodesRow.holds Try.pinned (OpenSpec.ofChange voiceDecodesWrong)

/-- 'psalterylaw22.VoiceNear': WHATEVER THE INPUT: true; the input reads as it did. -/
def voiceNearSpec : ChangeSpec := { name := "voiceNear", fn := fun _ => fun
  | [d1, d2] => { results := [.lit (.bool true)], args := [d1, d2] }
  | _ => none }
def voiceNearRow : OpenClaim := { program := "ytdajlfijkbafiaa", sum := "bceb3141ac3f3a1bbbde5d074569d9bfbbcefde992a5b615359b2925bb0fc2cf", func := "psaltery/psalterylaw22.VoiceNear", spec := "voiceNear", unfollowed := true, recurses := true, plainKeys := false, apart := false }
def VoiceNearSaid : Prop := voiceNearRow.holds Try.pinned (OpenSpec.ofChange voiceNearSpec)

/-- ITS FALSE NEIGHBOUR: 'it returns false'. Refute it at one input. -/
def voiceNearWrong : ChangeSpec := { name := "voiceNear", fn := fun _ => fun
  | [d1, d2] => { results := [.lit (.bool false)], args := [d1, d2] }
  | _ => none }
def VoiceNearWrongFalsely : Prop := voiceNearRow.holds Try.pinned (OpenSpec.ofChange voiceNearWrong)

/-- 'psalterylaw22.VoiceBest': WHATEVER THE INPUT: true; the input reads as it did. -/
def voiceBestSpec : ChangeSpec := { name := "voiceBest", fn := fun _ => fun
  | [d1, d2] => { results := [.lit (.bool true)], args := [d1, d2] }
  | _ => none }
def voiceBestRow : OpenClaim := { program := "ytdajlfijkbafiaa", sum := "bceb3141ac3f3a1bbbde5d074569d9bfbbcefde992a5b615359b2925bb0fc2cf", func := "psaltery/psalterylaw22.VoiceBest", spec := "voiceBest", unfollowed := true, recurses := true, plainKeys := false, apart := false }
def VoiceBestSaid : Prop := voiceBestRow.holds Try.pinned (OpenSpec.ofChange voiceBestSpec)

/-- ITS FALSE NEIGHBOUR: 'it returns false'. Refute it at one input. -/
def voiceBestWrong : ChangeSpec := { name := "voiceBest", fn := fun _ => fun
  | [d1, d2] => { results := [.lit (.bool false)], args := [d1, d2] }
  | _ => none }
def VoiceBestWrongFalsely : Prop := voiceBestRow.holds Try.pinned (OpenSpec.ofChange voiceBestWrong)

/- THE SECOND FORM. 'bulk': how many values and letters a reading holds, each counted each time it is reached (what is shared counts as often as it is met; a slice's spare places count too). A statement '..UptoSaid' is the law's where the arguments, and the package variables that the reading takes, are together of bulk at most 1048576: NARROWER than '..Said'. Prove '..Said' where nothing that the law and all that it calls make is longer than what came in: it says more and counts as full. Else prove '..UptoSaid'. A law counts once. -/
mutual
def uptoBulk {H : Type} : DataW H → Nat
  | .lit (.string bytes) => bytes.length + 1
  | .lit _ => 1
  | .nil => 1
  | .ptr d => uptoBulk d + 1
  | .slice elems spare => uptoBulkAll elems + uptoBulkAll spare + 1
  | .agg parts => uptoBulkAll parts + 1
  | .iface _ d => uptoBulk d + 1
  | .map entries => uptoBulkEntries entries + 1
  | .held _ => 1
def uptoBulkAll {H : Type} : List (DataW H) → Nat
  | [] => 0
  | d :: r => uptoBulk d + uptoBulkAll r
def uptoBulkEntries {H : Type} : List (Lit × DataW H) → Nat
  | [] => 0
  | x :: r => uptoBulkEntry x + uptoBulkEntries r
def uptoBulkEntry {H : Type} : Lit × DataW H → Nat
  | (.string bytes, d) => bytes.length + uptoBulk d + 1
  | (_, d) => uptoBulk d + 1
 end
def uptoSmall : (H : Type) → List (DataW H) → Bool := fun _ ds => decide (uptoBulkAll ds ≤ 1048576)
def OpenSpec.upto (s : _root_.Go.ChangeSpec) : _root_.Go.OpenSpec := { _root_.Go.OpenSpec.ofChange s with cond := some uptoSmall }

/-- 'psalterylaw22.VoiceAny', WHERE WHAT IT READS IS OF BULK AT MOST 1048576: true; the input reads as it did. -/
def voiceAnyUptoRow : OpenClaim := { program := "ytdajlfijkbafiaa", sum := "bceb3141ac3f3a1bbbde5d074569d9bfbbcefde992a5b615359b2925bb0fc2cf", func := "psaltery/psalterylaw22.VoiceAny", spec := "voiceAny", unfollowed := true, recurses := true, plainKeys := false, apart := false, narrowed := true }
def VoiceAnyUptoSaid : Prop := voiceAnyUptoRow.holds Try.pinned (OpenSpec.upto voiceAnySpec)

/-- 'psalterylaw22.VoiceWrites', WHERE WHAT IT READS IS OF BULK AT MOST 1048576: true; the input reads as it did. -/
def voiceWritesUptoRow : OpenClaim := { program := "ytdajlfijkbafiaa", sum := "bceb3141ac3f3a1bbbde5d074569d9bfbbcefde992a5b615359b2925bb0fc2cf", func := "psaltery/psalterylaw22.VoiceWrites", spec := "voiceWrites", unfollowed := true, recurses := true, plainKeys := false, apart := false, narrowed := true }
def VoiceWritesUptoSaid : Prop := voiceWritesUptoRow.holds Try.pinned (OpenSpec.upto voiceWritesSpec)

/-- 'psalterylaw22.VoiceEncodes', WHERE WHAT IT READS IS OF BULK AT MOST 1048576: true; the input reads as it did. -/
def voiceEncodesUptoRow : OpenClaim := { program := "ytdajlfijkbafiaa", sum := "bceb3141ac3f3a1bbbde5d074569d9bfbbcefde992a5b615359b2925bb0fc2cf", func := "psaltery/psalterylaw22.VoiceEncodes", spec := "voiceEncodes", unfollowed := true, recurses := true, plainKeys := false, apart := false, narrowed := true }
def VoiceEncodesUptoSaid : Prop := voiceEncodesUptoRow.holds Try.pinned (OpenSpec.upto voiceEncodesSpec)

/-- 'psalterylaw22.VoiceDecodes', WHERE WHAT IT READS IS OF BULK AT MOST 1048576: true; the input reads as it did. -/
def voiceDecodesUptoRow : OpenClaim := { program := "ytdajlfijkbafiaa", sum := "bceb3141ac3f3a1bbbde5d074569d9bfbbcefde992a5b615359b2925bb0fc2cf", func := "psaltery/psalterylaw22.VoiceDecodes", spec := "voiceDecodes", unfollowed := true, recurses := true, plainKeys := false, apart := false, narrowed := true }
def VoiceDecodesUptoSaid : Prop := voiceDecodesUptoRow.holds Try.pinned (OpenSpec.upto voiceDecodesSpec)

/-- 'psalterylaw22.VoiceNear', WHERE WHAT IT READS IS OF BULK AT MOST 1048576: true; the input reads as it did. -/
def voiceNearUptoRow : OpenClaim := { program := "ytdajlfijkbafiaa", sum := "bceb3141ac3f3a1bbbde5d074569d9bfbbcefde992a5b615359b2925bb0fc2cf", func := "psaltery/psalterylaw22.VoiceNear", spec := "voiceNear", unfollowed := true, recurses := true, plainKeys := false, apart := false, narrowed := true }
def VoiceNearUptoSaid : Prop := voiceNearUptoRow.holds Try.pinned (OpenSpec.upto voiceNearSpec)

/-- 'psalterylaw22.VoiceBest', WHERE WHAT IT READS IS OF BULK AT MOST 1048576: true; the input reads as it did. -/
def voiceBestUptoRow : OpenClaim := { program := "ytdajlfijkbafiaa", sum := "bceb3141ac3f3a1bbbde5d074569d9bfbbcefde992a5b615359b2925bb0fc2cf", func := "psaltery/psalterylaw22.VoiceBest", spec := "voiceBest", unfollowed := true, recurses := true, plainKeys := false, apart := false, narrowed := true }
def VoiceBestUptoSaid : Prop := voiceBestUptoRow.holds Try.pinned (OpenSpec.upto voiceBestSpec)

end Rows
end Go.Proofs.Ytdajlfijkbafiaa
