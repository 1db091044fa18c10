/-
  No cell of these rows narrows 'for every input' (looked for: loops, veiled, ifaces, maps, wideKeys, modest, calm, conditions, laid).
  DERIVED. THE GIVEN ROWS OF THIS SEAT. 9 by the template 'for every input the law returns true; each argument reads behind the call as it read before'; 0 by the template 'total and deterministic' (their statements: YthpmachmnoljeaaGreatTotals.lean).
  GIVEN WITH THE SEED: the statements are not yours to turn. If you find one false, say at which input.
  Laid BY PROGRAM, IN A SANDBOX (cutbox-rows.mjs): the forced cells as the released guide's own fill.sh prints them over the translation 0a09d054b072be0a… (all of the seat's roots in one cut). By AI agents, Wed Nov 11 2026. No macro, syntax, notation, axiom, sorry.
-/
import Derived.Test.YthpmachmnoljeaaGreatChecked
import GoSem.Claim
import GoSem.ClaimJoined
import GoSem.ClaimMapViews
import Derived.JoinedTies
import Derived.KernelRfl
namespace Go.Proofs.YthpmachmnoljeaaGreat
/- THE CELL 'sum', in the pinned program and in every row, IS THE sha256 OF THE DUMP (.gsa) THAT YthpmachmnoljeaaGreatProg.lean LOADS. Nothing in Lean hashes anything: it is a label: what it is worth is what the hold of that sum in a sandbox is worth. -/
noncomputable def Tryz.pinned : Pinned := { name := "ythpmachmnoljeaagreat", sum := "0a09d054b072be0af97b008733bdaea7380dc15d7c7198b6c8f4362002d21135", checked := Tryz.checked }
namespace Rows
def none {H : Type} : Left H := { results := [], args := [] }

/-- 'comitialaw13.WaveletTurned': WHATEVER THE INPUT: true; the input reads as it did. -/
def waveletTurnedSpec : ChangeSpec := { name := "waveletTurned", fn := fun _ => fun
  | [d1, d2, d3, d4, d5] => { results := [.lit (.bool true)], args := [d1, d2, d3, d4, d5] }
  | _ => none }
def waveletTurnedRow : OpenClaim := { program := "ythpmachmnoljeaagreat", sum := "0a09d054b072be0af97b008733bdaea7380dc15d7c7198b6c8f4362002d21135", func := "comitia/comitialaw13.WaveletTurned", spec := "waveletTurned", unfollowed := true, recurses := true, apart := false }
def WaveletTurnedSaid : Prop := waveletTurnedRow.holds Tryz.pinned (OpenSpec.ofChange waveletTurnedSpec)

/-- ITS FALSE NEIGHBOUR: 'it returns false'. Refute it at one input. -/
def waveletTurnedWrong : ChangeSpec := { name := "waveletTurned", fn := fun _ => fun
  | [d1, d2, d3, d4, d5] => { results := [.lit (.bool false)], args := [d1, d2, d3, d4, d5] }
  | _ => none }
def WaveletTurnedWrongFalsely : Prop := waveletTurnedRow.holds Tryz.pinned (OpenSpec.ofChange waveletTurnedWrong)

/-- 'comitialaw13.WaveletFolds': WHATEVER THE INPUT: true; the input reads as it did. -/
def waveletFoldsSpec : ChangeSpec := { name := "waveletFolds", fn := fun _ => fun
  | [d1, d2, d3] => { results := [.lit (.bool true)], args := [d1, d2, d3] }
  | _ => none }
def waveletFoldsRow : OpenClaim := { program := "ythpmachmnoljeaagreat", sum := "0a09d054b072be0af97b008733bdaea7380dc15d7c7198b6c8f4362002d21135", func := "comitia/comitialaw13.WaveletFolds", spec := "waveletFolds", unfollowed := true, recurses := true, apart := false }
def WaveletFoldsSaid : Prop := waveletFoldsRow.holds Tryz.pinned (OpenSpec.ofChange waveletFoldsSpec)

/-- ITS FALSE NEIGHBOUR: 'it returns false'. Refute it at one input. -/
def waveletFoldsWrong : ChangeSpec := { name := "waveletFolds", fn := fun _ => fun
  | [d1, d2, d3] => { results := [.lit (.bool false)], args := [d1, d2, d3] }
  | _ => none }
def WaveletFoldsWrongFalsely : Prop := waveletFoldsRow.holds Tryz.pinned (OpenSpec.ofChange waveletFoldsWrong)

/-- 'comitialaw15.RemotePlays': WHATEVER THE INPUT: true; the input reads as it did. -/
def remotePlaysSpec : ChangeSpec := { name := "remotePlays", fn := fun _ => fun
  | [d1, d2, d3, d4] => { results := [.lit (.bool true)], args := [d1, d2, d3, d4] }
  | _ => none }
def remotePlaysRow : OpenClaim := { program := "ythpmachmnoljeaagreat", sum := "0a09d054b072be0af97b008733bdaea7380dc15d7c7198b6c8f4362002d21135", func := "comitia/comitialaw15.RemotePlays", spec := "remotePlays", inPlace := ["slices.overlaps[[]byte]"], unfollowed := true, recurses := true, apart := false }
def RemotePlaysSaid : Prop := remotePlaysRow.holds Tryz.pinned (OpenSpec.ofChange remotePlaysSpec)

/-- ITS FALSE NEIGHBOUR: 'it returns false'. Refute it at one input. -/
def remotePlaysWrong : ChangeSpec := { name := "remotePlays", fn := fun _ => fun
  | [d1, d2, d3, d4] => { results := [.lit (.bool false)], args := [d1, d2, d3, d4] }
  | _ => none }
def RemotePlaysWrongFalsely : Prop := remotePlaysRow.holds Tryz.pinned (OpenSpec.ofChange remotePlaysWrong)

/-- 'comitialaw15.RemoteFollows': WHATEVER THE INPUT: true; the input reads as it did. -/
def remoteFollowsSpec : ChangeSpec := { name := "remoteFollows", fn := fun _ => fun
  | [d1, d2] => { results := [.lit (.bool true)], args := [d1, d2] }
  | _ => none }
def remoteFollowsRow : OpenClaim := { program := "ythpmachmnoljeaagreat", sum := "0a09d054b072be0af97b008733bdaea7380dc15d7c7198b6c8f4362002d21135", func := "comitia/comitialaw15.RemoteFollows", spec := "remoteFollows", inPlace := ["slices.overlaps[[]byte]"], unfollowed := true, recurses := true, apart := false }
def RemoteFollowsSaid : Prop := remoteFollowsRow.holds Tryz.pinned (OpenSpec.ofChange remoteFollowsSpec)

/-- ITS FALSE NEIGHBOUR: 'it returns false'. Refute it at one input. -/
def remoteFollowsWrong : ChangeSpec := { name := "remoteFollows", fn := fun _ => fun
  | [d1, d2] => { results := [.lit (.bool false)], args := [d1, d2] }
  | _ => none }
def RemoteFollowsWrongFalsely : Prop := remoteFollowsRow.holds Tryz.pinned (OpenSpec.ofChange remoteFollowsWrong)

/-- 'comitialaw15.RemoteWaits': WHATEVER THE INPUT: true; the input reads as it did. -/
def remoteWaitsSpec : ChangeSpec := { name := "remoteWaits", fn := fun _ => fun
  | [d1, d2] => { results := [.lit (.bool true)], args := [d1, d2] }
  | _ => none }
def remoteWaitsRow : OpenClaim := { program := "ythpmachmnoljeaagreat", sum := "0a09d054b072be0af97b008733bdaea7380dc15d7c7198b6c8f4362002d21135", func := "comitia/comitialaw15.RemoteWaits", spec := "remoteWaits", inPlace := ["slices.overlaps[[]byte]"], unfollowed := true, recurses := true, apart := false }
def RemoteWaitsSaid : Prop := remoteWaitsRow.holds Tryz.pinned (OpenSpec.ofChange remoteWaitsSpec)

/-- ITS FALSE NEIGHBOUR: 'it returns false'. Refute it at one input. -/
def remoteWaitsWrong : ChangeSpec := { name := "remoteWaits", fn := fun _ => fun
  | [d1, d2] => { results := [.lit (.bool false)], args := [d1, d2] }
  | _ => none }
def RemoteWaitsWrongFalsely : Prop := remoteWaitsRow.holds Tryz.pinned (OpenSpec.ofChange remoteWaitsWrong)

/-- 'comitialaw15.RemoteForged': WHATEVER THE INPUT: true; the input reads as it did. -/
def remoteForgedSpec : ChangeSpec := { name := "remoteForged", fn := fun _ => fun
  | [d1, d2, d3, d4] => { results := [.lit (.bool true)], args := [d1, d2, d3, d4] }
  | _ => none }
def remoteForgedRow : OpenClaim := { program := "ythpmachmnoljeaagreat", sum := "0a09d054b072be0af97b008733bdaea7380dc15d7c7198b6c8f4362002d21135", func := "comitia/comitialaw15.RemoteForged", spec := "remoteForged", inPlace := ["slices.overlaps[[]byte]"], unfollowed := true, recurses := true, apart := false }
def RemoteForgedSaid : Prop := remoteForgedRow.holds Tryz.pinned (OpenSpec.ofChange remoteForgedSpec)

/-- ITS FALSE NEIGHBOUR: 'it returns false'. Refute it at one input. -/
def remoteForgedWrong : ChangeSpec := { name := "remoteForged", fn := fun _ => fun
  | [d1, d2, d3, d4] => { results := [.lit (.bool false)], args := [d1, d2, d3, d4] }
  | _ => none }
def RemoteForgedWrongFalsely : Prop := remoteForgedRow.holds Tryz.pinned (OpenSpec.ofChange remoteForgedWrong)

/-- 'comitialaw15.RemoteAgain': WHATEVER THE INPUT: true; the input reads as it did. -/
def remoteAgainSpec : ChangeSpec := { name := "remoteAgain", fn := fun _ => fun
  | [d1, d2, d3] => { results := [.lit (.bool true)], args := [d1, d2, d3] }
  | _ => none }
def remoteAgainRow : OpenClaim := { program := "ythpmachmnoljeaagreat", sum := "0a09d054b072be0af97b008733bdaea7380dc15d7c7198b6c8f4362002d21135", func := "comitia/comitialaw15.RemoteAgain", spec := "remoteAgain", inPlace := ["slices.overlaps[[]byte]"], unfollowed := true, recurses := true, apart := false }
def RemoteAgainSaid : Prop := remoteAgainRow.holds Tryz.pinned (OpenSpec.ofChange remoteAgainSpec)

/-- ITS FALSE NEIGHBOUR: 'it returns false'. Refute it at one input. -/
def remoteAgainWrong : ChangeSpec := { name := "remoteAgain", fn := fun _ => fun
  | [d1, d2, d3] => { results := [.lit (.bool false)], args := [d1, d2, d3] }
  | _ => none }
def RemoteAgainWrongFalsely : Prop := remoteAgainRow.holds Tryz.pinned (OpenSpec.ofChange remoteAgainWrong)

/-- 'comitialaw15.RemoteBack': WHATEVER THE INPUT: true; the input reads as it did. -/
def remoteBackSpec : ChangeSpec := { name := "remoteBack", fn := fun _ => fun
  | [d1, d2] => { results := [.lit (.bool true)], args := [d1, d2] }
  | _ => none }
def remoteBackRow : OpenClaim := { program := "ythpmachmnoljeaagreat", sum := "0a09d054b072be0af97b008733bdaea7380dc15d7c7198b6c8f4362002d21135", func := "comitia/comitialaw15.RemoteBack", spec := "remoteBack", inPlace := ["slices.overlaps[[]byte]"], unfollowed := true, recurses := true, apart := false }
def RemoteBackSaid : Prop := remoteBackRow.holds Tryz.pinned (OpenSpec.ofChange remoteBackSpec)

/-- ITS FALSE NEIGHBOUR: 'it returns false'. Refute it at one input. -/
def remoteBackWrong : ChangeSpec := { name := "remoteBack", fn := fun _ => fun
  | [d1, d2] => { results := [.lit (.bool false)], args := [d1, d2] }
  | _ => none }
def RemoteBackWrongFalsely : Prop := remoteBackRow.holds Tryz.pinned (OpenSpec.ofChange remoteBackWrong)

/-- 'comitialaw15.RemoteOther': WHATEVER THE INPUT: true; the input reads as it did. -/
def remoteOtherSpec : ChangeSpec := { name := "remoteOther", fn := fun _ => fun
  | [d1, d2] => { results := [.lit (.bool true)], args := [d1, d2] }
  | _ => none }
def remoteOtherRow : OpenClaim := { program := "ythpmachmnoljeaagreat", sum := "0a09d054b072be0af97b008733bdaea7380dc15d7c7198b6c8f4362002d21135", func := "comitia/comitialaw15.RemoteOther", spec := "remoteOther", inPlace := ["slices.overlaps[[]byte]"], unfollowed := true, recurses := true, apart := false }
def RemoteOtherSaid : Prop := remoteOtherRow.holds Tryz.pinned (OpenSpec.ofChange remoteOtherSpec)

/-- ITS FALSE NEIGHBOUR: 'it returns false'. Refute it at one input. -/
def remoteOtherWrong : ChangeSpec := { name := "remoteOther", fn := fun _ => fun
  | [d1, d2] => { results := [.lit (.bool false)], args := [d1, d2] }
  | _ => none }
def RemoteOtherWrongFalsely : Prop := remoteOtherRow.holds Tryz.pinned (OpenSpec.ofChange remoteOtherWrong)

/- THE SECOND FORM. 'bulk': how many values and letters a reading holds, each counted each time it is reached (what is shared counts as often as it is met; a slice's spare places count too). A statement '..UptoSaid' is the law's where the arguments, and the package variables that the reading takes, are together of bulk at most 1048576: NARROWER than '..Said'. Prove '..Said' where nothing that the law and all that it calls make is longer than what came in: it says more and counts as full. Else prove '..UptoSaid'. A law counts once. -/
mutual
def uptoBulk {H : Type} : DataW H → Nat
  | .lit (.string bytes) => bytes.length + 1
  | .lit _ => 1
  | .nil => 1
  | .ptr d => uptoBulk d + 1
  | .slice elems spare => uptoBulkAll elems + uptoBulkAll spare + 1
  | .agg parts => uptoBulkAll parts + 1
  | .iface _ d => uptoBulk d + 1
  | .map entries => uptoBulkEntries entries + 1
  | .held _ => 1
def uptoBulkAll {H : Type} : List (DataW H) → Nat
  | [] => 0
  | d :: r => uptoBulk d + uptoBulkAll r
def uptoBulkEntries {H : Type} : List (Lit × DataW H) → Nat
  | [] => 0
  | x :: r => uptoBulkEntry x + uptoBulkEntries r
def uptoBulkEntry {H : Type} : Lit × DataW H → Nat
  | (.string bytes, d) => bytes.length + uptoBulk d + 1
  | (_, d) => uptoBulk d + 1
 end
def uptoSmall : (H : Type) → List (DataW H) → Bool := fun _ ds => decide (uptoBulkAll ds ≤ 1048576)
def OpenSpec.upto (s : _root_.Go.ChangeSpec) : _root_.Go.OpenSpec := { _root_.Go.OpenSpec.ofChange s with cond := some uptoSmall }

/-- 'comitialaw13.WaveletTurned', WHERE WHAT IT READS IS OF BULK AT MOST 1048576: true; the input reads as it did. -/
def waveletTurnedUptoRow : OpenClaim := { program := "ythpmachmnoljeaagreat", sum := "0a09d054b072be0af97b008733bdaea7380dc15d7c7198b6c8f4362002d21135", func := "comitia/comitialaw13.WaveletTurned", spec := "waveletTurned", unfollowed := true, recurses := true, apart := false, narrowed := true }
def WaveletTurnedUptoSaid : Prop := waveletTurnedUptoRow.holds Tryz.pinned (OpenSpec.upto waveletTurnedSpec)

/-- 'comitialaw13.WaveletFolds', WHERE WHAT IT READS IS OF BULK AT MOST 1048576: true; the input reads as it did. -/
def waveletFoldsUptoRow : OpenClaim := { program := "ythpmachmnoljeaagreat", sum := "0a09d054b072be0af97b008733bdaea7380dc15d7c7198b6c8f4362002d21135", func := "comitia/comitialaw13.WaveletFolds", spec := "waveletFolds", unfollowed := true, recurses := true, apart := false, narrowed := true }
def WaveletFoldsUptoSaid : Prop := waveletFoldsUptoRow.holds Tryz.pinned (OpenSpec.upto waveletFoldsSpec)

/-- 'comitialaw15.RemotePlays', WHERE WHAT IT READS IS OF BULK AT MOST 1048576: true; the input reads as it did. -/
def remotePlaysUptoRow : OpenClaim := { program := "ythpmachmnoljeaagreat", sum := "0a09d054b072be0af97b008733bdaea7380dc15d7c7198b6c8f4362002d21135", func := "comitia/comitialaw15.RemotePlays", spec := "remotePlays", inPlace := ["slices.overlaps[[]byte]"], unfollowed := true, recurses := true, apart := false, narrowed := true }
def RemotePlaysUptoSaid : Prop := remotePlaysUptoRow.holds Tryz.pinned (OpenSpec.upto remotePlaysSpec)

/-- 'comitialaw15.RemoteFollows', WHERE WHAT IT READS IS OF BULK AT MOST 1048576: true; the input reads as it did. -/
def remoteFollowsUptoRow : OpenClaim := { program := "ythpmachmnoljeaagreat", sum := "0a09d054b072be0af97b008733bdaea7380dc15d7c7198b6c8f4362002d21135", func := "comitia/comitialaw15.RemoteFollows", spec := "remoteFollows", inPlace := ["slices.overlaps[[]byte]"], unfollowed := true, recurses := true, apart := false, narrowed := true }
def RemoteFollowsUptoSaid : Prop := remoteFollowsUptoRow.holds Tryz.pinned (OpenSpec.upto remoteFollowsSpec)

/-- 'comitialaw15.RemoteWaits', WHERE WHAT IT READS IS OF BULK AT MOST 1048576: true; the input reads as it did. -/
def remoteWaitsUptoRow : OpenClaim := { program := "ythpmachmnoljeaagreat", sum := "0a09d054b072be0af97b008733bdaea7380dc15d7c7198b6c8f4362002d21135", func := "comitia/comitialaw15.RemoteWaits", spec := "remoteWaits", inPlace := ["slices.overlaps[[]byte]"], unfollowed := true, recurses := true, apart := false, narrowed := true }
def RemoteWaitsUptoSaid : Prop := remoteWaitsUptoRow.holds Tryz.pinned (OpenSpec.upto remoteWaitsSpec)

/-- 'comitialaw15.RemoteForged', WHERE WHAT IT READS IS OF BULK AT MOST 1048576: true; the input reads as it did. -/
def remoteForgedUptoRow : OpenClaim := { program := "ythpmachmnoljeaagreat", sum := "0a09d054b072be0af97b008733bdaea7380dc15d7c7198b6c8f4362002d21135", func := "comitia/comitialaw15.RemoteForged", spec := "remoteForged", inPlace := ["slices.overlaps[[]byte]"], unfollowed := true, recurses := true, apart := false, narrowed := true }
def RemoteForgedUptoSaid : Prop := remoteForgedUptoRow.holds Tryz.pinned (OpenSpec.upto remoteForgedSpec)

/-- 'comitialaw15.RemoteAgain', WHERE WHAT IT READS IS OF BULK AT MOST 1048576: true; the input reads as it did. -/
def remoteAgainUptoRow : OpenClaim := { program := "ythpmachmnoljeaagreat", sum := "0a09d054b072be0af97b008733bdaea7380dc15d7c7198b6c8f4362002d21135", func := "comitia/comitialaw15.RemoteAgain", spec := "remoteAgain", inPlace := ["slices.overlaps[[]byte]"], unfollowed := true, recurses := true, apart := false, narrowed := true }
def RemoteAgainUptoSaid : Prop := remoteAgainUptoRow.holds Tryz.pinned (OpenSpec.upto remoteAgainSpec)

/-- 'comitialaw15.RemoteBack', WHERE WHAT IT READS IS OF BULK AT MOST 1048576: true; the input reads as it did. -/
def remoteBackUptoRow : OpenClaim := { program := "ythpmachmnoljeaagreat", sum := "0a09d054b072be0af97b008733bdaea7380dc15d7c7198b6c8f4362002d21135", func := "comitia/comitialaw15.RemoteBack", spec := "remoteBack", inPlace := ["slices.overlaps[[]byte]"], unfollowed := true, recurses := true, apart := false, narrowed := true }
def RemoteBackUptoSaid : Prop := remoteBackUptoRow.holds Tryz.pinned (OpenSpec.upto remoteBackSpec)

/-- 'comitialaw15.RemoteOther', WHERE WHAT IT READS IS OF BULK AT MOST 1048576: true; the input reads as it did. -/
def remoteOtherUptoRow : OpenClaim := { program := "ythpmachmnoljeaagreat", sum := "0a09d054b072be0af97b008733bdaea7380dc15d7c7198b6c8f4362002d21135", func := "comitia/comitialaw15.RemoteOther", spec := "remoteOther", inPlace := ["slices.overlaps[[]byte]"], unfollowed := true, recurses := true, apart := false, narrowed := true }
def RemoteOtherUptoSaid : Prop := remoteOtherUptoRow.holds Tryz.pinned (OpenSpec.upto remoteOtherSpec)

end Rows
end Go.Proofs.YthpmachmnoljeaaGreat
