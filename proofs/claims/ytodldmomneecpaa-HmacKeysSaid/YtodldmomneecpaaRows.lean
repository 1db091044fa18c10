/-
  No cell of these rows narrows 'for every input' (looked for: loops, veiled, ifaces, maps, wideKeys, modest, calm, conditions, laid).
  DERIVED. THE GIVEN ROWS OF THIS SEAT. 10 by the template 'for every input the law returns true; each argument reads behind the call as it read before'; 0 by the template 'total and deterministic' (their statements: YtodldmomneecpaaTotals.lean).
  GIVEN WITH THE SEED: the statements are not yours to turn. If you find one false, say at which input.
  Laid BY PROGRAM, IN A SANDBOX (cutbox-rows.mjs): the forced cells as the released guide's own fill.sh prints them over the translation 50bb8f85de1c4b5c… (all of the seat's roots in one cut). By AI agents, Wed Nov 11 2026. No macro, syntax, notation, axiom, sorry.
-/
import Derived.Test.YtodldmomneecpaaChecked
import GoSem.Claim
import GoSem.ClaimJoined
import GoSem.ClaimMapViews
import Derived.JoinedTies
import Derived.KernelRfl
namespace Go.Proofs.Ytodldmomneecpaa
/- THE CELL 'sum', in the pinned program and in every row, IS THE sha256 OF THE DUMP (.gsa) THAT YtodldmomneecpaaProg.lean LOADS. Nothing in Lean hashes anything: it is a label: what it is worth is what the hold of that sum in a sandbox is worth. -/
noncomputable def Try.pinned : Pinned := { name := "ytodldmomneecpaa", sum := "50bb8f85de1c4b5c94b2a16ce94855a8db7a0034bb4e8ac9f1505fef318b0a00", checked := Try.checked }
namespace Rows
def none {H : Type} : Left H := { results := [], args := [] }

/-- 'comitialaw3.HmacSigns': WHATEVER THE INPUT: true; the input reads as it did. -/
def hmacSignsSpec : ChangeSpec := { name := "hmacSigns", fn := fun _ => fun
  | [d1, d2] => { results := [.lit (.bool true)], args := [d1, d2] }
  | _ => none }
def hmacSignsRow : OpenClaim := { program := "ytodldmomneecpaa", sum := "50bb8f85de1c4b5c94b2a16ce94855a8db7a0034bb4e8ac9f1505fef318b0a00", func := "comitia/comitialaw3.HmacSigns", spec := "hmacSigns", inPlace := ["slices.overlaps[[]byte]"], apart := false }
def HmacSignsSaid : Prop := hmacSignsRow.holds Try.pinned (OpenSpec.ofChange hmacSignsSpec)

/-- ITS FALSE NEIGHBOUR: 'it returns false'. Refute it at one input. -/
def hmacSignsWrong : ChangeSpec := { name := "hmacSigns", fn := fun _ => fun
  | [d1, d2] => { results := [.lit (.bool false)], args := [d1, d2] }
  | _ => none }
def HmacSignsWrongFalsely : Prop := hmacSignsRow.holds Try.pinned (OpenSpec.ofChange hmacSignsWrong)

/-- 'comitialaw3.HmacKeys': WHATEVER THE INPUT: true; the input reads as it did. -/
def hmacKeysSpec : ChangeSpec := { name := "hmacKeys", fn := fun _ => fun
  | [d1, d2, d3] => { results := [.lit (.bool true)], args := [d1, d2, d3] }
  | _ => none }
def hmacKeysRow : OpenClaim := { program := "ytodldmomneecpaa", sum := "50bb8f85de1c4b5c94b2a16ce94855a8db7a0034bb4e8ac9f1505fef318b0a00", func := "comitia/comitialaw3.HmacKeys", spec := "hmacKeys", inPlace := ["slices.overlaps[[]byte]"], apart := false }
def HmacKeysSaid : Prop := hmacKeysRow.holds Try.pinned (OpenSpec.ofChange hmacKeysSpec)

/-- ITS FALSE NEIGHBOUR: 'it returns false'. Refute it at one input. -/
def hmacKeysWrong : ChangeSpec := { name := "hmacKeys", fn := fun _ => fun
  | [d1, d2, d3] => { results := [.lit (.bool false)], args := [d1, d2, d3] }
  | _ => none }
def HmacKeysWrongFalsely : Prop := hmacKeysRow.holds Try.pinned (OpenSpec.ofChange hmacKeysWrong)

/-- 'comitialaw3.HmacApart': WHATEVER THE INPUT: true; the input reads as it did. -/
def hmacApartSpec : ChangeSpec := { name := "hmacApart", fn := fun _ => fun
  | [d1, d2, d3, d4] => { results := [.lit (.bool true)], args := [d1, d2, d3, d4] }
  | _ => none }
def hmacApartRow : OpenClaim := { program := "ytodldmomneecpaa", sum := "50bb8f85de1c4b5c94b2a16ce94855a8db7a0034bb4e8ac9f1505fef318b0a00", func := "comitia/comitialaw3.HmacApart", spec := "hmacApart", inPlace := ["slices.overlaps[[]byte]"], apart := false }
def HmacApartSaid : Prop := hmacApartRow.holds Try.pinned (OpenSpec.ofChange hmacApartSpec)

/-- ITS FALSE NEIGHBOUR: 'it returns false'. Refute it at one input. -/
def hmacApartWrong : ChangeSpec := { name := "hmacApart", fn := fun _ => fun
  | [d1, d2, d3, d4] => { results := [.lit (.bool false)], args := [d1, d2, d3, d4] }
  | _ => none }
def HmacApartWrongFalsely : Prop := hmacApartRow.holds Try.pinned (OpenSpec.ofChange hmacApartWrong)

/-- 'comitialaw3.HmacLays': WHATEVER THE INPUT: true; the input reads as it did. -/
def hmacLaysSpec : ChangeSpec := { name := "hmacLays", fn := fun _ => fun
  | [d1, d2] => { results := [.lit (.bool true)], args := [d1, d2] }
  | _ => none }
def hmacLaysRow : OpenClaim := { program := "ytodldmomneecpaa", sum := "50bb8f85de1c4b5c94b2a16ce94855a8db7a0034bb4e8ac9f1505fef318b0a00", func := "comitia/comitialaw3.HmacLays", spec := "hmacLays", inPlace := ["slices.overlaps[[]byte]"], apart := false }
def HmacLaysSaid : Prop := hmacLaysRow.holds Try.pinned (OpenSpec.ofChange hmacLaysSpec)

/-- ITS FALSE NEIGHBOUR: 'it returns false'. Refute it at one input. -/
def hmacLaysWrong : ChangeSpec := { name := "hmacLays", fn := fun _ => fun
  | [d1, d2] => { results := [.lit (.bool false)], args := [d1, d2] }
  | _ => none }
def HmacLaysWrongFalsely : Prop := hmacLaysRow.holds Try.pinned (OpenSpec.ofChange hmacLaysWrong)

/-- 'comitialaw3.HmacKeeps': WHATEVER THE INPUT: true; the input reads as it did. -/
def hmacKeepsSpec : ChangeSpec := { name := "hmacKeeps", fn := fun _ => fun
  | [d1, d2] => { results := [.lit (.bool true)], args := [d1, d2] }
  | _ => none }
def hmacKeepsRow : OpenClaim := { program := "ytodldmomneecpaa", sum := "50bb8f85de1c4b5c94b2a16ce94855a8db7a0034bb4e8ac9f1505fef318b0a00", func := "comitia/comitialaw3.HmacKeeps", spec := "hmacKeeps", inPlace := ["slices.overlaps[[]byte]"], apart := false }
def HmacKeepsSaid : Prop := hmacKeepsRow.holds Try.pinned (OpenSpec.ofChange hmacKeepsSpec)

/-- ITS FALSE NEIGHBOUR: 'it returns false'. Refute it at one input. -/
def hmacKeepsWrong : ChangeSpec := { name := "hmacKeeps", fn := fun _ => fun
  | [d1, d2] => { results := [.lit (.bool false)], args := [d1, d2] }
  | _ => none }
def HmacKeepsWrongFalsely : Prop := hmacKeepsRow.holds Try.pinned (OpenSpec.ofChange hmacKeepsWrong)

/-- 'comitialaw2.ShaSums': WHATEVER THE INPUT: true; the input reads as it did. -/
def shaSumsSpec : ChangeSpec := { name := "shaSums", fn := fun _ => fun
  | [d1, d2, d3] => { results := [.lit (.bool true)], args := [d1, d2, d3] }
  | _ => none }
def shaSumsRow : OpenClaim := { program := "ytodldmomneecpaa", sum := "50bb8f85de1c4b5c94b2a16ce94855a8db7a0034bb4e8ac9f1505fef318b0a00", func := "comitia/comitialaw2.ShaSums", spec := "shaSums", inPlace := ["internal/abi.NoEscape", "internal/bytealg.MakeNoZero"], apart := false }
def ShaSumsSaid : Prop := shaSumsRow.holds Try.pinned (OpenSpec.ofChange shaSumsSpec)

/-- ITS FALSE NEIGHBOUR: 'it returns false'. Refute it at one input. -/
def shaSumsWrong : ChangeSpec := { name := "shaSums", fn := fun _ => fun
  | [d1, d2, d3] => { results := [.lit (.bool false)], args := [d1, d2, d3] }
  | _ => none }
def ShaSumsWrongFalsely : Prop := shaSumsRow.holds Try.pinned (OpenSpec.ofChange shaSumsWrong)

/-- 'comitialaw2.ShaLong': WHATEVER THE INPUT: true; the input reads as it did. -/
def shaLongSpec : ChangeSpec := { name := "shaLong", fn := fun _ => fun
  | [d1, d2, d3, d4] => { results := [.lit (.bool true)], args := [d1, d2, d3, d4] }
  | _ => none }
def shaLongRow : OpenClaim := { program := "ytodldmomneecpaa", sum := "50bb8f85de1c4b5c94b2a16ce94855a8db7a0034bb4e8ac9f1505fef318b0a00", func := "comitia/comitialaw2.ShaLong", spec := "shaLong", inPlace := ["internal/abi.NoEscape", "internal/bytealg.MakeNoZero"], apart := false }
def ShaLongSaid : Prop := shaLongRow.holds Try.pinned (OpenSpec.ofChange shaLongSpec)

/-- ITS FALSE NEIGHBOUR: 'it returns false'. Refute it at one input. -/
def shaLongWrong : ChangeSpec := { name := "shaLong", fn := fun _ => fun
  | [d1, d2, d3, d4] => { results := [.lit (.bool false)], args := [d1, d2, d3, d4] }
  | _ => none }
def ShaLongWrongFalsely : Prop := shaLongRow.holds Try.pinned (OpenSpec.ofChange shaLongWrong)

/-- 'comitialaw2.ShaTwice': WHATEVER THE INPUT: true; the input reads as it did. -/
def shaTwiceSpec : ChangeSpec := { name := "shaTwice", fn := fun _ => fun
  | [d] => { results := [.lit (.bool true)], args := [d] }
  | _ => none }
def shaTwiceRow : OpenClaim := { program := "ytodldmomneecpaa", sum := "50bb8f85de1c4b5c94b2a16ce94855a8db7a0034bb4e8ac9f1505fef318b0a00", func := "comitia/comitialaw2.ShaTwice", spec := "shaTwice", inPlace := ["internal/abi.NoEscape", "internal/bytealg.MakeNoZero"], apart := false }
def ShaTwiceSaid : Prop := shaTwiceRow.holds Try.pinned (OpenSpec.ofChange shaTwiceSpec)

/-- ITS FALSE NEIGHBOUR: 'it returns false'. Refute it at one input. -/
def shaTwiceWrong : ChangeSpec := { name := "shaTwice", fn := fun _ => fun
  | [d] => { results := [.lit (.bool false)], args := [d] }
  | _ => none }
def ShaTwiceWrongFalsely : Prop := shaTwiceRow.holds Try.pinned (OpenSpec.ofChange shaTwiceWrong)

/-- 'comitialaw2.ShaHex': WHATEVER THE INPUT: true; the input reads as it did. -/
def shaHexSpec : ChangeSpec := { name := "shaHex", fn := fun _ => fun
  | [d] => { results := [.lit (.bool true)], args := [d] }
  | _ => none }
def shaHexRow : OpenClaim := { program := "ytodldmomneecpaa", sum := "50bb8f85de1c4b5c94b2a16ce94855a8db7a0034bb4e8ac9f1505fef318b0a00", func := "comitia/comitialaw2.ShaHex", spec := "shaHex", inPlace := ["internal/abi.NoEscape", "internal/bytealg.MakeNoZero"], apart := false }
def ShaHexSaid : Prop := shaHexRow.holds Try.pinned (OpenSpec.ofChange shaHexSpec)

/-- ITS FALSE NEIGHBOUR: 'it returns false'. Refute it at one input. -/
def shaHexWrong : ChangeSpec := { name := "shaHex", fn := fun _ => fun
  | [d] => { results := [.lit (.bool false)], args := [d] }
  | _ => none }
def ShaHexWrongFalsely : Prop := shaHexRow.holds Try.pinned (OpenSpec.ofChange shaHexWrong)

/-- 'comitialaw2.ShaParts': WHATEVER THE INPUT: true; the input reads as it did. -/
def shaPartsSpec : ChangeSpec := { name := "shaParts", fn := fun _ => fun
  | [d1, d2] => { results := [.lit (.bool true)], args := [d1, d2] }
  | _ => none }
def shaPartsRow : OpenClaim := { program := "ytodldmomneecpaa", sum := "50bb8f85de1c4b5c94b2a16ce94855a8db7a0034bb4e8ac9f1505fef318b0a00", func := "comitia/comitialaw2.ShaParts", spec := "shaParts", inPlace := ["internal/abi.NoEscape", "internal/bytealg.MakeNoZero"], apart := false }
def ShaPartsSaid : Prop := shaPartsRow.holds Try.pinned (OpenSpec.ofChange shaPartsSpec)

/-- ITS FALSE NEIGHBOUR: 'it returns false'. Refute it at one input. -/
def shaPartsWrong : ChangeSpec := { name := "shaParts", fn := fun _ => fun
  | [d1, d2] => { results := [.lit (.bool false)], args := [d1, d2] }
  | _ => none }
def ShaPartsWrongFalsely : Prop := shaPartsRow.holds Try.pinned (OpenSpec.ofChange shaPartsWrong)

/- THE SECOND FORM. 'bulk': how many values and letters a reading holds, each counted each time it is reached (what is shared counts as often as it is met; a slice's spare places count too). A statement '..UptoSaid' is the law's where the arguments, and the package variables that the reading takes, are together of bulk at most 1048576: NARROWER than '..Said'. Prove '..Said' where nothing that the law and all that it calls make is longer than what came in: it says more and counts as full. Else prove '..UptoSaid'. A law counts once. -/
mutual
def uptoBulk {H : Type} : DataW H → Nat
  | .lit (.string bytes) => bytes.length + 1
  | .lit _ => 1
  | .nil => 1
  | .ptr d => uptoBulk d + 1
  | .slice elems spare => uptoBulkAll elems + uptoBulkAll spare + 1
  | .agg parts => uptoBulkAll parts + 1
  | .iface _ d => uptoBulk d + 1
  | .map entries => uptoBulkEntries entries + 1
  | .held _ => 1
def uptoBulkAll {H : Type} : List (DataW H) → Nat
  | [] => 0
  | d :: r => uptoBulk d + uptoBulkAll r
def uptoBulkEntries {H : Type} : List (Lit × DataW H) → Nat
  | [] => 0
  | x :: r => uptoBulkEntry x + uptoBulkEntries r
def uptoBulkEntry {H : Type} : Lit × DataW H → Nat
  | (.string bytes, d) => bytes.length + uptoBulk d + 1
  | (_, d) => uptoBulk d + 1
 end
def uptoSmall : (H : Type) → List (DataW H) → Bool := fun _ ds => decide (uptoBulkAll ds ≤ 1048576)
def OpenSpec.upto (s : _root_.Go.ChangeSpec) : _root_.Go.OpenSpec := { _root_.Go.OpenSpec.ofChange s with cond := some uptoSmall }

/-- 'comitialaw3.HmacSigns', WHERE WHAT IT READS IS OF BULK AT MOST 1048576: true; the input reads as it did. -/
def hmacSignsUptoRow : OpenClaim := { program := "ytodldmomneecpaa", sum := "50bb8f85de1c4b5c94b2a16ce94855a8db7a0034bb4e8ac9f1505fef318b0a00", func := "comitia/comitialaw3.HmacSigns", spec := "hmacSigns", inPlace := ["slices.overlaps[[]byte]"], apart := false, narrowed := true }
def HmacSignsUptoSaid : Prop := hmacSignsUptoRow.holds Try.pinned (OpenSpec.upto hmacSignsSpec)

/-- 'comitialaw3.HmacKeys', WHERE WHAT IT READS IS OF BULK AT MOST 1048576: true; the input reads as it did. -/
def hmacKeysUptoRow : OpenClaim := { program := "ytodldmomneecpaa", sum := "50bb8f85de1c4b5c94b2a16ce94855a8db7a0034bb4e8ac9f1505fef318b0a00", func := "comitia/comitialaw3.HmacKeys", spec := "hmacKeys", inPlace := ["slices.overlaps[[]byte]"], apart := false, narrowed := true }
def HmacKeysUptoSaid : Prop := hmacKeysUptoRow.holds Try.pinned (OpenSpec.upto hmacKeysSpec)

/-- 'comitialaw3.HmacApart', WHERE WHAT IT READS IS OF BULK AT MOST 1048576: true; the input reads as it did. -/
def hmacApartUptoRow : OpenClaim := { program := "ytodldmomneecpaa", sum := "50bb8f85de1c4b5c94b2a16ce94855a8db7a0034bb4e8ac9f1505fef318b0a00", func := "comitia/comitialaw3.HmacApart", spec := "hmacApart", inPlace := ["slices.overlaps[[]byte]"], apart := false, narrowed := true }
def HmacApartUptoSaid : Prop := hmacApartUptoRow.holds Try.pinned (OpenSpec.upto hmacApartSpec)

/-- 'comitialaw3.HmacLays', WHERE WHAT IT READS IS OF BULK AT MOST 1048576: true; the input reads as it did. -/
def hmacLaysUptoRow : OpenClaim := { program := "ytodldmomneecpaa", sum := "50bb8f85de1c4b5c94b2a16ce94855a8db7a0034bb4e8ac9f1505fef318b0a00", func := "comitia/comitialaw3.HmacLays", spec := "hmacLays", inPlace := ["slices.overlaps[[]byte]"], apart := false, narrowed := true }
def HmacLaysUptoSaid : Prop := hmacLaysUptoRow.holds Try.pinned (OpenSpec.upto hmacLaysSpec)

/-- 'comitialaw3.HmacKeeps', WHERE WHAT IT READS IS OF BULK AT MOST 1048576: true; the input reads as it did. -/
def hmacKeepsUptoRow : OpenClaim := { program := "ytodldmomneecpaa", sum := "50bb8f85de1c4b5c94b2a16ce94855a8db7a0034bb4e8ac9f1505fef318b0a00", func := "comitia/comitialaw3.HmacKeeps", spec := "hmacKeeps", inPlace := ["slices.overlaps[[]byte]"], apart := false, narrowed := true }
def HmacKeepsUptoSaid : Prop := hmacKeepsUptoRow.holds Try.pinned (OpenSpec.upto hmacKeepsSpec)

/-- 'comitialaw2.ShaSums', WHERE WHAT IT READS IS OF BULK AT MOST 1048576: true; the input reads as it did. -/
def shaSumsUptoRow : OpenClaim := { program := "ytodldmomneecpaa", sum := "50bb8f85de1c4b5c94b2a16ce94855a8db7a0034bb4e8ac9f1505fef318b0a00", func := "comitia/comitialaw2.ShaSums", spec := "shaSums", inPlace := ["internal/abi.NoEscape", "internal/bytealg.MakeNoZero"], apart := false, narrowed := true }
def ShaSumsUptoSaid : Prop := shaSumsUptoRow.holds Try.pinned (OpenSpec.upto shaSumsSpec)

/-- 'comitialaw2.ShaLong', WHERE WHAT IT READS IS OF BULK AT MOST 1048576: true; the input reads as it did. -/
def shaLongUptoRow : OpenClaim := { program := "ytodldmomneecpaa", sum := "50bb8f85de1c4b5c94b2a16ce94855a8db7a0034bb4e8ac9f1505fef318b0a00", func := "comitia/comitialaw2.ShaLong", spec := "shaLong", inPlace := ["internal/abi.NoEscape", "internal/bytealg.MakeNoZero"], apart := false, narrowed := true }
def ShaLongUptoSaid : Prop := shaLongUptoRow.holds Try.pinned (OpenSpec.upto shaLongSpec)

/-- 'comitialaw2.ShaTwice', WHERE WHAT IT READS IS OF BULK AT MOST 1048576: true; the input reads as it did. -/
def shaTwiceUptoRow : OpenClaim := { program := "ytodldmomneecpaa", sum := "50bb8f85de1c4b5c94b2a16ce94855a8db7a0034bb4e8ac9f1505fef318b0a00", func := "comitia/comitialaw2.ShaTwice", spec := "shaTwice", inPlace := ["internal/abi.NoEscape", "internal/bytealg.MakeNoZero"], apart := false, narrowed := true }
def ShaTwiceUptoSaid : Prop := shaTwiceUptoRow.holds Try.pinned (OpenSpec.upto shaTwiceSpec)

/-- 'comitialaw2.ShaHex', WHERE WHAT IT READS IS OF BULK AT MOST 1048576: true; the input reads as it did. -/
def shaHexUptoRow : OpenClaim := { program := "ytodldmomneecpaa", sum := "50bb8f85de1c4b5c94b2a16ce94855a8db7a0034bb4e8ac9f1505fef318b0a00", func := "comitia/comitialaw2.ShaHex", spec := "shaHex", inPlace := ["internal/abi.NoEscape", "internal/bytealg.MakeNoZero"], apart := false, narrowed := true }
def ShaHexUptoSaid : Prop := shaHexUptoRow.holds Try.pinned (OpenSpec.upto shaHexSpec)

/-- 'comitialaw2.ShaParts', WHERE WHAT IT READS IS OF BULK AT MOST 1048576: true; the input reads as it did. -/
def shaPartsUptoRow : OpenClaim := { program := "ytodldmomneecpaa", sum := "50bb8f85de1c4b5c94b2a16ce94855a8db7a0034bb4e8ac9f1505fef318b0a00", func := "comitia/comitialaw2.ShaParts", spec := "shaParts", inPlace := ["internal/abi.NoEscape", "internal/bytealg.MakeNoZero"], apart := false, narrowed := true }
def ShaPartsUptoSaid : Prop := shaPartsUptoRow.holds Try.pinned (OpenSpec.upto shaPartsSpec)

end Rows
end Go.Proofs.Ytodldmomneecpaa
