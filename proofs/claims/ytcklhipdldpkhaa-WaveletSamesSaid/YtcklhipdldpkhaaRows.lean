/-
  No cell of these rows narrows 'for every input' (looked for: loops, veiled, ifaces, maps, wideKeys, modest, calm, conditions, laid).
  DERIVED. THE GIVEN ROWS OF THIS SEAT. 15 by the template 'for every input the law returns true; each argument reads behind the call as it read before'; 0 by the template 'total and deterministic' (their statements: YtcklhipdldpkhaaTotals.lean).
  GIVEN WITH THE SEED: the statements are not yours to turn. If you find one false, say at which input.
  Laid BY PROGRAM, IN A SANDBOX (cutbox-rows.mjs): the forced cells as the released guide's own fill.sh prints them over the translation d1232dc80e0e9c51… (all of the seat's roots in one cut). By AI agents, Wed Nov 11 2026. No macro, syntax, notation, axiom, sorry.
-/
import Derived.Test.YtcklhipdldpkhaaChecked
import GoSem.Claim
import GoSem.ClaimJoined
import GoSem.ClaimMapViews
import Derived.JoinedTies
import Derived.KernelRfl
namespace Go.Proofs.Ytcklhipdldpkhaa
/- THE CELL 'sum', in the pinned program and in every row, IS THE sha256 OF THE DUMP (.gsa) THAT YtcklhipdldpkhaaProg.lean LOADS. Nothing in Lean hashes anything: it is a label: what it is worth is what the hold of that sum in a sandbox is worth. -/
noncomputable def Try.pinned : Pinned := { name := "ytcklhipdldpkhaa", sum := "d1232dc80e0e9c51cf4571bf55240d02c0f5873d42740e541ababe7549b08262", checked := Try.checked }
namespace Rows
def none {H : Type} : Left H := { results := [], args := [] }

/-- 'comitialaw13.WaveletSames': WHATEVER THE INPUT: true; the input reads as it did. -/
def waveletSamesSpec : ChangeSpec := { name := "waveletSames", fn := fun _ => fun
  | [d1, d2, d3] => { results := [.lit (.bool true)], args := [d1, d2, d3] }
  | _ => none }
def waveletSamesRow : OpenClaim := { program := "ytcklhipdldpkhaa", sum := "d1232dc80e0e9c51cf4571bf55240d02c0f5873d42740e541ababe7549b08262", func := "comitia/comitialaw13.WaveletSames", spec := "waveletSames", apart := false }
def WaveletSamesSaid : Prop := waveletSamesRow.holds Try.pinned (OpenSpec.ofChange waveletSamesSpec)

/-- ITS FALSE NEIGHBOUR: 'it returns false'. Refute it at one input. -/
def waveletSamesWrong : ChangeSpec := { name := "waveletSames", fn := fun _ => fun
  | [d1, d2, d3] => { results := [.lit (.bool false)], args := [d1, d2, d3] }
  | _ => none }
def WaveletSamesWrongFalsely : Prop := waveletSamesRow.holds Try.pinned (OpenSpec.ofChange waveletSamesWrong)

/-- 'comitialaw2.ShaSums': WHATEVER THE INPUT: true; the input reads as it did. -/
def shaSumsSpec : ChangeSpec := { name := "shaSums", fn := fun _ => fun
  | [d1, d2, d3] => { results := [.lit (.bool true)], args := [d1, d2, d3] }
  | _ => none }
def shaSumsRow : OpenClaim := { program := "ytcklhipdldpkhaa", sum := "d1232dc80e0e9c51cf4571bf55240d02c0f5873d42740e541ababe7549b08262", func := "comitia/comitialaw2.ShaSums", spec := "shaSums", inPlace := ["internal/abi.NoEscape", "internal/bytealg.MakeNoZero"], apart := false }
def ShaSumsSaid : Prop := shaSumsRow.holds Try.pinned (OpenSpec.ofChange shaSumsSpec)

/-- ITS FALSE NEIGHBOUR: 'it returns false'. Refute it at one input. -/
def shaSumsWrong : ChangeSpec := { name := "shaSums", fn := fun _ => fun
  | [d1, d2, d3] => { results := [.lit (.bool false)], args := [d1, d2, d3] }
  | _ => none }
def ShaSumsWrongFalsely : Prop := shaSumsRow.holds Try.pinned (OpenSpec.ofChange shaSumsWrong)

/-- 'comitialaw2.ShaLong': WHATEVER THE INPUT: true; the input reads as it did. -/
def shaLongSpec : ChangeSpec := { name := "shaLong", fn := fun _ => fun
  | [d1, d2, d3, d4] => { results := [.lit (.bool true)], args := [d1, d2, d3, d4] }
  | _ => none }
def shaLongRow : OpenClaim := { program := "ytcklhipdldpkhaa", sum := "d1232dc80e0e9c51cf4571bf55240d02c0f5873d42740e541ababe7549b08262", func := "comitia/comitialaw2.ShaLong", spec := "shaLong", inPlace := ["internal/abi.NoEscape", "internal/bytealg.MakeNoZero"], apart := false }
def ShaLongSaid : Prop := shaLongRow.holds Try.pinned (OpenSpec.ofChange shaLongSpec)

/-- ITS FALSE NEIGHBOUR: 'it returns false'. Refute it at one input. -/
def shaLongWrong : ChangeSpec := { name := "shaLong", fn := fun _ => fun
  | [d1, d2, d3, d4] => { results := [.lit (.bool false)], args := [d1, d2, d3, d4] }
  | _ => none }
def ShaLongWrongFalsely : Prop := shaLongRow.holds Try.pinned (OpenSpec.ofChange shaLongWrong)

/-- 'comitialaw16.WireReads': WHATEVER THE INPUT: true; the input reads as it did. -/
def wireReadsSpec : ChangeSpec := { name := "wireReads", fn := fun _ => fun
  | [d1, d2, d3, d4, d5, d6] => { results := [.lit (.bool true)], args := [d1, d2, d3, d4, d5, d6] }
  | _ => none }
def wireReadsRow : OpenClaim := { program := "ytcklhipdldpkhaa", sum := "d1232dc80e0e9c51cf4571bf55240d02c0f5873d42740e541ababe7549b08262", func := "comitia/comitialaw16.WireReads", spec := "wireReads", inPlace := ["slices.overlaps[[]byte]"], unfollowed := true, recurses := true, apart := false }
def WireReadsSaid : Prop := wireReadsRow.holds Try.pinned (OpenSpec.ofChange wireReadsSpec)

/-- ITS FALSE NEIGHBOUR: 'it returns false'. Refute it at one input. -/
def wireReadsWrong : ChangeSpec := { name := "wireReads", fn := fun _ => fun
  | [d1, d2, d3, d4, d5, d6] => { results := [.lit (.bool false)], args := [d1, d2, d3, d4, d5, d6] }
  | _ => none }
def WireReadsWrongFalsely : Prop := wireReadsRow.holds Try.pinned (OpenSpec.ofChange wireReadsWrong)

/-- 'comitialaw16.WireRows': WHATEVER THE INPUT: true; the input reads as it did. -/
def wireRowsSpec : ChangeSpec := { name := "wireRows", fn := fun _ => fun
  | [d1, d2, d3] => { results := [.lit (.bool true)], args := [d1, d2, d3] }
  | _ => none }
def wireRowsRow : OpenClaim := { program := "ytcklhipdldpkhaa", sum := "d1232dc80e0e9c51cf4571bf55240d02c0f5873d42740e541ababe7549b08262", func := "comitia/comitialaw16.WireRows", spec := "wireRows", inPlace := ["slices.overlaps[[]byte]"], unfollowed := true, recurses := true, apart := false }
def WireRowsSaid : Prop := wireRowsRow.holds Try.pinned (OpenSpec.ofChange wireRowsSpec)

/-- ITS FALSE NEIGHBOUR: 'it returns false'. Refute it at one input. -/
def wireRowsWrong : ChangeSpec := { name := "wireRows", fn := fun _ => fun
  | [d1, d2, d3] => { results := [.lit (.bool false)], args := [d1, d2, d3] }
  | _ => none }
def WireRowsWrongFalsely : Prop := wireRowsRow.holds Try.pinned (OpenSpec.ofChange wireRowsWrong)

/-- 'comitialaw16.WireSames': WHATEVER THE INPUT: true; the input reads as it did. -/
def wireSamesSpec : ChangeSpec := { name := "wireSames", fn := fun _ => fun
  | [d1, d2, d3] => { results := [.lit (.bool true)], args := [d1, d2, d3] }
  | _ => none }
def wireSamesRow : OpenClaim := { program := "ytcklhipdldpkhaa", sum := "d1232dc80e0e9c51cf4571bf55240d02c0f5873d42740e541ababe7549b08262", func := "comitia/comitialaw16.WireSames", spec := "wireSames", inPlace := ["slices.overlaps[[]byte]"], unfollowed := true, recurses := true, apart := false }
def WireSamesSaid : Prop := wireSamesRow.holds Try.pinned (OpenSpec.ofChange wireSamesSpec)

/-- ITS FALSE NEIGHBOUR: 'it returns false'. Refute it at one input. -/
def wireSamesWrong : ChangeSpec := { name := "wireSames", fn := fun _ => fun
  | [d1, d2, d3] => { results := [.lit (.bool false)], args := [d1, d2, d3] }
  | _ => none }
def WireSamesWrongFalsely : Prop := wireSamesRow.holds Try.pinned (OpenSpec.ofChange wireSamesWrong)

/-- 'comitialaw16.WireKeys': WHATEVER THE INPUT: true; the input reads as it did. -/
def wireKeysSpec : ChangeSpec := { name := "wireKeys", fn := fun _ => fun
  | [d1, d2] => { results := [.lit (.bool true)], args := [d1, d2] }
  | _ => none }
def wireKeysRow : OpenClaim := { program := "ytcklhipdldpkhaa", sum := "d1232dc80e0e9c51cf4571bf55240d02c0f5873d42740e541ababe7549b08262", func := "comitia/comitialaw16.WireKeys", spec := "wireKeys", inPlace := ["slices.overlaps[[]byte]"], unfollowed := true, recurses := true, apart := false }
def WireKeysSaid : Prop := wireKeysRow.holds Try.pinned (OpenSpec.ofChange wireKeysSpec)

/-- ITS FALSE NEIGHBOUR: 'it returns false'. Refute it at one input. -/
def wireKeysWrong : ChangeSpec := { name := "wireKeys", fn := fun _ => fun
  | [d1, d2] => { results := [.lit (.bool false)], args := [d1, d2] }
  | _ => none }
def WireKeysWrongFalsely : Prop := wireKeysRow.holds Try.pinned (OpenSpec.ofChange wireKeysWrong)

/-- 'comitialaw16.WireTurned': WHATEVER THE INPUT: true; the input reads as it did. -/
def wireTurnedSpec : ChangeSpec := { name := "wireTurned", fn := fun _ => fun
  | [d1, d2, d3] => { results := [.lit (.bool true)], args := [d1, d2, d3] }
  | _ => none }
def wireTurnedRow : OpenClaim := { program := "ytcklhipdldpkhaa", sum := "d1232dc80e0e9c51cf4571bf55240d02c0f5873d42740e541ababe7549b08262", func := "comitia/comitialaw16.WireTurned", spec := "wireTurned", inPlace := ["slices.overlaps[[]byte]"], unfollowed := true, recurses := true, apart := false }
def WireTurnedSaid : Prop := wireTurnedRow.holds Try.pinned (OpenSpec.ofChange wireTurnedSpec)

/-- ITS FALSE NEIGHBOUR: 'it returns false'. Refute it at one input. -/
def wireTurnedWrong : ChangeSpec := { name := "wireTurned", fn := fun _ => fun
  | [d1, d2, d3] => { results := [.lit (.bool false)], args := [d1, d2, d3] }
  | _ => none }
def WireTurnedWrongFalsely : Prop := wireTurnedRow.holds Try.pinned (OpenSpec.ofChange wireTurnedWrong)

/-- 'comitialaw16.WireSizes': WHATEVER THE INPUT: true; the input reads as it did. -/
def wireSizesSpec : ChangeSpec := { name := "wireSizes", fn := fun _ => fun
  | [d] => { results := [.lit (.bool true)], args := [d] }
  | _ => none }
def wireSizesRow : OpenClaim := { program := "ytcklhipdldpkhaa", sum := "d1232dc80e0e9c51cf4571bf55240d02c0f5873d42740e541ababe7549b08262", func := "comitia/comitialaw16.WireSizes", spec := "wireSizes", inPlace := ["slices.overlaps[[]byte]"], unfollowed := true, recurses := true, apart := false }
def WireSizesSaid : Prop := wireSizesRow.holds Try.pinned (OpenSpec.ofChange wireSizesSpec)

/-- ITS FALSE NEIGHBOUR: 'it returns false'. Refute it at one input. -/
def wireSizesWrong : ChangeSpec := { name := "wireSizes", fn := fun _ => fun
  | [d] => { results := [.lit (.bool false)], args := [d] }
  | _ => none }
def WireSizesWrongFalsely : Prop := wireSizesRow.holds Try.pinned (OpenSpec.ofChange wireSizesWrong)

/-- 'comitialaw16.WireBytes': WHATEVER THE INPUT: true; the input reads as it did. -/
def wireBytesSpec : ChangeSpec := { name := "wireBytes", fn := fun _ => fun
  | [d1, d2, d3] => { results := [.lit (.bool true)], args := [d1, d2, d3] }
  | _ => none }
def wireBytesRow : OpenClaim := { program := "ytcklhipdldpkhaa", sum := "d1232dc80e0e9c51cf4571bf55240d02c0f5873d42740e541ababe7549b08262", func := "comitia/comitialaw16.WireBytes", spec := "wireBytes", inPlace := ["slices.overlaps[[]byte]"], unfollowed := true, recurses := true, apart := false }
def WireBytesSaid : Prop := wireBytesRow.holds Try.pinned (OpenSpec.ofChange wireBytesSpec)

/-- ITS FALSE NEIGHBOUR: 'it returns false'. Refute it at one input. -/
def wireBytesWrong : ChangeSpec := { name := "wireBytes", fn := fun _ => fun
  | [d1, d2, d3] => { results := [.lit (.bool false)], args := [d1, d2, d3] }
  | _ => none }
def WireBytesWrongFalsely : Prop := wireBytesRow.holds Try.pinned (OpenSpec.ofChange wireBytesWrong)

/-- 'comitialaw9.SignDeltas': WHATEVER THE INPUT: true; the input reads as it did. -/
def signDeltasSpec : ChangeSpec := { name := "signDeltas", fn := fun _ => fun
  | [d1, d2, d3, d4, d5, d6, d7] => { results := [.lit (.bool true)], args := [d1, d2, d3, d4, d5, d6, d7] }
  | _ => none }
def signDeltasRow : OpenClaim := { program := "ytcklhipdldpkhaa", sum := "d1232dc80e0e9c51cf4571bf55240d02c0f5873d42740e541ababe7549b08262", func := "comitia/comitialaw9.SignDeltas", spec := "signDeltas", inPlace := ["slices.overlaps[[]byte]"], unfollowed := true, recurses := true, apart := false }
def SignDeltasSaid : Prop := signDeltasRow.holds Try.pinned (OpenSpec.ofChange signDeltasSpec)

/-- ITS FALSE NEIGHBOUR: 'it returns false'. Refute it at one input. -/
def signDeltasWrong : ChangeSpec := { name := "signDeltas", fn := fun _ => fun
  | [d1, d2, d3, d4, d5, d6, d7] => { results := [.lit (.bool false)], args := [d1, d2, d3, d4, d5, d6, d7] }
  | _ => none }
def SignDeltasWrongFalsely : Prop := signDeltasRow.holds Try.pinned (OpenSpec.ofChange signDeltasWrong)

/-- 'comitialaw9.SignOpens': WHATEVER THE INPUT: true; the input reads as it did. -/
def signOpensSpec : ChangeSpec := { name := "signOpens", fn := fun _ => fun
  | [d1, d2, d3] => { results := [.lit (.bool true)], args := [d1, d2, d3] }
  | _ => none }
def signOpensRow : OpenClaim := { program := "ytcklhipdldpkhaa", sum := "d1232dc80e0e9c51cf4571bf55240d02c0f5873d42740e541ababe7549b08262", func := "comitia/comitialaw9.SignOpens", spec := "signOpens", inPlace := ["slices.overlaps[[]byte]"], unfollowed := true, recurses := true, apart := false }
def SignOpensSaid : Prop := signOpensRow.holds Try.pinned (OpenSpec.ofChange signOpensSpec)

/-- ITS FALSE NEIGHBOUR: 'it returns false'. Refute it at one input. -/
def signOpensWrong : ChangeSpec := { name := "signOpens", fn := fun _ => fun
  | [d1, d2, d3] => { results := [.lit (.bool false)], args := [d1, d2, d3] }
  | _ => none }
def SignOpensWrongFalsely : Prop := signOpensRow.holds Try.pinned (OpenSpec.ofChange signOpensWrong)

/-- 'comitialaw9.SignOwn': WHATEVER THE INPUT: true; the input reads as it did. -/
def signOwnSpec : ChangeSpec := { name := "signOwn", fn := fun _ => fun
  | [d1, d2, d3, d4] => { results := [.lit (.bool true)], args := [d1, d2, d3, d4] }
  | _ => none }
def signOwnRow : OpenClaim := { program := "ytcklhipdldpkhaa", sum := "d1232dc80e0e9c51cf4571bf55240d02c0f5873d42740e541ababe7549b08262", func := "comitia/comitialaw9.SignOwn", spec := "signOwn", inPlace := ["slices.overlaps[[]byte]"], unfollowed := true, recurses := true, apart := false }
def SignOwnSaid : Prop := signOwnRow.holds Try.pinned (OpenSpec.ofChange signOwnSpec)

/-- ITS FALSE NEIGHBOUR: 'it returns false'. Refute it at one input. -/
def signOwnWrong : ChangeSpec := { name := "signOwn", fn := fun _ => fun
  | [d1, d2, d3, d4] => { results := [.lit (.bool false)], args := [d1, d2, d3, d4] }
  | _ => none }
def SignOwnWrongFalsely : Prop := signOwnRow.holds Try.pinned (OpenSpec.ofChange signOwnWrong)

/-- 'comitialaw9.SignEntries': WHATEVER THE INPUT: true; the input reads as it did. -/
def signEntriesSpec : ChangeSpec := { name := "signEntries", fn := fun _ => fun
  | [d1, d2, d3, d4, d5, d6, d7, d8, d9] => { results := [.lit (.bool true)], args := [d1, d2, d3, d4, d5, d6, d7, d8, d9] }
  | _ => none }
def signEntriesRow : OpenClaim := { program := "ytcklhipdldpkhaa", sum := "d1232dc80e0e9c51cf4571bf55240d02c0f5873d42740e541ababe7549b08262", func := "comitia/comitialaw9.SignEntries", spec := "signEntries", inPlace := ["slices.overlaps[[]byte]"], unfollowed := true, recurses := true, apart := false }
def SignEntriesSaid : Prop := signEntriesRow.holds Try.pinned (OpenSpec.ofChange signEntriesSpec)

/-- ITS FALSE NEIGHBOUR: 'it returns false'. Refute it at one input. -/
def signEntriesWrong : ChangeSpec := { name := "signEntries", fn := fun _ => fun
  | [d1, d2, d3, d4, d5, d6, d7, d8, d9] => { results := [.lit (.bool false)], args := [d1, d2, d3, d4, d5, d6, d7, d8, d9] }
  | _ => none }
def SignEntriesWrongFalsely : Prop := signEntriesRow.holds Try.pinned (OpenSpec.ofChange signEntriesWrong)

/-- 'comitialaw9.SignChain': WHATEVER THE INPUT: true; the input reads as it did. -/
def signChainSpec : ChangeSpec := { name := "signChain", fn := fun _ => fun
  | [d1, d2, d3, d4, d5] => { results := [.lit (.bool true)], args := [d1, d2, d3, d4, d5] }
  | _ => none }
def signChainRow : OpenClaim := { program := "ytcklhipdldpkhaa", sum := "d1232dc80e0e9c51cf4571bf55240d02c0f5873d42740e541ababe7549b08262", func := "comitia/comitialaw9.SignChain", spec := "signChain", inPlace := ["slices.overlaps[[]byte]"], unfollowed := true, recurses := true, apart := false }
def SignChainSaid : Prop := signChainRow.holds Try.pinned (OpenSpec.ofChange signChainSpec)

/-- ITS FALSE NEIGHBOUR: 'it returns false'. Refute it at one input. -/
def signChainWrong : ChangeSpec := { name := "signChain", fn := fun _ => fun
  | [d1, d2, d3, d4, d5] => { results := [.lit (.bool false)], args := [d1, d2, d3, d4, d5] }
  | _ => none }
def SignChainWrongFalsely : Prop := signChainRow.holds Try.pinned (OpenSpec.ofChange signChainWrong)

/- THE SECOND FORM. 'bulk': how many values and letters a reading holds, each counted each time it is reached (what is shared counts as often as it is met; a slice's spare places count too). A statement '..UptoSaid' is the law's where the arguments, and the package variables that the reading takes, are together of bulk at most 1048576: NARROWER than '..Said'. Prove '..Said' where nothing that the law and all that it calls make is longer than what came in: it says more and counts as full. Else prove '..UptoSaid'. A law counts once. -/
mutual
def uptoBulk {H : Type} : DataW H → Nat
  | .lit (.string bytes) => bytes.length + 1
  | .lit _ => 1
  | .nil => 1
  | .ptr d => uptoBulk d + 1
  | .slice elems spare => uptoBulkAll elems + uptoBulkAll spare + 1
  | .agg parts => uptoBulkAll parts + 1
  | .iface _ d => uptoBulk d + 1
  | .map entries => uptoBulkEntries entries + 1
  | .held _ => 1
def uptoBulkAll {H : Type} : List (DataW H) → Nat
  | [] => 0
  | d :: r => uptoBulk d + uptoBulkAll r
def uptoBulkEntries {H : Type} : List (Lit × DataW H) → Nat
  | [] => 0
  | x :: r => uptoBulkEntry x + uptoBulkEntries r
def uptoBulkEntry {H : Type} : Lit × DataW H → Nat
  | (.string bytes, d) => bytes.length + uptoBulk d + 1
  | (_, d) => uptoBulk d + 1
 end
def uptoSmall : (H : Type) → List (DataW H) → Bool := fun _ ds => decide (uptoBulkAll ds ≤ 1048576)
def OpenSpec.upto (s : _root_.Go.ChangeSpec) : _root_.Go.OpenSpec := { _root_.Go.OpenSpec.ofChange s with cond := some uptoSmall }

/-- 'comitialaw13.WaveletSames', WHERE WHAT IT READS IS OF BULK AT MOST 1048576: true; the input reads as it did. -/
def waveletSamesUptoRow : OpenClaim := { program := "ytcklhipdldpkhaa", sum := "d1232dc80e0e9c51cf4571bf55240d02c0f5873d42740e541ababe7549b08262", func := "comitia/comitialaw13.WaveletSames", spec := "waveletSames", apart := false, narrowed := true }
def WaveletSamesUptoSaid : Prop := waveletSamesUptoRow.holds Try.pinned (OpenSpec.upto waveletSamesSpec)

/-- 'comitialaw2.ShaSums', WHERE WHAT IT READS IS OF BULK AT MOST 1048576: true; the input reads as it did. -/
def shaSumsUptoRow : OpenClaim := { program := "ytcklhipdldpkhaa", sum := "d1232dc80e0e9c51cf4571bf55240d02c0f5873d42740e541ababe7549b08262", func := "comitia/comitialaw2.ShaSums", spec := "shaSums", inPlace := ["internal/abi.NoEscape", "internal/bytealg.MakeNoZero"], apart := false, narrowed := true }
def ShaSumsUptoSaid : Prop := shaSumsUptoRow.holds Try.pinned (OpenSpec.upto shaSumsSpec)

/-- 'comitialaw2.ShaLong', WHERE WHAT IT READS IS OF BULK AT MOST 1048576: true; the input reads as it did. -/
def shaLongUptoRow : OpenClaim := { program := "ytcklhipdldpkhaa", sum := "d1232dc80e0e9c51cf4571bf55240d02c0f5873d42740e541ababe7549b08262", func := "comitia/comitialaw2.ShaLong", spec := "shaLong", inPlace := ["internal/abi.NoEscape", "internal/bytealg.MakeNoZero"], apart := false, narrowed := true }
def ShaLongUptoSaid : Prop := shaLongUptoRow.holds Try.pinned (OpenSpec.upto shaLongSpec)

/-- 'comitialaw16.WireReads', WHERE WHAT IT READS IS OF BULK AT MOST 1048576: true; the input reads as it did. -/
def wireReadsUptoRow : OpenClaim := { program := "ytcklhipdldpkhaa", sum := "d1232dc80e0e9c51cf4571bf55240d02c0f5873d42740e541ababe7549b08262", func := "comitia/comitialaw16.WireReads", spec := "wireReads", inPlace := ["slices.overlaps[[]byte]"], unfollowed := true, recurses := true, apart := false, narrowed := true }
def WireReadsUptoSaid : Prop := wireReadsUptoRow.holds Try.pinned (OpenSpec.upto wireReadsSpec)

/-- 'comitialaw16.WireRows', WHERE WHAT IT READS IS OF BULK AT MOST 1048576: true; the input reads as it did. -/
def wireRowsUptoRow : OpenClaim := { program := "ytcklhipdldpkhaa", sum := "d1232dc80e0e9c51cf4571bf55240d02c0f5873d42740e541ababe7549b08262", func := "comitia/comitialaw16.WireRows", spec := "wireRows", inPlace := ["slices.overlaps[[]byte]"], unfollowed := true, recurses := true, apart := false, narrowed := true }
def WireRowsUptoSaid : Prop := wireRowsUptoRow.holds Try.pinned (OpenSpec.upto wireRowsSpec)

/-- 'comitialaw16.WireSames', WHERE WHAT IT READS IS OF BULK AT MOST 1048576: true; the input reads as it did. -/
def wireSamesUptoRow : OpenClaim := { program := "ytcklhipdldpkhaa", sum := "d1232dc80e0e9c51cf4571bf55240d02c0f5873d42740e541ababe7549b08262", func := "comitia/comitialaw16.WireSames", spec := "wireSames", inPlace := ["slices.overlaps[[]byte]"], unfollowed := true, recurses := true, apart := false, narrowed := true }
def WireSamesUptoSaid : Prop := wireSamesUptoRow.holds Try.pinned (OpenSpec.upto wireSamesSpec)

/-- 'comitialaw16.WireKeys', WHERE WHAT IT READS IS OF BULK AT MOST 1048576: true; the input reads as it did. -/
def wireKeysUptoRow : OpenClaim := { program := "ytcklhipdldpkhaa", sum := "d1232dc80e0e9c51cf4571bf55240d02c0f5873d42740e541ababe7549b08262", func := "comitia/comitialaw16.WireKeys", spec := "wireKeys", inPlace := ["slices.overlaps[[]byte]"], unfollowed := true, recurses := true, apart := false, narrowed := true }
def WireKeysUptoSaid : Prop := wireKeysUptoRow.holds Try.pinned (OpenSpec.upto wireKeysSpec)

/-- 'comitialaw16.WireTurned', WHERE WHAT IT READS IS OF BULK AT MOST 1048576: true; the input reads as it did. -/
def wireTurnedUptoRow : OpenClaim := { program := "ytcklhipdldpkhaa", sum := "d1232dc80e0e9c51cf4571bf55240d02c0f5873d42740e541ababe7549b08262", func := "comitia/comitialaw16.WireTurned", spec := "wireTurned", inPlace := ["slices.overlaps[[]byte]"], unfollowed := true, recurses := true, apart := false, narrowed := true }
def WireTurnedUptoSaid : Prop := wireTurnedUptoRow.holds Try.pinned (OpenSpec.upto wireTurnedSpec)

/-- 'comitialaw16.WireSizes', WHERE WHAT IT READS IS OF BULK AT MOST 1048576: true; the input reads as it did. -/
def wireSizesUptoRow : OpenClaim := { program := "ytcklhipdldpkhaa", sum := "d1232dc80e0e9c51cf4571bf55240d02c0f5873d42740e541ababe7549b08262", func := "comitia/comitialaw16.WireSizes", spec := "wireSizes", inPlace := ["slices.overlaps[[]byte]"], unfollowed := true, recurses := true, apart := false, narrowed := true }
def WireSizesUptoSaid : Prop := wireSizesUptoRow.holds Try.pinned (OpenSpec.upto wireSizesSpec)

/-- 'comitialaw16.WireBytes', WHERE WHAT IT READS IS OF BULK AT MOST 1048576: true; the input reads as it did. -/
def wireBytesUptoRow : OpenClaim := { program := "ytcklhipdldpkhaa", sum := "d1232dc80e0e9c51cf4571bf55240d02c0f5873d42740e541ababe7549b08262", func := "comitia/comitialaw16.WireBytes", spec := "wireBytes", inPlace := ["slices.overlaps[[]byte]"], unfollowed := true, recurses := true, apart := false, narrowed := true }
def WireBytesUptoSaid : Prop := wireBytesUptoRow.holds Try.pinned (OpenSpec.upto wireBytesSpec)

/-- 'comitialaw9.SignDeltas', WHERE WHAT IT READS IS OF BULK AT MOST 1048576: true; the input reads as it did. -/
def signDeltasUptoRow : OpenClaim := { program := "ytcklhipdldpkhaa", sum := "d1232dc80e0e9c51cf4571bf55240d02c0f5873d42740e541ababe7549b08262", func := "comitia/comitialaw9.SignDeltas", spec := "signDeltas", inPlace := ["slices.overlaps[[]byte]"], unfollowed := true, recurses := true, apart := false, narrowed := true }
def SignDeltasUptoSaid : Prop := signDeltasUptoRow.holds Try.pinned (OpenSpec.upto signDeltasSpec)

/-- 'comitialaw9.SignOpens', WHERE WHAT IT READS IS OF BULK AT MOST 1048576: true; the input reads as it did. -/
def signOpensUptoRow : OpenClaim := { program := "ytcklhipdldpkhaa", sum := "d1232dc80e0e9c51cf4571bf55240d02c0f5873d42740e541ababe7549b08262", func := "comitia/comitialaw9.SignOpens", spec := "signOpens", inPlace := ["slices.overlaps[[]byte]"], unfollowed := true, recurses := true, apart := false, narrowed := true }
def SignOpensUptoSaid : Prop := signOpensUptoRow.holds Try.pinned (OpenSpec.upto signOpensSpec)

/-- 'comitialaw9.SignOwn', WHERE WHAT IT READS IS OF BULK AT MOST 1048576: true; the input reads as it did. -/
def signOwnUptoRow : OpenClaim := { program := "ytcklhipdldpkhaa", sum := "d1232dc80e0e9c51cf4571bf55240d02c0f5873d42740e541ababe7549b08262", func := "comitia/comitialaw9.SignOwn", spec := "signOwn", inPlace := ["slices.overlaps[[]byte]"], unfollowed := true, recurses := true, apart := false, narrowed := true }
def SignOwnUptoSaid : Prop := signOwnUptoRow.holds Try.pinned (OpenSpec.upto signOwnSpec)

/-- 'comitialaw9.SignEntries', WHERE WHAT IT READS IS OF BULK AT MOST 1048576: true; the input reads as it did. -/
def signEntriesUptoRow : OpenClaim := { program := "ytcklhipdldpkhaa", sum := "d1232dc80e0e9c51cf4571bf55240d02c0f5873d42740e541ababe7549b08262", func := "comitia/comitialaw9.SignEntries", spec := "signEntries", inPlace := ["slices.overlaps[[]byte]"], unfollowed := true, recurses := true, apart := false, narrowed := true }
def SignEntriesUptoSaid : Prop := signEntriesUptoRow.holds Try.pinned (OpenSpec.upto signEntriesSpec)

/-- 'comitialaw9.SignChain', WHERE WHAT IT READS IS OF BULK AT MOST 1048576: true; the input reads as it did. -/
def signChainUptoRow : OpenClaim := { program := "ytcklhipdldpkhaa", sum := "d1232dc80e0e9c51cf4571bf55240d02c0f5873d42740e541ababe7549b08262", func := "comitia/comitialaw9.SignChain", spec := "signChain", inPlace := ["slices.overlaps[[]byte]"], unfollowed := true, recurses := true, apart := false, narrowed := true }
def SignChainUptoSaid : Prop := signChainUptoRow.holds Try.pinned (OpenSpec.upto signChainSpec)

end Rows
end Go.Proofs.Ytcklhipdldpkhaa
