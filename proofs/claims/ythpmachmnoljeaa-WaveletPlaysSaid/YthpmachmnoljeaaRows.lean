/-
  No cell of these rows narrows 'for every input' (looked for: loops, veiled, ifaces, maps, wideKeys, modest, calm, conditions, laid).
  DERIVED. THE GIVEN ROWS OF THIS SEAT. 6 by the template 'for every input the law returns true; each argument reads behind the call as it read before'; 0 by the template 'total and deterministic' (their statements: YthpmachmnoljeaaTotals.lean).
  GIVEN WITH THE SEED: the statements are not yours to turn. If you find one false, say at which input.
  Laid BY PROGRAM, IN A SANDBOX (cutbox-rows.mjs): the forced cells as the released guide's own fill.sh prints them over the translation f203fd03da7855d4… (all of the seat's roots in one cut). By AI agents, Wed Nov 11 2026. No macro, syntax, notation, axiom, sorry.
-/
import Derived.Test.YthpmachmnoljeaaChecked
import GoSem.Claim
import GoSem.ClaimJoined
import GoSem.ClaimMapViews
import Derived.JoinedTies
import Derived.KernelRfl
namespace Go.Proofs.Ythpmachmnoljeaa
/- THE CELL 'sum', in the pinned program and in every row, IS THE sha256 OF THE DUMP (.gsa) THAT YthpmachmnoljeaaProg.lean LOADS. Nothing in Lean hashes anything: it is a label: what it is worth is what the hold of that sum in a sandbox is worth. -/
noncomputable def Try.pinned : Pinned := { name := "ythpmachmnoljeaa", sum := "f203fd03da7855d429eed84b44d84018c20675744a38836b2f038f2787e94fa3", checked := Try.checked }
namespace Rows
def none {H : Type} : Left H := { results := [], args := [] }

/-- 'comitialaw13.WaveletChain': WHATEVER THE INPUT: true; the input reads as it did. -/
def waveletChainSpec : ChangeSpec := { name := "waveletChain", fn := fun _ => fun
  | [d] => { results := [.lit (.bool true)], args := [d] }
  | _ => none }
def waveletChainRow : OpenClaim := { program := "ythpmachmnoljeaa", sum := "f203fd03da7855d429eed84b44d84018c20675744a38836b2f038f2787e94fa3", func := "comitia/comitialaw13.WaveletChain", spec := "waveletChain", unfollowed := true, recurses := true, apart := false }
def WaveletChainSaid : Prop := waveletChainRow.holds Try.pinned (OpenSpec.ofChange waveletChainSpec)

/-- ITS FALSE NEIGHBOUR: 'it returns false'. Refute it at one input. -/
def waveletChainWrong : ChangeSpec := { name := "waveletChain", fn := fun _ => fun
  | [d] => { results := [.lit (.bool false)], args := [d] }
  | _ => none }
def WaveletChainWrongFalsely : Prop := waveletChainRow.holds Try.pinned (OpenSpec.ofChange waveletChainWrong)

/-- 'comitialaw13.WaveletMay': WHATEVER THE INPUT: true; the input reads as it did. -/
def waveletMaySpec : ChangeSpec := { name := "waveletMay", fn := fun _ => fun
  | [d1, d2, d3] => { results := [.lit (.bool true)], args := [d1, d2, d3] }
  | _ => none }
def waveletMayRow : OpenClaim := { program := "ythpmachmnoljeaa", sum := "f203fd03da7855d429eed84b44d84018c20675744a38836b2f038f2787e94fa3", func := "comitia/comitialaw13.WaveletMay", spec := "waveletMay", unfollowed := true, recurses := true, apart := false }
def WaveletMaySaid : Prop := waveletMayRow.holds Try.pinned (OpenSpec.ofChange waveletMaySpec)

/-- ITS FALSE NEIGHBOUR: 'it returns false'. Refute it at one input. -/
def waveletMayWrong : ChangeSpec := { name := "waveletMay", fn := fun _ => fun
  | [d1, d2, d3] => { results := [.lit (.bool false)], args := [d1, d2, d3] }
  | _ => none }
def WaveletMayWrongFalsely : Prop := waveletMayRow.holds Try.pinned (OpenSpec.ofChange waveletMayWrong)

/-- 'comitialaw13.WaveletTwice': WHATEVER THE INPUT: true; the input reads as it did. -/
def waveletTwiceSpec : ChangeSpec := { name := "waveletTwice", fn := fun _ => fun
  | [d1, d2] => { results := [.lit (.bool true)], args := [d1, d2] }
  | _ => none }
def waveletTwiceRow : OpenClaim := { program := "ythpmachmnoljeaa", sum := "f203fd03da7855d429eed84b44d84018c20675744a38836b2f038f2787e94fa3", func := "comitia/comitialaw13.WaveletTwice", spec := "waveletTwice", unfollowed := true, recurses := true, apart := false }
def WaveletTwiceSaid : Prop := waveletTwiceRow.holds Try.pinned (OpenSpec.ofChange waveletTwiceSpec)

/-- ITS FALSE NEIGHBOUR: 'it returns false'. Refute it at one input. -/
def waveletTwiceWrong : ChangeSpec := { name := "waveletTwice", fn := fun _ => fun
  | [d1, d2] => { results := [.lit (.bool false)], args := [d1, d2] }
  | _ => none }
def WaveletTwiceWrongFalsely : Prop := waveletTwiceRow.holds Try.pinned (OpenSpec.ofChange waveletTwiceWrong)

/-- 'comitialaw13.WaveletLast': WHATEVER THE INPUT: true; the input reads as it did. -/
def waveletLastSpec : ChangeSpec := { name := "waveletLast", fn := fun _ => fun
  | [d] => { results := [.lit (.bool true)], args := [d] }
  | _ => none }
def waveletLastRow : OpenClaim := { program := "ythpmachmnoljeaa", sum := "f203fd03da7855d429eed84b44d84018c20675744a38836b2f038f2787e94fa3", func := "comitia/comitialaw13.WaveletLast", spec := "waveletLast", unfollowed := true, recurses := true, apart := false }
def WaveletLastSaid : Prop := waveletLastRow.holds Try.pinned (OpenSpec.ofChange waveletLastSpec)

/-- ITS FALSE NEIGHBOUR: 'it returns false'. Refute it at one input. -/
def waveletLastWrong : ChangeSpec := { name := "waveletLast", fn := fun _ => fun
  | [d] => { results := [.lit (.bool false)], args := [d] }
  | _ => none }
def WaveletLastWrongFalsely : Prop := waveletLastRow.holds Try.pinned (OpenSpec.ofChange waveletLastWrong)

/-- 'comitialaw13.WaveletPlays': WHATEVER THE INPUT: true; the input reads as it did. -/
def waveletPlaysSpec : ChangeSpec := { name := "waveletPlays", fn := fun _ => fun
  | [d1, d2, d3] => { results := [.lit (.bool true)], args := [d1, d2, d3] }
  | _ => none }
def waveletPlaysRow : OpenClaim := { program := "ythpmachmnoljeaa", sum := "f203fd03da7855d429eed84b44d84018c20675744a38836b2f038f2787e94fa3", func := "comitia/comitialaw13.WaveletPlays", spec := "waveletPlays", unfollowed := true, recurses := true, apart := false }
def WaveletPlaysSaid : Prop := waveletPlaysRow.holds Try.pinned (OpenSpec.ofChange waveletPlaysSpec)

/-- ITS FALSE NEIGHBOUR: 'it returns false'. Refute it at one input. -/
def waveletPlaysWrong : ChangeSpec := { name := "waveletPlays", fn := fun _ => fun
  | [d1, d2, d3] => { results := [.lit (.bool false)], args := [d1, d2, d3] }
  | _ => none }
def WaveletPlaysWrongFalsely : Prop := waveletPlaysRow.holds Try.pinned (OpenSpec.ofChange waveletPlaysWrong)

/-- 'comitialaw16.WireReads': WHATEVER THE INPUT: true; the input reads as it did. -/
def wireReadsSpec : ChangeSpec := { name := "wireReads", fn := fun _ => fun
  | [d1, d2, d3, d4, d5, d6] => { results := [.lit (.bool true)], args := [d1, d2, d3, d4, d5, d6] }
  | _ => none }
def wireReadsRow : OpenClaim := { program := "ythpmachmnoljeaa", sum := "f203fd03da7855d429eed84b44d84018c20675744a38836b2f038f2787e94fa3", func := "comitia/comitialaw16.WireReads", spec := "wireReads", inPlace := ["slices.overlaps[[]byte]"], unfollowed := true, recurses := true, apart := false }
def WireReadsSaid : Prop := wireReadsRow.holds Try.pinned (OpenSpec.ofChange wireReadsSpec)

/-- ITS FALSE NEIGHBOUR: 'it returns false'. Refute it at one input. -/
def wireReadsWrong : ChangeSpec := { name := "wireReads", fn := fun _ => fun
  | [d1, d2, d3, d4, d5, d6] => { results := [.lit (.bool false)], args := [d1, d2, d3, d4, d5, d6] }
  | _ => none }
def WireReadsWrongFalsely : Prop := wireReadsRow.holds Try.pinned (OpenSpec.ofChange wireReadsWrong)

/- THE SECOND FORM. 'bulk': how many values and letters a reading holds, each counted each time it is reached (what is shared counts as often as it is met; a slice's spare places count too). A statement '..UptoSaid' is the law's where the arguments, and the package variables that the reading takes, are together of bulk at most 1048576: NARROWER than '..Said'. Prove '..Said' where nothing that the law and all that it calls make is longer than what came in: it says more and counts as full. Else prove '..UptoSaid'. A law counts once. -/
mutual
def uptoBulk {H : Type} : DataW H → Nat
  | .lit (.string bytes) => bytes.length + 1
  | .lit _ => 1
  | .nil => 1
  | .ptr d => uptoBulk d + 1
  | .slice elems spare => uptoBulkAll elems + uptoBulkAll spare + 1
  | .agg parts => uptoBulkAll parts + 1
  | .iface _ d => uptoBulk d + 1
  | .map entries => uptoBulkEntries entries + 1
  | .held _ => 1
def uptoBulkAll {H : Type} : List (DataW H) → Nat
  | [] => 0
  | d :: r => uptoBulk d + uptoBulkAll r
def uptoBulkEntries {H : Type} : List (Lit × DataW H) → Nat
  | [] => 0
  | x :: r => uptoBulkEntry x + uptoBulkEntries r
def uptoBulkEntry {H : Type} : Lit × DataW H → Nat
  | (.string bytes, d) => bytes.length + uptoBulk d + 1
  | (_, d) => uptoBulk d + 1
 end
def uptoSmall : (H : Type) → List (DataW H) → Bool := fun _ ds => decide (uptoBulkAll ds ≤ 1048576)
def OpenSpec.upto (s : _root_.Go.ChangeSpec) : _root_.Go.OpenSpec := { _root_.Go.OpenSpec.ofChange s with cond := some uptoSmall }

/-- 'comitialaw13.WaveletChain', WHERE WHAT IT READS IS OF BULK AT MOST 1048576: true; the input reads as it did. -/
def waveletChainUptoRow : OpenClaim := { program := "ythpmachmnoljeaa", sum := "f203fd03da7855d429eed84b44d84018c20675744a38836b2f038f2787e94fa3", func := "comitia/comitialaw13.WaveletChain", spec := "waveletChain", unfollowed := true, recurses := true, apart := false, narrowed := true }
def WaveletChainUptoSaid : Prop := waveletChainUptoRow.holds Try.pinned (OpenSpec.upto waveletChainSpec)

/-- 'comitialaw13.WaveletMay', WHERE WHAT IT READS IS OF BULK AT MOST 1048576: true; the input reads as it did. -/
def waveletMayUptoRow : OpenClaim := { program := "ythpmachmnoljeaa", sum := "f203fd03da7855d429eed84b44d84018c20675744a38836b2f038f2787e94fa3", func := "comitia/comitialaw13.WaveletMay", spec := "waveletMay", unfollowed := true, recurses := true, apart := false, narrowed := true }
def WaveletMayUptoSaid : Prop := waveletMayUptoRow.holds Try.pinned (OpenSpec.upto waveletMaySpec)

/-- 'comitialaw13.WaveletTwice', WHERE WHAT IT READS IS OF BULK AT MOST 1048576: true; the input reads as it did. -/
def waveletTwiceUptoRow : OpenClaim := { program := "ythpmachmnoljeaa", sum := "f203fd03da7855d429eed84b44d84018c20675744a38836b2f038f2787e94fa3", func := "comitia/comitialaw13.WaveletTwice", spec := "waveletTwice", unfollowed := true, recurses := true, apart := false, narrowed := true }
def WaveletTwiceUptoSaid : Prop := waveletTwiceUptoRow.holds Try.pinned (OpenSpec.upto waveletTwiceSpec)

/-- 'comitialaw13.WaveletLast', WHERE WHAT IT READS IS OF BULK AT MOST 1048576: true; the input reads as it did. -/
def waveletLastUptoRow : OpenClaim := { program := "ythpmachmnoljeaa", sum := "f203fd03da7855d429eed84b44d84018c20675744a38836b2f038f2787e94fa3", func := "comitia/comitialaw13.WaveletLast", spec := "waveletLast", unfollowed := true, recurses := true, apart := false, narrowed := true }
def WaveletLastUptoSaid : Prop := waveletLastUptoRow.holds Try.pinned (OpenSpec.upto waveletLastSpec)

/-- 'comitialaw13.WaveletPlays', WHERE WHAT IT READS IS OF BULK AT MOST 1048576: true; the input reads as it did. -/
def waveletPlaysUptoRow : OpenClaim := { program := "ythpmachmnoljeaa", sum := "f203fd03da7855d429eed84b44d84018c20675744a38836b2f038f2787e94fa3", func := "comitia/comitialaw13.WaveletPlays", spec := "waveletPlays", unfollowed := true, recurses := true, apart := false, narrowed := true }
def WaveletPlaysUptoSaid : Prop := waveletPlaysUptoRow.holds Try.pinned (OpenSpec.upto waveletPlaysSpec)

/-- 'comitialaw16.WireReads', WHERE WHAT IT READS IS OF BULK AT MOST 1048576: true; the input reads as it did. -/
def wireReadsUptoRow : OpenClaim := { program := "ythpmachmnoljeaa", sum := "f203fd03da7855d429eed84b44d84018c20675744a38836b2f038f2787e94fa3", func := "comitia/comitialaw16.WireReads", spec := "wireReads", inPlace := ["slices.overlaps[[]byte]"], unfollowed := true, recurses := true, apart := false, narrowed := true }
def WireReadsUptoSaid : Prop := wireReadsUptoRow.holds Try.pinned (OpenSpec.upto wireReadsSpec)

end Rows
end Go.Proofs.Ythpmachmnoljeaa
