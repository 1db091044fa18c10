/-
  No cell of these rows narrows 'for every input' (looked for: loops, veiled, ifaces, maps, wideKeys, modest, calm, conditions, laid).
  DERIVED. THE GIVEN ROWS OF THIS SEAT. 5 by the template 'for every input the law returns true; each argument reads behind the call as it read before'; 0 by the template 'total and deterministic' (their statements: YtodldmomneecpabTotals.lean).
  GIVEN WITH THE SEED: the statements are not yours to turn. If you find one false, say at which input.
  Laid BY PROGRAM, IN A SANDBOX (cutbox-rows.mjs): the forced cells as the released guide's own fill.sh prints them over the translation 81fc2080cf004f8f… (all of the seat's roots in one cut). By AI agents, Wed Nov 11 2026. No macro, syntax, notation, axiom, sorry.
-/
import Derived.Test.YtodldmomneecpabChecked
import GoSem.Claim
import GoSem.ClaimJoined
import GoSem.ClaimMapViews
import Derived.JoinedTies
import Derived.KernelRfl
namespace Go.Proofs.Ytodldmomneecpab
/- THE CELL 'sum', in the pinned program and in every row, IS THE sha256 OF THE DUMP (.gsa) THAT YtodldmomneecpabProg.lean LOADS. Nothing in Lean hashes anything: it is a label: what it is worth is what the hold of that sum in a sandbox is worth. -/
noncomputable def Try.pinned : Pinned := { name := "ytodldmomneecpab", sum := "81fc2080cf004f8fe042d0dd498982a916c3f313a835fda17951be7f0e98a496", checked := Try.checked }
namespace Rows
def none {H : Type} : Left H := { results := [], args := [] }

/-- 'comitialaw18.ClientInvites': WHATEVER THE INPUT: true; the input reads as it did. -/
def clientInvitesSpec : ChangeSpec := { name := "clientInvites", fn := fun _ => fun
  | [d1, d2, d3] => { results := [.lit (.bool true)], args := [d1, d2, d3] }
  | _ => none }
def clientInvitesRow : OpenClaim := { program := "ytodldmomneecpab", sum := "81fc2080cf004f8fe042d0dd498982a916c3f313a835fda17951be7f0e98a496", func := "comitia/comitialaw18.ClientInvites", spec := "clientInvites", apart := false }
def ClientInvitesSaid : Prop := clientInvitesRow.holds Try.pinned (OpenSpec.ofChange clientInvitesSpec)

/-- ITS FALSE NEIGHBOUR: 'it returns false'. Refute it at one input. -/
def clientInvitesWrong : ChangeSpec := { name := "clientInvites", fn := fun _ => fun
  | [d1, d2, d3] => { results := [.lit (.bool false)], args := [d1, d2, d3] }
  | _ => none }
def ClientInvitesWrongFalsely : Prop := clientInvitesRow.holds Try.pinned (OpenSpec.ofChange clientInvitesWrong)

/-- 'comitialaw13.WaveletNew': WHATEVER THE INPUT: true; the input reads as it did. -/
def waveletNewSpec : ChangeSpec := { name := "waveletNew", fn := fun _ => fun
  | [d1, d2] => { results := [.lit (.bool true)], args := [d1, d2] }
  | _ => none }
def waveletNewRow : OpenClaim := { program := "ytodldmomneecpab", sum := "81fc2080cf004f8fe042d0dd498982a916c3f313a835fda17951be7f0e98a496", func := "comitia/comitialaw13.WaveletNew", spec := "waveletNew", apart := false }
def WaveletNewSaid : Prop := waveletNewRow.holds Try.pinned (OpenSpec.ofChange waveletNewSpec)

/-- ITS FALSE NEIGHBOUR: 'it returns false'. Refute it at one input. -/
def waveletNewWrong : ChangeSpec := { name := "waveletNew", fn := fun _ => fun
  | [d1, d2] => { results := [.lit (.bool false)], args := [d1, d2] }
  | _ => none }
def WaveletNewWrongFalsely : Prop := waveletNewRow.holds Try.pinned (OpenSpec.ofChange waveletNewWrong)

/-- 'comitialaw13.WaveletSames': WHATEVER THE INPUT: true; the input reads as it did. -/
def waveletSamesSpec : ChangeSpec := { name := "waveletSames", fn := fun _ => fun
  | [d1, d2, d3] => { results := [.lit (.bool true)], args := [d1, d2, d3] }
  | _ => none }
def waveletSamesRow : OpenClaim := { program := "ytodldmomneecpab", sum := "81fc2080cf004f8fe042d0dd498982a916c3f313a835fda17951be7f0e98a496", func := "comitia/comitialaw13.WaveletSames", spec := "waveletSames", apart := false }
def WaveletSamesSaid : Prop := waveletSamesRow.holds Try.pinned (OpenSpec.ofChange waveletSamesSpec)

/-- ITS FALSE NEIGHBOUR: 'it returns false'. Refute it at one input. -/
def waveletSamesWrong : ChangeSpec := { name := "waveletSames", fn := fun _ => fun
  | [d1, d2, d3] => { results := [.lit (.bool false)], args := [d1, d2, d3] }
  | _ => none }
def WaveletSamesWrongFalsely : Prop := waveletSamesRow.holds Try.pinned (OpenSpec.ofChange waveletSamesWrong)

/-- 'comitialaw18.ClientEdits': WHATEVER THE INPUT: true; the input reads as it did. -/
def clientEditsSpec : ChangeSpec := { name := "clientEdits", fn := fun _ => fun
  | [d] => { results := [.lit (.bool true)], args := [d] }
  | _ => none }
def clientEditsRow : OpenClaim := { program := "ytodldmomneecpab", sum := "81fc2080cf004f8fe042d0dd498982a916c3f313a835fda17951be7f0e98a496", func := "comitia/comitialaw18.ClientEdits", spec := "clientEdits", apart := false }
def ClientEditsSaid : Prop := clientEditsRow.holds Try.pinned (OpenSpec.ofChange clientEditsSpec)

/-- ITS FALSE NEIGHBOUR: 'it returns false'. Refute it at one input. -/
def clientEditsWrong : ChangeSpec := { name := "clientEdits", fn := fun _ => fun
  | [d] => { results := [.lit (.bool false)], args := [d] }
  | _ => none }
def ClientEditsWrongFalsely : Prop := clientEditsRow.holds Try.pinned (OpenSpec.ofChange clientEditsWrong)

/-- 'comitialaw18.ClientPush': WHATEVER THE INPUT: true; the input reads as it did. -/
def clientPushSpec : ChangeSpec := { name := "clientPush", fn := fun _ => fun
  | [d1, d2] => { results := [.lit (.bool true)], args := [d1, d2] }
  | _ => none }
def clientPushRow : OpenClaim := { program := "ytodldmomneecpab", sum := "81fc2080cf004f8fe042d0dd498982a916c3f313a835fda17951be7f0e98a496", func := "comitia/comitialaw18.ClientPush", spec := "clientPush", apart := false }
def ClientPushSaid : Prop := clientPushRow.holds Try.pinned (OpenSpec.ofChange clientPushSpec)

/-- ITS FALSE NEIGHBOUR: 'it returns false'. Refute it at one input. -/
def clientPushWrong : ChangeSpec := { name := "clientPush", fn := fun _ => fun
  | [d1, d2] => { results := [.lit (.bool false)], args := [d1, d2] }
  | _ => none }
def ClientPushWrongFalsely : Prop := clientPushRow.holds Try.pinned (OpenSpec.ofChange clientPushWrong)

/- THE SECOND FORM. 'bulk': how many values and letters a reading holds, each counted each time it is reached (what is shared counts as often as it is met; a slice's spare places count too). A statement '..UptoSaid' is the law's where the arguments, and the package variables that the reading takes, are together of bulk at most 1048576: NARROWER than '..Said'. Prove '..Said' where nothing that the law and all that it calls make is longer than what came in: it says more and counts as full. Else prove '..UptoSaid'. A law counts once. -/
mutual
def uptoBulk {H : Type} : DataW H → Nat
  | .lit (.string bytes) => bytes.length + 1
  | .lit _ => 1
  | .nil => 1
  | .ptr d => uptoBulk d + 1
  | .slice elems spare => uptoBulkAll elems + uptoBulkAll spare + 1
  | .agg parts => uptoBulkAll parts + 1
  | .iface _ d => uptoBulk d + 1
  | .map entries => uptoBulkEntries entries + 1
  | .held _ => 1
def uptoBulkAll {H : Type} : List (DataW H) → Nat
  | [] => 0
  | d :: r => uptoBulk d + uptoBulkAll r
def uptoBulkEntries {H : Type} : List (Lit × DataW H) → Nat
  | [] => 0
  | x :: r => uptoBulkEntry x + uptoBulkEntries r
def uptoBulkEntry {H : Type} : Lit × DataW H → Nat
  | (.string bytes, d) => bytes.length + uptoBulk d + 1
  | (_, d) => uptoBulk d + 1
 end
def uptoSmall : (H : Type) → List (DataW H) → Bool := fun _ ds => decide (uptoBulkAll ds ≤ 1048576)
def OpenSpec.upto (s : _root_.Go.ChangeSpec) : _root_.Go.OpenSpec := { _root_.Go.OpenSpec.ofChange s with cond := some uptoSmall }

/-- 'comitialaw18.ClientInvites', WHERE WHAT IT READS IS OF BULK AT MOST 1048576: true; the input reads as it did. -/
def clientInvitesUptoRow : OpenClaim := { program := "ytodldmomneecpab", sum := "81fc2080cf004f8fe042d0dd498982a916c3f313a835fda17951be7f0e98a496", func := "comitia/comitialaw18.ClientInvites", spec := "clientInvites", apart := false, narrowed := true }
def ClientInvitesUptoSaid : Prop := clientInvitesUptoRow.holds Try.pinned (OpenSpec.upto clientInvitesSpec)

/-- 'comitialaw13.WaveletNew', WHERE WHAT IT READS IS OF BULK AT MOST 1048576: true; the input reads as it did. -/
def waveletNewUptoRow : OpenClaim := { program := "ytodldmomneecpab", sum := "81fc2080cf004f8fe042d0dd498982a916c3f313a835fda17951be7f0e98a496", func := "comitia/comitialaw13.WaveletNew", spec := "waveletNew", apart := false, narrowed := true }
def WaveletNewUptoSaid : Prop := waveletNewUptoRow.holds Try.pinned (OpenSpec.upto waveletNewSpec)

/-- 'comitialaw13.WaveletSames', WHERE WHAT IT READS IS OF BULK AT MOST 1048576: true; the input reads as it did. -/
def waveletSamesUptoRow : OpenClaim := { program := "ytodldmomneecpab", sum := "81fc2080cf004f8fe042d0dd498982a916c3f313a835fda17951be7f0e98a496", func := "comitia/comitialaw13.WaveletSames", spec := "waveletSames", apart := false, narrowed := true }
def WaveletSamesUptoSaid : Prop := waveletSamesUptoRow.holds Try.pinned (OpenSpec.upto waveletSamesSpec)

/-- 'comitialaw18.ClientEdits', WHERE WHAT IT READS IS OF BULK AT MOST 1048576: true; the input reads as it did. -/
def clientEditsUptoRow : OpenClaim := { program := "ytodldmomneecpab", sum := "81fc2080cf004f8fe042d0dd498982a916c3f313a835fda17951be7f0e98a496", func := "comitia/comitialaw18.ClientEdits", spec := "clientEdits", apart := false, narrowed := true }
def ClientEditsUptoSaid : Prop := clientEditsUptoRow.holds Try.pinned (OpenSpec.upto clientEditsSpec)

/-- 'comitialaw18.ClientPush', WHERE WHAT IT READS IS OF BULK AT MOST 1048576: true; the input reads as it did. -/
def clientPushUptoRow : OpenClaim := { program := "ytodldmomneecpab", sum := "81fc2080cf004f8fe042d0dd498982a916c3f313a835fda17951be7f0e98a496", func := "comitia/comitialaw18.ClientPush", spec := "clientPush", apart := false, narrowed := true }
def ClientPushUptoSaid : Prop := clientPushUptoRow.holds Try.pinned (OpenSpec.upto clientPushSpec)

end Rows
end Go.Proofs.Ytodldmomneecpab
