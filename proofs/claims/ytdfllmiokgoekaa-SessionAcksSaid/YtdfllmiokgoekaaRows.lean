/-
  No cell of these rows narrows 'for every input' (looked for: loops, veiled, ifaces, maps, wideKeys, modest, calm, conditions, laid).
  DERIVED. THE GIVEN ROWS OF THIS SEAT. 6 by the template 'for every input the law returns true; each argument reads behind the call as it read before'; 0 by the template 'total and deterministic' (their statements: YtdfllmiokgoekaaTotals.lean).
  GIVEN WITH THE SEED: the statements are not yours to turn. If you find one false, say at which input.
  Laid BY PROGRAM, IN A SANDBOX (cutbox-rows.mjs): the forced cells as the released guide's own fill.sh prints them over the translation 87b0fa210b23ee4a… (all of the seat's roots in one cut). By AI agents, Wed Nov 11 2026. No macro, syntax, notation, axiom, sorry.
-/
import Derived.Test.YtdfllmiokgoekaaChecked
import GoSem.Claim
import GoSem.ClaimJoined
import GoSem.ClaimMapViews
import Derived.JoinedTies
import Derived.KernelRfl
namespace Go.Proofs.Ytdfllmiokgoekaa
/- THE CELL 'sum', in the pinned program and in every row, IS THE sha256 OF THE DUMP (.gsa) THAT YtdfllmiokgoekaaProg.lean LOADS. Nothing in Lean hashes anything: it is a label: what it is worth is what the hold of that sum in a sandbox is worth. -/
noncomputable def Try.pinned : Pinned := { name := "ytdfllmiokgoekaa", sum := "87b0fa210b23ee4ac450003d02ed535bd42575cfc12aa47ee1238c6d080dd5da", checked := Try.checked }
namespace Rows
def none {H : Type} : Left H := { results := [], args := [] }

/-- 'hubbublaw19.SessionOnce': WHATEVER THE INPUT: true; the input reads as it did. -/
def sessionOnceSpec : ChangeSpec := { name := "sessionOnce", fn := fun _ => fun
  | [d] => { results := [.lit (.bool true)], args := [d] }
  | _ => none }
def sessionOnceRow : OpenClaim := { program := "ytdfllmiokgoekaa", sum := "87b0fa210b23ee4ac450003d02ed535bd42575cfc12aa47ee1238c6d080dd5da", func := "hubbub/hubbublaw19.SessionOnce", spec := "sessionOnce", unfollowed := true, recurses := true, apart := false }
def SessionOnceSaid : Prop := sessionOnceRow.holds Try.pinned (OpenSpec.ofChange sessionOnceSpec)

/-- ITS FALSE NEIGHBOUR: 'it returns false'. Refute it at one input. -/
def sessionOnceWrong : ChangeSpec := { name := "sessionOnce", fn := fun _ => fun
  | [d] => { results := [.lit (.bool false)], args := [d] }
  | _ => none }
def SessionOnceWrongFalsely : Prop := sessionOnceRow.holds Try.pinned (OpenSpec.ofChange sessionOnceWrong)

/-- 'hubbublaw19.SessionAcks': WHATEVER THE INPUT: true; the input reads as it did. -/
def sessionAcksSpec : ChangeSpec := { name := "sessionAcks", fn := fun _ => fun
  | [d1, d2, d3, d4] => { results := [.lit (.bool true)], args := [d1, d2, d3, d4] }
  | _ => none }
def sessionAcksRow : OpenClaim := { program := "ytdfllmiokgoekaa", sum := "87b0fa210b23ee4ac450003d02ed535bd42575cfc12aa47ee1238c6d080dd5da", func := "hubbub/hubbublaw19.SessionAcks", spec := "sessionAcks", unfollowed := true, recurses := true, apart := false }
def SessionAcksSaid : Prop := sessionAcksRow.holds Try.pinned (OpenSpec.ofChange sessionAcksSpec)

/-- ITS FALSE NEIGHBOUR: 'it returns false'. Refute it at one input. -/
def sessionAcksWrong : ChangeSpec := { name := "sessionAcks", fn := fun _ => fun
  | [d1, d2, d3, d4] => { results := [.lit (.bool false)], args := [d1, d2, d3, d4] }
  | _ => none }
def SessionAcksWrongFalsely : Prop := sessionAcksRow.holds Try.pinned (OpenSpec.ofChange sessionAcksWrong)

/-- 'hubbublaw19.SessionLoses': WHATEVER THE INPUT: true; the input reads as it did. -/
def sessionLosesSpec : ChangeSpec := { name := "sessionLoses", fn := fun _ => fun
  | [d1, d2] => { results := [.lit (.bool true)], args := [d1, d2] }
  | _ => none }
def sessionLosesRow : OpenClaim := { program := "ytdfllmiokgoekaa", sum := "87b0fa210b23ee4ac450003d02ed535bd42575cfc12aa47ee1238c6d080dd5da", func := "hubbub/hubbublaw19.SessionLoses", spec := "sessionLoses", unfollowed := true, recurses := true, apart := false }
def SessionLosesSaid : Prop := sessionLosesRow.holds Try.pinned (OpenSpec.ofChange sessionLosesSpec)

/-- ITS FALSE NEIGHBOUR: 'it returns false'. Refute it at one input. -/
def sessionLosesWrong : ChangeSpec := { name := "sessionLoses", fn := fun _ => fun
  | [d1, d2] => { results := [.lit (.bool false)], args := [d1, d2] }
  | _ => none }
def SessionLosesWrongFalsely : Prop := sessionLosesRow.holds Try.pinned (OpenSpec.ofChange sessionLosesWrong)

/-- 'hubbublaw19.SessionAgain': WHATEVER THE INPUT: true; the input reads as it did. -/
def sessionAgainSpec : ChangeSpec := { name := "sessionAgain", fn := fun _ => fun
  | [d1, d2, d3, d4] => { results := [.lit (.bool true)], args := [d1, d2, d3, d4] }
  | _ => none }
def sessionAgainRow : OpenClaim := { program := "ytdfllmiokgoekaa", sum := "87b0fa210b23ee4ac450003d02ed535bd42575cfc12aa47ee1238c6d080dd5da", func := "hubbub/hubbublaw19.SessionAgain", spec := "sessionAgain", unfollowed := true, recurses := true, apart := false }
def SessionAgainSaid : Prop := sessionAgainRow.holds Try.pinned (OpenSpec.ofChange sessionAgainSpec)

/-- ITS FALSE NEIGHBOUR: 'it returns false'. Refute it at one input. -/
def sessionAgainWrong : ChangeSpec := { name := "sessionAgain", fn := fun _ => fun
  | [d1, d2, d3, d4] => { results := [.lit (.bool false)], args := [d1, d2, d3, d4] }
  | _ => none }
def SessionAgainWrongFalsely : Prop := sessionAgainRow.holds Try.pinned (OpenSpec.ofChange sessionAgainWrong)

/-- 'hubbublaw19.SessionReceived': WHATEVER THE INPUT: true; the input reads as it did. -/
def sessionReceivedSpec : ChangeSpec := { name := "sessionReceived", fn := fun _ => fun
  | [d1, d2, d3] => { results := [.lit (.bool true)], args := [d1, d2, d3] }
  | _ => none }
def sessionReceivedRow : OpenClaim := { program := "ytdfllmiokgoekaa", sum := "87b0fa210b23ee4ac450003d02ed535bd42575cfc12aa47ee1238c6d080dd5da", func := "hubbub/hubbublaw19.SessionReceived", spec := "sessionReceived", unfollowed := true, recurses := true, apart := false }
def SessionReceivedSaid : Prop := sessionReceivedRow.holds Try.pinned (OpenSpec.ofChange sessionReceivedSpec)

/-- ITS FALSE NEIGHBOUR: 'it returns false'. Refute it at one input. -/
def sessionReceivedWrong : ChangeSpec := { name := "sessionReceived", fn := fun _ => fun
  | [d1, d2, d3] => { results := [.lit (.bool false)], args := [d1, d2, d3] }
  | _ => none }
def SessionReceivedWrongFalsely : Prop := sessionReceivedRow.holds Try.pinned (OpenSpec.ofChange sessionReceivedWrong)

/-- 'hubbublaw19.SessionOff': WHATEVER THE INPUT: true; the input reads as it did. -/
def sessionOffSpec : ChangeSpec := { name := "sessionOff", fn := fun _ => fun
  | [d] => { results := [.lit (.bool true)], args := [d] }
  | _ => none }
def sessionOffRow : OpenClaim := { program := "ytdfllmiokgoekaa", sum := "87b0fa210b23ee4ac450003d02ed535bd42575cfc12aa47ee1238c6d080dd5da", func := "hubbub/hubbublaw19.SessionOff", spec := "sessionOff", unfollowed := true, recurses := true, apart := false }
def SessionOffSaid : Prop := sessionOffRow.holds Try.pinned (OpenSpec.ofChange sessionOffSpec)

/-- ITS FALSE NEIGHBOUR: 'it returns false'. Refute it at one input. -/
def sessionOffWrong : ChangeSpec := { name := "sessionOff", fn := fun _ => fun
  | [d] => { results := [.lit (.bool false)], args := [d] }
  | _ => none }
def SessionOffWrongFalsely : Prop := sessionOffRow.holds Try.pinned (OpenSpec.ofChange sessionOffWrong)

/- THE SECOND FORM. 'bulk': how many values and letters a reading holds, each counted each time it is reached (what is shared counts as often as it is met; a slice's spare places count too). A statement '..UptoSaid' is the law's where the arguments, and the package variables that the reading takes, are together of bulk at most 1048576: NARROWER than '..Said'. Prove '..Said' where nothing that the law and all that it calls make is longer than what came in: it says more and counts as full. Else prove '..UptoSaid'. A law counts once. -/
mutual
def uptoBulk {H : Type} : DataW H → Nat
  | .lit (.string bytes) => bytes.length + 1
  | .lit _ => 1
  | .nil => 1
  | .ptr d => uptoBulk d + 1
  | .slice elems spare => uptoBulkAll elems + uptoBulkAll spare + 1
  | .agg parts => uptoBulkAll parts + 1
  | .iface _ d => uptoBulk d + 1
  | .map entries => uptoBulkEntries entries + 1
  | .held _ => 1
def uptoBulkAll {H : Type} : List (DataW H) → Nat
  | [] => 0
  | d :: r => uptoBulk d + uptoBulkAll r
def uptoBulkEntries {H : Type} : List (Lit × DataW H) → Nat
  | [] => 0
  | x :: r => uptoBulkEntry x + uptoBulkEntries r
def uptoBulkEntry {H : Type} : Lit × DataW H → Nat
  | (.string bytes, d) => bytes.length + uptoBulk d + 1
  | (_, d) => uptoBulk d + 1
 end
def uptoSmall : (H : Type) → List (DataW H) → Bool := fun _ ds => decide (uptoBulkAll ds ≤ 1048576)
def OpenSpec.upto (s : _root_.Go.ChangeSpec) : _root_.Go.OpenSpec := { _root_.Go.OpenSpec.ofChange s with cond := some uptoSmall }

/-- 'hubbublaw19.SessionOnce', WHERE WHAT IT READS IS OF BULK AT MOST 1048576: true; the input reads as it did. -/
def sessionOnceUptoRow : OpenClaim := { program := "ytdfllmiokgoekaa", sum := "87b0fa210b23ee4ac450003d02ed535bd42575cfc12aa47ee1238c6d080dd5da", func := "hubbub/hubbublaw19.SessionOnce", spec := "sessionOnce", unfollowed := true, recurses := true, apart := false, narrowed := true }
def SessionOnceUptoSaid : Prop := sessionOnceUptoRow.holds Try.pinned (OpenSpec.upto sessionOnceSpec)

/-- 'hubbublaw19.SessionAcks', WHERE WHAT IT READS IS OF BULK AT MOST 1048576: true; the input reads as it did. -/
def sessionAcksUptoRow : OpenClaim := { program := "ytdfllmiokgoekaa", sum := "87b0fa210b23ee4ac450003d02ed535bd42575cfc12aa47ee1238c6d080dd5da", func := "hubbub/hubbublaw19.SessionAcks", spec := "sessionAcks", unfollowed := true, recurses := true, apart := false, narrowed := true }
def SessionAcksUptoSaid : Prop := sessionAcksUptoRow.holds Try.pinned (OpenSpec.upto sessionAcksSpec)

/-- 'hubbublaw19.SessionLoses', WHERE WHAT IT READS IS OF BULK AT MOST 1048576: true; the input reads as it did. -/
def sessionLosesUptoRow : OpenClaim := { program := "ytdfllmiokgoekaa", sum := "87b0fa210b23ee4ac450003d02ed535bd42575cfc12aa47ee1238c6d080dd5da", func := "hubbub/hubbublaw19.SessionLoses", spec := "sessionLoses", unfollowed := true, recurses := true, apart := false, narrowed := true }
def SessionLosesUptoSaid : Prop := sessionLosesUptoRow.holds Try.pinned (OpenSpec.upto sessionLosesSpec)

/-- 'hubbublaw19.SessionAgain', WHERE WHAT IT READS IS OF BULK AT MOST 1048576: true; the input reads as it did. -/
def sessionAgainUptoRow : OpenClaim := { program := "ytdfllmiokgoekaa", sum := "87b0fa210b23ee4ac450003d02ed535bd42575cfc12aa47ee1238c6d080dd5da", func := "hubbub/hubbublaw19.SessionAgain", spec := "sessionAgain", unfollowed := true, recurses := true, apart := false, narrowed := true }
def SessionAgainUptoSaid : Prop := sessionAgainUptoRow.holds Try.pinned (OpenSpec.upto sessionAgainSpec)

/-- 'hubbublaw19.SessionReceived', WHERE WHAT IT READS IS OF BULK AT MOST 1048576: true; the input reads as it did. -/
def sessionReceivedUptoRow : OpenClaim := { program := "ytdfllmiokgoekaa", sum := "87b0fa210b23ee4ac450003d02ed535bd42575cfc12aa47ee1238c6d080dd5da", func := "hubbub/hubbublaw19.SessionReceived", spec := "sessionReceived", unfollowed := true, recurses := true, apart := false, narrowed := true }
def SessionReceivedUptoSaid : Prop := sessionReceivedUptoRow.holds Try.pinned (OpenSpec.upto sessionReceivedSpec)

/-- 'hubbublaw19.SessionOff', WHERE WHAT IT READS IS OF BULK AT MOST 1048576: true; the input reads as it did. -/
def sessionOffUptoRow : OpenClaim := { program := "ytdfllmiokgoekaa", sum := "87b0fa210b23ee4ac450003d02ed535bd42575cfc12aa47ee1238c6d080dd5da", func := "hubbub/hubbublaw19.SessionOff", spec := "sessionOff", unfollowed := true, recurses := true, apart := false, narrowed := true }
def SessionOffUptoSaid : Prop := sessionOffUptoRow.holds Try.pinned (OpenSpec.upto sessionOffSpec)

end Rows
end Go.Proofs.Ytdfllmiokgoekaa
