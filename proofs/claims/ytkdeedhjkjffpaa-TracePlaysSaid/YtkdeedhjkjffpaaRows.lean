/-
  No cell of these rows narrows 'for every input' (looked for: loops, veiled, ifaces, maps, wideKeys, modest, calm, conditions, laid).
  DERIVED. THE GIVEN ROWS OF THIS SEAT. 3 by the template 'for every input the law returns true; each argument reads behind the call as it read before'; 0 by the template 'total and deterministic' (their statements: YtkdeedhjkjffpaaTotals.lean).
  GIVEN WITH THE SEED: the statements are not yours to turn. If you find one false, say at which input.
  Laid BY PROGRAM, IN A SANDBOX (cutbox-rows.mjs): the forced cells as the released guide's own fill.sh prints them over the translation 5335eac8f2dc7d39… (all of the seat's roots in one cut). By AI agents, Wed Nov 11 2026. No macro, syntax, notation, axiom, sorry.
-/
import Derived.Test.YtkdeedhjkjffpaaChecked
import GoSem.Claim
import GoSem.ClaimJoined
import GoSem.ClaimMapViews
import Derived.JoinedTies
import Derived.KernelRfl
namespace Go.Proofs.Ytkdeedhjkjffpaa
/- THE CELL 'sum', in the pinned program and in every row, IS THE sha256 OF THE DUMP (.gsa) THAT YtkdeedhjkjffpaaProg.lean LOADS. Nothing in Lean hashes anything: it is a label: what it is worth is what the hold of that sum in a sandbox is worth. -/
noncomputable def Try.pinned : Pinned := { name := "ytkdeedhjkjffpaa", sum := "5335eac8f2dc7d39b2e9680445f674c9f7c6c77e5665d97e74dc60f46422564f", checked := Try.checked }
namespace Rows
def none {H : Type} : Left H := { results := [], args := [] }

/-- 'hubbublaw25.TracePlays': WHATEVER THE INPUT: true; the input reads as it did. -/
def tracePlaysSpec : ChangeSpec := { name := "tracePlays", fn := fun _ => fun
  | [d1, d2] => { results := [.lit (.bool true)], args := [d1, d2] }
  | _ => none }
def tracePlaysRow : OpenClaim := { program := "ytkdeedhjkjffpaa", sum := "5335eac8f2dc7d39b2e9680445f674c9f7c6c77e5665d97e74dc60f46422564f", func := "hubbub/hubbublaw25.TracePlays", spec := "tracePlays", plainKeys := false, apart := false }
def TracePlaysSaid : Prop := tracePlaysRow.holds Try.pinned (OpenSpec.ofChange tracePlaysSpec)

/-- ITS FALSE NEIGHBOUR: 'it returns false'. Refute it at one input. -/
def tracePlaysWrong : ChangeSpec := { name := "tracePlays", fn := fun _ => fun
  | [d1, d2] => { results := [.lit (.bool false)], args := [d1, d2] }
  | _ => none }
def TracePlaysWrongFalsely : Prop := tracePlaysRow.holds Try.pinned (OpenSpec.ofChange tracePlaysWrong)

/-- 'hubbublaw25.TraceOwes': WHATEVER THE INPUT: true; the input reads as it did. -/
def traceOwesSpec : ChangeSpec := { name := "traceOwes", fn := fun _ => fun
  | [d] => { results := [.lit (.bool true)], args := [d] }
  | _ => none }
def traceOwesRow : OpenClaim := { program := "ytkdeedhjkjffpaa", sum := "5335eac8f2dc7d39b2e9680445f674c9f7c6c77e5665d97e74dc60f46422564f", func := "hubbub/hubbublaw25.TraceOwes", spec := "traceOwes", plainKeys := false, apart := false }
def TraceOwesSaid : Prop := traceOwesRow.holds Try.pinned (OpenSpec.ofChange traceOwesSpec)

/-- ITS FALSE NEIGHBOUR: 'it returns false'. Refute it at one input. -/
def traceOwesWrong : ChangeSpec := { name := "traceOwes", fn := fun _ => fun
  | [d] => { results := [.lit (.bool false)], args := [d] }
  | _ => none }
def TraceOwesWrongFalsely : Prop := traceOwesRow.holds Try.pinned (OpenSpec.ofChange traceOwesWrong)

/-- 'hubbublaw25.TraceIds': WHATEVER THE INPUT: true; the input reads as it did. -/
def traceIdsSpec : ChangeSpec := { name := "traceIds", fn := fun _ => fun
  | [d1, d2, d3, d4, d5, d6] => { results := [.lit (.bool true)], args := [d1, d2, d3, d4, d5, d6] }
  | _ => none }
def traceIdsRow : OpenClaim := { program := "ytkdeedhjkjffpaa", sum := "5335eac8f2dc7d39b2e9680445f674c9f7c6c77e5665d97e74dc60f46422564f", func := "hubbub/hubbublaw25.TraceIds", spec := "traceIds", plainKeys := false, apart := false }
def TraceIdsSaid : Prop := traceIdsRow.holds Try.pinned (OpenSpec.ofChange traceIdsSpec)

/-- ITS FALSE NEIGHBOUR: 'it returns false'. Refute it at one input. -/
def traceIdsWrong : ChangeSpec := { name := "traceIds", fn := fun _ => fun
  | [d1, d2, d3, d4, d5, d6] => { results := [.lit (.bool false)], args := [d1, d2, d3, d4, d5, d6] }
  | _ => none }
def TraceIdsWrongFalsely : Prop := traceIdsRow.holds Try.pinned (OpenSpec.ofChange traceIdsWrong)

/- THE SECOND FORM. 'bulk': how many values and letters a reading holds, each counted each time it is reached (what is shared counts as often as it is met; a slice's spare places count too). A statement '..UptoSaid' is the law's where the arguments, and the package variables that the reading takes, are together of bulk at most 1048576: NARROWER than '..Said'. Prove '..Said' where nothing that the law and all that it calls make is longer than what came in: it says more and counts as full. Else prove '..UptoSaid'. A law counts once. -/
mutual
def uptoBulk {H : Type} : DataW H → Nat
  | .lit (.string bytes) => bytes.length + 1
  | .lit _ => 1
  | .nil => 1
  | .ptr d => uptoBulk d + 1
  | .slice elems spare => uptoBulkAll elems + uptoBulkAll spare + 1
  | .agg parts => uptoBulkAll parts + 1
  | .iface _ d => uptoBulk d + 1
  | .map entries => uptoBulkEntries entries + 1
  | .held _ => 1
def uptoBulkAll {H : Type} : List (DataW H) → Nat
  | [] => 0
  | d :: r => uptoBulk d + uptoBulkAll r
def uptoBulkEntries {H : Type} : List (Lit × DataW H) → Nat
  | [] => 0
  | x :: r => uptoBulkEntry x + uptoBulkEntries r
def uptoBulkEntry {H : Type} : Lit × DataW H → Nat
  | (.string bytes, d) => bytes.length + uptoBulk d + 1
  | (_, d) => uptoBulk d + 1
 end
def uptoSmall : (H : Type) → List (DataW H) → Bool := fun _ ds => decide (uptoBulkAll ds ≤ 1048576)
def OpenSpec.upto (s : _root_.Go.ChangeSpec) : _root_.Go.OpenSpec := { _root_.Go.OpenSpec.ofChange s with cond := some uptoSmall }

/-- 'hubbublaw25.TracePlays', WHERE WHAT IT READS IS OF BULK AT MOST 1048576: true; the input reads as it did. -/
def tracePlaysUptoRow : OpenClaim := { program := "ytkdeedhjkjffpaa", sum := "5335eac8f2dc7d39b2e9680445f674c9f7c6c77e5665d97e74dc60f46422564f", func := "hubbub/hubbublaw25.TracePlays", spec := "tracePlays", plainKeys := false, apart := false, narrowed := true }
def TracePlaysUptoSaid : Prop := tracePlaysUptoRow.holds Try.pinned (OpenSpec.upto tracePlaysSpec)

/-- 'hubbublaw25.TraceOwes', WHERE WHAT IT READS IS OF BULK AT MOST 1048576: true; the input reads as it did. -/
def traceOwesUptoRow : OpenClaim := { program := "ytkdeedhjkjffpaa", sum := "5335eac8f2dc7d39b2e9680445f674c9f7c6c77e5665d97e74dc60f46422564f", func := "hubbub/hubbublaw25.TraceOwes", spec := "traceOwes", plainKeys := false, apart := false, narrowed := true }
def TraceOwesUptoSaid : Prop := traceOwesUptoRow.holds Try.pinned (OpenSpec.upto traceOwesSpec)

/-- 'hubbublaw25.TraceIds', WHERE WHAT IT READS IS OF BULK AT MOST 1048576: true; the input reads as it did. -/
def traceIdsUptoRow : OpenClaim := { program := "ytkdeedhjkjffpaa", sum := "5335eac8f2dc7d39b2e9680445f674c9f7c6c77e5665d97e74dc60f46422564f", func := "hubbub/hubbublaw25.TraceIds", spec := "traceIds", plainKeys := false, apart := false, narrowed := true }
def TraceIdsUptoSaid : Prop := traceIdsUptoRow.holds Try.pinned (OpenSpec.upto traceIdsSpec)

end Rows
end Go.Proofs.Ytkdeedhjkjffpaa
