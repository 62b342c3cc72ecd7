/-
  No cell of these rows narrows 'for every input' (looked for: loops, veiled, ifaces, maps, wideKeys, modest, calm, conditions, laid).
  DERIVED. THE GIVEN ROWS OF THIS SEAT. 3 by the template 'for every input the law returns true; each argument reads behind the call as it read before'; 0 by the template 'total and deterministic' (their statements: YtpcnkodkcaapmaaTotals.lean).
  GIVEN WITH THE SEED: the statements are not yours to turn. If you find one false, say at which input.
  Laid BY PROGRAM, IN A SANDBOX (cutbox-rows.mjs): the forced cells as the released guide's own fill.sh prints them over the translation 323b60c07190c9c8… (all of the seat's roots in one cut). By AI agents, Wed Nov 11 2026. No macro, syntax, notation, axiom, sorry.
-/
import Derived.Test.YtpcnkodkcaapmaaChecked
import GoSem.Claim
import GoSem.ClaimJoined
import GoSem.ClaimMapViews
import Derived.JoinedTies
import Derived.KernelRfl
namespace Go.Proofs.Ytpcnkodkcaapmaa
/- THE CELL 'sum', in the pinned program and in every row, IS THE sha256 OF THE DUMP (.gsa) THAT YtpcnkodkcaapmaaProg.lean LOADS. Nothing in Lean hashes anything: it is a label: what it is worth is what the hold of that sum in a sandbox is worth. -/
noncomputable def Try.pinned : Pinned := { name := "ytpcnkodkcaapmaa", sum := "323b60c07190c9c8231b5860b1962a0eb17a9d4f2ba1bc0a929904fbc38b07da", checked := Try.checked }
namespace Rows
def none {H : Type} : Left H := { results := [], args := [] }

/-- 'hubbublaw17.IdsPlay': WHATEVER THE INPUT: true; the input reads as it did. -/
def idsPlaySpec : ChangeSpec := { name := "idsPlay", fn := fun _ => fun
  | [d1, d2] => { results := [.lit (.bool true)], args := [d1, d2] }
  | _ => none }
def idsPlayRow : OpenClaim := { program := "ytpcnkodkcaapmaa", sum := "323b60c07190c9c8231b5860b1962a0eb17a9d4f2ba1bc0a929904fbc38b07da", func := "hubbub/hubbublaw17.IdsPlay", spec := "idsPlay", apart := false }
def IdsPlaySaid : Prop := idsPlayRow.holds Try.pinned (OpenSpec.ofChange idsPlaySpec)

/-- ITS FALSE NEIGHBOUR: 'it returns false'. Refute it at one input. -/
def idsPlayWrong : ChangeSpec := { name := "idsPlay", fn := fun _ => fun
  | [d1, d2] => { results := [.lit (.bool false)], args := [d1, d2] }
  | _ => none }
def IdsPlayWrongFalsely : Prop := idsPlayRow.holds Try.pinned (OpenSpec.ofChange idsPlayWrong)

/-- 'hubbublaw17.IdsRound': WHATEVER THE INPUT: true; the input reads as it did. -/
def idsRoundSpec : ChangeSpec := { name := "idsRound", fn := fun _ => fun
  | [d1, d2] => { results := [.lit (.bool true)], args := [d1, d2] }
  | _ => none }
def idsRoundRow : OpenClaim := { program := "ytpcnkodkcaapmaa", sum := "323b60c07190c9c8231b5860b1962a0eb17a9d4f2ba1bc0a929904fbc38b07da", func := "hubbub/hubbublaw17.IdsRound", spec := "idsRound", apart := false }
def IdsRoundSaid : Prop := idsRoundRow.holds Try.pinned (OpenSpec.ofChange idsRoundSpec)

/-- ITS FALSE NEIGHBOUR: 'it returns false'. Refute it at one input. -/
def idsRoundWrong : ChangeSpec := { name := "idsRound", fn := fun _ => fun
  | [d1, d2] => { results := [.lit (.bool false)], args := [d1, d2] }
  | _ => none }
def IdsRoundWrongFalsely : Prop := idsRoundRow.holds Try.pinned (OpenSpec.ofChange idsRoundWrong)

/-- 'hubbublaw17.IdsApart': WHATEVER THE INPUT: true; the input reads as it did. -/
def idsApartSpec : ChangeSpec := { name := "idsApart", fn := fun _ => fun
  | [d1, d2] => { results := [.lit (.bool true)], args := [d1, d2] }
  | _ => none }
def idsApartRow : OpenClaim := { program := "ytpcnkodkcaapmaa", sum := "323b60c07190c9c8231b5860b1962a0eb17a9d4f2ba1bc0a929904fbc38b07da", func := "hubbub/hubbublaw17.IdsApart", spec := "idsApart", apart := false }
def IdsApartSaid : Prop := idsApartRow.holds Try.pinned (OpenSpec.ofChange idsApartSpec)

/-- ITS FALSE NEIGHBOUR: 'it returns false'. Refute it at one input. -/
def idsApartWrong : ChangeSpec := { name := "idsApart", fn := fun _ => fun
  | [d1, d2] => { results := [.lit (.bool false)], args := [d1, d2] }
  | _ => none }
def IdsApartWrongFalsely : Prop := idsApartRow.holds Try.pinned (OpenSpec.ofChange idsApartWrong)

/- THE SECOND FORM. 'bulk': how many values and letters a reading holds, each counted each time it is reached (what is shared counts as often as it is met; a slice's spare places count too). A statement '..UptoSaid' is the law's where the arguments, and the package variables that the reading takes, are together of bulk at most 1048576: NARROWER than '..Said'. Prove '..Said' where nothing that the law and all that it calls make is longer than what came in: it says more and counts as full. Else prove '..UptoSaid'. A law counts once. -/
mutual
def uptoBulk {H : Type} : DataW H → Nat
  | .lit (.string bytes) => bytes.length + 1
  | .lit _ => 1
  | .nil => 1
  | .ptr d => uptoBulk d + 1
  | .slice elems spare => uptoBulkAll elems + uptoBulkAll spare + 1
  | .agg parts => uptoBulkAll parts + 1
  | .iface _ d => uptoBulk d + 1
  | .map entries => uptoBulkEntries entries + 1
  | .held _ => 1
def uptoBulkAll {H : Type} : List (DataW H) → Nat
  | [] => 0
  | d :: r => uptoBulk d + uptoBulkAll r
def uptoBulkEntries {H : Type} : List (Lit × DataW H) → Nat
  | [] => 0
  | x :: r => uptoBulkEntry x + uptoBulkEntries r
def uptoBulkEntry {H : Type} : Lit × DataW H → Nat
  | (.string bytes, d) => bytes.length + uptoBulk d + 1
  | (_, d) => uptoBulk d + 1
 end
def uptoSmall : (H : Type) → List (DataW H) → Bool := fun _ ds => decide (uptoBulkAll ds ≤ 1048576)
def OpenSpec.upto (s : _root_.Go.ChangeSpec) : _root_.Go.OpenSpec := { _root_.Go.OpenSpec.ofChange s with cond := some uptoSmall }

/-- 'hubbublaw17.IdsPlay', WHERE WHAT IT READS IS OF BULK AT MOST 1048576: true; the input reads as it did. -/
def idsPlayUptoRow : OpenClaim := { program := "ytpcnkodkcaapmaa", sum := "323b60c07190c9c8231b5860b1962a0eb17a9d4f2ba1bc0a929904fbc38b07da", func := "hubbub/hubbublaw17.IdsPlay", spec := "idsPlay", apart := false, narrowed := true }
def IdsPlayUptoSaid : Prop := idsPlayUptoRow.holds Try.pinned (OpenSpec.upto idsPlaySpec)

/-- 'hubbublaw17.IdsRound', WHERE WHAT IT READS IS OF BULK AT MOST 1048576: true; the input reads as it did. -/
def idsRoundUptoRow : OpenClaim := { program := "ytpcnkodkcaapmaa", sum := "323b60c07190c9c8231b5860b1962a0eb17a9d4f2ba1bc0a929904fbc38b07da", func := "hubbub/hubbublaw17.IdsRound", spec := "idsRound", apart := false, narrowed := true }
def IdsRoundUptoSaid : Prop := idsRoundUptoRow.holds Try.pinned (OpenSpec.upto idsRoundSpec)

/-- 'hubbublaw17.IdsApart', WHERE WHAT IT READS IS OF BULK AT MOST 1048576: true; the input reads as it did. -/
def idsApartUptoRow : OpenClaim := { program := "ytpcnkodkcaapmaa", sum := "323b60c07190c9c8231b5860b1962a0eb17a9d4f2ba1bc0a929904fbc38b07da", func := "hubbub/hubbublaw17.IdsApart", spec := "idsApart", apart := false, narrowed := true }
def IdsApartUptoSaid : Prop := idsApartUptoRow.holds Try.pinned (OpenSpec.upto idsApartSpec)

end Rows
end Go.Proofs.Ytpcnkodkcaapmaa
