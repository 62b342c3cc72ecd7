/-
  No cell of these rows narrows 'for every input' (looked for: loops, veiled, ifaces, maps, wideKeys, modest, calm, conditions, laid).
  DERIVED. THE GIVEN ROWS OF THIS SEAT. 4 by the template 'for every input the law returns true; each argument reads behind the call as it read before'; 0 by the template 'total and deterministic' (their statements: YtepihchlfbdnjaaTotals.lean).
  GIVEN WITH THE SEED: the statements are not yours to turn. If you find one false, say at which input.
  Laid BY PROGRAM, IN A SANDBOX (cutbox-rows.mjs): the forced cells as the released guide's own fill.sh prints them over the translation 4aa8a11d44f84a48… (all of the seat's roots in one cut). By AI agents, Wed Nov 11 2026. No macro, syntax, notation, axiom, sorry.
-/
import Derived.Test.YtepihchlfbdnjaaChecked
import GoSem.Claim
import GoSem.ClaimJoined
import GoSem.ClaimMapViews
import Derived.JoinedTies
import Derived.KernelRfl
namespace Go.Proofs.Ytepihchlfbdnjaa
/- THE CELL 'sum', in the pinned program and in every row, IS THE sha256 OF THE DUMP (.gsa) THAT YtepihchlfbdnjaaProg.lean LOADS. Nothing in Lean hashes anything: it is a label: what it is worth is what the hold of that sum in a sandbox is worth. -/
noncomputable def Try.pinned : Pinned := { name := "ytepihchlfbdnjaa", sum := "4aa8a11d44f84a48912e2b51f57f26ea1c407f4e961f0b6b30d7927d04f38855", checked := Try.checked }
namespace Rows
def none {H : Type} : Left H := { results := [], args := [] }

/-- 'hubbublaw2.VarlenTells': WHATEVER THE INPUT: true; the input reads as it did. -/
def varlenTellsSpec : ChangeSpec := { name := "varlenTells", fn := fun _ => fun
  | [d1, d2, d3] => { results := [.lit (.bool true)], args := [d1, d2, d3] }
  | _ => none }
def varlenTellsRow : OpenClaim := { program := "ytepihchlfbdnjaa", sum := "4aa8a11d44f84a48912e2b51f57f26ea1c407f4e961f0b6b30d7927d04f38855", func := "hubbub/hubbublaw2.VarlenTells", spec := "varlenTells", apart := false }
def VarlenTellsSaid : Prop := varlenTellsRow.holds Try.pinned (OpenSpec.ofChange varlenTellsSpec)

/-- ITS FALSE NEIGHBOUR: 'it returns false'. Refute it at one input. -/
def varlenTellsWrong : ChangeSpec := { name := "varlenTells", fn := fun _ => fun
  | [d1, d2, d3] => { results := [.lit (.bool false)], args := [d1, d2, d3] }
  | _ => none }
def VarlenTellsWrongFalsely : Prop := varlenTellsRow.holds Try.pinned (OpenSpec.ofChange varlenTellsWrong)

/-- 'hubbublaw2.VarlenBack': WHATEVER THE INPUT: true; the input reads as it did. -/
def varlenBackSpec : ChangeSpec := { name := "varlenBack", fn := fun _ => fun
  | [d1, d2] => { results := [.lit (.bool true)], args := [d1, d2] }
  | _ => none }
def varlenBackRow : OpenClaim := { program := "ytepihchlfbdnjaa", sum := "4aa8a11d44f84a48912e2b51f57f26ea1c407f4e961f0b6b30d7927d04f38855", func := "hubbub/hubbublaw2.VarlenBack", spec := "varlenBack", apart := false }
def VarlenBackSaid : Prop := varlenBackRow.holds Try.pinned (OpenSpec.ofChange varlenBackSpec)

/-- ITS FALSE NEIGHBOUR: 'it returns false'. Refute it at one input. -/
def varlenBackWrong : ChangeSpec := { name := "varlenBack", fn := fun _ => fun
  | [d1, d2] => { results := [.lit (.bool false)], args := [d1, d2] }
  | _ => none }
def VarlenBackWrongFalsely : Prop := varlenBackRow.holds Try.pinned (OpenSpec.ofChange varlenBackWrong)

/-- 'hubbublaw2.VarlenShort': WHATEVER THE INPUT: true; the input reads as it did. -/
def varlenShortSpec : ChangeSpec := { name := "varlenShort", fn := fun _ => fun
  | [d1, d2] => { results := [.lit (.bool true)], args := [d1, d2] }
  | _ => none }
def varlenShortRow : OpenClaim := { program := "ytepihchlfbdnjaa", sum := "4aa8a11d44f84a48912e2b51f57f26ea1c407f4e961f0b6b30d7927d04f38855", func := "hubbub/hubbublaw2.VarlenShort", spec := "varlenShort", apart := false }
def VarlenShortSaid : Prop := varlenShortRow.holds Try.pinned (OpenSpec.ofChange varlenShortSpec)

/-- ITS FALSE NEIGHBOUR: 'it returns false'. Refute it at one input. -/
def varlenShortWrong : ChangeSpec := { name := "varlenShort", fn := fun _ => fun
  | [d1, d2] => { results := [.lit (.bool false)], args := [d1, d2] }
  | _ => none }
def VarlenShortWrongFalsely : Prop := varlenShortRow.holds Try.pinned (OpenSpec.ofChange varlenShortWrong)

/-- 'hubbublaw2.VarlenGrows': WHATEVER THE INPUT: true; the input reads as it did. -/
def varlenGrowsSpec : ChangeSpec := { name := "varlenGrows", fn := fun _ => fun
  | [d1, d2, d3] => { results := [.lit (.bool true)], args := [d1, d2, d3] }
  | _ => none }
def varlenGrowsRow : OpenClaim := { program := "ytepihchlfbdnjaa", sum := "4aa8a11d44f84a48912e2b51f57f26ea1c407f4e961f0b6b30d7927d04f38855", func := "hubbub/hubbublaw2.VarlenGrows", spec := "varlenGrows", apart := false }
def VarlenGrowsSaid : Prop := varlenGrowsRow.holds Try.pinned (OpenSpec.ofChange varlenGrowsSpec)

/-- ITS FALSE NEIGHBOUR: 'it returns false'. Refute it at one input. -/
def varlenGrowsWrong : ChangeSpec := { name := "varlenGrows", fn := fun _ => fun
  | [d1, d2, d3] => { results := [.lit (.bool false)], args := [d1, d2, d3] }
  | _ => none }
def VarlenGrowsWrongFalsely : Prop := varlenGrowsRow.holds Try.pinned (OpenSpec.ofChange varlenGrowsWrong)

/- THE SECOND FORM. 'bulk': how many values and letters a reading holds, each counted each time it is reached (what is shared counts as often as it is met; a slice's spare places count too). A statement '..UptoSaid' is the law's where the arguments, and the package variables that the reading takes, are together of bulk at most 1048576: NARROWER than '..Said'. Prove '..Said' where nothing that the law and all that it calls make is longer than what came in: it says more and counts as full. Else prove '..UptoSaid'. A law counts once. -/
mutual
def uptoBulk {H : Type} : DataW H → Nat
  | .lit (.string bytes) => bytes.length + 1
  | .lit _ => 1
  | .nil => 1
  | .ptr d => uptoBulk d + 1
  | .slice elems spare => uptoBulkAll elems + uptoBulkAll spare + 1
  | .agg parts => uptoBulkAll parts + 1
  | .iface _ d => uptoBulk d + 1
  | .map entries => uptoBulkEntries entries + 1
  | .held _ => 1
def uptoBulkAll {H : Type} : List (DataW H) → Nat
  | [] => 0
  | d :: r => uptoBulk d + uptoBulkAll r
def uptoBulkEntries {H : Type} : List (Lit × DataW H) → Nat
  | [] => 0
  | x :: r => uptoBulkEntry x + uptoBulkEntries r
def uptoBulkEntry {H : Type} : Lit × DataW H → Nat
  | (.string bytes, d) => bytes.length + uptoBulk d + 1
  | (_, d) => uptoBulk d + 1
 end
def uptoSmall : (H : Type) → List (DataW H) → Bool := fun _ ds => decide (uptoBulkAll ds ≤ 1048576)
def OpenSpec.upto (s : _root_.Go.ChangeSpec) : _root_.Go.OpenSpec := { _root_.Go.OpenSpec.ofChange s with cond := some uptoSmall }

/-- 'hubbublaw2.VarlenTells', WHERE WHAT IT READS IS OF BULK AT MOST 1048576: true; the input reads as it did. -/
def varlenTellsUptoRow : OpenClaim := { program := "ytepihchlfbdnjaa", sum := "4aa8a11d44f84a48912e2b51f57f26ea1c407f4e961f0b6b30d7927d04f38855", func := "hubbub/hubbublaw2.VarlenTells", spec := "varlenTells", apart := false, narrowed := true }
def VarlenTellsUptoSaid : Prop := varlenTellsUptoRow.holds Try.pinned (OpenSpec.upto varlenTellsSpec)

/-- 'hubbublaw2.VarlenBack', WHERE WHAT IT READS IS OF BULK AT MOST 1048576: true; the input reads as it did. -/
def varlenBackUptoRow : OpenClaim := { program := "ytepihchlfbdnjaa", sum := "4aa8a11d44f84a48912e2b51f57f26ea1c407f4e961f0b6b30d7927d04f38855", func := "hubbub/hubbublaw2.VarlenBack", spec := "varlenBack", apart := false, narrowed := true }
def VarlenBackUptoSaid : Prop := varlenBackUptoRow.holds Try.pinned (OpenSpec.upto varlenBackSpec)

/-- 'hubbublaw2.VarlenShort', WHERE WHAT IT READS IS OF BULK AT MOST 1048576: true; the input reads as it did. -/
def varlenShortUptoRow : OpenClaim := { program := "ytepihchlfbdnjaa", sum := "4aa8a11d44f84a48912e2b51f57f26ea1c407f4e961f0b6b30d7927d04f38855", func := "hubbub/hubbublaw2.VarlenShort", spec := "varlenShort", apart := false, narrowed := true }
def VarlenShortUptoSaid : Prop := varlenShortUptoRow.holds Try.pinned (OpenSpec.upto varlenShortSpec)

/-- 'hubbublaw2.VarlenGrows', WHERE WHAT IT READS IS OF BULK AT MOST 1048576: true; the input reads as it did. -/
def varlenGrowsUptoRow : OpenClaim := { program := "ytepihchlfbdnjaa", sum := "4aa8a11d44f84a48912e2b51f57f26ea1c407f4e961f0b6b30d7927d04f38855", func := "hubbub/hubbublaw2.VarlenGrows", spec := "varlenGrows", apart := false, narrowed := true }
def VarlenGrowsUptoSaid : Prop := varlenGrowsUptoRow.holds Try.pinned (OpenSpec.upto varlenGrowsSpec)

end Rows
end Go.Proofs.Ytepihchlfbdnjaa
