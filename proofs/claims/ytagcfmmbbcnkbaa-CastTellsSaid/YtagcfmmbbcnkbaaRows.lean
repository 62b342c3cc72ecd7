/-
  No cell of these rows narrows 'for every input' (looked for: loops, veiled, ifaces, maps, wideKeys, modest, calm, conditions, laid).
  DERIVED. THE GIVEN ROWS OF THIS SEAT. 3 by the template 'for every input the law returns true; each argument reads behind the call as it read before'; 0 by the template 'total and deterministic' (their statements: YtagcfmmbbcnkbaaTotals.lean).
  GIVEN WITH THE SEED: the statements are not yours to turn. If you find one false, say at which input.
  Laid BY PROGRAM, IN A SANDBOX (cutbox-rows.mjs): the forced cells as the released guide's own fill.sh prints them over the translation f503614400509e85… (all of the seat's roots in one cut). By AI agents, Wed Nov 11 2026. No macro, syntax, notation, axiom, sorry.
-/
import Derived.Test.YtagcfmmbbcnkbaaChecked
import GoSem.Claim
import GoSem.ClaimJoined
import GoSem.ClaimMapViews
import Derived.JoinedTies
import Derived.KernelRfl
namespace Go.Proofs.Ytagcfmmbbcnkbaa
/- THE CELL 'sum', in the pinned program and in every row, IS THE sha256 OF THE DUMP (.gsa) THAT YtagcfmmbbcnkbaaProg.lean LOADS. Nothing in Lean hashes anything: it is a label: what it is worth is what the hold of that sum in a sandbox is worth. -/
noncomputable def Try.pinned : Pinned := { name := "ytagcfmmbbcnkbaa", sum := "f503614400509e85c69f11eca2f643f816278cbcad4ba13c4192b390655dffec", checked := Try.checked }
namespace Rows
def none {H : Type} : Left H := { results := [], args := [] }

/-- 'hubbublaw4.CastTells': WHATEVER THE INPUT: true; the input reads as it did. -/
def castTellsSpec : ChangeSpec := { name := "castTells", fn := fun _ => fun
  | [d1, d2, d3, d4, d5, d6] => { results := [.lit (.bool true)], args := [d1, d2, d3, d4, d5, d6] }
  | _ => none }
def castTellsRow : OpenClaim := { program := "ytagcfmmbbcnkbaa", sum := "f503614400509e85c69f11eca2f643f816278cbcad4ba13c4192b390655dffec", func := "hubbub/hubbublaw4.CastTells", spec := "castTells", unfollowed := true, recurses := true, apart := false }
def CastTellsSaid : Prop := castTellsRow.holds Try.pinned (OpenSpec.ofChange castTellsSpec)

/-- ITS FALSE NEIGHBOUR: 'it returns false'. Refute it at one input. -/
def castTellsWrong : ChangeSpec := { name := "castTells", fn := fun _ => fun
  | [d1, d2, d3, d4, d5, d6] => { results := [.lit (.bool false)], args := [d1, d2, d3, d4, d5, d6] }
  | _ => none }
def CastTellsWrongFalsely : Prop := castTellsRow.holds Try.pinned (OpenSpec.ofChange castTellsWrong)

/-- 'hubbublaw4.CastOthers': WHATEVER THE INPUT: true; the input reads as it did. -/
def castOthersSpec : ChangeSpec := { name := "castOthers", fn := fun _ => fun
  | [d1, d2, d3] => { results := [.lit (.bool true)], args := [d1, d2, d3] }
  | _ => none }
def castOthersRow : OpenClaim := { program := "ytagcfmmbbcnkbaa", sum := "f503614400509e85c69f11eca2f643f816278cbcad4ba13c4192b390655dffec", func := "hubbub/hubbublaw4.CastOthers", spec := "castOthers", unfollowed := true, recurses := true, apart := false }
def CastOthersSaid : Prop := castOthersRow.holds Try.pinned (OpenSpec.ofChange castOthersSpec)

/-- ITS FALSE NEIGHBOUR: 'it returns false'. Refute it at one input. -/
def castOthersWrong : ChangeSpec := { name := "castOthers", fn := fun _ => fun
  | [d1, d2, d3] => { results := [.lit (.bool false)], args := [d1, d2, d3] }
  | _ => none }
def CastOthersWrongFalsely : Prop := castOthersRow.holds Try.pinned (OpenSpec.ofChange castOthersWrong)

/-- 'hubbublaw4.CastCounts': WHATEVER THE INPUT: true; the input reads as it did. -/
def castCountsSpec : ChangeSpec := { name := "castCounts", fn := fun _ => fun
  | [d] => { results := [.lit (.bool true)], args := [d] }
  | _ => none }
def castCountsRow : OpenClaim := { program := "ytagcfmmbbcnkbaa", sum := "f503614400509e85c69f11eca2f643f816278cbcad4ba13c4192b390655dffec", func := "hubbub/hubbublaw4.CastCounts", spec := "castCounts", unfollowed := true, recurses := true, apart := false }
def CastCountsSaid : Prop := castCountsRow.holds Try.pinned (OpenSpec.ofChange castCountsSpec)

/-- ITS FALSE NEIGHBOUR: 'it returns false'. Refute it at one input. -/
def castCountsWrong : ChangeSpec := { name := "castCounts", fn := fun _ => fun
  | [d] => { results := [.lit (.bool false)], args := [d] }
  | _ => none }
def CastCountsWrongFalsely : Prop := castCountsRow.holds Try.pinned (OpenSpec.ofChange castCountsWrong)

/- THE SECOND FORM. 'bulk': how many values and letters a reading holds, each counted each time it is reached (what is shared counts as often as it is met; a slice's spare places count too). A statement '..UptoSaid' is the law's where the arguments, and the package variables that the reading takes, are together of bulk at most 1048576: NARROWER than '..Said'. Prove '..Said' where nothing that the law and all that it calls make is longer than what came in: it says more and counts as full. Else prove '..UptoSaid'. A law counts once. -/
mutual
def uptoBulk {H : Type} : DataW H → Nat
  | .lit (.string bytes) => bytes.length + 1
  | .lit _ => 1
  | .nil => 1
  | .ptr d => uptoBulk d + 1
  | .slice elems spare => uptoBulkAll elems + uptoBulkAll spare + 1
  | .agg parts => uptoBulkAll parts + 1
  | .iface _ d => uptoBulk d + 1
  | .map entries => uptoBulkEntries entries + 1
  | .held _ => 1
def uptoBulkAll {H : Type} : List (DataW H) → Nat
  | [] => 0
  | d :: r => uptoBulk d + uptoBulkAll r
def uptoBulkEntries {H : Type} : List (Lit × DataW H) → Nat
  | [] => 0
  | x :: r => uptoBulkEntry x + uptoBulkEntries r
def uptoBulkEntry {H : Type} : Lit × DataW H → Nat
  | (.string bytes, d) => bytes.length + uptoBulk d + 1
  | (_, d) => uptoBulk d + 1
 end
def uptoSmall : (H : Type) → List (DataW H) → Bool := fun _ ds => decide (uptoBulkAll ds ≤ 1048576)
def OpenSpec.upto (s : _root_.Go.ChangeSpec) : _root_.Go.OpenSpec := { _root_.Go.OpenSpec.ofChange s with cond := some uptoSmall }

/-- 'hubbublaw4.CastTells', WHERE WHAT IT READS IS OF BULK AT MOST 1048576: true; the input reads as it did. -/
def castTellsUptoRow : OpenClaim := { program := "ytagcfmmbbcnkbaa", sum := "f503614400509e85c69f11eca2f643f816278cbcad4ba13c4192b390655dffec", func := "hubbub/hubbublaw4.CastTells", spec := "castTells", unfollowed := true, recurses := true, apart := false, narrowed := true }
def CastTellsUptoSaid : Prop := castTellsUptoRow.holds Try.pinned (OpenSpec.upto castTellsSpec)

/-- 'hubbublaw4.CastOthers', WHERE WHAT IT READS IS OF BULK AT MOST 1048576: true; the input reads as it did. -/
def castOthersUptoRow : OpenClaim := { program := "ytagcfmmbbcnkbaa", sum := "f503614400509e85c69f11eca2f643f816278cbcad4ba13c4192b390655dffec", func := "hubbub/hubbublaw4.CastOthers", spec := "castOthers", unfollowed := true, recurses := true, apart := false, narrowed := true }
def CastOthersUptoSaid : Prop := castOthersUptoRow.holds Try.pinned (OpenSpec.upto castOthersSpec)

/-- 'hubbublaw4.CastCounts', WHERE WHAT IT READS IS OF BULK AT MOST 1048576: true; the input reads as it did. -/
def castCountsUptoRow : OpenClaim := { program := "ytagcfmmbbcnkbaa", sum := "f503614400509e85c69f11eca2f643f816278cbcad4ba13c4192b390655dffec", func := "hubbub/hubbublaw4.CastCounts", spec := "castCounts", unfollowed := true, recurses := true, apart := false, narrowed := true }
def CastCountsUptoSaid : Prop := castCountsUptoRow.holds Try.pinned (OpenSpec.upto castCountsSpec)

end Rows
end Go.Proofs.Ytagcfmmbbcnkbaa
