/-
  No cell of these rows narrows 'for every input' (looked for: loops, veiled, ifaces, maps, wideKeys, modest, calm, conditions, laid).
  DERIVED. THE GIVEN ROWS OF THIS SEAT. 8 by the template 'for every input the law returns true; each argument reads behind the call as it read before'; 0 by the template 'total and deterministic' (their statements: YtahmlcjgcdajbaaTotals.lean).
  GIVEN WITH THE SEED: the statements are not yours to turn. If you find one false, say at which input.
  Laid BY PROGRAM, IN A SANDBOX (cutbox-rows.mjs): the forced cells as the released guide's own fill.sh prints them over the translation 4e0a7e8ac076a8db… (all of the seat's roots in one cut). By AI agents, Wed Nov 11 2026. No macro, syntax, notation, axiom, sorry.
-/
import Derived.Test.YtahmlcjgcdajbaaChecked
import GoSem.Claim
import GoSem.ClaimJoined
import GoSem.ClaimMapViews
import Derived.JoinedTies
import Derived.KernelRfl
namespace Go.Proofs.Ytahmlcjgcdajbaa
/- THE CELL 'sum', in the pinned program and in every row, IS THE sha256 OF THE DUMP (.gsa) THAT YtahmlcjgcdajbaaProg.lean LOADS. Nothing in Lean hashes anything: it is a label: what it is worth is what the hold of that sum in a sandbox is worth. -/
noncomputable def Try.pinned : Pinned := { name := "ytahmlcjgcdajbaa", sum := "4e0a7e8ac076a8dba5f902bcf37ca46316a18b6eb2453fd2b826844fb12039e3", checked := Try.checked }
namespace Rows
def none {H : Type} : Left H := { results := [], args := [] }

/-- 'hubbublaw9.DotsJoin': WHATEVER THE INPUT: true; the input reads as it did. -/
def dotsJoinSpec : ChangeSpec := { name := "dotsJoin", fn := fun _ => fun
  | [d1, d2, d3] => { results := [.lit (.bool true)], args := [d1, d2, d3] }
  | _ => none }
def dotsJoinRow : OpenClaim := { program := "ytahmlcjgcdajbaa", sum := "4e0a7e8ac076a8dba5f902bcf37ca46316a18b6eb2453fd2b826844fb12039e3", func := "hubbub/hubbublaw9.DotsJoin", spec := "dotsJoin", inPlace := ["slices.overlaps[hubbub/api.Dot]"], unfollowed := true, recurses := true, apart := false }
def DotsJoinSaid : Prop := dotsJoinRow.holds Try.pinned (OpenSpec.ofChange dotsJoinSpec)

/-- ITS FALSE NEIGHBOUR: 'it returns false'. Refute it at one input. -/
def dotsJoinWrong : ChangeSpec := { name := "dotsJoin", fn := fun _ => fun
  | [d1, d2, d3] => { results := [.lit (.bool false)], args := [d1, d2, d3] }
  | _ => none }
def DotsJoinWrongFalsely : Prop := dotsJoinRow.holds Try.pinned (OpenSpec.ofChange dotsJoinWrong)

/-- 'hubbublaw9.DotsAdd': WHATEVER THE INPUT: true; the input reads as it did. -/
def dotsAddSpec : ChangeSpec := { name := "dotsAdd", fn := fun _ => fun
  | [d1, d2, d3] => { results := [.lit (.bool true)], args := [d1, d2, d3] }
  | _ => none }
def dotsAddRow : OpenClaim := { program := "ytahmlcjgcdajbaa", sum := "4e0a7e8ac076a8dba5f902bcf37ca46316a18b6eb2453fd2b826844fb12039e3", func := "hubbub/hubbublaw9.DotsAdd", spec := "dotsAdd", inPlace := ["slices.overlaps[hubbub/api.Dot]"], unfollowed := true, recurses := true, apart := false }
def DotsAddSaid : Prop := dotsAddRow.holds Try.pinned (OpenSpec.ofChange dotsAddSpec)

/-- ITS FALSE NEIGHBOUR: 'it returns false'. Refute it at one input. -/
def dotsAddWrong : ChangeSpec := { name := "dotsAdd", fn := fun _ => fun
  | [d1, d2, d3] => { results := [.lit (.bool false)], args := [d1, d2, d3] }
  | _ => none }
def DotsAddWrongFalsely : Prop := dotsAddRow.holds Try.pinned (OpenSpec.ofChange dotsAddWrong)

/-- 'hubbublaw9.DotsWithin': WHATEVER THE INPUT: true; the input reads as it did. -/
def dotsWithinSpec : ChangeSpec := { name := "dotsWithin", fn := fun _ => fun
  | [d1, d2, d3] => { results := [.lit (.bool true)], args := [d1, d2, d3] }
  | _ => none }
def dotsWithinRow : OpenClaim := { program := "ytahmlcjgcdajbaa", sum := "4e0a7e8ac076a8dba5f902bcf37ca46316a18b6eb2453fd2b826844fb12039e3", func := "hubbub/hubbublaw9.DotsWithin", spec := "dotsWithin", inPlace := ["slices.overlaps[hubbub/api.Dot]"], unfollowed := true, recurses := true, apart := false }
def DotsWithinSaid : Prop := dotsWithinRow.holds Try.pinned (OpenSpec.ofChange dotsWithinSpec)

/-- ITS FALSE NEIGHBOUR: 'it returns false'. Refute it at one input. -/
def dotsWithinWrong : ChangeSpec := { name := "dotsWithin", fn := fun _ => fun
  | [d1, d2, d3] => { results := [.lit (.bool false)], args := [d1, d2, d3] }
  | _ => none }
def DotsWithinWrongFalsely : Prop := dotsWithinRow.holds Try.pinned (OpenSpec.ofChange dotsWithinWrong)

/-- 'hubbublaw9.DotsTell': WHATEVER THE INPUT: true; the input reads as it did. -/
def dotsTellSpec : ChangeSpec := { name := "dotsTell", fn := fun _ => fun
  | [d1, d2, d3, d4, d5, d6] => { results := [.lit (.bool true)], args := [d1, d2, d3, d4, d5, d6] }
  | _ => none }
def dotsTellRow : OpenClaim := { program := "ytahmlcjgcdajbaa", sum := "4e0a7e8ac076a8dba5f902bcf37ca46316a18b6eb2453fd2b826844fb12039e3", func := "hubbub/hubbublaw9.DotsTell", spec := "dotsTell", inPlace := ["slices.overlaps[hubbub/api.Dot]"], unfollowed := true, recurses := true, apart := false }
def DotsTellSaid : Prop := dotsTellRow.holds Try.pinned (OpenSpec.ofChange dotsTellSpec)

/-- ITS FALSE NEIGHBOUR: 'it returns false'. Refute it at one input. -/
def dotsTellWrong : ChangeSpec := { name := "dotsTell", fn := fun _ => fun
  | [d1, d2, d3, d4, d5, d6] => { results := [.lit (.bool false)], args := [d1, d2, d3, d4, d5, d6] }
  | _ => none }
def DotsTellWrongFalsely : Prop := dotsTellRow.holds Try.pinned (OpenSpec.ofChange dotsTellWrong)

/-- 'hubbublaw9.DotsOrder': WHATEVER THE INPUT: true; the input reads as it did. -/
def dotsOrderSpec : ChangeSpec := { name := "dotsOrder", fn := fun _ => fun
  | [d1, d2, d3] => { results := [.lit (.bool true)], args := [d1, d2, d3] }
  | _ => none }
def dotsOrderRow : OpenClaim := { program := "ytahmlcjgcdajbaa", sum := "4e0a7e8ac076a8dba5f902bcf37ca46316a18b6eb2453fd2b826844fb12039e3", func := "hubbub/hubbublaw9.DotsOrder", spec := "dotsOrder", inPlace := ["slices.overlaps[hubbub/api.Dot]"], unfollowed := true, recurses := true, apart := false }
def DotsOrderSaid : Prop := dotsOrderRow.holds Try.pinned (OpenSpec.ofChange dotsOrderSpec)

/-- ITS FALSE NEIGHBOUR: 'it returns false'. Refute it at one input. -/
def dotsOrderWrong : ChangeSpec := { name := "dotsOrder", fn := fun _ => fun
  | [d1, d2, d3] => { results := [.lit (.bool false)], args := [d1, d2, d3] }
  | _ => none }
def DotsOrderWrongFalsely : Prop := dotsOrderRow.holds Try.pinned (OpenSpec.ofChange dotsOrderWrong)

/-- 'hubbublaw15.AcksCut': WHATEVER THE INPUT: true; the input reads as it did. -/
def acksCutSpec : ChangeSpec := { name := "acksCut", fn := fun _ => fun
  | [d1, d2, d3] => { results := [.lit (.bool true)], args := [d1, d2, d3] }
  | _ => none }
def acksCutRow : OpenClaim := { program := "ytahmlcjgcdajbaa", sum := "4e0a7e8ac076a8dba5f902bcf37ca46316a18b6eb2453fd2b826844fb12039e3", func := "hubbub/hubbublaw15.AcksCut", spec := "acksCut", unfollowed := true, recurses := true, apart := false }
def AcksCutSaid : Prop := acksCutRow.holds Try.pinned (OpenSpec.ofChange acksCutSpec)

/-- ITS FALSE NEIGHBOUR: 'it returns false'. Refute it at one input. -/
def acksCutWrong : ChangeSpec := { name := "acksCut", fn := fun _ => fun
  | [d1, d2, d3] => { results := [.lit (.bool false)], args := [d1, d2, d3] }
  | _ => none }
def AcksCutWrongFalsely : Prop := acksCutRow.holds Try.pinned (OpenSpec.ofChange acksCutWrong)

/-- 'hubbublaw15.AcksPlay': WHATEVER THE INPUT: true; the input reads as it did. -/
def acksPlaySpec : ChangeSpec := { name := "acksPlay", fn := fun _ => fun
  | [d1, d2, d3, d4] => { results := [.lit (.bool true)], args := [d1, d2, d3, d4] }
  | _ => none }
def acksPlayRow : OpenClaim := { program := "ytahmlcjgcdajbaa", sum := "4e0a7e8ac076a8dba5f902bcf37ca46316a18b6eb2453fd2b826844fb12039e3", func := "hubbub/hubbublaw15.AcksPlay", spec := "acksPlay", unfollowed := true, recurses := true, apart := false }
def AcksPlaySaid : Prop := acksPlayRow.holds Try.pinned (OpenSpec.ofChange acksPlaySpec)

/-- ITS FALSE NEIGHBOUR: 'it returns false'. Refute it at one input. -/
def acksPlayWrong : ChangeSpec := { name := "acksPlay", fn := fun _ => fun
  | [d1, d2, d3, d4] => { results := [.lit (.bool false)], args := [d1, d2, d3, d4] }
  | _ => none }
def AcksPlayWrongFalsely : Prop := acksPlayRow.holds Try.pinned (OpenSpec.ofChange acksPlayWrong)

/-- 'hubbublaw15.AcksOwn': WHATEVER THE INPUT: true; the input reads as it did. -/
def acksOwnSpec : ChangeSpec := { name := "acksOwn", fn := fun _ => fun
  | [d1, d2] => { results := [.lit (.bool true)], args := [d1, d2] }
  | _ => none }
def acksOwnRow : OpenClaim := { program := "ytahmlcjgcdajbaa", sum := "4e0a7e8ac076a8dba5f902bcf37ca46316a18b6eb2453fd2b826844fb12039e3", func := "hubbub/hubbublaw15.AcksOwn", spec := "acksOwn", unfollowed := true, recurses := true, apart := false }
def AcksOwnSaid : Prop := acksOwnRow.holds Try.pinned (OpenSpec.ofChange acksOwnSpec)

/-- ITS FALSE NEIGHBOUR: 'it returns false'. Refute it at one input. -/
def acksOwnWrong : ChangeSpec := { name := "acksOwn", fn := fun _ => fun
  | [d1, d2] => { results := [.lit (.bool false)], args := [d1, d2] }
  | _ => none }
def AcksOwnWrongFalsely : Prop := acksOwnRow.holds Try.pinned (OpenSpec.ofChange acksOwnWrong)

/- THE SECOND FORM. 'bulk': how many values and letters a reading holds, each counted each time it is reached (what is shared counts as often as it is met; a slice's spare places count too). A statement '..UptoSaid' is the law's where the arguments, and the package variables that the reading takes, are together of bulk at most 1048576: NARROWER than '..Said'. Prove '..Said' where nothing that the law and all that it calls make is longer than what came in: it says more and counts as full. Else prove '..UptoSaid'. A law counts once. -/
mutual
def uptoBulk {H : Type} : DataW H → Nat
  | .lit (.string bytes) => bytes.length + 1
  | .lit _ => 1
  | .nil => 1
  | .ptr d => uptoBulk d + 1
  | .slice elems spare => uptoBulkAll elems + uptoBulkAll spare + 1
  | .agg parts => uptoBulkAll parts + 1
  | .iface _ d => uptoBulk d + 1
  | .map entries => uptoBulkEntries entries + 1
  | .held _ => 1
def uptoBulkAll {H : Type} : List (DataW H) → Nat
  | [] => 0
  | d :: r => uptoBulk d + uptoBulkAll r
def uptoBulkEntries {H : Type} : List (Lit × DataW H) → Nat
  | [] => 0
  | x :: r => uptoBulkEntry x + uptoBulkEntries r
def uptoBulkEntry {H : Type} : Lit × DataW H → Nat
  | (.string bytes, d) => bytes.length + uptoBulk d + 1
  | (_, d) => uptoBulk d + 1
 end
def uptoSmall : (H : Type) → List (DataW H) → Bool := fun _ ds => decide (uptoBulkAll ds ≤ 1048576)
def OpenSpec.upto (s : _root_.Go.ChangeSpec) : _root_.Go.OpenSpec := { _root_.Go.OpenSpec.ofChange s with cond := some uptoSmall }

/-- 'hubbublaw9.DotsJoin', WHERE WHAT IT READS IS OF BULK AT MOST 1048576: true; the input reads as it did. -/
def dotsJoinUptoRow : OpenClaim := { program := "ytahmlcjgcdajbaa", sum := "4e0a7e8ac076a8dba5f902bcf37ca46316a18b6eb2453fd2b826844fb12039e3", func := "hubbub/hubbublaw9.DotsJoin", spec := "dotsJoin", inPlace := ["slices.overlaps[hubbub/api.Dot]"], unfollowed := true, recurses := true, apart := false, narrowed := true }
def DotsJoinUptoSaid : Prop := dotsJoinUptoRow.holds Try.pinned (OpenSpec.upto dotsJoinSpec)

/-- 'hubbublaw9.DotsAdd', WHERE WHAT IT READS IS OF BULK AT MOST 1048576: true; the input reads as it did. -/
def dotsAddUptoRow : OpenClaim := { program := "ytahmlcjgcdajbaa", sum := "4e0a7e8ac076a8dba5f902bcf37ca46316a18b6eb2453fd2b826844fb12039e3", func := "hubbub/hubbublaw9.DotsAdd", spec := "dotsAdd", inPlace := ["slices.overlaps[hubbub/api.Dot]"], unfollowed := true, recurses := true, apart := false, narrowed := true }
def DotsAddUptoSaid : Prop := dotsAddUptoRow.holds Try.pinned (OpenSpec.upto dotsAddSpec)

/-- 'hubbublaw9.DotsWithin', WHERE WHAT IT READS IS OF BULK AT MOST 1048576: true; the input reads as it did. -/
def dotsWithinUptoRow : OpenClaim := { program := "ytahmlcjgcdajbaa", sum := "4e0a7e8ac076a8dba5f902bcf37ca46316a18b6eb2453fd2b826844fb12039e3", func := "hubbub/hubbublaw9.DotsWithin", spec := "dotsWithin", inPlace := ["slices.overlaps[hubbub/api.Dot]"], unfollowed := true, recurses := true, apart := false, narrowed := true }
def DotsWithinUptoSaid : Prop := dotsWithinUptoRow.holds Try.pinned (OpenSpec.upto dotsWithinSpec)

/-- 'hubbublaw9.DotsTell', WHERE WHAT IT READS IS OF BULK AT MOST 1048576: true; the input reads as it did. -/
def dotsTellUptoRow : OpenClaim := { program := "ytahmlcjgcdajbaa", sum := "4e0a7e8ac076a8dba5f902bcf37ca46316a18b6eb2453fd2b826844fb12039e3", func := "hubbub/hubbublaw9.DotsTell", spec := "dotsTell", inPlace := ["slices.overlaps[hubbub/api.Dot]"], unfollowed := true, recurses := true, apart := false, narrowed := true }
def DotsTellUptoSaid : Prop := dotsTellUptoRow.holds Try.pinned (OpenSpec.upto dotsTellSpec)

/-- 'hubbublaw9.DotsOrder', WHERE WHAT IT READS IS OF BULK AT MOST 1048576: true; the input reads as it did. -/
def dotsOrderUptoRow : OpenClaim := { program := "ytahmlcjgcdajbaa", sum := "4e0a7e8ac076a8dba5f902bcf37ca46316a18b6eb2453fd2b826844fb12039e3", func := "hubbub/hubbublaw9.DotsOrder", spec := "dotsOrder", inPlace := ["slices.overlaps[hubbub/api.Dot]"], unfollowed := true, recurses := true, apart := false, narrowed := true }
def DotsOrderUptoSaid : Prop := dotsOrderUptoRow.holds Try.pinned (OpenSpec.upto dotsOrderSpec)

/-- 'hubbublaw15.AcksCut', WHERE WHAT IT READS IS OF BULK AT MOST 1048576: true; the input reads as it did. -/
def acksCutUptoRow : OpenClaim := { program := "ytahmlcjgcdajbaa", sum := "4e0a7e8ac076a8dba5f902bcf37ca46316a18b6eb2453fd2b826844fb12039e3", func := "hubbub/hubbublaw15.AcksCut", spec := "acksCut", unfollowed := true, recurses := true, apart := false, narrowed := true }
def AcksCutUptoSaid : Prop := acksCutUptoRow.holds Try.pinned (OpenSpec.upto acksCutSpec)

/-- 'hubbublaw15.AcksPlay', WHERE WHAT IT READS IS OF BULK AT MOST 1048576: true; the input reads as it did. -/
def acksPlayUptoRow : OpenClaim := { program := "ytahmlcjgcdajbaa", sum := "4e0a7e8ac076a8dba5f902bcf37ca46316a18b6eb2453fd2b826844fb12039e3", func := "hubbub/hubbublaw15.AcksPlay", spec := "acksPlay", unfollowed := true, recurses := true, apart := false, narrowed := true }
def AcksPlayUptoSaid : Prop := acksPlayUptoRow.holds Try.pinned (OpenSpec.upto acksPlaySpec)

/-- 'hubbublaw15.AcksOwn', WHERE WHAT IT READS IS OF BULK AT MOST 1048576: true; the input reads as it did. -/
def acksOwnUptoRow : OpenClaim := { program := "ytahmlcjgcdajbaa", sum := "4e0a7e8ac076a8dba5f902bcf37ca46316a18b6eb2453fd2b826844fb12039e3", func := "hubbub/hubbublaw15.AcksOwn", spec := "acksOwn", unfollowed := true, recurses := true, apart := false, narrowed := true }
def AcksOwnUptoSaid : Prop := acksOwnUptoRow.holds Try.pinned (OpenSpec.upto acksOwnSpec)

end Rows
end Go.Proofs.Ytahmlcjgcdajbaa
