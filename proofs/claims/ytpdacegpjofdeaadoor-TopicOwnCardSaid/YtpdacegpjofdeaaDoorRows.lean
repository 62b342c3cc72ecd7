/-
  NARROWER THAN 'FOR EVERY INPUT', by the rows' own cells (each row's printed sentence says how): TopicTells: laid · TopicWithin: laid · TopicOwn: laid · TopicLevels: laid · TopicAll: laid.
  DERIVED. THE GIVEN ROWS OF THIS SEAT. 5 by the template 'for every input the law returns true; each argument reads behind the call as it read before'; 0 by the template 'total and deterministic' (their statements: YtpdacegpjofdeaaDoorTotals.lean).
  GIVEN WITH THE SEED: the statements are not yours to turn. If you find one false, say at which input.
  Laid BY PROGRAM, IN A SANDBOX (cutbox-rows.mjs): the forced cells as the released guide's own fill.sh prints them over the translation 1d61f1f3f0ad337f… (all of the seat's roots in one cut). By AI agents, Wed Nov 11 2026. No macro, syntax, notation, axiom, sorry.
-/
import Derived.Test.YtpdacegpjofdeaaDoorChecked
import GoSem.PinnedTables
import GoSem.Claim
import GoSem.ClaimJoined
import GoSem.ClaimMapViews
import Derived.JoinedTies
import Derived.KernelRfl
namespace Go.Proofs.YtpdacegpjofdeaaDoor
/- THE CELL 'sum', in the pinned program and in every row, IS THE sha256 OF THE DUMP (.gsa) THAT YtpdacegpjofdeaaDoorProg.lean LOADS. Nothing in Lean hashes anything: it is a label: what it is worth is what the hold of that sum in a sandbox is worth. -/
noncomputable def Tryd.pinned : Pinned := { name := "ytpdacegpjofdeaadoor", sum := "1d61f1f3f0ad337f4dabfbb5e82ca4781a7797bf6fd7fb97079c6d6df6d4e2c1", checked := Tryd.checked }
namespace Rows
def none {H : Type} : Left H := { results := [], args := [] }

/- WHAT THE LISTED PACKAGE-LEVEL VARIABLES READ AS WHEN THE CALL BEGINS. Each datum BY PROGRAM (the guide's laid-datum.mjs) off the statement by which the dump's own 'gosem.cut.vars' lays the variable. In a bare row this is a premise. The card (YtpdacegpjofdeaaDoorCards.lean) ties it to the program's text. -/
def laid_unicode_utf8_acceptRanges {H : Type} : DataW H := .agg [.agg [.lit (.int .u8 128), .lit (.int .u8 191)], .agg [.lit (.int .u8 160), .lit (.int .u8 191)], .agg [.lit (.int .u8 128), .lit (.int .u8 159)], .agg [.lit (.int .u8 144), .lit (.int .u8 191)], .agg [.lit (.int .u8 128), .lit (.int .u8 143)], .agg [.lit (.int .u8 0), .lit (.int .u8 0)], .agg [.lit (.int .u8 0), .lit (.int .u8 0)], .agg [.lit (.int .u8 0), .lit (.int .u8 0)], .agg [.lit (.int .u8 0), .lit (.int .u8 0)], .agg [.lit (.int .u8 0), .lit (.int .u8 0)], .agg [.lit (.int .u8 0), .lit (.int .u8 0)], .agg [.lit (.int .u8 0), .lit (.int .u8 0)], .agg [.lit (.int .u8 0), .lit (.int .u8 0)], .agg [.lit (.int .u8 0), .lit (.int .u8 0)], .agg [.lit (.int .u8 0), .lit (.int .u8 0)], .agg [.lit (.int .u8 0), .lit (.int .u8 0)]]
/-- One of Go's own tables, pinned by name: the form's constant. -/
def laid_unicode_utf8_first : DataW Unit := Go.Pinned.utf8First

/-- 'hubbublaw6.TopicTells': WHATEVER THE INPUT: true; the input reads as it did. -/
def topicTellsSpec : ChangeSpec := { name := "topicTells", fn := fun _ => fun
  | [d1, d2, d3, d4, d5, d6] => { results := [.lit (.bool true)], args := [d1, d2, d3, d4, d5, d6] }
  | _ => none }
def topicTellsRow : OpenClaim := { program := "ytpdacegpjofdeaadoor", sum := "1d61f1f3f0ad337f4dabfbb5e82ca4781a7797bf6fd7fb97079c6d6df6d4e2c1", func := "hubbub/hubbublaw6.TopicTells", spec := "topicTells", inPlace := ["internal/bytealg.CountString", "internal/bytealg.IndexByteString", "internal/bytealg.IndexString"], unfollowed := true, recurses := true, named := ["unicode/utf8.first", "unicode/utf8.acceptRanges", "internal/bytealg.MaxLen"], apart := false, laid := [("unicode/utf8.acceptRanges", laid_unicode_utf8_acceptRanges), ("unicode/utf8.first", laid_unicode_utf8_first)] }
def TopicTellsSaid : Prop := topicTellsRow.holds Tryd.pinned (OpenSpec.ofChange topicTellsSpec)

/-- ITS FALSE NEIGHBOUR: 'it returns false'. Refute it at one input. -/
def topicTellsWrong : ChangeSpec := { name := "topicTells", fn := fun _ => fun
  | [d1, d2, d3, d4, d5, d6] => { results := [.lit (.bool false)], args := [d1, d2, d3, d4, d5, d6] }
  | _ => none }
def TopicTellsWrongFalsely : Prop := topicTellsRow.holds Tryd.pinned (OpenSpec.ofChange topicTellsWrong)

/-- 'hubbublaw6.TopicWithin': WHATEVER THE INPUT: true; the input reads as it did. -/
def topicWithinSpec : ChangeSpec := { name := "topicWithin", fn := fun _ => fun
  | [d1, d2, d3, d4, d5, d6] => { results := [.lit (.bool true)], args := [d1, d2, d3, d4, d5, d6] }
  | _ => none }
def topicWithinRow : OpenClaim := { program := "ytpdacegpjofdeaadoor", sum := "1d61f1f3f0ad337f4dabfbb5e82ca4781a7797bf6fd7fb97079c6d6df6d4e2c1", func := "hubbub/hubbublaw6.TopicWithin", spec := "topicWithin", inPlace := ["internal/bytealg.CountString", "internal/bytealg.IndexByteString", "internal/bytealg.IndexString"], unfollowed := true, recurses := true, named := ["unicode/utf8.first", "unicode/utf8.acceptRanges", "internal/bytealg.MaxLen"], apart := false, laid := [("unicode/utf8.acceptRanges", laid_unicode_utf8_acceptRanges), ("unicode/utf8.first", laid_unicode_utf8_first)] }
def TopicWithinSaid : Prop := topicWithinRow.holds Tryd.pinned (OpenSpec.ofChange topicWithinSpec)

/-- ITS FALSE NEIGHBOUR: 'it returns false'. Refute it at one input. -/
def topicWithinWrong : ChangeSpec := { name := "topicWithin", fn := fun _ => fun
  | [d1, d2, d3, d4, d5, d6] => { results := [.lit (.bool false)], args := [d1, d2, d3, d4, d5, d6] }
  | _ => none }
def TopicWithinWrongFalsely : Prop := topicWithinRow.holds Tryd.pinned (OpenSpec.ofChange topicWithinWrong)

/-- 'hubbublaw6.TopicOwn': WHATEVER THE INPUT: true; the input reads as it did. -/
def topicOwnSpec : ChangeSpec := { name := "topicOwn", fn := fun _ => fun
  | [d1, d2] => { results := [.lit (.bool true)], args := [d1, d2] }
  | _ => none }
def topicOwnRow : OpenClaim := { program := "ytpdacegpjofdeaadoor", sum := "1d61f1f3f0ad337f4dabfbb5e82ca4781a7797bf6fd7fb97079c6d6df6d4e2c1", func := "hubbub/hubbublaw6.TopicOwn", spec := "topicOwn", inPlace := ["internal/bytealg.CountString", "internal/bytealg.IndexByteString", "internal/bytealg.IndexString"], unfollowed := true, recurses := true, named := ["unicode/utf8.first", "unicode/utf8.acceptRanges", "internal/bytealg.MaxLen"], apart := false, laid := [("unicode/utf8.acceptRanges", laid_unicode_utf8_acceptRanges), ("unicode/utf8.first", laid_unicode_utf8_first)] }
def TopicOwnSaid : Prop := topicOwnRow.holds Tryd.pinned (OpenSpec.ofChange topicOwnSpec)

/-- ITS FALSE NEIGHBOUR: 'it returns false'. Refute it at one input. -/
def topicOwnWrong : ChangeSpec := { name := "topicOwn", fn := fun _ => fun
  | [d1, d2] => { results := [.lit (.bool false)], args := [d1, d2] }
  | _ => none }
def TopicOwnWrongFalsely : Prop := topicOwnRow.holds Tryd.pinned (OpenSpec.ofChange topicOwnWrong)

/-- 'hubbublaw6.TopicLevels': WHATEVER THE INPUT: true; the input reads as it did. -/
def topicLevelsSpec : ChangeSpec := { name := "topicLevels", fn := fun _ => fun
  | [d1, d2] => { results := [.lit (.bool true)], args := [d1, d2] }
  | _ => none }
def topicLevelsRow : OpenClaim := { program := "ytpdacegpjofdeaadoor", sum := "1d61f1f3f0ad337f4dabfbb5e82ca4781a7797bf6fd7fb97079c6d6df6d4e2c1", func := "hubbub/hubbublaw6.TopicLevels", spec := "topicLevels", inPlace := ["internal/bytealg.CountString", "internal/bytealg.IndexByteString", "internal/bytealg.IndexString"], unfollowed := true, recurses := true, named := ["unicode/utf8.first", "unicode/utf8.acceptRanges", "internal/bytealg.MaxLen"], apart := false, laid := [("unicode/utf8.acceptRanges", laid_unicode_utf8_acceptRanges), ("unicode/utf8.first", laid_unicode_utf8_first)] }
def TopicLevelsSaid : Prop := topicLevelsRow.holds Tryd.pinned (OpenSpec.ofChange topicLevelsSpec)

/-- ITS FALSE NEIGHBOUR: 'it returns false'. Refute it at one input. -/
def topicLevelsWrong : ChangeSpec := { name := "topicLevels", fn := fun _ => fun
  | [d1, d2] => { results := [.lit (.bool false)], args := [d1, d2] }
  | _ => none }
def TopicLevelsWrongFalsely : Prop := topicLevelsRow.holds Tryd.pinned (OpenSpec.ofChange topicLevelsWrong)

/-- 'hubbublaw6.TopicAll': WHATEVER THE INPUT: true; the input reads as it did. -/
def topicAllSpec : ChangeSpec := { name := "topicAll", fn := fun _ => fun
  | [d1, d2] => { results := [.lit (.bool true)], args := [d1, d2] }
  | _ => none }
def topicAllRow : OpenClaim := { program := "ytpdacegpjofdeaadoor", sum := "1d61f1f3f0ad337f4dabfbb5e82ca4781a7797bf6fd7fb97079c6d6df6d4e2c1", func := "hubbub/hubbublaw6.TopicAll", spec := "topicAll", inPlace := ["internal/bytealg.CountString", "internal/bytealg.IndexByteString", "internal/bytealg.IndexString"], unfollowed := true, recurses := true, named := ["unicode/utf8.first", "unicode/utf8.acceptRanges", "internal/bytealg.MaxLen"], apart := false, laid := [("unicode/utf8.acceptRanges", laid_unicode_utf8_acceptRanges), ("unicode/utf8.first", laid_unicode_utf8_first)] }
def TopicAllSaid : Prop := topicAllRow.holds Tryd.pinned (OpenSpec.ofChange topicAllSpec)

/-- ITS FALSE NEIGHBOUR: 'it returns false'. Refute it at one input. -/
def topicAllWrong : ChangeSpec := { name := "topicAll", fn := fun _ => fun
  | [d1, d2] => { results := [.lit (.bool false)], args := [d1, d2] }
  | _ => none }
def TopicAllWrongFalsely : Prop := topicAllRow.holds Tryd.pinned (OpenSpec.ofChange topicAllWrong)

/- THE SECOND FORM. 'bulk': how many values and letters a reading holds, each counted each time it is reached (what is shared counts as often as it is met; a slice's spare places count too). A statement '..UptoSaid' is the law's where the arguments, and the package variables that the reading takes, are together of bulk at most 1048576: NARROWER than '..Said'. Prove '..Said' where nothing that the law and all that it calls make is longer than what came in: it says more and counts as full. Else prove '..UptoSaid'. A law counts once. -/
mutual
def uptoBulk {H : Type} : DataW H → Nat
  | .lit (.string bytes) => bytes.length + 1
  | .lit _ => 1
  | .nil => 1
  | .ptr d => uptoBulk d + 1
  | .slice elems spare => uptoBulkAll elems + uptoBulkAll spare + 1
  | .agg parts => uptoBulkAll parts + 1
  | .iface _ d => uptoBulk d + 1
  | .map entries => uptoBulkEntries entries + 1
  | .held _ => 1
def uptoBulkAll {H : Type} : List (DataW H) → Nat
  | [] => 0
  | d :: r => uptoBulk d + uptoBulkAll r
def uptoBulkEntries {H : Type} : List (Lit × DataW H) → Nat
  | [] => 0
  | x :: r => uptoBulkEntry x + uptoBulkEntries r
def uptoBulkEntry {H : Type} : Lit × DataW H → Nat
  | (.string bytes, d) => bytes.length + uptoBulk d + 1
  | (_, d) => uptoBulk d + 1
 end
def uptoSmall : (H : Type) → List (DataW H) → Bool := fun _ ds => decide (uptoBulkAll ds ≤ 1048576)
def OpenSpec.upto (s : _root_.Go.ChangeSpec) : _root_.Go.OpenSpec := { _root_.Go.OpenSpec.ofChange s with cond := some uptoSmall }

/-- 'hubbublaw6.TopicTells', WHERE WHAT IT READS IS OF BULK AT MOST 1048576: true; the input reads as it did. -/
def topicTellsUptoRow : OpenClaim := { program := "ytpdacegpjofdeaadoor", sum := "1d61f1f3f0ad337f4dabfbb5e82ca4781a7797bf6fd7fb97079c6d6df6d4e2c1", func := "hubbub/hubbublaw6.TopicTells", spec := "topicTells", inPlace := ["internal/bytealg.CountString", "internal/bytealg.IndexByteString", "internal/bytealg.IndexString"], unfollowed := true, recurses := true, named := ["unicode/utf8.first", "unicode/utf8.acceptRanges", "internal/bytealg.MaxLen"], apart := false, laid := [("unicode/utf8.acceptRanges", laid_unicode_utf8_acceptRanges), ("unicode/utf8.first", laid_unicode_utf8_first)], narrowed := true }
def TopicTellsUptoSaid : Prop := topicTellsUptoRow.holds Tryd.pinned (OpenSpec.upto topicTellsSpec)

/-- 'hubbublaw6.TopicWithin', WHERE WHAT IT READS IS OF BULK AT MOST 1048576: true; the input reads as it did. -/
def topicWithinUptoRow : OpenClaim := { program := "ytpdacegpjofdeaadoor", sum := "1d61f1f3f0ad337f4dabfbb5e82ca4781a7797bf6fd7fb97079c6d6df6d4e2c1", func := "hubbub/hubbublaw6.TopicWithin", spec := "topicWithin", inPlace := ["internal/bytealg.CountString", "internal/bytealg.IndexByteString", "internal/bytealg.IndexString"], unfollowed := true, recurses := true, named := ["unicode/utf8.first", "unicode/utf8.acceptRanges", "internal/bytealg.MaxLen"], apart := false, laid := [("unicode/utf8.acceptRanges", laid_unicode_utf8_acceptRanges), ("unicode/utf8.first", laid_unicode_utf8_first)], narrowed := true }
def TopicWithinUptoSaid : Prop := topicWithinUptoRow.holds Tryd.pinned (OpenSpec.upto topicWithinSpec)

/-- 'hubbublaw6.TopicOwn', WHERE WHAT IT READS IS OF BULK AT MOST 1048576: true; the input reads as it did. -/
def topicOwnUptoRow : OpenClaim := { program := "ytpdacegpjofdeaadoor", sum := "1d61f1f3f0ad337f4dabfbb5e82ca4781a7797bf6fd7fb97079c6d6df6d4e2c1", func := "hubbub/hubbublaw6.TopicOwn", spec := "topicOwn", inPlace := ["internal/bytealg.CountString", "internal/bytealg.IndexByteString", "internal/bytealg.IndexString"], unfollowed := true, recurses := true, named := ["unicode/utf8.first", "unicode/utf8.acceptRanges", "internal/bytealg.MaxLen"], apart := false, laid := [("unicode/utf8.acceptRanges", laid_unicode_utf8_acceptRanges), ("unicode/utf8.first", laid_unicode_utf8_first)], narrowed := true }
def TopicOwnUptoSaid : Prop := topicOwnUptoRow.holds Tryd.pinned (OpenSpec.upto topicOwnSpec)

/-- 'hubbublaw6.TopicLevels', WHERE WHAT IT READS IS OF BULK AT MOST 1048576: true; the input reads as it did. -/
def topicLevelsUptoRow : OpenClaim := { program := "ytpdacegpjofdeaadoor", sum := "1d61f1f3f0ad337f4dabfbb5e82ca4781a7797bf6fd7fb97079c6d6df6d4e2c1", func := "hubbub/hubbublaw6.TopicLevels", spec := "topicLevels", inPlace := ["internal/bytealg.CountString", "internal/bytealg.IndexByteString", "internal/bytealg.IndexString"], unfollowed := true, recurses := true, named := ["unicode/utf8.first", "unicode/utf8.acceptRanges", "internal/bytealg.MaxLen"], apart := false, laid := [("unicode/utf8.acceptRanges", laid_unicode_utf8_acceptRanges), ("unicode/utf8.first", laid_unicode_utf8_first)], narrowed := true }
def TopicLevelsUptoSaid : Prop := topicLevelsUptoRow.holds Tryd.pinned (OpenSpec.upto topicLevelsSpec)

/-- 'hubbublaw6.TopicAll', WHERE WHAT IT READS IS OF BULK AT MOST 1048576: true; the input reads as it did. -/
def topicAllUptoRow : OpenClaim := { program := "ytpdacegpjofdeaadoor", sum := "1d61f1f3f0ad337f4dabfbb5e82ca4781a7797bf6fd7fb97079c6d6df6d4e2c1", func := "hubbub/hubbublaw6.TopicAll", spec := "topicAll", inPlace := ["internal/bytealg.CountString", "internal/bytealg.IndexByteString", "internal/bytealg.IndexString"], unfollowed := true, recurses := true, named := ["unicode/utf8.first", "unicode/utf8.acceptRanges", "internal/bytealg.MaxLen"], apart := false, laid := [("unicode/utf8.acceptRanges", laid_unicode_utf8_acceptRanges), ("unicode/utf8.first", laid_unicode_utf8_first)], narrowed := true }
def TopicAllUptoSaid : Prop := topicAllUptoRow.holds Tryd.pinned (OpenSpec.upto topicAllSpec)

end Rows
end Go.Proofs.YtpdacegpjofdeaaDoor
