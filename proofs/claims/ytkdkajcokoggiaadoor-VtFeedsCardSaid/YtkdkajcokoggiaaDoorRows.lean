/-
  NARROWER THAN 'FOR EVERY INPUT', by the rows' own cells (each row's printed sentence says how): VtParts: laid · VtPlain: laid · VtAnew: laid · VtCloses: laid · VtFeeds: laid · VtCaps: laid · VtRight: laid.
  DERIVED. THE GIVEN ROWS OF THIS SEAT. 7 by the template 'for every input the law returns true; each argument reads behind the call as it read before'; 0 by the template 'total and deterministic' (their statements: YtkdkajcokoggiaaDoorTotals.lean).
  GIVEN WITH THE SEED: the statements are not yours to turn. If you find one false, say at which input.
  Laid BY PROGRAM, IN A SANDBOX (cutbox-rows.mjs): the forced cells as the released guide's own fill.sh prints them over the translation 7d60d6e8d38d0d42… (all of the seat's roots in one cut). By AI agents, Wed Nov 11 2026. No macro, syntax, notation, axiom, sorry.
-/
import Derived.Test.YtkdkajcokoggiaaDoorChecked
import GoSem.PinnedTables
import GoSem.Claim
import GoSem.ClaimJoined
import GoSem.ClaimMapViews
import Derived.JoinedTies
import Derived.KernelRfl
namespace Go.Proofs.YtkdkajcokoggiaaDoor
/- THE CELL 'sum', in the pinned program and in every row, IS THE sha256 OF THE DUMP (.gsa) THAT YtkdkajcokoggiaaDoorProg.lean LOADS. Nothing in Lean hashes anything: it is a label: what it is worth is what the hold of that sum in a sandbox is worth. -/
noncomputable def Tryd.pinned : Pinned := { name := "ytkdkajcokoggiaadoor", sum := "7d60d6e8d38d0d421d8b12f1efb8f25c44a2040c9cb9ead7b6dceb238f6cbfd4", checked := Tryd.checked }
namespace Rows
def none {H : Type} : Left H := { results := [], args := [] }

/- WHAT THE LISTED PACKAGE-LEVEL VARIABLES READ AS WHEN THE CALL BEGINS. Each datum BY PROGRAM (the guide's laid-datum.mjs) off the statement by which the dump's own 'gosem.cut.vars' lays the variable. In a bare row this is a premise. The card (YtkdkajcokoggiaaDoorCards.lean) ties it to the program's text. -/
def laid_unicode_utf8_acceptRanges {H : Type} : DataW H := .agg [.agg [.lit (.int .u8 128), .lit (.int .u8 191)], .agg [.lit (.int .u8 160), .lit (.int .u8 191)], .agg [.lit (.int .u8 128), .lit (.int .u8 159)], .agg [.lit (.int .u8 144), .lit (.int .u8 191)], .agg [.lit (.int .u8 128), .lit (.int .u8 143)], .agg [.lit (.int .u8 0), .lit (.int .u8 0)], .agg [.lit (.int .u8 0), .lit (.int .u8 0)], .agg [.lit (.int .u8 0), .lit (.int .u8 0)], .agg [.lit (.int .u8 0), .lit (.int .u8 0)], .agg [.lit (.int .u8 0), .lit (.int .u8 0)], .agg [.lit (.int .u8 0), .lit (.int .u8 0)], .agg [.lit (.int .u8 0), .lit (.int .u8 0)], .agg [.lit (.int .u8 0), .lit (.int .u8 0)], .agg [.lit (.int .u8 0), .lit (.int .u8 0)], .agg [.lit (.int .u8 0), .lit (.int .u8 0)], .agg [.lit (.int .u8 0), .lit (.int .u8 0)]]
/-- One of Go's own tables, pinned by name: the form's constant. -/
def laid_unicode_utf8_first : DataW Unit := Go.Pinned.utf8First

/-- 'flipbooklaw06.VtParts': WHATEVER THE INPUT: true; the input reads as it did. -/
def vtPartsSpec : ChangeSpec := { name := "vtParts", fn := fun _ => fun
  | [d1, d2] => { results := [.lit (.bool true)], args := [d1, d2] }
  | _ => none }
def vtPartsRow : OpenClaim := { program := "ytkdkajcokoggiaadoor", sum := "7d60d6e8d38d0d421d8b12f1efb8f25c44a2040c9cb9ead7b6dceb238f6cbfd4", func := "flipbook/flipbooklaw06.VtParts", spec := "vtParts", named := ["unicode/utf8.first", "unicode/utf8.acceptRanges"], apart := false, laid := [("unicode/utf8.acceptRanges", laid_unicode_utf8_acceptRanges), ("unicode/utf8.first", laid_unicode_utf8_first)] }
def VtPartsSaid : Prop := vtPartsRow.holds Tryd.pinned (OpenSpec.ofChange vtPartsSpec)

/-- ITS FALSE NEIGHBOUR: 'it returns false'. Refute it at one input. -/
def vtPartsWrong : ChangeSpec := { name := "vtParts", fn := fun _ => fun
  | [d1, d2] => { results := [.lit (.bool false)], args := [d1, d2] }
  | _ => none }
def VtPartsWrongFalsely : Prop := vtPartsRow.holds Tryd.pinned (OpenSpec.ofChange vtPartsWrong)

/-- 'flipbooklaw06.VtPlain': WHATEVER THE INPUT: true; the input reads as it did. -/
def vtPlainSpec : ChangeSpec := { name := "vtPlain", fn := fun _ => fun
  | [d] => { results := [.lit (.bool true)], args := [d] }
  | _ => none }
def vtPlainRow : OpenClaim := { program := "ytkdkajcokoggiaadoor", sum := "7d60d6e8d38d0d421d8b12f1efb8f25c44a2040c9cb9ead7b6dceb238f6cbfd4", func := "flipbook/flipbooklaw06.VtPlain", spec := "vtPlain", named := ["unicode/utf8.first", "unicode/utf8.acceptRanges"], apart := false, laid := [("unicode/utf8.acceptRanges", laid_unicode_utf8_acceptRanges), ("unicode/utf8.first", laid_unicode_utf8_first)] }
def VtPlainSaid : Prop := vtPlainRow.holds Tryd.pinned (OpenSpec.ofChange vtPlainSpec)

/-- ITS FALSE NEIGHBOUR: 'it returns false'. Refute it at one input. -/
def vtPlainWrong : ChangeSpec := { name := "vtPlain", fn := fun _ => fun
  | [d] => { results := [.lit (.bool false)], args := [d] }
  | _ => none }
def VtPlainWrongFalsely : Prop := vtPlainRow.holds Tryd.pinned (OpenSpec.ofChange vtPlainWrong)

/-- 'flipbooklaw06.VtAnew': WHATEVER THE INPUT: true; the input reads as it did. -/
def vtAnewSpec : ChangeSpec := { name := "vtAnew", fn := fun _ => fun
  | [d1, d2] => { results := [.lit (.bool true)], args := [d1, d2] }
  | _ => none }
def vtAnewRow : OpenClaim := { program := "ytkdkajcokoggiaadoor", sum := "7d60d6e8d38d0d421d8b12f1efb8f25c44a2040c9cb9ead7b6dceb238f6cbfd4", func := "flipbook/flipbooklaw06.VtAnew", spec := "vtAnew", named := ["unicode/utf8.first", "unicode/utf8.acceptRanges"], apart := false, laid := [("unicode/utf8.acceptRanges", laid_unicode_utf8_acceptRanges), ("unicode/utf8.first", laid_unicode_utf8_first)] }
def VtAnewSaid : Prop := vtAnewRow.holds Tryd.pinned (OpenSpec.ofChange vtAnewSpec)

/-- ITS FALSE NEIGHBOUR: 'it returns false'. Refute it at one input. -/
def vtAnewWrong : ChangeSpec := { name := "vtAnew", fn := fun _ => fun
  | [d1, d2] => { results := [.lit (.bool false)], args := [d1, d2] }
  | _ => none }
def VtAnewWrongFalsely : Prop := vtAnewRow.holds Tryd.pinned (OpenSpec.ofChange vtAnewWrong)

/-- 'flipbooklaw06.VtCloses': WHATEVER THE INPUT: true; the input reads as it did. -/
def vtClosesSpec : ChangeSpec := { name := "vtCloses", fn := fun _ => fun
  | [d1, d2, d3] => { results := [.lit (.bool true)], args := [d1, d2, d3] }
  | _ => none }
def vtClosesRow : OpenClaim := { program := "ytkdkajcokoggiaadoor", sum := "7d60d6e8d38d0d421d8b12f1efb8f25c44a2040c9cb9ead7b6dceb238f6cbfd4", func := "flipbook/flipbooklaw06.VtCloses", spec := "vtCloses", named := ["unicode/utf8.first", "unicode/utf8.acceptRanges"], apart := false, laid := [("unicode/utf8.acceptRanges", laid_unicode_utf8_acceptRanges), ("unicode/utf8.first", laid_unicode_utf8_first)] }
def VtClosesSaid : Prop := vtClosesRow.holds Tryd.pinned (OpenSpec.ofChange vtClosesSpec)

/-- ITS FALSE NEIGHBOUR: 'it returns false'. Refute it at one input. -/
def vtClosesWrong : ChangeSpec := { name := "vtCloses", fn := fun _ => fun
  | [d1, d2, d3] => { results := [.lit (.bool false)], args := [d1, d2, d3] }
  | _ => none }
def VtClosesWrongFalsely : Prop := vtClosesRow.holds Tryd.pinned (OpenSpec.ofChange vtClosesWrong)

/-- 'flipbooklaw06.VtFeeds': WHATEVER THE INPUT: true; the input reads as it did. -/
def vtFeedsSpec : ChangeSpec := { name := "vtFeeds", fn := fun _ => fun
  | [d] => { results := [.lit (.bool true)], args := [d] }
  | _ => none }
def vtFeedsRow : OpenClaim := { program := "ytkdkajcokoggiaadoor", sum := "7d60d6e8d38d0d421d8b12f1efb8f25c44a2040c9cb9ead7b6dceb238f6cbfd4", func := "flipbook/flipbooklaw06.VtFeeds", spec := "vtFeeds", unfollowed := true, recurses := true, named := ["unicode/utf8.first", "unicode/utf8.acceptRanges"], apart := false, laid := [("unicode/utf8.acceptRanges", laid_unicode_utf8_acceptRanges), ("unicode/utf8.first", laid_unicode_utf8_first)] }
def VtFeedsSaid : Prop := vtFeedsRow.holds Tryd.pinned (OpenSpec.ofChange vtFeedsSpec)

/-- ITS FALSE NEIGHBOUR: 'it returns false'. Refute it at one input. -/
def vtFeedsWrong : ChangeSpec := { name := "vtFeeds", fn := fun _ => fun
  | [d] => { results := [.lit (.bool false)], args := [d] }
  | _ => none }
def VtFeedsWrongFalsely : Prop := vtFeedsRow.holds Tryd.pinned (OpenSpec.ofChange vtFeedsWrong)

/-- 'flipbooklaw06.VtCaps': WHATEVER THE INPUT: true; the input reads as it did. -/
def vtCapsSpec : ChangeSpec := { name := "vtCaps", fn := fun _ => fun
  | [d] => { results := [.lit (.bool true)], args := [d] }
  | _ => none }
def vtCapsRow : OpenClaim := { program := "ytkdkajcokoggiaadoor", sum := "7d60d6e8d38d0d421d8b12f1efb8f25c44a2040c9cb9ead7b6dceb238f6cbfd4", func := "flipbook/flipbooklaw06.VtCaps", spec := "vtCaps", unfollowed := true, recurses := true, named := ["unicode/utf8.first", "unicode/utf8.acceptRanges"], apart := false, laid := [("unicode/utf8.acceptRanges", laid_unicode_utf8_acceptRanges), ("unicode/utf8.first", laid_unicode_utf8_first)] }
def VtCapsSaid : Prop := vtCapsRow.holds Tryd.pinned (OpenSpec.ofChange vtCapsSpec)

/-- ITS FALSE NEIGHBOUR: 'it returns false'. Refute it at one input. -/
def vtCapsWrong : ChangeSpec := { name := "vtCaps", fn := fun _ => fun
  | [d] => { results := [.lit (.bool false)], args := [d] }
  | _ => none }
def VtCapsWrongFalsely : Prop := vtCapsRow.holds Tryd.pinned (OpenSpec.ofChange vtCapsWrong)

/-- 'flipbooklaw06.VtRight': WHATEVER THE INPUT: true; the input reads as it did. -/
def vtRightSpec : ChangeSpec := { name := "vtRight", fn := fun _ => fun
  | [d] => { results := [.lit (.bool true)], args := [d] }
  | _ => none }
def vtRightRow : OpenClaim := { program := "ytkdkajcokoggiaadoor", sum := "7d60d6e8d38d0d421d8b12f1efb8f25c44a2040c9cb9ead7b6dceb238f6cbfd4", func := "flipbook/flipbooklaw06.VtRight", spec := "vtRight", unfollowed := true, recurses := true, named := ["unicode/utf8.first", "unicode/utf8.acceptRanges"], apart := false, laid := [("unicode/utf8.acceptRanges", laid_unicode_utf8_acceptRanges), ("unicode/utf8.first", laid_unicode_utf8_first)] }
def VtRightSaid : Prop := vtRightRow.holds Tryd.pinned (OpenSpec.ofChange vtRightSpec)

/-- ITS FALSE NEIGHBOUR: 'it returns false'. Refute it at one input. -/
def vtRightWrong : ChangeSpec := { name := "vtRight", fn := fun _ => fun
  | [d] => { results := [.lit (.bool false)], args := [d] }
  | _ => none }
def VtRightWrongFalsely : Prop := vtRightRow.holds Tryd.pinned (OpenSpec.ofChange vtRightWrong)

/- THE SECOND FORM. 'bulk': how many values and letters a reading holds, each counted each time it is reached (what is shared counts as often as it is met; a slice's spare places count too). A statement '..UptoSaid' is the law's where the arguments, and the package variables that the reading takes, are together of bulk at most 1048576: NARROWER than '..Said'. Prove '..Said' where nothing that the law and all that it calls make is longer than what came in: it says more and counts as full. Else prove '..UptoSaid'. A law counts once. -/
mutual
def uptoBulk {H : Type} : DataW H → Nat
  | .lit (.string bytes) => bytes.length + 1
  | .lit _ => 1
  | .nil => 1
  | .ptr d => uptoBulk d + 1
  | .slice elems spare => uptoBulkAll elems + uptoBulkAll spare + 1
  | .agg parts => uptoBulkAll parts + 1
  | .iface _ d => uptoBulk d + 1
  | .map entries => uptoBulkEntries entries + 1
  | .held _ => 1
def uptoBulkAll {H : Type} : List (DataW H) → Nat
  | [] => 0
  | d :: r => uptoBulk d + uptoBulkAll r
def uptoBulkEntries {H : Type} : List (Lit × DataW H) → Nat
  | [] => 0
  | x :: r => uptoBulkEntry x + uptoBulkEntries r
def uptoBulkEntry {H : Type} : Lit × DataW H → Nat
  | (.string bytes, d) => bytes.length + uptoBulk d + 1
  | (_, d) => uptoBulk d + 1
 end
def uptoSmall : (H : Type) → List (DataW H) → Bool := fun _ ds => decide (uptoBulkAll ds ≤ 1048576)
def OpenSpec.upto (s : _root_.Go.ChangeSpec) : _root_.Go.OpenSpec := { _root_.Go.OpenSpec.ofChange s with cond := some uptoSmall }

/-- 'flipbooklaw06.VtParts', WHERE WHAT IT READS IS OF BULK AT MOST 1048576: true; the input reads as it did. -/
def vtPartsUptoRow : OpenClaim := { program := "ytkdkajcokoggiaadoor", sum := "7d60d6e8d38d0d421d8b12f1efb8f25c44a2040c9cb9ead7b6dceb238f6cbfd4", func := "flipbook/flipbooklaw06.VtParts", spec := "vtParts", named := ["unicode/utf8.first", "unicode/utf8.acceptRanges"], apart := false, laid := [("unicode/utf8.acceptRanges", laid_unicode_utf8_acceptRanges), ("unicode/utf8.first", laid_unicode_utf8_first)], narrowed := true }
def VtPartsUptoSaid : Prop := vtPartsUptoRow.holds Tryd.pinned (OpenSpec.upto vtPartsSpec)

/-- 'flipbooklaw06.VtPlain', WHERE WHAT IT READS IS OF BULK AT MOST 1048576: true; the input reads as it did. -/
def vtPlainUptoRow : OpenClaim := { program := "ytkdkajcokoggiaadoor", sum := "7d60d6e8d38d0d421d8b12f1efb8f25c44a2040c9cb9ead7b6dceb238f6cbfd4", func := "flipbook/flipbooklaw06.VtPlain", spec := "vtPlain", named := ["unicode/utf8.first", "unicode/utf8.acceptRanges"], apart := false, laid := [("unicode/utf8.acceptRanges", laid_unicode_utf8_acceptRanges), ("unicode/utf8.first", laid_unicode_utf8_first)], narrowed := true }
def VtPlainUptoSaid : Prop := vtPlainUptoRow.holds Tryd.pinned (OpenSpec.upto vtPlainSpec)

/-- 'flipbooklaw06.VtAnew', WHERE WHAT IT READS IS OF BULK AT MOST 1048576: true; the input reads as it did. -/
def vtAnewUptoRow : OpenClaim := { program := "ytkdkajcokoggiaadoor", sum := "7d60d6e8d38d0d421d8b12f1efb8f25c44a2040c9cb9ead7b6dceb238f6cbfd4", func := "flipbook/flipbooklaw06.VtAnew", spec := "vtAnew", named := ["unicode/utf8.first", "unicode/utf8.acceptRanges"], apart := false, laid := [("unicode/utf8.acceptRanges", laid_unicode_utf8_acceptRanges), ("unicode/utf8.first", laid_unicode_utf8_first)], narrowed := true }
def VtAnewUptoSaid : Prop := vtAnewUptoRow.holds Tryd.pinned (OpenSpec.upto vtAnewSpec)

/-- 'flipbooklaw06.VtCloses', WHERE WHAT IT READS IS OF BULK AT MOST 1048576: true; the input reads as it did. -/
def vtClosesUptoRow : OpenClaim := { program := "ytkdkajcokoggiaadoor", sum := "7d60d6e8d38d0d421d8b12f1efb8f25c44a2040c9cb9ead7b6dceb238f6cbfd4", func := "flipbook/flipbooklaw06.VtCloses", spec := "vtCloses", named := ["unicode/utf8.first", "unicode/utf8.acceptRanges"], apart := false, laid := [("unicode/utf8.acceptRanges", laid_unicode_utf8_acceptRanges), ("unicode/utf8.first", laid_unicode_utf8_first)], narrowed := true }
def VtClosesUptoSaid : Prop := vtClosesUptoRow.holds Tryd.pinned (OpenSpec.upto vtClosesSpec)

/-- 'flipbooklaw06.VtFeeds', WHERE WHAT IT READS IS OF BULK AT MOST 1048576: true; the input reads as it did. -/
def vtFeedsUptoRow : OpenClaim := { program := "ytkdkajcokoggiaadoor", sum := "7d60d6e8d38d0d421d8b12f1efb8f25c44a2040c9cb9ead7b6dceb238f6cbfd4", func := "flipbook/flipbooklaw06.VtFeeds", spec := "vtFeeds", unfollowed := true, recurses := true, named := ["unicode/utf8.first", "unicode/utf8.acceptRanges"], apart := false, laid := [("unicode/utf8.acceptRanges", laid_unicode_utf8_acceptRanges), ("unicode/utf8.first", laid_unicode_utf8_first)], narrowed := true }
def VtFeedsUptoSaid : Prop := vtFeedsUptoRow.holds Tryd.pinned (OpenSpec.upto vtFeedsSpec)

/-- 'flipbooklaw06.VtCaps', WHERE WHAT IT READS IS OF BULK AT MOST 1048576: true; the input reads as it did. -/
def vtCapsUptoRow : OpenClaim := { program := "ytkdkajcokoggiaadoor", sum := "7d60d6e8d38d0d421d8b12f1efb8f25c44a2040c9cb9ead7b6dceb238f6cbfd4", func := "flipbook/flipbooklaw06.VtCaps", spec := "vtCaps", unfollowed := true, recurses := true, named := ["unicode/utf8.first", "unicode/utf8.acceptRanges"], apart := false, laid := [("unicode/utf8.acceptRanges", laid_unicode_utf8_acceptRanges), ("unicode/utf8.first", laid_unicode_utf8_first)], narrowed := true }
def VtCapsUptoSaid : Prop := vtCapsUptoRow.holds Tryd.pinned (OpenSpec.upto vtCapsSpec)

/-- 'flipbooklaw06.VtRight', WHERE WHAT IT READS IS OF BULK AT MOST 1048576: true; the input reads as it did. -/
def vtRightUptoRow : OpenClaim := { program := "ytkdkajcokoggiaadoor", sum := "7d60d6e8d38d0d421d8b12f1efb8f25c44a2040c9cb9ead7b6dceb238f6cbfd4", func := "flipbook/flipbooklaw06.VtRight", spec := "vtRight", unfollowed := true, recurses := true, named := ["unicode/utf8.first", "unicode/utf8.acceptRanges"], apart := false, laid := [("unicode/utf8.acceptRanges", laid_unicode_utf8_acceptRanges), ("unicode/utf8.first", laid_unicode_utf8_first)], narrowed := true }
def VtRightUptoSaid : Prop := vtRightUptoRow.holds Tryd.pinned (OpenSpec.upto vtRightSpec)

end Rows
end Go.Proofs.YtkdkajcokoggiaaDoor
