/-
  No cell of these rows narrows 'for every input' (looked for: loops, veiled, ifaces, maps, wideKeys, modest, calm, conditions, laid).
  DERIVED. THE GIVEN ROWS OF THIS SEAT. 5 by the template 'for every input the law returns true; each argument reads behind the call as it read before'; 0 by the template 'total and deterministic' (their statements: YtnidcnmeonjjbaaTotals.lean).
  GIVEN WITH THE SEED: the statements are not yours to turn. If you find one false, say at which input.
  Laid BY PROGRAM, IN A SANDBOX (cutbox-rows.mjs): the forced cells as the released guide's own fill.sh prints them over the translation a49741cae48b3fc7… (all of the seat's roots in one cut). By AI agents, Wed Nov 11 2026. No macro, syntax, notation, axiom, sorry.
-/
import Derived.Test.YtnidcnmeonjjbaaChecked
import GoSem.Claim
import GoSem.ClaimJoined
import GoSem.ClaimMapViews
import Derived.JoinedTies
import Derived.KernelRfl
namespace Go.Proofs.Ytnidcnmeonjjbaa
/- THE CELL 'sum', in the pinned program and in every row, IS THE sha256 OF THE DUMP (.gsa) THAT YtnidcnmeonjjbaaProg.lean LOADS. Nothing in Lean hashes anything: it is a label: what it is worth is what the hold of that sum in a sandbox is worth. -/
noncomputable def Try.pinned : Pinned := { name := "ytnidcnmeonjjbaa", sum := "a49741cae48b3fc79a0d3489128339e277b73f98af406a874d17f067dbb6909a", checked := Try.checked }
namespace Rows
def none {H : Type} : Left H := { results := [], args := [] }

/-- 'flipbooklaw20.LayoutRuns': WHATEVER THE INPUT: true; the input reads as it did. -/
def layoutRunsSpec : ChangeSpec := { name := "layoutRuns", fn := fun _ => fun
  | [d1, d2] => { results := [.lit (.bool true)], args := [d1, d2] }
  | _ => none }
def layoutRunsRow : OpenClaim := { program := "ytnidcnmeonjjbaa", sum := "a49741cae48b3fc79a0d3489128339e277b73f98af406a874d17f067dbb6909a", func := "flipbook/flipbooklaw20.LayoutRuns", spec := "layoutRuns", unfollowed := true, recurses := true, apart := false }
def LayoutRunsSaid : Prop := layoutRunsRow.holds Try.pinned (OpenSpec.ofChange layoutRunsSpec)

/-- ITS FALSE NEIGHBOUR: 'it returns false'. Refute it at one input. -/
def layoutRunsWrong : ChangeSpec := { name := "layoutRuns", fn := fun _ => fun
  | [d1, d2] => { results := [.lit (.bool false)], args := [d1, d2] }
  | _ => none }
def LayoutRunsWrongFalsely : Prop := layoutRunsRow.holds Try.pinned (OpenSpec.ofChange layoutRunsWrong)

/-- 'flipbooklaw20.LayoutBoxes': WHATEVER THE INPUT: true; the input reads as it did. -/
def layoutBoxesSpec : ChangeSpec := { name := "layoutBoxes", fn := fun _ => fun
  | [d1, d2, d3] => { results := [.lit (.bool true)], args := [d1, d2, d3] }
  | _ => none }
def layoutBoxesRow : OpenClaim := { program := "ytnidcnmeonjjbaa", sum := "a49741cae48b3fc79a0d3489128339e277b73f98af406a874d17f067dbb6909a", func := "flipbook/flipbooklaw20.LayoutBoxes", spec := "layoutBoxes", unfollowed := true, recurses := true, apart := false }
def LayoutBoxesSaid : Prop := layoutBoxesRow.holds Try.pinned (OpenSpec.ofChange layoutBoxesSpec)

/-- ITS FALSE NEIGHBOUR: 'it returns false'. Refute it at one input. -/
def layoutBoxesWrong : ChangeSpec := { name := "layoutBoxes", fn := fun _ => fun
  | [d1, d2, d3] => { results := [.lit (.bool false)], args := [d1, d2, d3] }
  | _ => none }
def LayoutBoxesWrongFalsely : Prop := layoutBoxesRow.holds Try.pinned (OpenSpec.ofChange layoutBoxesWrong)

/-- 'flipbooklaw20.LayoutTiles': WHATEVER THE INPUT: true; the input reads as it did. -/
def layoutTilesSpec : ChangeSpec := { name := "layoutTiles", fn := fun _ => fun
  | [d1, d2, d3] => { results := [.lit (.bool true)], args := [d1, d2, d3] }
  | _ => none }
def layoutTilesRow : OpenClaim := { program := "ytnidcnmeonjjbaa", sum := "a49741cae48b3fc79a0d3489128339e277b73f98af406a874d17f067dbb6909a", func := "flipbook/flipbooklaw20.LayoutTiles", spec := "layoutTiles", unfollowed := true, recurses := true, apart := false }
def LayoutTilesSaid : Prop := layoutTilesRow.holds Try.pinned (OpenSpec.ofChange layoutTilesSpec)

/-- ITS FALSE NEIGHBOUR: 'it returns false'. Refute it at one input. -/
def layoutTilesWrong : ChangeSpec := { name := "layoutTiles", fn := fun _ => fun
  | [d1, d2, d3] => { results := [.lit (.bool false)], args := [d1, d2, d3] }
  | _ => none }
def LayoutTilesWrongFalsely : Prop := layoutTilesRow.holds Try.pinned (OpenSpec.ofChange layoutTilesWrong)

/-- 'flipbooklaw20.LayoutUndoes': WHATEVER THE INPUT: true; the input reads as it did. -/
def layoutUndoesSpec : ChangeSpec := { name := "layoutUndoes", fn := fun _ => fun
  | [d1, d2, d3] => { results := [.lit (.bool true)], args := [d1, d2, d3] }
  | _ => none }
def layoutUndoesRow : OpenClaim := { program := "ytnidcnmeonjjbaa", sum := "a49741cae48b3fc79a0d3489128339e277b73f98af406a874d17f067dbb6909a", func := "flipbook/flipbooklaw20.LayoutUndoes", spec := "layoutUndoes", unfollowed := true, recurses := true, apart := false }
def LayoutUndoesSaid : Prop := layoutUndoesRow.holds Try.pinned (OpenSpec.ofChange layoutUndoesSpec)

/-- ITS FALSE NEIGHBOUR: 'it returns false'. Refute it at one input. -/
def layoutUndoesWrong : ChangeSpec := { name := "layoutUndoes", fn := fun _ => fun
  | [d1, d2, d3] => { results := [.lit (.bool false)], args := [d1, d2, d3] }
  | _ => none }
def LayoutUndoesWrongFalsely : Prop := layoutUndoesRow.holds Try.pinned (OpenSpec.ofChange layoutUndoesWrong)

/-- 'flipbooklaw20.LayoutFew': WHATEVER THE INPUT: true; the input reads as it did. -/
def layoutFewSpec : ChangeSpec := { name := "layoutFew", fn := fun _ => fun
  | [d] => { results := [.lit (.bool true)], args := [d] }
  | _ => none }
def layoutFewRow : OpenClaim := { program := "ytnidcnmeonjjbaa", sum := "a49741cae48b3fc79a0d3489128339e277b73f98af406a874d17f067dbb6909a", func := "flipbook/flipbooklaw20.LayoutFew", spec := "layoutFew", unfollowed := true, recurses := true, apart := false }
def LayoutFewSaid : Prop := layoutFewRow.holds Try.pinned (OpenSpec.ofChange layoutFewSpec)

/-- ITS FALSE NEIGHBOUR: 'it returns false'. Refute it at one input. -/
def layoutFewWrong : ChangeSpec := { name := "layoutFew", fn := fun _ => fun
  | [d] => { results := [.lit (.bool false)], args := [d] }
  | _ => none }
def LayoutFewWrongFalsely : Prop := layoutFewRow.holds Try.pinned (OpenSpec.ofChange layoutFewWrong)

/- THE SECOND FORM. 'bulk': how many values and letters a reading holds, each counted each time it is reached (what is shared counts as often as it is met; a slice's spare places count too). A statement '..UptoSaid' is the law's where the arguments, and the package variables that the reading takes, are together of bulk at most 1048576: NARROWER than '..Said'. Prove '..Said' where nothing that the law and all that it calls make is longer than what came in: it says more and counts as full. Else prove '..UptoSaid'. A law counts once. -/
mutual
def uptoBulk {H : Type} : DataW H → Nat
  | .lit (.string bytes) => bytes.length + 1
  | .lit _ => 1
  | .nil => 1
  | .ptr d => uptoBulk d + 1
  | .slice elems spare => uptoBulkAll elems + uptoBulkAll spare + 1
  | .agg parts => uptoBulkAll parts + 1
  | .iface _ d => uptoBulk d + 1
  | .map entries => uptoBulkEntries entries + 1
  | .held _ => 1
def uptoBulkAll {H : Type} : List (DataW H) → Nat
  | [] => 0
  | d :: r => uptoBulk d + uptoBulkAll r
def uptoBulkEntries {H : Type} : List (Lit × DataW H) → Nat
  | [] => 0
  | x :: r => uptoBulkEntry x + uptoBulkEntries r
def uptoBulkEntry {H : Type} : Lit × DataW H → Nat
  | (.string bytes, d) => bytes.length + uptoBulk d + 1
  | (_, d) => uptoBulk d + 1
 end
def uptoSmall : (H : Type) → List (DataW H) → Bool := fun _ ds => decide (uptoBulkAll ds ≤ 1048576)
def OpenSpec.upto (s : _root_.Go.ChangeSpec) : _root_.Go.OpenSpec := { _root_.Go.OpenSpec.ofChange s with cond := some uptoSmall }

/-- 'flipbooklaw20.LayoutRuns', WHERE WHAT IT READS IS OF BULK AT MOST 1048576: true; the input reads as it did. -/
def layoutRunsUptoRow : OpenClaim := { program := "ytnidcnmeonjjbaa", sum := "a49741cae48b3fc79a0d3489128339e277b73f98af406a874d17f067dbb6909a", func := "flipbook/flipbooklaw20.LayoutRuns", spec := "layoutRuns", unfollowed := true, recurses := true, apart := false, narrowed := true }
def LayoutRunsUptoSaid : Prop := layoutRunsUptoRow.holds Try.pinned (OpenSpec.upto layoutRunsSpec)

/-- 'flipbooklaw20.LayoutBoxes', WHERE WHAT IT READS IS OF BULK AT MOST 1048576: true; the input reads as it did. -/
def layoutBoxesUptoRow : OpenClaim := { program := "ytnidcnmeonjjbaa", sum := "a49741cae48b3fc79a0d3489128339e277b73f98af406a874d17f067dbb6909a", func := "flipbook/flipbooklaw20.LayoutBoxes", spec := "layoutBoxes", unfollowed := true, recurses := true, apart := false, narrowed := true }
def LayoutBoxesUptoSaid : Prop := layoutBoxesUptoRow.holds Try.pinned (OpenSpec.upto layoutBoxesSpec)

/-- 'flipbooklaw20.LayoutTiles', WHERE WHAT IT READS IS OF BULK AT MOST 1048576: true; the input reads as it did. -/
def layoutTilesUptoRow : OpenClaim := { program := "ytnidcnmeonjjbaa", sum := "a49741cae48b3fc79a0d3489128339e277b73f98af406a874d17f067dbb6909a", func := "flipbook/flipbooklaw20.LayoutTiles", spec := "layoutTiles", unfollowed := true, recurses := true, apart := false, narrowed := true }
def LayoutTilesUptoSaid : Prop := layoutTilesUptoRow.holds Try.pinned (OpenSpec.upto layoutTilesSpec)

/-- 'flipbooklaw20.LayoutUndoes', WHERE WHAT IT READS IS OF BULK AT MOST 1048576: true; the input reads as it did. -/
def layoutUndoesUptoRow : OpenClaim := { program := "ytnidcnmeonjjbaa", sum := "a49741cae48b3fc79a0d3489128339e277b73f98af406a874d17f067dbb6909a", func := "flipbook/flipbooklaw20.LayoutUndoes", spec := "layoutUndoes", unfollowed := true, recurses := true, apart := false, narrowed := true }
def LayoutUndoesUptoSaid : Prop := layoutUndoesUptoRow.holds Try.pinned (OpenSpec.upto layoutUndoesSpec)

/-- 'flipbooklaw20.LayoutFew', WHERE WHAT IT READS IS OF BULK AT MOST 1048576: true; the input reads as it did. -/
def layoutFewUptoRow : OpenClaim := { program := "ytnidcnmeonjjbaa", sum := "a49741cae48b3fc79a0d3489128339e277b73f98af406a874d17f067dbb6909a", func := "flipbook/flipbooklaw20.LayoutFew", spec := "layoutFew", unfollowed := true, recurses := true, apart := false, narrowed := true }
def LayoutFewUptoSaid : Prop := layoutFewUptoRow.holds Try.pinned (OpenSpec.upto layoutFewSpec)

end Rows
end Go.Proofs.Ytnidcnmeonjjbaa
