/-
  No cell of these rows narrows 'for every input' (looked for: loops, veiled, ifaces, maps, wideKeys, modest, calm, conditions, laid).
  DERIVED. THE GIVEN ROWS OF THIS SEAT. 5 by the template 'for every input the law returns true; each argument reads behind the call as it read before'; 0 by the template 'total and deterministic' (their statements: YtmongghhagbokaaTotals.lean).
  GIVEN WITH THE SEED: the statements are not yours to turn. If you find one false, say at which input.
  Laid BY PROGRAM, IN A SANDBOX (cutbox-rows.mjs): the forced cells as the released guide's own fill.sh prints them over the translation 119eeee5d3aa220d… (all of the seat's roots in one cut). By AI agents, Wed Nov 11 2026. No macro, syntax, notation, axiom, sorry.
-/
import Derived.Test.YtmongghhagbokaaChecked
import GoSem.Claim
import GoSem.ClaimJoined
import GoSem.ClaimMapViews
import Derived.JoinedTies
import Derived.KernelRfl
namespace Go.Proofs.Ytmongghhagbokaa
/- THE CELL 'sum', in the pinned program and in every row, IS THE sha256 OF THE DUMP (.gsa) THAT YtmongghhagbokaaProg.lean LOADS. Nothing in Lean hashes anything: it is a label: what it is worth is what the hold of that sum in a sandbox is worth. -/
noncomputable def Try.pinned : Pinned := { name := "ytmongghhagbokaa", sum := "119eeee5d3aa220d1de7bfb8c9acbccc9b11bf78103e02e97f132ae35baf0d9f", checked := Try.checked }
namespace Rows
def none {H : Type} : Left H := { results := [], args := [] }

/-- 'flipbooklaw15.PlayParts': WHATEVER THE INPUT: true; the input reads as it did. -/
def playPartsSpec : ChangeSpec := { name := "playParts", fn := fun _ => fun
  | [d1, d2, d3] => { results := [.lit (.bool true)], args := [d1, d2, d3] }
  | _ => none }
def playPartsRow : OpenClaim := { program := "ytmongghhagbokaa", sum := "119eeee5d3aa220d1de7bfb8c9acbccc9b11bf78103e02e97f132ae35baf0d9f", func := "flipbook/flipbooklaw15.PlayParts", spec := "playParts", unfollowed := true, recurses := true, named := ["math/bits.divideError", "math/bits.overflowError"], apart := false }
def PlayPartsSaid : Prop := playPartsRow.holds Try.pinned (OpenSpec.ofChange playPartsSpec)

/-- ITS FALSE NEIGHBOUR: 'it returns false'. Refute it at one input. -/
def playPartsWrong : ChangeSpec := { name := "playParts", fn := fun _ => fun
  | [d1, d2, d3] => { results := [.lit (.bool false)], args := [d1, d2, d3] }
  | _ => none }
def PlayPartsWrongFalsely : Prop := playPartsRow.holds Try.pinned (OpenSpec.ofChange playPartsWrong)

/-- 'flipbooklaw15.PlayTimes': WHATEVER THE INPUT: true; the input reads as it did. -/
def playTimesSpec : ChangeSpec := { name := "playTimes", fn := fun _ => fun
  | [d1, d2, d3] => { results := [.lit (.bool true)], args := [d1, d2, d3] }
  | _ => none }
def playTimesRow : OpenClaim := { program := "ytmongghhagbokaa", sum := "119eeee5d3aa220d1de7bfb8c9acbccc9b11bf78103e02e97f132ae35baf0d9f", func := "flipbook/flipbooklaw15.PlayTimes", spec := "playTimes", unfollowed := true, recurses := true, named := ["math/bits.divideError", "math/bits.overflowError"], apart := false }
def PlayTimesSaid : Prop := playTimesRow.holds Try.pinned (OpenSpec.ofChange playTimesSpec)

/-- ITS FALSE NEIGHBOUR: 'it returns false'. Refute it at one input. -/
def playTimesWrong : ChangeSpec := { name := "playTimes", fn := fun _ => fun
  | [d1, d2, d3] => { results := [.lit (.bool false)], args := [d1, d2, d3] }
  | _ => none }
def PlayTimesWrongFalsely : Prop := playTimesRow.holds Try.pinned (OpenSpec.ofChange playTimesWrong)

/-- 'flipbooklaw15.PlayRights': WHATEVER THE INPUT: true; the input reads as it did. -/
def playRightsSpec : ChangeSpec := { name := "playRights", fn := fun _ => fun
  | [d1, d2] => { results := [.lit (.bool true)], args := [d1, d2] }
  | _ => none }
def playRightsRow : OpenClaim := { program := "ytmongghhagbokaa", sum := "119eeee5d3aa220d1de7bfb8c9acbccc9b11bf78103e02e97f132ae35baf0d9f", func := "flipbook/flipbooklaw15.PlayRights", spec := "playRights", unfollowed := true, recurses := true, named := ["math/bits.divideError", "math/bits.overflowError"], apart := false }
def PlayRightsSaid : Prop := playRightsRow.holds Try.pinned (OpenSpec.ofChange playRightsSpec)

/-- ITS FALSE NEIGHBOUR: 'it returns false'. Refute it at one input. -/
def playRightsWrong : ChangeSpec := { name := "playRights", fn := fun _ => fun
  | [d1, d2] => { results := [.lit (.bool false)], args := [d1, d2] }
  | _ => none }
def PlayRightsWrongFalsely : Prop := playRightsRow.holds Try.pinned (OpenSpec.ofChange playRightsWrong)

/-- 'flipbooklaw15.PlayOnce': WHATEVER THE INPUT: true; the input reads as it did. -/
def playOnceSpec : ChangeSpec := { name := "playOnce", fn := fun _ => fun
  | [d1, d2, d3] => { results := [.lit (.bool true)], args := [d1, d2, d3] }
  | _ => none }
def playOnceRow : OpenClaim := { program := "ytmongghhagbokaa", sum := "119eeee5d3aa220d1de7bfb8c9acbccc9b11bf78103e02e97f132ae35baf0d9f", func := "flipbook/flipbooklaw15.PlayOnce", spec := "playOnce", unfollowed := true, recurses := true, named := ["math/bits.divideError", "math/bits.overflowError"], apart := false }
def PlayOnceSaid : Prop := playOnceRow.holds Try.pinned (OpenSpec.ofChange playOnceSpec)

/-- ITS FALSE NEIGHBOUR: 'it returns false'. Refute it at one input. -/
def playOnceWrong : ChangeSpec := { name := "playOnce", fn := fun _ => fun
  | [d1, d2, d3] => { results := [.lit (.bool false)], args := [d1, d2, d3] }
  | _ => none }
def PlayOnceWrongFalsely : Prop := playOnceRow.holds Try.pinned (OpenSpec.ofChange playOnceWrong)

/-- 'flipbooklaw15.PlayRuns': WHATEVER THE INPUT: true; the input reads as it did. -/
def playRunsSpec : ChangeSpec := { name := "playRuns", fn := fun _ => fun
  | [d1, d2, d3] => { results := [.lit (.bool true)], args := [d1, d2, d3] }
  | _ => none }
def playRunsRow : OpenClaim := { program := "ytmongghhagbokaa", sum := "119eeee5d3aa220d1de7bfb8c9acbccc9b11bf78103e02e97f132ae35baf0d9f", func := "flipbook/flipbooklaw15.PlayRuns", spec := "playRuns", unfollowed := true, recurses := true, named := ["math/bits.divideError", "math/bits.overflowError"], apart := false }
def PlayRunsSaid : Prop := playRunsRow.holds Try.pinned (OpenSpec.ofChange playRunsSpec)

/-- ITS FALSE NEIGHBOUR: 'it returns false'. Refute it at one input. -/
def playRunsWrong : ChangeSpec := { name := "playRuns", fn := fun _ => fun
  | [d1, d2, d3] => { results := [.lit (.bool false)], args := [d1, d2, d3] }
  | _ => none }
def PlayRunsWrongFalsely : Prop := playRunsRow.holds Try.pinned (OpenSpec.ofChange playRunsWrong)

/- THE SECOND FORM. 'bulk': how many values and letters a reading holds, each counted each time it is reached (what is shared counts as often as it is met; a slice's spare places count too). A statement '..UptoSaid' is the law's where the arguments, and the package variables that the reading takes, are together of bulk at most 1048576: NARROWER than '..Said'. Prove '..Said' where nothing that the law and all that it calls make is longer than what came in: it says more and counts as full. Else prove '..UptoSaid'. A law counts once. -/
mutual
def uptoBulk {H : Type} : DataW H → Nat
  | .lit (.string bytes) => bytes.length + 1
  | .lit _ => 1
  | .nil => 1
  | .ptr d => uptoBulk d + 1
  | .slice elems spare => uptoBulkAll elems + uptoBulkAll spare + 1
  | .agg parts => uptoBulkAll parts + 1
  | .iface _ d => uptoBulk d + 1
  | .map entries => uptoBulkEntries entries + 1
  | .held _ => 1
def uptoBulkAll {H : Type} : List (DataW H) → Nat
  | [] => 0
  | d :: r => uptoBulk d + uptoBulkAll r
def uptoBulkEntries {H : Type} : List (Lit × DataW H) → Nat
  | [] => 0
  | x :: r => uptoBulkEntry x + uptoBulkEntries r
def uptoBulkEntry {H : Type} : Lit × DataW H → Nat
  | (.string bytes, d) => bytes.length + uptoBulk d + 1
  | (_, d) => uptoBulk d + 1
 end
def uptoSmall : (H : Type) → List (DataW H) → Bool := fun _ ds => decide (uptoBulkAll ds ≤ 1048576)
def OpenSpec.upto (s : _root_.Go.ChangeSpec) : _root_.Go.OpenSpec := { _root_.Go.OpenSpec.ofChange s with cond := some uptoSmall }

/-- 'flipbooklaw15.PlayParts', WHERE WHAT IT READS IS OF BULK AT MOST 1048576: true; the input reads as it did. -/
def playPartsUptoRow : OpenClaim := { program := "ytmongghhagbokaa", sum := "119eeee5d3aa220d1de7bfb8c9acbccc9b11bf78103e02e97f132ae35baf0d9f", func := "flipbook/flipbooklaw15.PlayParts", spec := "playParts", unfollowed := true, recurses := true, named := ["math/bits.divideError", "math/bits.overflowError"], apart := false, narrowed := true }
def PlayPartsUptoSaid : Prop := playPartsUptoRow.holds Try.pinned (OpenSpec.upto playPartsSpec)

/-- 'flipbooklaw15.PlayTimes', WHERE WHAT IT READS IS OF BULK AT MOST 1048576: true; the input reads as it did. -/
def playTimesUptoRow : OpenClaim := { program := "ytmongghhagbokaa", sum := "119eeee5d3aa220d1de7bfb8c9acbccc9b11bf78103e02e97f132ae35baf0d9f", func := "flipbook/flipbooklaw15.PlayTimes", spec := "playTimes", unfollowed := true, recurses := true, named := ["math/bits.divideError", "math/bits.overflowError"], apart := false, narrowed := true }
def PlayTimesUptoSaid : Prop := playTimesUptoRow.holds Try.pinned (OpenSpec.upto playTimesSpec)

/-- 'flipbooklaw15.PlayRights', WHERE WHAT IT READS IS OF BULK AT MOST 1048576: true; the input reads as it did. -/
def playRightsUptoRow : OpenClaim := { program := "ytmongghhagbokaa", sum := "119eeee5d3aa220d1de7bfb8c9acbccc9b11bf78103e02e97f132ae35baf0d9f", func := "flipbook/flipbooklaw15.PlayRights", spec := "playRights", unfollowed := true, recurses := true, named := ["math/bits.divideError", "math/bits.overflowError"], apart := false, narrowed := true }
def PlayRightsUptoSaid : Prop := playRightsUptoRow.holds Try.pinned (OpenSpec.upto playRightsSpec)

/-- 'flipbooklaw15.PlayOnce', WHERE WHAT IT READS IS OF BULK AT MOST 1048576: true; the input reads as it did. -/
def playOnceUptoRow : OpenClaim := { program := "ytmongghhagbokaa", sum := "119eeee5d3aa220d1de7bfb8c9acbccc9b11bf78103e02e97f132ae35baf0d9f", func := "flipbook/flipbooklaw15.PlayOnce", spec := "playOnce", unfollowed := true, recurses := true, named := ["math/bits.divideError", "math/bits.overflowError"], apart := false, narrowed := true }
def PlayOnceUptoSaid : Prop := playOnceUptoRow.holds Try.pinned (OpenSpec.upto playOnceSpec)

/-- 'flipbooklaw15.PlayRuns', WHERE WHAT IT READS IS OF BULK AT MOST 1048576: true; the input reads as it did. -/
def playRunsUptoRow : OpenClaim := { program := "ytmongghhagbokaa", sum := "119eeee5d3aa220d1de7bfb8c9acbccc9b11bf78103e02e97f132ae35baf0d9f", func := "flipbook/flipbooklaw15.PlayRuns", spec := "playRuns", unfollowed := true, recurses := true, named := ["math/bits.divideError", "math/bits.overflowError"], apart := false, narrowed := true }
def PlayRunsUptoSaid : Prop := playRunsUptoRow.holds Try.pinned (OpenSpec.upto playRunsSpec)

end Rows
end Go.Proofs.Ytmongghhagbokaa
