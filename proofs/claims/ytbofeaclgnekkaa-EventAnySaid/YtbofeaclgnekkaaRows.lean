/-
  No cell of these rows narrows 'for every input' (looked for: loops, veiled, ifaces, maps, wideKeys, modest, calm, conditions, laid).
  DERIVED. THE GIVEN ROWS OF THIS SEAT. 5 by the template 'for every input the law returns true; each argument reads behind the call as it read before'; 0 by the template 'total and deterministic' (their statements: YtbofeaclgnekkaaTotals.lean).
  GIVEN WITH THE SEED: the statements are not yours to turn. If you find one false, say at which input.
  Laid BY PROGRAM, IN A SANDBOX (cutbox-rows.mjs): the forced cells as the released guide's own fill.sh prints them over the translation 242583ffa8c08530… (all of the seat's roots in one cut). By AI agents, Wed Nov 11 2026. No macro, syntax, notation, axiom, sorry.
-/
import Derived.Test.YtbofeaclgnekkaaChecked
import GoSem.Claim
import GoSem.ClaimJoined
import GoSem.ClaimMapViews
import Derived.JoinedTies
import Derived.KernelRfl
namespace Go.Proofs.Ytbofeaclgnekkaa
/- THE CELL 'sum', in the pinned program and in every row, IS THE sha256 OF THE DUMP (.gsa) THAT YtbofeaclgnekkaaProg.lean LOADS. Nothing in Lean hashes anything: it is a label: what it is worth is what the hold of that sum in a sandbox is worth. -/
noncomputable def Try.pinned : Pinned := { name := "ytbofeaclgnekkaa", sum := "242583ffa8c08530717ed9eb572b21132e75fb586a7132ec205240f596d5e18f", checked := Try.checked }
namespace Rows
def none {H : Type} : Left H := { results := [], args := [] }

/-- 'flipbooklaw12.EventRights': WHATEVER THE INPUT: true; the input reads as it did. -/
def eventRightsSpec : ChangeSpec := { name := "eventRights", fn := fun _ => fun
  | [d] => { results := [.lit (.bool true)], args := [d] }
  | _ => none }
def eventRightsRow : OpenClaim := { program := "ytbofeaclgnekkaa", sum := "242583ffa8c08530717ed9eb572b21132e75fb586a7132ec205240f596d5e18f", func := "flipbook/flipbooklaw12.EventRights", spec := "eventRights", apart := false }
def EventRightsSaid : Prop := eventRightsRow.holds Try.pinned (OpenSpec.ofChange eventRightsSpec)

/-- ITS FALSE NEIGHBOUR: 'it returns false'. Refute it at one input. -/
def eventRightsWrong : ChangeSpec := { name := "eventRights", fn := fun _ => fun
  | [d] => { results := [.lit (.bool false)], args := [d] }
  | _ => none }
def EventRightsWrongFalsely : Prop := eventRightsRow.holds Try.pinned (OpenSpec.ofChange eventRightsWrong)

/-- 'flipbooklaw12.EventShifts': WHATEVER THE INPUT: true; the input reads as it did. -/
def eventShiftsSpec : ChangeSpec := { name := "eventShifts", fn := fun _ => fun
  | [d1, d2] => { results := [.lit (.bool true)], args := [d1, d2] }
  | _ => none }
def eventShiftsRow : OpenClaim := { program := "ytbofeaclgnekkaa", sum := "242583ffa8c08530717ed9eb572b21132e75fb586a7132ec205240f596d5e18f", func := "flipbook/flipbooklaw12.EventShifts", spec := "eventShifts", apart := false }
def EventShiftsSaid : Prop := eventShiftsRow.holds Try.pinned (OpenSpec.ofChange eventShiftsSpec)

/-- ITS FALSE NEIGHBOUR: 'it returns false'. Refute it at one input. -/
def eventShiftsWrong : ChangeSpec := { name := "eventShifts", fn := fun _ => fun
  | [d1, d2] => { results := [.lit (.bool false)], args := [d1, d2] }
  | _ => none }
def EventShiftsWrongFalsely : Prop := eventShiftsRow.holds Try.pinned (OpenSpec.ofChange eventShiftsWrong)

/-- 'flipbooklaw12.EventUntils': WHATEVER THE INPUT: true; the input reads as it did. -/
def eventUntilsSpec : ChangeSpec := { name := "eventUntils", fn := fun _ => fun
  | [d1, d2] => { results := [.lit (.bool true)], args := [d1, d2] }
  | _ => none }
def eventUntilsRow : OpenClaim := { program := "ytbofeaclgnekkaa", sum := "242583ffa8c08530717ed9eb572b21132e75fb586a7132ec205240f596d5e18f", func := "flipbook/flipbooklaw12.EventUntils", spec := "eventUntils", unfollowed := true, recurses := true, apart := false }
def EventUntilsSaid : Prop := eventUntilsRow.holds Try.pinned (OpenSpec.ofChange eventUntilsSpec)

/-- ITS FALSE NEIGHBOUR: 'it returns false'. Refute it at one input. -/
def eventUntilsWrong : ChangeSpec := { name := "eventUntils", fn := fun _ => fun
  | [d1, d2] => { results := [.lit (.bool false)], args := [d1, d2] }
  | _ => none }
def EventUntilsWrongFalsely : Prop := eventUntilsRow.holds Try.pinned (OpenSpec.ofChange eventUntilsWrong)

/-- 'flipbooklaw12.EventLists': WHATEVER THE INPUT: true; the input reads as it did. -/
def eventListsSpec : ChangeSpec := { name := "eventLists", fn := fun _ => fun
  | [d1, d2] => { results := [.lit (.bool true)], args := [d1, d2] }
  | _ => none }
def eventListsRow : OpenClaim := { program := "ytbofeaclgnekkaa", sum := "242583ffa8c08530717ed9eb572b21132e75fb586a7132ec205240f596d5e18f", func := "flipbook/flipbooklaw12.EventLists", spec := "eventLists", apart := false }
def EventListsSaid : Prop := eventListsRow.holds Try.pinned (OpenSpec.ofChange eventListsSpec)

/-- ITS FALSE NEIGHBOUR: 'it returns false'. Refute it at one input. -/
def eventListsWrong : ChangeSpec := { name := "eventLists", fn := fun _ => fun
  | [d1, d2] => { results := [.lit (.bool false)], args := [d1, d2] }
  | _ => none }
def EventListsWrongFalsely : Prop := eventListsRow.holds Try.pinned (OpenSpec.ofChange eventListsWrong)

/-- 'flipbooklaw12.EventAny': WHATEVER THE INPUT: true; the input reads as it did. -/
def eventAnySpec : ChangeSpec := { name := "eventAny", fn := fun _ => fun
  | [d1, d2] => { results := [.lit (.bool true)], args := [d1, d2] }
  | _ => none }
def eventAnyRow : OpenClaim := { program := "ytbofeaclgnekkaa", sum := "242583ffa8c08530717ed9eb572b21132e75fb586a7132ec205240f596d5e18f", func := "flipbook/flipbooklaw12.EventAny", spec := "eventAny", apart := false }
def EventAnySaid : Prop := eventAnyRow.holds Try.pinned (OpenSpec.ofChange eventAnySpec)

/-- ITS FALSE NEIGHBOUR: 'it returns false'. Refute it at one input. -/
def eventAnyWrong : ChangeSpec := { name := "eventAny", fn := fun _ => fun
  | [d1, d2] => { results := [.lit (.bool false)], args := [d1, d2] }
  | _ => none }
def EventAnyWrongFalsely : Prop := eventAnyRow.holds Try.pinned (OpenSpec.ofChange eventAnyWrong)

/- THE SECOND FORM. 'bulk': how many values and letters a reading holds, each counted each time it is reached (what is shared counts as often as it is met; a slice's spare places count too). A statement '..UptoSaid' is the law's where the arguments, and the package variables that the reading takes, are together of bulk at most 1048576: NARROWER than '..Said'. Prove '..Said' where nothing that the law and all that it calls make is longer than what came in: it says more and counts as full. Else prove '..UptoSaid'. A law counts once. -/
mutual
def uptoBulk {H : Type} : DataW H → Nat
  | .lit (.string bytes) => bytes.length + 1
  | .lit _ => 1
  | .nil => 1
  | .ptr d => uptoBulk d + 1
  | .slice elems spare => uptoBulkAll elems + uptoBulkAll spare + 1
  | .agg parts => uptoBulkAll parts + 1
  | .iface _ d => uptoBulk d + 1
  | .map entries => uptoBulkEntries entries + 1
  | .held _ => 1
def uptoBulkAll {H : Type} : List (DataW H) → Nat
  | [] => 0
  | d :: r => uptoBulk d + uptoBulkAll r
def uptoBulkEntries {H : Type} : List (Lit × DataW H) → Nat
  | [] => 0
  | x :: r => uptoBulkEntry x + uptoBulkEntries r
def uptoBulkEntry {H : Type} : Lit × DataW H → Nat
  | (.string bytes, d) => bytes.length + uptoBulk d + 1
  | (_, d) => uptoBulk d + 1
 end
def uptoSmall : (H : Type) → List (DataW H) → Bool := fun _ ds => decide (uptoBulkAll ds ≤ 1048576)
def OpenSpec.upto (s : _root_.Go.ChangeSpec) : _root_.Go.OpenSpec := { _root_.Go.OpenSpec.ofChange s with cond := some uptoSmall }

/-- 'flipbooklaw12.EventRights', WHERE WHAT IT READS IS OF BULK AT MOST 1048576: true; the input reads as it did. -/
def eventRightsUptoRow : OpenClaim := { program := "ytbofeaclgnekkaa", sum := "242583ffa8c08530717ed9eb572b21132e75fb586a7132ec205240f596d5e18f", func := "flipbook/flipbooklaw12.EventRights", spec := "eventRights", apart := false, narrowed := true }
def EventRightsUptoSaid : Prop := eventRightsUptoRow.holds Try.pinned (OpenSpec.upto eventRightsSpec)

/-- 'flipbooklaw12.EventShifts', WHERE WHAT IT READS IS OF BULK AT MOST 1048576: true; the input reads as it did. -/
def eventShiftsUptoRow : OpenClaim := { program := "ytbofeaclgnekkaa", sum := "242583ffa8c08530717ed9eb572b21132e75fb586a7132ec205240f596d5e18f", func := "flipbook/flipbooklaw12.EventShifts", spec := "eventShifts", apart := false, narrowed := true }
def EventShiftsUptoSaid : Prop := eventShiftsUptoRow.holds Try.pinned (OpenSpec.upto eventShiftsSpec)

/-- 'flipbooklaw12.EventUntils', WHERE WHAT IT READS IS OF BULK AT MOST 1048576: true; the input reads as it did. -/
def eventUntilsUptoRow : OpenClaim := { program := "ytbofeaclgnekkaa", sum := "242583ffa8c08530717ed9eb572b21132e75fb586a7132ec205240f596d5e18f", func := "flipbook/flipbooklaw12.EventUntils", spec := "eventUntils", unfollowed := true, recurses := true, apart := false, narrowed := true }
def EventUntilsUptoSaid : Prop := eventUntilsUptoRow.holds Try.pinned (OpenSpec.upto eventUntilsSpec)

/-- 'flipbooklaw12.EventLists', WHERE WHAT IT READS IS OF BULK AT MOST 1048576: true; the input reads as it did. -/
def eventListsUptoRow : OpenClaim := { program := "ytbofeaclgnekkaa", sum := "242583ffa8c08530717ed9eb572b21132e75fb586a7132ec205240f596d5e18f", func := "flipbook/flipbooklaw12.EventLists", spec := "eventLists", apart := false, narrowed := true }
def EventListsUptoSaid : Prop := eventListsUptoRow.holds Try.pinned (OpenSpec.upto eventListsSpec)

/-- 'flipbooklaw12.EventAny', WHERE WHAT IT READS IS OF BULK AT MOST 1048576: true; the input reads as it did. -/
def eventAnyUptoRow : OpenClaim := { program := "ytbofeaclgnekkaa", sum := "242583ffa8c08530717ed9eb572b21132e75fb586a7132ec205240f596d5e18f", func := "flipbook/flipbooklaw12.EventAny", spec := "eventAny", apart := false, narrowed := true }
def EventAnyUptoSaid : Prop := eventAnyUptoRow.holds Try.pinned (OpenSpec.upto eventAnySpec)

end Rows
end Go.Proofs.Ytbofeaclgnekkaa
