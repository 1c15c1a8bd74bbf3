/-
  No cell of these rows narrows 'for every input' (looked for: loops, veiled, ifaces, maps, wideKeys, modest, calm, conditions, laid).
  DERIVED. THE GIVEN ROWS OF THIS SEAT. 6 by the template 'for every input the law returns true; each argument reads behind the call as it read before'; 0 by the template 'total and deterministic' (their statements: YtmkcblcgjjjkiaaTotals.lean).
  GIVEN WITH THE SEED: the statements are not yours to turn. If you find one false, say at which input.
  Laid BY PROGRAM, IN A SANDBOX (cutbox-rows.mjs): the forced cells as the released guide's own fill.sh prints them over the translation 811e5710ad069878… (all of the seat's roots in one cut). By AI agents, Wed Nov 11 2026. No macro, syntax, notation, axiom, sorry.
-/
import Derived.Test.YtmkcblcgjjjkiaaChecked
import GoSem.Claim
import GoSem.ClaimJoined
import GoSem.ClaimMapViews
import Derived.JoinedTies
import Derived.KernelRfl
namespace Go.Proofs.Ytmkcblcgjjjkiaa
/- THE CELL 'sum', in the pinned program and in every row, IS THE sha256 OF THE DUMP (.gsa) THAT YtmkcblcgjjjkiaaProg.lean LOADS. Nothing in Lean hashes anything: it is a label: what it is worth is what the hold of that sum in a sandbox is worth. -/
noncomputable def Try.pinned : Pinned := { name := "ytmkcblcgjjjkiaa", sum := "811e5710ad06987845e41a2865ef984c520c18527cf71d992399f93e43b6f6e3", checked := Try.checked }
namespace Rows
def none {H : Type} : Left H := { results := [], args := [] }

/-- 'flipbooklaw01.VaryNums': WHATEVER THE INPUT: true; the input reads as it did. -/
def varyNumsSpec : ChangeSpec := { name := "varyNums", fn := fun _ => fun
  | [d] => { results := [.lit (.bool true)], args := [d] }
  | _ => none }
def varyNumsRow : OpenClaim := { program := "ytmkcblcgjjjkiaa", sum := "811e5710ad06987845e41a2865ef984c520c18527cf71d992399f93e43b6f6e3", func := "flipbook/flipbooklaw01.VaryNums", spec := "varyNums", apart := false }
def VaryNumsSaid : Prop := varyNumsRow.holds Try.pinned (OpenSpec.ofChange varyNumsSpec)

/-- ITS FALSE NEIGHBOUR: 'it returns false'. Refute it at one input. -/
def varyNumsWrong : ChangeSpec := { name := "varyNums", fn := fun _ => fun
  | [d] => { results := [.lit (.bool false)], args := [d] }
  | _ => none }
def VaryNumsWrongFalsely : Prop := varyNumsRow.holds Try.pinned (OpenSpec.ofChange varyNumsWrong)

/-- 'flipbooklaw01.VaryAny': WHATEVER THE INPUT: true; the input reads as it did. -/
def varyAnySpec : ChangeSpec := { name := "varyAny", fn := fun _ => fun
  | [d1, d2] => { results := [.lit (.bool true)], args := [d1, d2] }
  | _ => none }
def varyAnyRow : OpenClaim := { program := "ytmkcblcgjjjkiaa", sum := "811e5710ad06987845e41a2865ef984c520c18527cf71d992399f93e43b6f6e3", func := "flipbook/flipbooklaw01.VaryAny", spec := "varyAny", apart := false }
def VaryAnySaid : Prop := varyAnyRow.holds Try.pinned (OpenSpec.ofChange varyAnySpec)

/-- ITS FALSE NEIGHBOUR: 'it returns false'. Refute it at one input. -/
def varyAnyWrong : ChangeSpec := { name := "varyAny", fn := fun _ => fun
  | [d1, d2] => { results := [.lit (.bool false)], args := [d1, d2] }
  | _ => none }
def VaryAnyWrongFalsely : Prop := varyAnyRow.holds Try.pinned (OpenSpec.ofChange varyAnyWrong)

/-- 'flipbooklaw01.VarySigns': WHATEVER THE INPUT: true; the input reads as it did. -/
def varySignsSpec : ChangeSpec := { name := "varySigns", fn := fun _ => fun
  | [d1, d2] => { results := [.lit (.bool true)], args := [d1, d2] }
  | _ => none }
def varySignsRow : OpenClaim := { program := "ytmkcblcgjjjkiaa", sum := "811e5710ad06987845e41a2865ef984c520c18527cf71d992399f93e43b6f6e3", func := "flipbook/flipbooklaw01.VarySigns", spec := "varySigns", apart := false }
def VarySignsSaid : Prop := varySignsRow.holds Try.pinned (OpenSpec.ofChange varySignsSpec)

/-- ITS FALSE NEIGHBOUR: 'it returns false'. Refute it at one input. -/
def varySignsWrong : ChangeSpec := { name := "varySigns", fn := fun _ => fun
  | [d1, d2] => { results := [.lit (.bool false)], args := [d1, d2] }
  | _ => none }
def VarySignsWrongFalsely : Prop := varySignsRow.holds Try.pinned (OpenSpec.ofChange varySignsWrong)

/-- 'flipbooklaw01.VaryApart': WHATEVER THE INPUT: true; the input reads as it did. -/
def varyApartSpec : ChangeSpec := { name := "varyApart", fn := fun _ => fun
  | [d1, d2] => { results := [.lit (.bool true)], args := [d1, d2] }
  | _ => none }
def varyApartRow : OpenClaim := { program := "ytmkcblcgjjjkiaa", sum := "811e5710ad06987845e41a2865ef984c520c18527cf71d992399f93e43b6f6e3", func := "flipbook/flipbooklaw01.VaryApart", spec := "varyApart", apart := false }
def VaryApartSaid : Prop := varyApartRow.holds Try.pinned (OpenSpec.ofChange varyApartSpec)

/-- ITS FALSE NEIGHBOUR: 'it returns false'. Refute it at one input. -/
def varyApartWrong : ChangeSpec := { name := "varyApart", fn := fun _ => fun
  | [d1, d2] => { results := [.lit (.bool false)], args := [d1, d2] }
  | _ => none }
def VaryApartWrongFalsely : Prop := varyApartRow.holds Try.pinned (OpenSpec.ofChange varyApartWrong)

/-- 'flipbooklaw01.VaryReads': WHATEVER THE INPUT: true; the input reads as it did. -/
def varyReadsSpec : ChangeSpec := { name := "varyReads", fn := fun _ => fun
  | [d1, d2, d3] => { results := [.lit (.bool true)], args := [d1, d2, d3] }
  | _ => none }
def varyReadsRow : OpenClaim := { program := "ytmkcblcgjjjkiaa", sum := "811e5710ad06987845e41a2865ef984c520c18527cf71d992399f93e43b6f6e3", func := "flipbook/flipbooklaw01.VaryReads", spec := "varyReads", apart := false }
def VaryReadsSaid : Prop := varyReadsRow.holds Try.pinned (OpenSpec.ofChange varyReadsSpec)

/-- ITS FALSE NEIGHBOUR: 'it returns false'. Refute it at one input. -/
def varyReadsWrong : ChangeSpec := { name := "varyReads", fn := fun _ => fun
  | [d1, d2, d3] => { results := [.lit (.bool false)], args := [d1, d2, d3] }
  | _ => none }
def VaryReadsWrongFalsely : Prop := varyReadsRow.holds Try.pinned (OpenSpec.ofChange varyReadsWrong)

/-- 'flipbooklaw01.VaryLimits': WHATEVER THE INPUT: true; the input reads as it did. -/
def varyLimitsSpec : ChangeSpec := { name := "varyLimits", fn := fun _ => fun
  | [d1, d2, d3] => { results := [.lit (.bool true)], args := [d1, d2, d3] }
  | _ => none }
def varyLimitsRow : OpenClaim := { program := "ytmkcblcgjjjkiaa", sum := "811e5710ad06987845e41a2865ef984c520c18527cf71d992399f93e43b6f6e3", func := "flipbook/flipbooklaw01.VaryLimits", spec := "varyLimits", apart := false }
def VaryLimitsSaid : Prop := varyLimitsRow.holds Try.pinned (OpenSpec.ofChange varyLimitsSpec)

/-- ITS FALSE NEIGHBOUR: 'it returns false'. Refute it at one input. -/
def varyLimitsWrong : ChangeSpec := { name := "varyLimits", fn := fun _ => fun
  | [d1, d2, d3] => { results := [.lit (.bool false)], args := [d1, d2, d3] }
  | _ => none }
def VaryLimitsWrongFalsely : Prop := varyLimitsRow.holds Try.pinned (OpenSpec.ofChange varyLimitsWrong)

/- THE SECOND FORM. 'bulk': how many values and letters a reading holds, each counted each time it is reached (what is shared counts as often as it is met; a slice's spare places count too). A statement '..UptoSaid' is the law's where the arguments, and the package variables that the reading takes, are together of bulk at most 1048576: NARROWER than '..Said'. Prove '..Said' where nothing that the law and all that it calls make is longer than what came in: it says more and counts as full. Else prove '..UptoSaid'. A law counts once. -/
mutual
def uptoBulk {H : Type} : DataW H → Nat
  | .lit (.string bytes) => bytes.length + 1
  | .lit _ => 1
  | .nil => 1
  | .ptr d => uptoBulk d + 1
  | .slice elems spare => uptoBulkAll elems + uptoBulkAll spare + 1
  | .agg parts => uptoBulkAll parts + 1
  | .iface _ d => uptoBulk d + 1
  | .map entries => uptoBulkEntries entries + 1
  | .held _ => 1
def uptoBulkAll {H : Type} : List (DataW H) → Nat
  | [] => 0
  | d :: r => uptoBulk d + uptoBulkAll r
def uptoBulkEntries {H : Type} : List (Lit × DataW H) → Nat
  | [] => 0
  | x :: r => uptoBulkEntry x + uptoBulkEntries r
def uptoBulkEntry {H : Type} : Lit × DataW H → Nat
  | (.string bytes, d) => bytes.length + uptoBulk d + 1
  | (_, d) => uptoBulk d + 1
 end
def uptoSmall : (H : Type) → List (DataW H) → Bool := fun _ ds => decide (uptoBulkAll ds ≤ 1048576)
def OpenSpec.upto (s : _root_.Go.ChangeSpec) : _root_.Go.OpenSpec := { _root_.Go.OpenSpec.ofChange s with cond := some uptoSmall }

/-- 'flipbooklaw01.VaryNums', WHERE WHAT IT READS IS OF BULK AT MOST 1048576: true; the input reads as it did. -/
def varyNumsUptoRow : OpenClaim := { program := "ytmkcblcgjjjkiaa", sum := "811e5710ad06987845e41a2865ef984c520c18527cf71d992399f93e43b6f6e3", func := "flipbook/flipbooklaw01.VaryNums", spec := "varyNums", apart := false, narrowed := true }
def VaryNumsUptoSaid : Prop := varyNumsUptoRow.holds Try.pinned (OpenSpec.upto varyNumsSpec)

/-- 'flipbooklaw01.VaryAny', WHERE WHAT IT READS IS OF BULK AT MOST 1048576: true; the input reads as it did. -/
def varyAnyUptoRow : OpenClaim := { program := "ytmkcblcgjjjkiaa", sum := "811e5710ad06987845e41a2865ef984c520c18527cf71d992399f93e43b6f6e3", func := "flipbook/flipbooklaw01.VaryAny", spec := "varyAny", apart := false, narrowed := true }
def VaryAnyUptoSaid : Prop := varyAnyUptoRow.holds Try.pinned (OpenSpec.upto varyAnySpec)

/-- 'flipbooklaw01.VarySigns', WHERE WHAT IT READS IS OF BULK AT MOST 1048576: true; the input reads as it did. -/
def varySignsUptoRow : OpenClaim := { program := "ytmkcblcgjjjkiaa", sum := "811e5710ad06987845e41a2865ef984c520c18527cf71d992399f93e43b6f6e3", func := "flipbook/flipbooklaw01.VarySigns", spec := "varySigns", apart := false, narrowed := true }
def VarySignsUptoSaid : Prop := varySignsUptoRow.holds Try.pinned (OpenSpec.upto varySignsSpec)

/-- 'flipbooklaw01.VaryApart', WHERE WHAT IT READS IS OF BULK AT MOST 1048576: true; the input reads as it did. -/
def varyApartUptoRow : OpenClaim := { program := "ytmkcblcgjjjkiaa", sum := "811e5710ad06987845e41a2865ef984c520c18527cf71d992399f93e43b6f6e3", func := "flipbook/flipbooklaw01.VaryApart", spec := "varyApart", apart := false, narrowed := true }
def VaryApartUptoSaid : Prop := varyApartUptoRow.holds Try.pinned (OpenSpec.upto varyApartSpec)

/-- 'flipbooklaw01.VaryReads', WHERE WHAT IT READS IS OF BULK AT MOST 1048576: true; the input reads as it did. -/
def varyReadsUptoRow : OpenClaim := { program := "ytmkcblcgjjjkiaa", sum := "811e5710ad06987845e41a2865ef984c520c18527cf71d992399f93e43b6f6e3", func := "flipbook/flipbooklaw01.VaryReads", spec := "varyReads", apart := false, narrowed := true }
def VaryReadsUptoSaid : Prop := varyReadsUptoRow.holds Try.pinned (OpenSpec.upto varyReadsSpec)

/-- 'flipbooklaw01.VaryLimits', WHERE WHAT IT READS IS OF BULK AT MOST 1048576: true; the input reads as it did. -/
def varyLimitsUptoRow : OpenClaim := { program := "ytmkcblcgjjjkiaa", sum := "811e5710ad06987845e41a2865ef984c520c18527cf71d992399f93e43b6f6e3", func := "flipbook/flipbooklaw01.VaryLimits", spec := "varyLimits", apart := false, narrowed := true }
def VaryLimitsUptoSaid : Prop := varyLimitsUptoRow.holds Try.pinned (OpenSpec.upto varyLimitsSpec)

end Rows
end Go.Proofs.Ytmkcblcgjjjkiaa
