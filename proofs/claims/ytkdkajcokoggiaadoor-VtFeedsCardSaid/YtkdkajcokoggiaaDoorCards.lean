/-
  DERIVED. GIVEN WITH THE SEED: THE CARDS: each row of YtkdkajcokoggiaaDoorRows.lean that lists a variable, with what it lists TIED to the program's text (the seventh form; the later family's looks); each row that meets fmt, with fmt's text TOLD by the authors' own Lean function (tested against real Go, not proved from fmt's source: count such statements apart). THE CARD IS WHAT COUNTS. Prove the row's statement (the work); the ties are given (YtkdkajcokoggiaaDoorTie.lean); close each card by the builder's one call (the guide's Derived/Test/ToyasCard.lean, 'card_holds'). Laid BY PROGRAM, IN A SANDBOX (cutbox-door.mjs). By AI agents, Wed Nov 11 2026. No macro, syntax, notation, axiom, sorry.
-/
import Derived.Test.YtkdkajcokoggiaaDoorRows
import GoSem.ClaimSeven
namespace Go.Proofs.YtkdkajcokoggiaaDoor
namespace Rows

/-- THE TIED CARD OF 'flipbooklaw06.VtParts'. -/
def vtPartsCard : Claim7 := { stood := { row := vtPartsRow, standIns := [], harness := (true, "b903ae3bca09e9c69ba9ce9cdfd2c06d08c3320cacb84756373ead4b144ea147"), looks := false }, kinds := [], alts := [], laidByText := true, laidKinds := [.data, .pinned], laidTests := true, laidLooks := .later }
def VtPartsCardSaid : Prop := Claim7.holds Tryd.pinned (.plain (OpenSpec.ofChange vtPartsSpec)) vtPartsCard

/-- THE TIED CARD OF 'flipbooklaw06.VtPlain'. -/
def vtPlainCard : Claim7 := { stood := { row := vtPlainRow, standIns := [], harness := (true, "b903ae3bca09e9c69ba9ce9cdfd2c06d08c3320cacb84756373ead4b144ea147"), looks := false }, kinds := [], alts := [], laidByText := true, laidKinds := [.data, .pinned], laidTests := true, laidLooks := .later }
def VtPlainCardSaid : Prop := Claim7.holds Tryd.pinned (.plain (OpenSpec.ofChange vtPlainSpec)) vtPlainCard

/-- THE TIED CARD OF 'flipbooklaw06.VtAnew'. -/
def vtAnewCard : Claim7 := { stood := { row := vtAnewRow, standIns := [], harness := (true, "b903ae3bca09e9c69ba9ce9cdfd2c06d08c3320cacb84756373ead4b144ea147"), looks := false }, kinds := [], alts := [], laidByText := true, laidKinds := [.data, .pinned], laidTests := true, laidLooks := .later }
def VtAnewCardSaid : Prop := Claim7.holds Tryd.pinned (.plain (OpenSpec.ofChange vtAnewSpec)) vtAnewCard

/-- THE TIED CARD OF 'flipbooklaw06.VtCloses'. -/
def vtClosesCard : Claim7 := { stood := { row := vtClosesRow, standIns := [], harness := (true, "b903ae3bca09e9c69ba9ce9cdfd2c06d08c3320cacb84756373ead4b144ea147"), looks := false }, kinds := [], alts := [], laidByText := true, laidKinds := [.data, .pinned], laidTests := true, laidLooks := .later }
def VtClosesCardSaid : Prop := Claim7.holds Tryd.pinned (.plain (OpenSpec.ofChange vtClosesSpec)) vtClosesCard

/-- THE TIED CARD OF 'flipbooklaw06.VtFeeds'. -/
def vtFeedsCard : Claim7 := { stood := { row := vtFeedsRow, standIns := [], harness := (true, "b903ae3bca09e9c69ba9ce9cdfd2c06d08c3320cacb84756373ead4b144ea147"), looks := false }, kinds := [], alts := [], laidByText := true, laidKinds := [.data, .pinned], laidTests := true, laidLooks := .later }
def VtFeedsCardSaid : Prop := Claim7.holds Tryd.pinned (.plain (OpenSpec.ofChange vtFeedsSpec)) vtFeedsCard

/-- THE TIED CARD OF 'flipbooklaw06.VtCaps'. -/
def vtCapsCard : Claim7 := { stood := { row := vtCapsRow, standIns := [], harness := (true, "b903ae3bca09e9c69ba9ce9cdfd2c06d08c3320cacb84756373ead4b144ea147"), looks := false }, kinds := [], alts := [], laidByText := true, laidKinds := [.data, .pinned], laidTests := true, laidLooks := .later }
def VtCapsCardSaid : Prop := Claim7.holds Tryd.pinned (.plain (OpenSpec.ofChange vtCapsSpec)) vtCapsCard

/-- THE TIED CARD OF 'flipbooklaw06.VtRight'. -/
def vtRightCard : Claim7 := { stood := { row := vtRightRow, standIns := [], harness := (true, "b903ae3bca09e9c69ba9ce9cdfd2c06d08c3320cacb84756373ead4b144ea147"), looks := false }, kinds := [], alts := [], laidByText := true, laidKinds := [.data, .pinned], laidTests := true, laidLooks := .later }
def VtRightCardSaid : Prop := Claim7.holds Tryd.pinned (.plain (OpenSpec.ofChange vtRightSpec)) vtRightCard

/-- THE SECOND FORM's CARD OF 'flipbooklaw06.VtParts'. -/
def vtPartsUptoCard : Claim7 := { stood := { row := vtPartsUptoRow, standIns := [], harness := (true, "b903ae3bca09e9c69ba9ce9cdfd2c06d08c3320cacb84756373ead4b144ea147"), looks := false }, kinds := [], alts := [], laidByText := true, laidKinds := [.data, .pinned], laidTests := true, laidLooks := .later }
def VtPartsUptoCardSaid : Prop := Claim7.holds Tryd.pinned (.plain (OpenSpec.upto vtPartsSpec)) vtPartsUptoCard

/-- THE SECOND FORM's CARD OF 'flipbooklaw06.VtPlain'. -/
def vtPlainUptoCard : Claim7 := { stood := { row := vtPlainUptoRow, standIns := [], harness := (true, "b903ae3bca09e9c69ba9ce9cdfd2c06d08c3320cacb84756373ead4b144ea147"), looks := false }, kinds := [], alts := [], laidByText := true, laidKinds := [.data, .pinned], laidTests := true, laidLooks := .later }
def VtPlainUptoCardSaid : Prop := Claim7.holds Tryd.pinned (.plain (OpenSpec.upto vtPlainSpec)) vtPlainUptoCard

/-- THE SECOND FORM's CARD OF 'flipbooklaw06.VtAnew'. -/
def vtAnewUptoCard : Claim7 := { stood := { row := vtAnewUptoRow, standIns := [], harness := (true, "b903ae3bca09e9c69ba9ce9cdfd2c06d08c3320cacb84756373ead4b144ea147"), looks := false }, kinds := [], alts := [], laidByText := true, laidKinds := [.data, .pinned], laidTests := true, laidLooks := .later }
def VtAnewUptoCardSaid : Prop := Claim7.holds Tryd.pinned (.plain (OpenSpec.upto vtAnewSpec)) vtAnewUptoCard

/-- THE SECOND FORM's CARD OF 'flipbooklaw06.VtCloses'. -/
def vtClosesUptoCard : Claim7 := { stood := { row := vtClosesUptoRow, standIns := [], harness := (true, "b903ae3bca09e9c69ba9ce9cdfd2c06d08c3320cacb84756373ead4b144ea147"), looks := false }, kinds := [], alts := [], laidByText := true, laidKinds := [.data, .pinned], laidTests := true, laidLooks := .later }
def VtClosesUptoCardSaid : Prop := Claim7.holds Tryd.pinned (.plain (OpenSpec.upto vtClosesSpec)) vtClosesUptoCard

/-- THE SECOND FORM's CARD OF 'flipbooklaw06.VtFeeds'. -/
def vtFeedsUptoCard : Claim7 := { stood := { row := vtFeedsUptoRow, standIns := [], harness := (true, "b903ae3bca09e9c69ba9ce9cdfd2c06d08c3320cacb84756373ead4b144ea147"), looks := false }, kinds := [], alts := [], laidByText := true, laidKinds := [.data, .pinned], laidTests := true, laidLooks := .later }
def VtFeedsUptoCardSaid : Prop := Claim7.holds Tryd.pinned (.plain (OpenSpec.upto vtFeedsSpec)) vtFeedsUptoCard

/-- THE SECOND FORM's CARD OF 'flipbooklaw06.VtCaps'. -/
def vtCapsUptoCard : Claim7 := { stood := { row := vtCapsUptoRow, standIns := [], harness := (true, "b903ae3bca09e9c69ba9ce9cdfd2c06d08c3320cacb84756373ead4b144ea147"), looks := false }, kinds := [], alts := [], laidByText := true, laidKinds := [.data, .pinned], laidTests := true, laidLooks := .later }
def VtCapsUptoCardSaid : Prop := Claim7.holds Tryd.pinned (.plain (OpenSpec.upto vtCapsSpec)) vtCapsUptoCard

/-- THE SECOND FORM's CARD OF 'flipbooklaw06.VtRight'. -/
def vtRightUptoCard : Claim7 := { stood := { row := vtRightUptoRow, standIns := [], harness := (true, "b903ae3bca09e9c69ba9ce9cdfd2c06d08c3320cacb84756373ead4b144ea147"), looks := false }, kinds := [], alts := [], laidByText := true, laidKinds := [.data, .pinned], laidTests := true, laidLooks := .later }
def VtRightUptoCardSaid : Prop := Claim7.holds Tryd.pinned (.plain (OpenSpec.upto vtRightSpec)) vtRightUptoCard
end Rows
end Go.Proofs.YtkdkajcokoggiaaDoor
