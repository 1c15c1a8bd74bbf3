/-
  DERIVED. GIVEN WITH THE SEED: THE CARDS: each row of YtneioenhnioehaaDoorRows.lean that lists a variable, with what it lists TIED to the program's text (the seventh form; the later family's looks); each row that meets fmt, with fmt's text TOLD by the authors' own Lean function (tested against real Go, not proved from fmt's source: count such statements apart). THE CARD IS WHAT COUNTS. Prove the row's statement (the work); the ties are given (YtneioenhnioehaaDoorTie.lean); close each card by the builder's one call (the guide's Derived/Test/ToyasCard.lean, 'card_holds'). Laid BY PROGRAM, IN A SANDBOX (cutbox-door.mjs). By AI agents, Wed Nov 11 2026. No macro, syntax, notation, axiom, sorry.
-/
import Derived.Test.YtneioenhnioehaaDoorRows
import GoSem.ClaimSeven
namespace Go.Proofs.YtneioenhnioehaaDoor
namespace Rows

/-- THE TIED CARD OF 'flipbooklaw05.UtfAll'. -/
def utfAllCard : Claim7 := { stood := { row := utfAllRow, standIns := [], harness := (true, "7bb9a9d1f758d86a2cc4dfd0343e1d689a9bc0ae9463e8e2485ca7f67245fdb6"), looks := false }, kinds := [], alts := [], laidByText := true, laidKinds := [.data, .pinned], laidTests := true, laidLooks := .later }
def UtfAllCardSaid : Prop := Claim7.holds Tryd.pinned (.plain (OpenSpec.ofChange utfAllSpec)) utfAllCard

/-- THE TIED CARD OF 'flipbooklaw05.UtfParts'. -/
def utfPartsCard : Claim7 := { stood := { row := utfPartsRow, standIns := [], harness := (true, "7bb9a9d1f758d86a2cc4dfd0343e1d689a9bc0ae9463e8e2485ca7f67245fdb6"), looks := false }, kinds := [], alts := [], laidByText := true, laidKinds := [.data, .pinned], laidTests := true, laidLooks := .later }
def UtfPartsCardSaid : Prop := Claim7.holds Tryd.pinned (.plain (OpenSpec.ofChange utfPartsSpec)) utfPartsCard

/-- THE TIED CARD OF 'flipbooklaw05.UtfFeeds'. -/
def utfFeedsCard : Claim7 := { stood := { row := utfFeedsRow, standIns := [], harness := (true, "7bb9a9d1f758d86a2cc4dfd0343e1d689a9bc0ae9463e8e2485ca7f67245fdb6"), looks := false }, kinds := [], alts := [], laidByText := true, laidKinds := [.data, .pinned], laidTests := true, laidLooks := .later }
def UtfFeedsCardSaid : Prop := Claim7.holds Tryd.pinned (.plain (OpenSpec.ofChange utfFeedsSpec)) utfFeedsCard

/-- THE TIED CARD OF 'flipbooklaw05.UtfRight'. -/
def utfRightCard : Claim7 := { stood := { row := utfRightRow, standIns := [], harness := (true, "7bb9a9d1f758d86a2cc4dfd0343e1d689a9bc0ae9463e8e2485ca7f67245fdb6"), looks := false }, kinds := [], alts := [], laidByText := true, laidKinds := [.data, .pinned], laidTests := true, laidLooks := .later }
def UtfRightCardSaid : Prop := Claim7.holds Tryd.pinned (.plain (OpenSpec.ofChange utfRightSpec)) utfRightCard

/-- THE SECOND FORM's CARD OF 'flipbooklaw05.UtfAll'. -/
def utfAllUptoCard : Claim7 := { stood := { row := utfAllUptoRow, standIns := [], harness := (true, "7bb9a9d1f758d86a2cc4dfd0343e1d689a9bc0ae9463e8e2485ca7f67245fdb6"), looks := false }, kinds := [], alts := [], laidByText := true, laidKinds := [.data, .pinned], laidTests := true, laidLooks := .later }
def UtfAllUptoCardSaid : Prop := Claim7.holds Tryd.pinned (.plain (OpenSpec.upto utfAllSpec)) utfAllUptoCard

/-- THE SECOND FORM's CARD OF 'flipbooklaw05.UtfParts'. -/
def utfPartsUptoCard : Claim7 := { stood := { row := utfPartsUptoRow, standIns := [], harness := (true, "7bb9a9d1f758d86a2cc4dfd0343e1d689a9bc0ae9463e8e2485ca7f67245fdb6"), looks := false }, kinds := [], alts := [], laidByText := true, laidKinds := [.data, .pinned], laidTests := true, laidLooks := .later }
def UtfPartsUptoCardSaid : Prop := Claim7.holds Tryd.pinned (.plain (OpenSpec.upto utfPartsSpec)) utfPartsUptoCard

/-- THE SECOND FORM's CARD OF 'flipbooklaw05.UtfFeeds'. -/
def utfFeedsUptoCard : Claim7 := { stood := { row := utfFeedsUptoRow, standIns := [], harness := (true, "7bb9a9d1f758d86a2cc4dfd0343e1d689a9bc0ae9463e8e2485ca7f67245fdb6"), looks := false }, kinds := [], alts := [], laidByText := true, laidKinds := [.data, .pinned], laidTests := true, laidLooks := .later }
def UtfFeedsUptoCardSaid : Prop := Claim7.holds Tryd.pinned (.plain (OpenSpec.upto utfFeedsSpec)) utfFeedsUptoCard

/-- THE SECOND FORM's CARD OF 'flipbooklaw05.UtfRight'. -/
def utfRightUptoCard : Claim7 := { stood := { row := utfRightUptoRow, standIns := [], harness := (true, "7bb9a9d1f758d86a2cc4dfd0343e1d689a9bc0ae9463e8e2485ca7f67245fdb6"), looks := false }, kinds := [], alts := [], laidByText := true, laidKinds := [.data, .pinned], laidTests := true, laidLooks := .later }
def UtfRightUptoCardSaid : Prop := Claim7.holds Tryd.pinned (.plain (OpenSpec.upto utfRightSpec)) utfRightUptoCard
end Rows
end Go.Proofs.YtneioenhnioehaaDoor
