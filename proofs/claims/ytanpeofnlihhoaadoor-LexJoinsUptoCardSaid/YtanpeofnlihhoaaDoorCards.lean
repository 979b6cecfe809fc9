/-
  DERIVED. GIVEN WITH THE SEED: THE CARDS: each row of YtanpeofnlihhoaaDoorRows.lean that lists a variable, with what it lists TIED to the program's text (the seventh form; the later family's looks); each row that meets fmt, with fmt's text TOLD by the authors' own Lean function (tested against real Go, not proved from fmt's source: count such statements apart). THE CARD IS WHAT COUNTS. Prove the row's statement (the work); the ties are given (YtanpeofnlihhoaaDoorTie.lean); close each card by the builder's one call (the guide's Derived/Test/ToyasCard.lean, 'card_holds'). Laid BY PROGRAM, IN A SANDBOX (cutbox-door.mjs). By AI agents, Wed Nov 11 2026. No macro, syntax, notation, axiom, sorry.
-/
import Derived.Test.YtanpeofnlihhoaaDoorRows
import GoSem.ClaimSeven
namespace Go.Proofs.YtanpeofnlihhoaaDoor
namespace Rows

/-- THE TIED CARD OF 'teasellaw01.LexReads'. -/
def lexReadsCard : Claim7 := { stood := { row := lexReadsRow, standIns := [], harness := (true, "7f1ad88419ec114b9d64c884a37879d893e7ad964328bf97dbfd7177a3a98d82"), looks := true }, kinds := [], alts := [], laidByText := true, laidKinds := [.data, .data, .data, .data, .sentinel, .sentinel, .pinned], laidTests := true, laidLooks := .later }
def LexReadsCardSaid : Prop := Claim7.holds Tryd.pinned (.plain (OpenSpec.ofChange lexReadsSpec)) lexReadsCard

/-- THE TIED CARD OF 'teasellaw01.LexPlaces'. -/
def lexPlacesCard : Claim7 := { stood := { row := lexPlacesRow, standIns := [], harness := (true, "7f1ad88419ec114b9d64c884a37879d893e7ad964328bf97dbfd7177a3a98d82"), looks := true }, kinds := [], alts := [], laidByText := true, laidKinds := [.data, .data, .data, .data, .sentinel, .sentinel, .pinned], laidTests := true, laidLooks := .later }
def LexPlacesCardSaid : Prop := Claim7.holds Tryd.pinned (.plain (OpenSpec.ofChange lexPlacesSpec)) lexPlacesCard

/-- THE TIED CARD OF 'teasellaw01.LexFirst'. -/
def lexFirstCard : Claim7 := { stood := { row := lexFirstRow, standIns := [], harness := (true, "7f1ad88419ec114b9d64c884a37879d893e7ad964328bf97dbfd7177a3a98d82"), looks := true }, kinds := [], alts := [], laidByText := true, laidKinds := [.data, .data, .data, .data, .sentinel, .sentinel, .pinned], laidTests := true, laidLooks := .later }
def LexFirstCardSaid : Prop := Claim7.holds Tryd.pinned (.plain (OpenSpec.ofChange lexFirstSpec)) lexFirstCard

/-- THE TIED CARD OF 'teasellaw01.LexShifts'. -/
def lexShiftsCard : Claim7 := { stood := { row := lexShiftsRow, standIns := [], harness := (true, "7f1ad88419ec114b9d64c884a37879d893e7ad964328bf97dbfd7177a3a98d82"), looks := true }, kinds := [], alts := [], laidByText := true, laidKinds := [.data, .data, .data, .data, .sentinel, .sentinel, .pinned], laidTests := true, laidLooks := .later }
def LexShiftsCardSaid : Prop := Claim7.holds Tryd.pinned (.plain (OpenSpec.ofChange lexShiftsSpec)) lexShiftsCard

/-- THE TIED CARD OF 'teasellaw01.LexJoins'. -/
def lexJoinsCard : Claim7 := { stood := { row := lexJoinsRow, standIns := [], harness := (true, "7f1ad88419ec114b9d64c884a37879d893e7ad964328bf97dbfd7177a3a98d82"), looks := true }, kinds := [], alts := [], laidByText := true, laidKinds := [.data, .data, .data, .data, .sentinel, .sentinel, .pinned], laidTests := true, laidLooks := .later }
def LexJoinsCardSaid : Prop := Claim7.holds Tryd.pinned (.plain (OpenSpec.ofChange lexJoinsSpec)) lexJoinsCard

/-- THE SECOND FORM's CARD OF 'teasellaw01.LexReads'. -/
def lexReadsUptoCard : Claim7 := { stood := { row := lexReadsUptoRow, standIns := [], harness := (true, "7f1ad88419ec114b9d64c884a37879d893e7ad964328bf97dbfd7177a3a98d82"), looks := true }, kinds := [], alts := [], laidByText := true, laidKinds := [.data, .data, .data, .data, .sentinel, .sentinel, .pinned], laidTests := true, laidLooks := .later }
def LexReadsUptoCardSaid : Prop := Claim7.holds Tryd.pinned (.plain (OpenSpec.upto lexReadsSpec)) lexReadsUptoCard

/-- THE SECOND FORM's CARD OF 'teasellaw01.LexPlaces'. -/
def lexPlacesUptoCard : Claim7 := { stood := { row := lexPlacesUptoRow, standIns := [], harness := (true, "7f1ad88419ec114b9d64c884a37879d893e7ad964328bf97dbfd7177a3a98d82"), looks := true }, kinds := [], alts := [], laidByText := true, laidKinds := [.data, .data, .data, .data, .sentinel, .sentinel, .pinned], laidTests := true, laidLooks := .later }
def LexPlacesUptoCardSaid : Prop := Claim7.holds Tryd.pinned (.plain (OpenSpec.upto lexPlacesSpec)) lexPlacesUptoCard

/-- THE SECOND FORM's CARD OF 'teasellaw01.LexFirst'. -/
def lexFirstUptoCard : Claim7 := { stood := { row := lexFirstUptoRow, standIns := [], harness := (true, "7f1ad88419ec114b9d64c884a37879d893e7ad964328bf97dbfd7177a3a98d82"), looks := true }, kinds := [], alts := [], laidByText := true, laidKinds := [.data, .data, .data, .data, .sentinel, .sentinel, .pinned], laidTests := true, laidLooks := .later }
def LexFirstUptoCardSaid : Prop := Claim7.holds Tryd.pinned (.plain (OpenSpec.upto lexFirstSpec)) lexFirstUptoCard

/-- THE SECOND FORM's CARD OF 'teasellaw01.LexShifts'. -/
def lexShiftsUptoCard : Claim7 := { stood := { row := lexShiftsUptoRow, standIns := [], harness := (true, "7f1ad88419ec114b9d64c884a37879d893e7ad964328bf97dbfd7177a3a98d82"), looks := true }, kinds := [], alts := [], laidByText := true, laidKinds := [.data, .data, .data, .data, .sentinel, .sentinel, .pinned], laidTests := true, laidLooks := .later }
def LexShiftsUptoCardSaid : Prop := Claim7.holds Tryd.pinned (.plain (OpenSpec.upto lexShiftsSpec)) lexShiftsUptoCard

/-- THE SECOND FORM's CARD OF 'teasellaw01.LexJoins'. -/
def lexJoinsUptoCard : Claim7 := { stood := { row := lexJoinsUptoRow, standIns := [], harness := (true, "7f1ad88419ec114b9d64c884a37879d893e7ad964328bf97dbfd7177a3a98d82"), looks := true }, kinds := [], alts := [], laidByText := true, laidKinds := [.data, .data, .data, .data, .sentinel, .sentinel, .pinned], laidTests := true, laidLooks := .later }
def LexJoinsUptoCardSaid : Prop := Claim7.holds Tryd.pinned (.plain (OpenSpec.upto lexJoinsSpec)) lexJoinsUptoCard
end Rows
end Go.Proofs.YtanpeofnlihhoaaDoor
