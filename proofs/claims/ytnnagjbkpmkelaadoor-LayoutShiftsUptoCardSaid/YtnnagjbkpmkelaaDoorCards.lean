/-
  DERIVED. GIVEN WITH THE SEED: THE CARDS: each row of YtnnagjbkpmkelaaDoorRows.lean that lists a variable, with what it lists TIED to the program's text (the seventh form; the later family's looks); each row that meets fmt, with fmt's text TOLD by the authors' own Lean function (tested against real Go, not proved from fmt's source: count such statements apart). THE CARD IS WHAT COUNTS. Prove the row's statement (the work); the ties are given (YtnnagjbkpmkelaaDoorTie.lean); close each card by the builder's one call (the guide's Derived/Test/ToyasCard.lean, 'card_holds'). Laid BY PROGRAM, IN A SANDBOX (cutbox-door.mjs). By AI agents, Wed Nov 11 2026. No macro, syntax, notation, axiom, sorry.
-/
import Derived.Test.YtnnagjbkpmkelaaDoorRows
import GoSem.ClaimSeven
namespace Go.Proofs.YtnnagjbkpmkelaaDoor
namespace Rows

/-- THE TIED CARD OF 'teasellaw02.LayoutLays'. -/
def layoutLaysCard : Claim7 := { stood := { row := layoutLaysRow, standIns := [], harness := (true, "84aa989104e495978a0399a7ed3d26a245d290969350a3d8cbc1af241ac9deae"), looks := false }, kinds := [], alts := [], laidByText := true, laidKinds := [.data, .data], laidTests := true, laidLooks := .later }
def LayoutLaysCardSaid : Prop := Claim7.holds Tryd.pinned (.plain (OpenSpec.ofChange layoutLaysSpec)) layoutLaysCard

/-- THE TIED CARD OF 'teasellaw02.LayoutRaw'. -/
def layoutRawCard : Claim7 := { stood := { row := layoutRawRow, standIns := [], harness := (true, "84aa989104e495978a0399a7ed3d26a245d290969350a3d8cbc1af241ac9deae"), looks := false }, kinds := [], alts := [], laidByText := true, laidKinds := [.data, .data], laidTests := true, laidLooks := .later }
def LayoutRawCardSaid : Prop := Claim7.holds Tryd.pinned (.plain (OpenSpec.ofChange layoutRawSpec)) layoutRawCard

/-- THE TIED CARD OF 'teasellaw02.LayoutKeeps'. -/
def layoutKeepsCard : Claim7 := { stood := { row := layoutKeepsRow, standIns := [], harness := (true, "84aa989104e495978a0399a7ed3d26a245d290969350a3d8cbc1af241ac9deae"), looks := false }, kinds := [], alts := [], laidByText := true, laidKinds := [.data, .data], laidTests := true, laidLooks := .later }
def LayoutKeepsCardSaid : Prop := Claim7.holds Tryd.pinned (.plain (OpenSpec.ofChange layoutKeepsSpec)) layoutKeepsCard

/-- THE TIED CARD OF 'teasellaw02.LayoutShifts'. -/
def layoutShiftsCard : Claim7 := { stood := { row := layoutShiftsRow, standIns := [], harness := (true, "84aa989104e495978a0399a7ed3d26a245d290969350a3d8cbc1af241ac9deae"), looks := false }, kinds := [], alts := [], laidByText := true, laidKinds := [.data, .data], laidTests := true, laidLooks := .later }
def LayoutShiftsCardSaid : Prop := Claim7.holds Tryd.pinned (.plain (OpenSpec.ofChange layoutShiftsSpec)) layoutShiftsCard

/-- THE TIED CARD OF 'teasellaw02.LayoutPlain'. -/
def layoutPlainCard : Claim7 := { stood := { row := layoutPlainRow, standIns := [], harness := (true, "84aa989104e495978a0399a7ed3d26a245d290969350a3d8cbc1af241ac9deae"), looks := false }, kinds := [], alts := [], laidByText := true, laidKinds := [.data, .data], laidTests := true, laidLooks := .later }
def LayoutPlainCardSaid : Prop := Claim7.holds Tryd.pinned (.plain (OpenSpec.ofChange layoutPlainSpec)) layoutPlainCard

/-- THE TIED CARD OF 'teasellaw02.LayoutStands'. -/
def layoutStandsCard : Claim7 := { stood := { row := layoutStandsRow, standIns := [], harness := (true, "84aa989104e495978a0399a7ed3d26a245d290969350a3d8cbc1af241ac9deae"), looks := false }, kinds := [], alts := [], laidByText := true, laidKinds := [.data, .data], laidTests := true, laidLooks := .later }
def LayoutStandsCardSaid : Prop := Claim7.holds Tryd.pinned (.plain (OpenSpec.ofChange layoutStandsSpec)) layoutStandsCard

/-- THE SECOND FORM's CARD OF 'teasellaw02.LayoutLays'. -/
def layoutLaysUptoCard : Claim7 := { stood := { row := layoutLaysUptoRow, standIns := [], harness := (true, "84aa989104e495978a0399a7ed3d26a245d290969350a3d8cbc1af241ac9deae"), looks := false }, kinds := [], alts := [], laidByText := true, laidKinds := [.data, .data], laidTests := true, laidLooks := .later }
def LayoutLaysUptoCardSaid : Prop := Claim7.holds Tryd.pinned (.plain (OpenSpec.upto layoutLaysSpec)) layoutLaysUptoCard

/-- THE SECOND FORM's CARD OF 'teasellaw02.LayoutRaw'. -/
def layoutRawUptoCard : Claim7 := { stood := { row := layoutRawUptoRow, standIns := [], harness := (true, "84aa989104e495978a0399a7ed3d26a245d290969350a3d8cbc1af241ac9deae"), looks := false }, kinds := [], alts := [], laidByText := true, laidKinds := [.data, .data], laidTests := true, laidLooks := .later }
def LayoutRawUptoCardSaid : Prop := Claim7.holds Tryd.pinned (.plain (OpenSpec.upto layoutRawSpec)) layoutRawUptoCard

/-- THE SECOND FORM's CARD OF 'teasellaw02.LayoutKeeps'. -/
def layoutKeepsUptoCard : Claim7 := { stood := { row := layoutKeepsUptoRow, standIns := [], harness := (true, "84aa989104e495978a0399a7ed3d26a245d290969350a3d8cbc1af241ac9deae"), looks := false }, kinds := [], alts := [], laidByText := true, laidKinds := [.data, .data], laidTests := true, laidLooks := .later }
def LayoutKeepsUptoCardSaid : Prop := Claim7.holds Tryd.pinned (.plain (OpenSpec.upto layoutKeepsSpec)) layoutKeepsUptoCard

/-- THE SECOND FORM's CARD OF 'teasellaw02.LayoutShifts'. -/
def layoutShiftsUptoCard : Claim7 := { stood := { row := layoutShiftsUptoRow, standIns := [], harness := (true, "84aa989104e495978a0399a7ed3d26a245d290969350a3d8cbc1af241ac9deae"), looks := false }, kinds := [], alts := [], laidByText := true, laidKinds := [.data, .data], laidTests := true, laidLooks := .later }
def LayoutShiftsUptoCardSaid : Prop := Claim7.holds Tryd.pinned (.plain (OpenSpec.upto layoutShiftsSpec)) layoutShiftsUptoCard

/-- THE SECOND FORM's CARD OF 'teasellaw02.LayoutPlain'. -/
def layoutPlainUptoCard : Claim7 := { stood := { row := layoutPlainUptoRow, standIns := [], harness := (true, "84aa989104e495978a0399a7ed3d26a245d290969350a3d8cbc1af241ac9deae"), looks := false }, kinds := [], alts := [], laidByText := true, laidKinds := [.data, .data], laidTests := true, laidLooks := .later }
def LayoutPlainUptoCardSaid : Prop := Claim7.holds Tryd.pinned (.plain (OpenSpec.upto layoutPlainSpec)) layoutPlainUptoCard

/-- THE SECOND FORM's CARD OF 'teasellaw02.LayoutStands'. -/
def layoutStandsUptoCard : Claim7 := { stood := { row := layoutStandsUptoRow, standIns := [], harness := (true, "84aa989104e495978a0399a7ed3d26a245d290969350a3d8cbc1af241ac9deae"), looks := false }, kinds := [], alts := [], laidByText := true, laidKinds := [.data, .data], laidTests := true, laidLooks := .later }
def LayoutStandsUptoCardSaid : Prop := Claim7.holds Tryd.pinned (.plain (OpenSpec.upto layoutStandsSpec)) layoutStandsUptoCard
end Rows
end Go.Proofs.YtnnagjbkpmkelaaDoor
