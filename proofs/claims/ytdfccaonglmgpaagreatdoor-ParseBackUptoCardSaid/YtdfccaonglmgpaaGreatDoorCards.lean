/-
  DERIVED. GIVEN WITH THE SEED: THE CARDS: each row of YtdfccaonglmgpaaGreatDoorRows.lean that lists a variable, with what it lists TIED to the program's text (the seventh form; the later family's looks); each row that meets fmt, with fmt's text TOLD by the authors' own Lean function (tested against real Go, not proved from fmt's source: count such statements apart). THE CARD IS WHAT COUNTS. Prove the row's statement (the work); the ties are given (YtdfccaonglmgpaaGreatDoorTie.lean); close each card by the builder's one call (the guide's Derived/Test/ToyasCard.lean, 'card_holds'). Laid BY PROGRAM, IN A SANDBOX (cutbox-door.mjs). By AI agents, Wed Nov 11 2026. No macro, syntax, notation, axiom, sorry.
-/
import Derived.Test.YtdfccaonglmgpaaGreatDoorRows
import GoSem.ClaimSeven
namespace Go.Proofs.YtdfccaonglmgpaaGreatDoor
namespace Rows

/-- THE TIED CARD OF 'teasellaw03.ParseRight'. -/
def parseRightCard : Claim7 := { stood := { row := parseRightRow, standIns := [], harness := (true, "dc5120ae2aedfa6982f3a9a59aae5d1fa47837c9bf45e96c3f8ae1ee3e07c49b"), looks := true }, kinds := [], alts := [], laidByText := true, laidKinds := [.data, .data, .data, .data, .sentinel, .sentinel, .pinned], laidTests := true, laidLooks := .later }
def ParseRightCardSaid : Prop := Claim7.holds Tryz.pinned (.plain (OpenSpec.ofChange parseRightSpec)) parseRightCard

/-- THE TIED CARD OF 'teasellaw03.ParseBack'. -/
def parseBackCard : Claim7 := { stood := { row := parseBackRow, standIns := [], harness := (true, "dc5120ae2aedfa6982f3a9a59aae5d1fa47837c9bf45e96c3f8ae1ee3e07c49b"), looks := true }, kinds := [], alts := [], laidByText := true, laidKinds := [.data, .data, .data, .data, .sentinel, .sentinel, .pinned], laidTests := true, laidLooks := .later }
def ParseBackCardSaid : Prop := Claim7.holds Tryz.pinned (.plain (OpenSpec.ofChange parseBackSpec)) parseBackCard

/-- THE SECOND FORM's CARD OF 'teasellaw03.ParseRight'. -/
def parseRightUptoCard : Claim7 := { stood := { row := parseRightUptoRow, standIns := [], harness := (true, "dc5120ae2aedfa6982f3a9a59aae5d1fa47837c9bf45e96c3f8ae1ee3e07c49b"), looks := true }, kinds := [], alts := [], laidByText := true, laidKinds := [.data, .data, .data, .data, .sentinel, .sentinel, .pinned], laidTests := true, laidLooks := .later }
def ParseRightUptoCardSaid : Prop := Claim7.holds Tryz.pinned (.plain (OpenSpec.upto parseRightSpec)) parseRightUptoCard

/-- THE SECOND FORM's CARD OF 'teasellaw03.ParseBack'. -/
def parseBackUptoCard : Claim7 := { stood := { row := parseBackUptoRow, standIns := [], harness := (true, "dc5120ae2aedfa6982f3a9a59aae5d1fa47837c9bf45e96c3f8ae1ee3e07c49b"), looks := true }, kinds := [], alts := [], laidByText := true, laidKinds := [.data, .data, .data, .data, .sentinel, .sentinel, .pinned], laidTests := true, laidLooks := .later }
def ParseBackUptoCardSaid : Prop := Claim7.holds Tryz.pinned (.plain (OpenSpec.upto parseBackSpec)) parseBackUptoCard
end Rows
end Go.Proofs.YtdfccaonglmgpaaGreatDoor
