/-
  DERIVED. GIVEN WITH THE SEED: THE CARDS: each row of YtpakcicbojbonaaGreatDoorRows.lean that lists a variable, with what it lists TIED to the program's text (the seventh form; the later family's looks); each row that meets fmt, with fmt's text TOLD by the authors' own Lean function (tested against real Go, not proved from fmt's source: count such statements apart). THE CARD IS WHAT COUNTS. Prove the row's statement (the work); the ties are given (YtpakcicbojbonaaGreatDoorTie.lean); close each card by the builder's one call (the guide's Derived/Test/ToyasCard.lean, 'card_holds'). Laid BY PROGRAM, IN A SANDBOX (cutbox-door.mjs). By AI agents, Wed Nov 11 2026. No macro, syntax, notation, axiom, sorry.
-/
import Derived.Test.YtpakcicbojbonaaGreatDoorRows
import GoSem.ClaimSeven
namespace Go.Proofs.YtpakcicbojbonaaGreatDoor
namespace Rows

/-- THE TIED CARD OF 'auspicelaw04.EventParses'. -/
def eventParsesCard : Claim7 := { stood := { row := eventParsesRow, standIns := [], harness := (true, "d0a27499489ba9397e8b46a3e6ec7c30cc45e9feca09613eac253a81b0dcb566"), looks := true }, kinds := [], alts := [], laidByText := true, laidKinds := [.data, .data, .data, .data, .sentinel, .sentinel, .pinned], laidTests := true, laidLooks := .later }
def EventParsesCardSaid : Prop := Claim7.holds Tryz.pinned (.plain (OpenSpec.ofChange eventParsesSpec)) eventParsesCard

/-- THE SECOND FORM's CARD OF 'auspicelaw04.EventParses'. -/
def eventParsesUptoCard : Claim7 := { stood := { row := eventParsesUptoRow, standIns := [], harness := (true, "d0a27499489ba9397e8b46a3e6ec7c30cc45e9feca09613eac253a81b0dcb566"), looks := true }, kinds := [], alts := [], laidByText := true, laidKinds := [.data, .data, .data, .data, .sentinel, .sentinel, .pinned], laidTests := true, laidLooks := .later }
def EventParsesUptoCardSaid : Prop := Claim7.holds Tryz.pinned (.plain (OpenSpec.upto eventParsesSpec)) eventParsesUptoCard
end Rows
end Go.Proofs.YtpakcicbojbonaaGreatDoor
