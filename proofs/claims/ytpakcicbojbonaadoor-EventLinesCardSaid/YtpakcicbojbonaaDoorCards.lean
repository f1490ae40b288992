/-
  DERIVED. GIVEN WITH THE SEED: THE CARDS: each row of YtpakcicbojbonaaDoorRows.lean that lists a variable, with what it lists TIED to the program's text (the seventh form; the later family's looks); each row that meets fmt, with fmt's text TOLD by the authors' own Lean function (tested against real Go, not proved from fmt's source: count such statements apart). THE CARD IS WHAT COUNTS. Prove the row's statement (the work); the ties are given (YtpakcicbojbonaaDoorTie.lean); close each card by the builder's one call (the guide's Derived/Test/ToyasCard.lean, 'card_holds'). Laid BY PROGRAM, IN A SANDBOX (cutbox-door.mjs). By AI agents, Wed Nov 11 2026. No macro, syntax, notation, axiom, sorry.
-/
import Derived.Test.YtpakcicbojbonaaDoorRows
import GoSem.ClaimSeven
namespace Go.Proofs.YtpakcicbojbonaaDoor
namespace Rows

/-- THE TIED CARD OF 'auspicelaw04.EventFits'. -/
def eventFitsCard : Claim7 := { stood := { row := eventFitsRow, standIns := [], harness := (true, "8afe85b85c57c1a855523884ea1ee88f17fcde7f7439314afe279cfb7be52d66"), looks := true }, kinds := [], alts := [], laidByText := true, laidKinds := [.data, .data, .data], laidTests := true, laidLooks := .later }
def EventFitsCardSaid : Prop := Claim7.holds Tryd.pinned (.plain (OpenSpec.ofChange eventFitsSpec)) eventFitsCard

/-- THE TIED CARD OF 'auspicelaw04.EventKinds'. -/
def eventKindsCard : Claim7 := { stood := { row := eventKindsRow, standIns := [], harness := (true, "8afe85b85c57c1a855523884ea1ee88f17fcde7f7439314afe279cfb7be52d66"), looks := true }, kinds := [], alts := [], laidByText := true, laidKinds := [.data, .data, .data], laidTests := true, laidLooks := .later }
def EventKindsCardSaid : Prop := Claim7.holds Tryd.pinned (.plain (OpenSpec.ofChange eventKindsSpec)) eventKindsCard

/-- THE TIED CARD OF 'auspicelaw04.EventScripts'. -/
def eventScriptsCard : Claim7 := { stood := { row := eventScriptsRow, standIns := [], harness := (true, "8afe85b85c57c1a855523884ea1ee88f17fcde7f7439314afe279cfb7be52d66"), looks := true }, kinds := [], alts := [], laidByText := true, laidKinds := [.data, .data, .data], laidTests := true, laidLooks := .later }
def EventScriptsCardSaid : Prop := Claim7.holds Tryd.pinned (.plain (OpenSpec.ofChange eventScriptsSpec)) eventScriptsCard

/-- THE TIED CARD OF 'auspicelaw04.EventCuts'. -/
def eventCutsCard : Claim7 := { stood := { row := eventCutsRow, standIns := [], harness := (true, "8afe85b85c57c1a855523884ea1ee88f17fcde7f7439314afe279cfb7be52d66"), looks := true }, kinds := [], alts := [], laidByText := true, laidKinds := [.data, .data, .data], laidTests := true, laidLooks := .later }
def EventCutsCardSaid : Prop := Claim7.holds Tryd.pinned (.plain (OpenSpec.ofChange eventCutsSpec)) eventCutsCard

/-- THE TIED CARD OF 'auspicelaw04.EventLines'. -/
def eventLinesCard : Claim7 := { stood := { row := eventLinesRow, standIns := [], harness := (true, "8afe85b85c57c1a855523884ea1ee88f17fcde7f7439314afe279cfb7be52d66"), looks := true }, kinds := [], alts := [], laidByText := true, laidKinds := [.data, .data, .data, .data, .sentinel, .sentinel, .pinned], laidTests := true, laidLooks := .later }
def EventLinesCardSaid : Prop := Claim7.holds Tryd.pinned (.plain (OpenSpec.ofChange eventLinesSpec)) eventLinesCard

/-- THE TIED CARD OF 'auspicelaw04.EventBack'. -/
def eventBackCard : Claim7 := { stood := { row := eventBackRow, standIns := [], harness := (true, "8afe85b85c57c1a855523884ea1ee88f17fcde7f7439314afe279cfb7be52d66"), looks := true }, kinds := [], alts := [], laidByText := true, laidKinds := [.data, .data, .data, .data, .sentinel, .sentinel, .pinned], laidTests := true, laidLooks := .later }
def EventBackCardSaid : Prop := Claim7.holds Tryd.pinned (.plain (OpenSpec.ofChange eventBackSpec)) eventBackCard

/-- THE SECOND FORM's CARD OF 'auspicelaw04.EventFits'. -/
def eventFitsUptoCard : Claim7 := { stood := { row := eventFitsUptoRow, standIns := [], harness := (true, "8afe85b85c57c1a855523884ea1ee88f17fcde7f7439314afe279cfb7be52d66"), looks := true }, kinds := [], alts := [], laidByText := true, laidKinds := [.data, .data, .data], laidTests := true, laidLooks := .later }
def EventFitsUptoCardSaid : Prop := Claim7.holds Tryd.pinned (.plain (OpenSpec.upto eventFitsSpec)) eventFitsUptoCard

/-- THE SECOND FORM's CARD OF 'auspicelaw04.EventKinds'. -/
def eventKindsUptoCard : Claim7 := { stood := { row := eventKindsUptoRow, standIns := [], harness := (true, "8afe85b85c57c1a855523884ea1ee88f17fcde7f7439314afe279cfb7be52d66"), looks := true }, kinds := [], alts := [], laidByText := true, laidKinds := [.data, .data, .data], laidTests := true, laidLooks := .later }
def EventKindsUptoCardSaid : Prop := Claim7.holds Tryd.pinned (.plain (OpenSpec.upto eventKindsSpec)) eventKindsUptoCard

/-- THE SECOND FORM's CARD OF 'auspicelaw04.EventScripts'. -/
def eventScriptsUptoCard : Claim7 := { stood := { row := eventScriptsUptoRow, standIns := [], harness := (true, "8afe85b85c57c1a855523884ea1ee88f17fcde7f7439314afe279cfb7be52d66"), looks := true }, kinds := [], alts := [], laidByText := true, laidKinds := [.data, .data, .data], laidTests := true, laidLooks := .later }
def EventScriptsUptoCardSaid : Prop := Claim7.holds Tryd.pinned (.plain (OpenSpec.upto eventScriptsSpec)) eventScriptsUptoCard

/-- THE SECOND FORM's CARD OF 'auspicelaw04.EventCuts'. -/
def eventCutsUptoCard : Claim7 := { stood := { row := eventCutsUptoRow, standIns := [], harness := (true, "8afe85b85c57c1a855523884ea1ee88f17fcde7f7439314afe279cfb7be52d66"), looks := true }, kinds := [], alts := [], laidByText := true, laidKinds := [.data, .data, .data], laidTests := true, laidLooks := .later }
def EventCutsUptoCardSaid : Prop := Claim7.holds Tryd.pinned (.plain (OpenSpec.upto eventCutsSpec)) eventCutsUptoCard

/-- THE SECOND FORM's CARD OF 'auspicelaw04.EventLines'. -/
def eventLinesUptoCard : Claim7 := { stood := { row := eventLinesUptoRow, standIns := [], harness := (true, "8afe85b85c57c1a855523884ea1ee88f17fcde7f7439314afe279cfb7be52d66"), looks := true }, kinds := [], alts := [], laidByText := true, laidKinds := [.data, .data, .data, .data, .sentinel, .sentinel, .pinned], laidTests := true, laidLooks := .later }
def EventLinesUptoCardSaid : Prop := Claim7.holds Tryd.pinned (.plain (OpenSpec.upto eventLinesSpec)) eventLinesUptoCard

/-- THE SECOND FORM's CARD OF 'auspicelaw04.EventBack'. -/
def eventBackUptoCard : Claim7 := { stood := { row := eventBackUptoRow, standIns := [], harness := (true, "8afe85b85c57c1a855523884ea1ee88f17fcde7f7439314afe279cfb7be52d66"), looks := true }, kinds := [], alts := [], laidByText := true, laidKinds := [.data, .data, .data, .data, .sentinel, .sentinel, .pinned], laidTests := true, laidLooks := .later }
def EventBackUptoCardSaid : Prop := Claim7.holds Tryd.pinned (.plain (OpenSpec.upto eventBackSpec)) eventBackUptoCard
end Rows
end Go.Proofs.YtpakcicbojbonaaDoor
