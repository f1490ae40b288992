/-
  DERIVED. GIVEN WITH THE SEED: THE CARDS: each row of YtpiffgdebdhpnaaDoorRows.lean that lists a variable, with what it lists TIED to the program's text (the seventh form; the later family's looks); each row that meets fmt, with fmt's text TOLD by the authors' own Lean function (tested against real Go, not proved from fmt's source: count such statements apart). THE CARD IS WHAT COUNTS. Prove the row's statement (the work); the ties are given (YtpiffgdebdhpnaaDoorTie.lean); close each card by the builder's one call (the guide's Derived/Test/ToyasCard.lean, 'card_holds'). Laid BY PROGRAM, IN A SANDBOX (cutbox-door.mjs). By AI agents, Wed Nov 11 2026. No macro, syntax, notation, axiom, sorry.
-/
import Derived.Test.YtpiffgdebdhpnaaDoorRows
import GoSem.ClaimSeven
namespace Go.Proofs.YtpiffgdebdhpnaaDoor
namespace Rows

/-- THE TIED CARD OF 'auspicelaw10.MatchGoods'. -/
def matchGoodsCard : Claim7 := { stood := { row := matchGoodsRow, standIns := [], harness := (true, "0f4282cea702e1969627a061267e5f19a2160984e31a970691b845987a4c7c76"), looks := true }, kinds := [], alts := [], laidByText := true, laidKinds := [.data, .data, .data, .data, .sentinel, .sentinel, .pinned], laidTests := true, laidLooks := .later }
def MatchGoodsCardSaid : Prop := Claim7.holds Tryd.pinned (.plain (OpenSpec.ofChange matchGoodsSpec)) matchGoodsCard

/-- THE TIED CARD OF 'auspicelaw10.MatchLines'. -/
def matchLinesCard : Claim7 := { stood := { row := matchLinesRow, standIns := [], harness := (true, "0f4282cea702e1969627a061267e5f19a2160984e31a970691b845987a4c7c76"), looks := true }, kinds := [], alts := [], laidByText := true, laidKinds := [.data, .data, .data, .data, .sentinel, .sentinel, .pinned], laidTests := true, laidLooks := .later }
def MatchLinesCardSaid : Prop := Claim7.holds Tryd.pinned (.plain (OpenSpec.ofChange matchLinesSpec)) matchLinesCard

/-- THE TIED CARD OF 'auspicelaw10.MatchParses'. -/
def matchParsesCard : Claim7 := { stood := { row := matchParsesRow, standIns := [], harness := (true, "0f4282cea702e1969627a061267e5f19a2160984e31a970691b845987a4c7c76"), looks := true }, kinds := [], alts := [], laidByText := true, laidKinds := [.data, .data, .data, .data, .sentinel, .sentinel, .pinned], laidTests := true, laidLooks := .later }
def MatchParsesCardSaid : Prop := Claim7.holds Tryd.pinned (.plain (OpenSpec.ofChange matchParsesSpec)) matchParsesCard

/-- THE TIED CARD OF 'auspicelaw10.MatchEnds'. -/
def matchEndsCard : Claim7 := { stood := { row := matchEndsRow, standIns := [], harness := (true, "0f4282cea702e1969627a061267e5f19a2160984e31a970691b845987a4c7c76"), looks := true }, kinds := [], alts := [], laidByText := true, laidKinds := [.data, .data, .data, .data, .sentinel, .sentinel, .pinned], laidTests := true, laidLooks := .later }
def MatchEndsCardSaid : Prop := Claim7.holds Tryd.pinned (.plain (OpenSpec.ofChange matchEndsSpec)) matchEndsCard

/-- THE TIED CARD OF 'auspicelaw10.MatchOrders'. -/
def matchOrdersCard : Claim7 := { stood := { row := matchOrdersRow, standIns := [], harness := (true, "0f4282cea702e1969627a061267e5f19a2160984e31a970691b845987a4c7c76"), looks := true }, kinds := [], alts := [], laidByText := true, laidKinds := [.data, .data, .data, .data, .sentinel, .sentinel, .pinned], laidTests := true, laidLooks := .later }
def MatchOrdersCardSaid : Prop := Claim7.holds Tryd.pinned (.plain (OpenSpec.ofChange matchOrdersSpec)) matchOrdersCard

/-- THE TIED CARD OF 'auspicelaw10.MatchTotal'. -/
def matchTotalCard : Claim7 := { stood := { row := matchTotalRow, standIns := [], harness := (true, "0f4282cea702e1969627a061267e5f19a2160984e31a970691b845987a4c7c76"), looks := true }, kinds := [], alts := [], laidByText := true, laidKinds := [.data, .data, .data, .data, .sentinel, .sentinel, .pinned], laidTests := true, laidLooks := .later }
def MatchTotalCardSaid : Prop := Claim7.holds Tryd.pinned (.plain (OpenSpec.ofChange matchTotalSpec)) matchTotalCard

/-- THE TIED CARD OF 'auspicelaw10.MatchSorts'. -/
def matchSortsCard : Claim7 := { stood := { row := matchSortsRow, standIns := [], harness := (true, "0f4282cea702e1969627a061267e5f19a2160984e31a970691b845987a4c7c76"), looks := true }, kinds := [], alts := [], laidByText := true, laidKinds := [.data, .data, .data, .data, .sentinel, .sentinel, .pinned], laidTests := true, laidLooks := .later }
def MatchSortsCardSaid : Prop := Claim7.holds Tryd.pinned (.plain (OpenSpec.ofChange matchSortsSpec)) matchSortsCard

/-- THE SECOND FORM's CARD OF 'auspicelaw10.MatchGoods'. -/
def matchGoodsUptoCard : Claim7 := { stood := { row := matchGoodsUptoRow, standIns := [], harness := (true, "0f4282cea702e1969627a061267e5f19a2160984e31a970691b845987a4c7c76"), looks := true }, kinds := [], alts := [], laidByText := true, laidKinds := [.data, .data, .data, .data, .sentinel, .sentinel, .pinned], laidTests := true, laidLooks := .later }
def MatchGoodsUptoCardSaid : Prop := Claim7.holds Tryd.pinned (.plain (OpenSpec.upto matchGoodsSpec)) matchGoodsUptoCard

/-- THE SECOND FORM's CARD OF 'auspicelaw10.MatchLines'. -/
def matchLinesUptoCard : Claim7 := { stood := { row := matchLinesUptoRow, standIns := [], harness := (true, "0f4282cea702e1969627a061267e5f19a2160984e31a970691b845987a4c7c76"), looks := true }, kinds := [], alts := [], laidByText := true, laidKinds := [.data, .data, .data, .data, .sentinel, .sentinel, .pinned], laidTests := true, laidLooks := .later }
def MatchLinesUptoCardSaid : Prop := Claim7.holds Tryd.pinned (.plain (OpenSpec.upto matchLinesSpec)) matchLinesUptoCard

/-- THE SECOND FORM's CARD OF 'auspicelaw10.MatchParses'. -/
def matchParsesUptoCard : Claim7 := { stood := { row := matchParsesUptoRow, standIns := [], harness := (true, "0f4282cea702e1969627a061267e5f19a2160984e31a970691b845987a4c7c76"), looks := true }, kinds := [], alts := [], laidByText := true, laidKinds := [.data, .data, .data, .data, .sentinel, .sentinel, .pinned], laidTests := true, laidLooks := .later }
def MatchParsesUptoCardSaid : Prop := Claim7.holds Tryd.pinned (.plain (OpenSpec.upto matchParsesSpec)) matchParsesUptoCard

/-- THE SECOND FORM's CARD OF 'auspicelaw10.MatchEnds'. -/
def matchEndsUptoCard : Claim7 := { stood := { row := matchEndsUptoRow, standIns := [], harness := (true, "0f4282cea702e1969627a061267e5f19a2160984e31a970691b845987a4c7c76"), looks := true }, kinds := [], alts := [], laidByText := true, laidKinds := [.data, .data, .data, .data, .sentinel, .sentinel, .pinned], laidTests := true, laidLooks := .later }
def MatchEndsUptoCardSaid : Prop := Claim7.holds Tryd.pinned (.plain (OpenSpec.upto matchEndsSpec)) matchEndsUptoCard

/-- THE SECOND FORM's CARD OF 'auspicelaw10.MatchOrders'. -/
def matchOrdersUptoCard : Claim7 := { stood := { row := matchOrdersUptoRow, standIns := [], harness := (true, "0f4282cea702e1969627a061267e5f19a2160984e31a970691b845987a4c7c76"), looks := true }, kinds := [], alts := [], laidByText := true, laidKinds := [.data, .data, .data, .data, .sentinel, .sentinel, .pinned], laidTests := true, laidLooks := .later }
def MatchOrdersUptoCardSaid : Prop := Claim7.holds Tryd.pinned (.plain (OpenSpec.upto matchOrdersSpec)) matchOrdersUptoCard

/-- THE SECOND FORM's CARD OF 'auspicelaw10.MatchTotal'. -/
def matchTotalUptoCard : Claim7 := { stood := { row := matchTotalUptoRow, standIns := [], harness := (true, "0f4282cea702e1969627a061267e5f19a2160984e31a970691b845987a4c7c76"), looks := true }, kinds := [], alts := [], laidByText := true, laidKinds := [.data, .data, .data, .data, .sentinel, .sentinel, .pinned], laidTests := true, laidLooks := .later }
def MatchTotalUptoCardSaid : Prop := Claim7.holds Tryd.pinned (.plain (OpenSpec.upto matchTotalSpec)) matchTotalUptoCard

/-- THE SECOND FORM's CARD OF 'auspicelaw10.MatchSorts'. -/
def matchSortsUptoCard : Claim7 := { stood := { row := matchSortsUptoRow, standIns := [], harness := (true, "0f4282cea702e1969627a061267e5f19a2160984e31a970691b845987a4c7c76"), looks := true }, kinds := [], alts := [], laidByText := true, laidKinds := [.data, .data, .data, .data, .sentinel, .sentinel, .pinned], laidTests := true, laidLooks := .later }
def MatchSortsUptoCardSaid : Prop := Claim7.holds Tryd.pinned (.plain (OpenSpec.upto matchSortsSpec)) matchSortsUptoCard
end Rows
end Go.Proofs.YtpiffgdebdhpnaaDoor
