/-
  DERIVED. GIVEN WITH THE SEED: THE CARDS: each row of YtnmlpohhommagaaGreatDoorRows.lean that lists a variable, with what it lists TIED to the program's text (the seventh form; the later family's looks); each row that meets fmt, with fmt's text TOLD by the authors' own Lean function (tested against real Go, not proved from fmt's source: count such statements apart). THE CARD IS WHAT COUNTS. Prove the row's statement (the work); the ties are given (YtnmlpohhommagaaGreatDoorTie.lean); close each card by the builder's one call (the guide's Derived/Test/ToyasCard.lean, 'card_holds'). Laid BY PROGRAM, IN A SANDBOX (cutbox-door.mjs). By AI agents, Wed Nov 11 2026. No macro, syntax, notation, axiom, sorry.
-/
import Derived.Test.YtnmlpohhommagaaGreatDoorRows
import GoSem.ClaimSeven
namespace Go.Proofs.YtnmlpohhommagaaGreatDoor
namespace Rows

/-- THE TIED CARD OF 'bookplatelaw52.CallnoOrder'. -/
def callnoOrderCard : Claim7 := { stood := { row := callnoOrderRow, standIns := [], harness := (true, "de7d1d200fe04d52cf39a81d6407922746e0951aa5bb365610bfa3341a55865c"), looks := true }, kinds := [], alts := [], laidByText := true, laidKinds := [.data, .data, .data, .data, .sentinel, .sentinel, .pinned], laidTests := true, laidLooks := .later }
def CallnoOrderCardSaid : Prop := Claim7.holds Tryz.pinned (.plain (OpenSpec.ofChange callnoOrderSpec)) callnoOrderCard

/-- THE TIED CARD OF 'bookplatelaw52.CallnoLonger'. -/
def callnoLongerCard : Claim7 := { stood := { row := callnoLongerRow, standIns := [], harness := (true, "de7d1d200fe04d52cf39a81d6407922746e0951aa5bb365610bfa3341a55865c"), looks := true }, kinds := [], alts := [], laidByText := true, laidKinds := [.data, .data, .data, .data, .sentinel, .sentinel, .pinned], laidTests := true, laidLooks := .later }
def CallnoLongerCardSaid : Prop := Claim7.holds Tryz.pinned (.plain (OpenSpec.ofChange callnoLongerSpec)) callnoLongerCard

/-- THE TIED CARD OF 'bookplatelaw52.CallnoCompare'. -/
def callnoCompareCard : Claim7 := { stood := { row := callnoCompareRow, standIns := [], harness := (true, "de7d1d200fe04d52cf39a81d6407922746e0951aa5bb365610bfa3341a55865c"), looks := true }, kinds := [], alts := [], laidByText := true, laidKinds := [.data, .data, .data, .data, .sentinel, .sentinel, .pinned], laidTests := true, laidLooks := .later }
def CallnoCompareCardSaid : Prop := Claim7.holds Tryz.pinned (.plain (OpenSpec.ofChange callnoCompareSpec)) callnoCompareCard

/-- THE TIED CARD OF 'bookplatelaw52.CallnoText'. -/
def callnoTextCard : Claim7 := { stood := { row := callnoTextRow, standIns := [], harness := (true, "de7d1d200fe04d52cf39a81d6407922746e0951aa5bb365610bfa3341a55865c"), looks := true }, kinds := [], alts := [], laidByText := true, laidKinds := [.data, .data, .data, .data, .sentinel, .sentinel, .pinned], laidTests := true, laidLooks := .later }
def CallnoTextCardSaid : Prop := Claim7.holds Tryz.pinned (.plain (OpenSpec.ofChange callnoTextSpec)) callnoTextCard

/-- THE TIED CARD OF 'bookplatelaw52.CallnoParse'. -/
def callnoParseCard : Claim7 := { stood := { row := callnoParseRow, standIns := [], harness := (true, "de7d1d200fe04d52cf39a81d6407922746e0951aa5bb365610bfa3341a55865c"), looks := true }, kinds := [], alts := [], laidByText := true, laidKinds := [.data, .data, .data, .data, .sentinel, .sentinel, .pinned], laidTests := true, laidLooks := .later }
def CallnoParseCardSaid : Prop := Claim7.holds Tryz.pinned (.plain (OpenSpec.ofChange callnoParseSpec)) callnoParseCard

/-- THE TIED CARD OF 'bookplatelaw52.CallnoWithin'. -/
def callnoWithinCard : Claim7 := { stood := { row := callnoWithinRow, standIns := [], harness := (true, "de7d1d200fe04d52cf39a81d6407922746e0951aa5bb365610bfa3341a55865c"), looks := true }, kinds := [], alts := [], laidByText := true, laidKinds := [.data, .data, .data, .data, .sentinel, .sentinel, .pinned], laidTests := true, laidLooks := .later }
def CallnoWithinCardSaid : Prop := Claim7.holds Tryz.pinned (.plain (OpenSpec.ofChange callnoWithinSpec)) callnoWithinCard

/-- THE TIED CARD OF 'bookplatelaw52.CallnoKey'. -/
def callnoKeyCard : Claim7 := { stood := { row := callnoKeyRow, standIns := [], harness := (true, "de7d1d200fe04d52cf39a81d6407922746e0951aa5bb365610bfa3341a55865c"), looks := true }, kinds := [], alts := [], laidByText := true, laidKinds := [.data, .data, .data, .data, .sentinel, .sentinel, .pinned], laidTests := true, laidLooks := .later }
def CallnoKeyCardSaid : Prop := Claim7.holds Tryz.pinned (.plain (OpenSpec.ofChange callnoKeySpec)) callnoKeyCard

/-- THE SECOND FORM's CARD OF 'bookplatelaw52.CallnoOrder'. -/
def callnoOrderUptoCard : Claim7 := { stood := { row := callnoOrderUptoRow, standIns := [], harness := (true, "de7d1d200fe04d52cf39a81d6407922746e0951aa5bb365610bfa3341a55865c"), looks := true }, kinds := [], alts := [], laidByText := true, laidKinds := [.data, .data, .data, .data, .sentinel, .sentinel, .pinned], laidTests := true, laidLooks := .later }
def CallnoOrderUptoCardSaid : Prop := Claim7.holds Tryz.pinned (.plain (OpenSpec.upto callnoOrderSpec)) callnoOrderUptoCard

/-- THE SECOND FORM's CARD OF 'bookplatelaw52.CallnoLonger'. -/
def callnoLongerUptoCard : Claim7 := { stood := { row := callnoLongerUptoRow, standIns := [], harness := (true, "de7d1d200fe04d52cf39a81d6407922746e0951aa5bb365610bfa3341a55865c"), looks := true }, kinds := [], alts := [], laidByText := true, laidKinds := [.data, .data, .data, .data, .sentinel, .sentinel, .pinned], laidTests := true, laidLooks := .later }
def CallnoLongerUptoCardSaid : Prop := Claim7.holds Tryz.pinned (.plain (OpenSpec.upto callnoLongerSpec)) callnoLongerUptoCard

/-- THE SECOND FORM's CARD OF 'bookplatelaw52.CallnoCompare'. -/
def callnoCompareUptoCard : Claim7 := { stood := { row := callnoCompareUptoRow, standIns := [], harness := (true, "de7d1d200fe04d52cf39a81d6407922746e0951aa5bb365610bfa3341a55865c"), looks := true }, kinds := [], alts := [], laidByText := true, laidKinds := [.data, .data, .data, .data, .sentinel, .sentinel, .pinned], laidTests := true, laidLooks := .later }
def CallnoCompareUptoCardSaid : Prop := Claim7.holds Tryz.pinned (.plain (OpenSpec.upto callnoCompareSpec)) callnoCompareUptoCard

/-- THE SECOND FORM's CARD OF 'bookplatelaw52.CallnoText'. -/
def callnoTextUptoCard : Claim7 := { stood := { row := callnoTextUptoRow, standIns := [], harness := (true, "de7d1d200fe04d52cf39a81d6407922746e0951aa5bb365610bfa3341a55865c"), looks := true }, kinds := [], alts := [], laidByText := true, laidKinds := [.data, .data, .data, .data, .sentinel, .sentinel, .pinned], laidTests := true, laidLooks := .later }
def CallnoTextUptoCardSaid : Prop := Claim7.holds Tryz.pinned (.plain (OpenSpec.upto callnoTextSpec)) callnoTextUptoCard

/-- THE SECOND FORM's CARD OF 'bookplatelaw52.CallnoParse'. -/
def callnoParseUptoCard : Claim7 := { stood := { row := callnoParseUptoRow, standIns := [], harness := (true, "de7d1d200fe04d52cf39a81d6407922746e0951aa5bb365610bfa3341a55865c"), looks := true }, kinds := [], alts := [], laidByText := true, laidKinds := [.data, .data, .data, .data, .sentinel, .sentinel, .pinned], laidTests := true, laidLooks := .later }
def CallnoParseUptoCardSaid : Prop := Claim7.holds Tryz.pinned (.plain (OpenSpec.upto callnoParseSpec)) callnoParseUptoCard

/-- THE SECOND FORM's CARD OF 'bookplatelaw52.CallnoWithin'. -/
def callnoWithinUptoCard : Claim7 := { stood := { row := callnoWithinUptoRow, standIns := [], harness := (true, "de7d1d200fe04d52cf39a81d6407922746e0951aa5bb365610bfa3341a55865c"), looks := true }, kinds := [], alts := [], laidByText := true, laidKinds := [.data, .data, .data, .data, .sentinel, .sentinel, .pinned], laidTests := true, laidLooks := .later }
def CallnoWithinUptoCardSaid : Prop := Claim7.holds Tryz.pinned (.plain (OpenSpec.upto callnoWithinSpec)) callnoWithinUptoCard

/-- THE SECOND FORM's CARD OF 'bookplatelaw52.CallnoKey'. -/
def callnoKeyUptoCard : Claim7 := { stood := { row := callnoKeyUptoRow, standIns := [], harness := (true, "de7d1d200fe04d52cf39a81d6407922746e0951aa5bb365610bfa3341a55865c"), looks := true }, kinds := [], alts := [], laidByText := true, laidKinds := [.data, .data, .data, .data, .sentinel, .sentinel, .pinned], laidTests := true, laidLooks := .later }
def CallnoKeyUptoCardSaid : Prop := Claim7.holds Tryz.pinned (.plain (OpenSpec.upto callnoKeySpec)) callnoKeyUptoCard
end Rows
end Go.Proofs.YtnmlpohhommagaaGreatDoor
