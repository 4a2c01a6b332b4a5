/-
  DERIVED. GIVEN WITH THE SEED: THE CARDS: each row of YtkebkfipjodnnaaDoorRows.lean that lists a variable, with what it lists TIED to the program's text (the seventh form; the later family's looks); each row that meets fmt, with fmt's text TOLD by the authors' own Lean function (tested against real Go, not proved from fmt's source: count such statements apart). THE CARD IS WHAT COUNTS. Prove the row's statement (the work); the ties are given (YtkebkfipjodnnaaDoorTie.lean); close each card by the builder's one call (the guide's Derived/Test/ToyasCard.lean, 'card_holds'). Laid BY PROGRAM, IN A SANDBOX (cutbox-door.mjs). By AI agents, Wed Nov 11 2026. No macro, syntax, notation, axiom, sorry.
-/
import Derived.Test.YtkebkfipjodnnaaDoorRows
import GoSem.ClaimSeven
namespace Go.Proofs.YtkebkfipjodnnaaDoor
namespace Rows

/-- THE TIED CARD OF 'thistlelaw14.BackAll'. -/
def backAllCard : Claim7 := { stood := { row := backAllRow, standIns := [], harness := (true, "2e2838d703afe76d1a88c81b46b81d5de771e79d93e178d84987eb6f8f65803f"), looks := false }, kinds := [], alts := [], laidByText := true, laidKinds := [.data, .widerDeep, .pinned], laidTests := true, laidLooks := .later }
def BackAllCardSaid : Prop := Claim7.holds Tryd.pinned (.plain (OpenSpec.ofChange backAllSpec)) backAllCard

/-- THE TIED CARD OF 'thistlelaw14.BackPlaces'. -/
def backPlacesCard : Claim7 := { stood := { row := backPlacesRow, standIns := [], harness := (true, "2e2838d703afe76d1a88c81b46b81d5de771e79d93e178d84987eb6f8f65803f"), looks := false }, kinds := [], alts := [], laidByText := true, laidKinds := [.data, .widerDeep, .pinned], laidTests := true, laidLooks := .later }
def BackPlacesCardSaid : Prop := Claim7.holds Tryd.pinned (.plain (OpenSpec.ofChange backPlacesSpec)) backPlacesCard

/-- THE TIED CARD OF 'thistlelaw14.BackLarge'. -/
def backLargeCard : Claim7 := { stood := { row := backLargeRow, standIns := [], harness := (true, "2e2838d703afe76d1a88c81b46b81d5de771e79d93e178d84987eb6f8f65803f"), looks := false }, kinds := [], alts := [], laidByText := true, laidKinds := [.data, .widerDeep, .pinned], laidTests := true, laidLooks := .later }
def BackLargeCardSaid : Prop := Claim7.holds Tryd.pinned (.plain (OpenSpec.ofChange backLargeSpec)) backLargeCard

/-- THE TIED CARD OF 'thistlelaw14.BackBorders'. -/
def backBordersCard : Claim7 := { stood := { row := backBordersRow, standIns := [], harness := (true, "2e2838d703afe76d1a88c81b46b81d5de771e79d93e178d84987eb6f8f65803f"), looks := false }, kinds := [], alts := [], laidByText := true, laidKinds := [.data, .widerDeep, .pinned], laidTests := true, laidLooks := .later }
def BackBordersCardSaid : Prop := Claim7.holds Tryd.pinned (.plain (OpenSpec.ofChange backBordersSpec)) backBordersCard

/-- THE TIED CARD OF 'thistlelaw14.BackMemory'. -/
def backMemoryCard : Claim7 := { stood := { row := backMemoryRow, standIns := [], harness := (true, "2e2838d703afe76d1a88c81b46b81d5de771e79d93e178d84987eb6f8f65803f"), looks := false }, kinds := [], alts := [], laidByText := true, laidKinds := [.data, .widerDeep, .pinned], laidTests := true, laidLooks := .later }
def BackMemoryCardSaid : Prop := Claim7.holds Tryd.pinned (.plain (OpenSpec.ofChange backMemorySpec)) backMemoryCard

/-- THE TIED CARD OF 'thistlelaw15.PikePlays'. -/
def pikePlaysCard : Claim7 := { stood := { row := pikePlaysRow, standIns := [], harness := (true, "2e2838d703afe76d1a88c81b46b81d5de771e79d93e178d84987eb6f8f65803f"), looks := false }, kinds := [], alts := [], laidByText := true, laidKinds := [.data, .widerDeep, .pinned], laidTests := true, laidLooks := .later }
def PikePlaysCardSaid : Prop := Claim7.holds Tryd.pinned (.plain (OpenSpec.ofChange pikePlaysSpec)) pikePlaysCard

/-- THE TIED CARD OF 'thistlelaw13.LoadSames'. -/
def loadSamesCard : Claim7 := { stood := { row := loadSamesRow, standIns := [], harness := (true, "2e2838d703afe76d1a88c81b46b81d5de771e79d93e178d84987eb6f8f65803f"), looks := false }, kinds := [], alts := [], laidByText := true, laidKinds := [.data, .data, .data, .widerDeep], laidTests := true, laidLooks := .later }
def LoadSamesCardSaid : Prop := Claim7.holds Tryd.pinned (.plain (OpenSpec.ofChange loadSamesSpec)) loadSamesCard

/-- THE TIED CARD OF 'thistlelaw15.PikeRuns'. -/
def pikeRunsCard : Claim7 := { stood := { row := pikeRunsRow, standIns := [], harness := (true, "2e2838d703afe76d1a88c81b46b81d5de771e79d93e178d84987eb6f8f65803f"), looks := false }, kinds := [], alts := [], laidByText := true, laidKinds := [.data, .widerDeep, .pinned], laidTests := true, laidLooks := .later }
def PikeRunsCardSaid : Prop := Claim7.holds Tryd.pinned (.plain (OpenSpec.ofChange pikeRunsSpec)) pikeRunsCard

/-- THE TIED CARD OF 'thistlelaw15.PikeNil'. -/
def pikeNilCard : Claim7 := { stood := { row := pikeNilRow, standIns := [], harness := (true, "2e2838d703afe76d1a88c81b46b81d5de771e79d93e178d84987eb6f8f65803f"), looks := false }, kinds := [], alts := [], laidByText := true, laidKinds := [.data, .widerDeep, .pinned], laidTests := true, laidLooks := .later }
def PikeNilCardSaid : Prop := Claim7.holds Tryd.pinned (.plain (OpenSpec.ofChange pikeNilSpec)) pikeNilCard

/-- THE TIED CARD OF 'thistlelaw15.PikeBacks'. -/
def pikeBacksCard : Claim7 := { stood := { row := pikeBacksRow, standIns := [], harness := (true, "2e2838d703afe76d1a88c81b46b81d5de771e79d93e178d84987eb6f8f65803f"), looks := false }, kinds := [], alts := [], laidByText := true, laidKinds := [.data, .widerDeep, .pinned], laidTests := true, laidLooks := .later }
def PikeBacksCardSaid : Prop := Claim7.holds Tryd.pinned (.plain (OpenSpec.ofChange pikeBacksSpec)) pikeBacksCard

/-- THE SECOND FORM's CARD OF 'thistlelaw14.BackAll'. -/
def backAllUptoCard : Claim7 := { stood := { row := backAllUptoRow, standIns := [], harness := (true, "2e2838d703afe76d1a88c81b46b81d5de771e79d93e178d84987eb6f8f65803f"), looks := false }, kinds := [], alts := [], laidByText := true, laidKinds := [.data, .widerDeep, .pinned], laidTests := true, laidLooks := .later }
def BackAllUptoCardSaid : Prop := Claim7.holds Tryd.pinned (.plain (OpenSpec.upto backAllSpec)) backAllUptoCard

/-- THE SECOND FORM's CARD OF 'thistlelaw14.BackPlaces'. -/
def backPlacesUptoCard : Claim7 := { stood := { row := backPlacesUptoRow, standIns := [], harness := (true, "2e2838d703afe76d1a88c81b46b81d5de771e79d93e178d84987eb6f8f65803f"), looks := false }, kinds := [], alts := [], laidByText := true, laidKinds := [.data, .widerDeep, .pinned], laidTests := true, laidLooks := .later }
def BackPlacesUptoCardSaid : Prop := Claim7.holds Tryd.pinned (.plain (OpenSpec.upto backPlacesSpec)) backPlacesUptoCard

/-- THE SECOND FORM's CARD OF 'thistlelaw14.BackLarge'. -/
def backLargeUptoCard : Claim7 := { stood := { row := backLargeUptoRow, standIns := [], harness := (true, "2e2838d703afe76d1a88c81b46b81d5de771e79d93e178d84987eb6f8f65803f"), looks := false }, kinds := [], alts := [], laidByText := true, laidKinds := [.data, .widerDeep, .pinned], laidTests := true, laidLooks := .later }
def BackLargeUptoCardSaid : Prop := Claim7.holds Tryd.pinned (.plain (OpenSpec.upto backLargeSpec)) backLargeUptoCard

/-- THE SECOND FORM's CARD OF 'thistlelaw14.BackBorders'. -/
def backBordersUptoCard : Claim7 := { stood := { row := backBordersUptoRow, standIns := [], harness := (true, "2e2838d703afe76d1a88c81b46b81d5de771e79d93e178d84987eb6f8f65803f"), looks := false }, kinds := [], alts := [], laidByText := true, laidKinds := [.data, .widerDeep, .pinned], laidTests := true, laidLooks := .later }
def BackBordersUptoCardSaid : Prop := Claim7.holds Tryd.pinned (.plain (OpenSpec.upto backBordersSpec)) backBordersUptoCard

/-- THE SECOND FORM's CARD OF 'thistlelaw14.BackMemory'. -/
def backMemoryUptoCard : Claim7 := { stood := { row := backMemoryUptoRow, standIns := [], harness := (true, "2e2838d703afe76d1a88c81b46b81d5de771e79d93e178d84987eb6f8f65803f"), looks := false }, kinds := [], alts := [], laidByText := true, laidKinds := [.data, .widerDeep, .pinned], laidTests := true, laidLooks := .later }
def BackMemoryUptoCardSaid : Prop := Claim7.holds Tryd.pinned (.plain (OpenSpec.upto backMemorySpec)) backMemoryUptoCard

/-- THE SECOND FORM's CARD OF 'thistlelaw15.PikePlays'. -/
def pikePlaysUptoCard : Claim7 := { stood := { row := pikePlaysUptoRow, standIns := [], harness := (true, "2e2838d703afe76d1a88c81b46b81d5de771e79d93e178d84987eb6f8f65803f"), looks := false }, kinds := [], alts := [], laidByText := true, laidKinds := [.data, .widerDeep, .pinned], laidTests := true, laidLooks := .later }
def PikePlaysUptoCardSaid : Prop := Claim7.holds Tryd.pinned (.plain (OpenSpec.upto pikePlaysSpec)) pikePlaysUptoCard

/-- THE SECOND FORM's CARD OF 'thistlelaw13.LoadSames'. -/
def loadSamesUptoCard : Claim7 := { stood := { row := loadSamesUptoRow, standIns := [], harness := (true, "2e2838d703afe76d1a88c81b46b81d5de771e79d93e178d84987eb6f8f65803f"), looks := false }, kinds := [], alts := [], laidByText := true, laidKinds := [.data, .data, .data, .widerDeep], laidTests := true, laidLooks := .later }
def LoadSamesUptoCardSaid : Prop := Claim7.holds Tryd.pinned (.plain (OpenSpec.upto loadSamesSpec)) loadSamesUptoCard

/-- THE SECOND FORM's CARD OF 'thistlelaw15.PikeRuns'. -/
def pikeRunsUptoCard : Claim7 := { stood := { row := pikeRunsUptoRow, standIns := [], harness := (true, "2e2838d703afe76d1a88c81b46b81d5de771e79d93e178d84987eb6f8f65803f"), looks := false }, kinds := [], alts := [], laidByText := true, laidKinds := [.data, .widerDeep, .pinned], laidTests := true, laidLooks := .later }
def PikeRunsUptoCardSaid : Prop := Claim7.holds Tryd.pinned (.plain (OpenSpec.upto pikeRunsSpec)) pikeRunsUptoCard

/-- THE SECOND FORM's CARD OF 'thistlelaw15.PikeNil'. -/
def pikeNilUptoCard : Claim7 := { stood := { row := pikeNilUptoRow, standIns := [], harness := (true, "2e2838d703afe76d1a88c81b46b81d5de771e79d93e178d84987eb6f8f65803f"), looks := false }, kinds := [], alts := [], laidByText := true, laidKinds := [.data, .widerDeep, .pinned], laidTests := true, laidLooks := .later }
def PikeNilUptoCardSaid : Prop := Claim7.holds Tryd.pinned (.plain (OpenSpec.upto pikeNilSpec)) pikeNilUptoCard

/-- THE SECOND FORM's CARD OF 'thistlelaw15.PikeBacks'. -/
def pikeBacksUptoCard : Claim7 := { stood := { row := pikeBacksUptoRow, standIns := [], harness := (true, "2e2838d703afe76d1a88c81b46b81d5de771e79d93e178d84987eb6f8f65803f"), looks := false }, kinds := [], alts := [], laidByText := true, laidKinds := [.data, .widerDeep, .pinned], laidTests := true, laidLooks := .later }
def PikeBacksUptoCardSaid : Prop := Claim7.holds Tryd.pinned (.plain (OpenSpec.upto pikeBacksSpec)) pikeBacksUptoCard
end Rows
end Go.Proofs.YtkebkfipjodnnaaDoor
