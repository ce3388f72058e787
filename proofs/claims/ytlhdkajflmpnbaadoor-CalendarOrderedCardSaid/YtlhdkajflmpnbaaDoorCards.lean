/-
  DERIVED. GIVEN WITH THE SEED: THE CARDS: each row of YtlhdkajflmpnbaaDoorRows.lean that lists a variable, with what it lists TIED to the program's text (the seventh form; the later family's looks); each row that meets fmt, with fmt's text TOLD by the authors' own Lean function (tested against real Go, not proved from fmt's source: count such statements apart). THE CARD IS WHAT COUNTS. Prove the row's statement (the work); the ties are given (YtlhdkajflmpnbaaDoorTie.lean); close each card by the builder's one call (the guide's Derived/Test/ToyasCard.lean, 'card_holds'). Laid BY PROGRAM, IN A SANDBOX (cutbox-door.mjs). By AI agents, Wed Nov 11 2026. No macro, syntax, notation, axiom, sorry.
-/
import Derived.Test.YtlhdkajflmpnbaaDoorRows
import GoSem.ClaimSeven
namespace Go.Proofs.YtlhdkajflmpnbaaDoor
namespace Rows

/-- THE TIED CARD OF 'spilelaw04.CalendarConverts'. -/
def calendarConvertsCard : Claim7 := { stood := { row := calendarConvertsRow, standIns := [], harness := (true, "edf6ebcd2feccaa30c8a6ef7cfdee55d9494c4b6f0c25dc0ad7e2b8863c88b9e"), looks := false }, kinds := [], alts := [], laidByText := true, laidKinds := [.data, .data, .data], laidTests := true, laidLooks := .later }
def CalendarConvertsCardSaid : Prop := Claim7.holds Tryd.pinned (.plain (OpenSpec.ofChange calendarConvertsSpec)) calendarConvertsCard

/-- THE TIED CARD OF 'spilelaw04.CalendarCounts'. -/
def calendarCountsCard : Claim7 := { stood := { row := calendarCountsRow, standIns := [], harness := (true, "edf6ebcd2feccaa30c8a6ef7cfdee55d9494c4b6f0c25dc0ad7e2b8863c88b9e"), looks := false }, kinds := [], alts := [], laidByText := true, laidKinds := [.data, .data, .data], laidTests := true, laidLooks := .later }
def CalendarCountsCardSaid : Prop := Claim7.holds Tryd.pinned (.plain (OpenSpec.ofChange calendarCountsSpec)) calendarCountsCard

/-- THE TIED CARD OF 'spilelaw04.CalendarTexts'. -/
def calendarTextsCard : Claim7 := { stood := { row := calendarTextsRow, standIns := [], harness := (true, "edf6ebcd2feccaa30c8a6ef7cfdee55d9494c4b6f0c25dc0ad7e2b8863c88b9e"), looks := false }, kinds := [], alts := [], laidByText := true, laidKinds := [.data, .data, .data], laidTests := true, laidLooks := .later }
def CalendarTextsCardSaid : Prop := Claim7.holds Tryd.pinned (.plain (OpenSpec.ofChange calendarTextsSpec)) calendarTextsCard

/-- THE TIED CARD OF 'spilelaw04.CalendarFollows'. -/
def calendarFollowsCard : Claim7 := { stood := { row := calendarFollowsRow, standIns := [], harness := (true, "edf6ebcd2feccaa30c8a6ef7cfdee55d9494c4b6f0c25dc0ad7e2b8863c88b9e"), looks := false }, kinds := [], alts := [], laidByText := true, laidKinds := [.data, .data, .data], laidTests := true, laidLooks := .later }
def CalendarFollowsCardSaid : Prop := Claim7.holds Tryd.pinned (.plain (OpenSpec.ofChange calendarFollowsSpec)) calendarFollowsCard

/-- THE TIED CARD OF 'spilelaw04.CalendarOrdered'. -/
def calendarOrderedCard : Claim7 := { stood := { row := calendarOrderedRow, standIns := [], harness := (true, "edf6ebcd2feccaa30c8a6ef7cfdee55d9494c4b6f0c25dc0ad7e2b8863c88b9e"), looks := false }, kinds := [], alts := [], laidByText := true, laidKinds := [.data, .data, .data], laidTests := true, laidLooks := .later }
def CalendarOrderedCardSaid : Prop := Claim7.holds Tryd.pinned (.plain (OpenSpec.ofChange calendarOrderedSpec)) calendarOrderedCard

/-- THE TIED CARD OF 'spilelaw04.CalendarLater'. -/
def calendarLaterCard : Claim7 := { stood := { row := calendarLaterRow, standIns := [], harness := (true, "edf6ebcd2feccaa30c8a6ef7cfdee55d9494c4b6f0c25dc0ad7e2b8863c88b9e"), looks := false }, kinds := [], alts := [], laidByText := true, laidKinds := [.data, .data, .data], laidTests := true, laidLooks := .later }
def CalendarLaterCardSaid : Prop := Claim7.holds Tryd.pinned (.plain (OpenSpec.ofChange calendarLaterSpec)) calendarLaterCard

/-- THE TIED CARD OF 'spilelaw04.CalendarYears'. -/
def calendarYearsCard : Claim7 := { stood := { row := calendarYearsRow, standIns := [], harness := (true, "edf6ebcd2feccaa30c8a6ef7cfdee55d9494c4b6f0c25dc0ad7e2b8863c88b9e"), looks := false }, kinds := [], alts := [], laidByText := true, laidKinds := [.data, .data, .data], laidTests := true, laidLooks := .later }
def CalendarYearsCardSaid : Prop := Claim7.holds Tryd.pinned (.plain (OpenSpec.ofChange calendarYearsSpec)) calendarYearsCard

/-- THE SECOND FORM's CARD OF 'spilelaw04.CalendarConverts'. -/
def calendarConvertsUptoCard : Claim7 := { stood := { row := calendarConvertsUptoRow, standIns := [], harness := (true, "edf6ebcd2feccaa30c8a6ef7cfdee55d9494c4b6f0c25dc0ad7e2b8863c88b9e"), looks := false }, kinds := [], alts := [], laidByText := true, laidKinds := [.data, .data, .data], laidTests := true, laidLooks := .later }
def CalendarConvertsUptoCardSaid : Prop := Claim7.holds Tryd.pinned (.plain (OpenSpec.upto calendarConvertsSpec)) calendarConvertsUptoCard

/-- THE SECOND FORM's CARD OF 'spilelaw04.CalendarCounts'. -/
def calendarCountsUptoCard : Claim7 := { stood := { row := calendarCountsUptoRow, standIns := [], harness := (true, "edf6ebcd2feccaa30c8a6ef7cfdee55d9494c4b6f0c25dc0ad7e2b8863c88b9e"), looks := false }, kinds := [], alts := [], laidByText := true, laidKinds := [.data, .data, .data], laidTests := true, laidLooks := .later }
def CalendarCountsUptoCardSaid : Prop := Claim7.holds Tryd.pinned (.plain (OpenSpec.upto calendarCountsSpec)) calendarCountsUptoCard

/-- THE SECOND FORM's CARD OF 'spilelaw04.CalendarTexts'. -/
def calendarTextsUptoCard : Claim7 := { stood := { row := calendarTextsUptoRow, standIns := [], harness := (true, "edf6ebcd2feccaa30c8a6ef7cfdee55d9494c4b6f0c25dc0ad7e2b8863c88b9e"), looks := false }, kinds := [], alts := [], laidByText := true, laidKinds := [.data, .data, .data], laidTests := true, laidLooks := .later }
def CalendarTextsUptoCardSaid : Prop := Claim7.holds Tryd.pinned (.plain (OpenSpec.upto calendarTextsSpec)) calendarTextsUptoCard

/-- THE SECOND FORM's CARD OF 'spilelaw04.CalendarFollows'. -/
def calendarFollowsUptoCard : Claim7 := { stood := { row := calendarFollowsUptoRow, standIns := [], harness := (true, "edf6ebcd2feccaa30c8a6ef7cfdee55d9494c4b6f0c25dc0ad7e2b8863c88b9e"), looks := false }, kinds := [], alts := [], laidByText := true, laidKinds := [.data, .data, .data], laidTests := true, laidLooks := .later }
def CalendarFollowsUptoCardSaid : Prop := Claim7.holds Tryd.pinned (.plain (OpenSpec.upto calendarFollowsSpec)) calendarFollowsUptoCard

/-- THE SECOND FORM's CARD OF 'spilelaw04.CalendarOrdered'. -/
def calendarOrderedUptoCard : Claim7 := { stood := { row := calendarOrderedUptoRow, standIns := [], harness := (true, "edf6ebcd2feccaa30c8a6ef7cfdee55d9494c4b6f0c25dc0ad7e2b8863c88b9e"), looks := false }, kinds := [], alts := [], laidByText := true, laidKinds := [.data, .data, .data], laidTests := true, laidLooks := .later }
def CalendarOrderedUptoCardSaid : Prop := Claim7.holds Tryd.pinned (.plain (OpenSpec.upto calendarOrderedSpec)) calendarOrderedUptoCard

/-- THE SECOND FORM's CARD OF 'spilelaw04.CalendarLater'. -/
def calendarLaterUptoCard : Claim7 := { stood := { row := calendarLaterUptoRow, standIns := [], harness := (true, "edf6ebcd2feccaa30c8a6ef7cfdee55d9494c4b6f0c25dc0ad7e2b8863c88b9e"), looks := false }, kinds := [], alts := [], laidByText := true, laidKinds := [.data, .data, .data], laidTests := true, laidLooks := .later }
def CalendarLaterUptoCardSaid : Prop := Claim7.holds Tryd.pinned (.plain (OpenSpec.upto calendarLaterSpec)) calendarLaterUptoCard

/-- THE SECOND FORM's CARD OF 'spilelaw04.CalendarYears'. -/
def calendarYearsUptoCard : Claim7 := { stood := { row := calendarYearsUptoRow, standIns := [], harness := (true, "edf6ebcd2feccaa30c8a6ef7cfdee55d9494c4b6f0c25dc0ad7e2b8863c88b9e"), looks := false }, kinds := [], alts := [], laidByText := true, laidKinds := [.data, .data, .data], laidTests := true, laidLooks := .later }
def CalendarYearsUptoCardSaid : Prop := Claim7.holds Tryd.pinned (.plain (OpenSpec.upto calendarYearsSpec)) calendarYearsUptoCard
end Rows
end Go.Proofs.YtlhdkajflmpnbaaDoor
