/- The law CalendarTexts of package spilelaw04 returns true for every input and leaves its arguments as they were; the library's table of powers of ten reads as the program's text lays it. -/
import Derived.Test.YtlhdkajflmpnbaaDoorLawCalendarTexts
import Derived.Test.YtlhdkajflmpnbaaDoorMCal04
import Derived.Test.YtlhdkajflmpnbaaDoorMCal04b
import Derived.Test.YtlhdkajflmpnbaaDoorMEv
import Derived.Test.YtlhdkajflmpnbaaDoorMTxt04
import Derived.Test.YtlhdkajflmpnbaaDoorPF12
import Derived.Test.YtlhdkajflmpnbaaDoorPF5
import Derived.Test.YtlhdkajflmpnbaaDoorPF6
namespace Go.Proofs.YtlhdkajflmpnbaaDoor.PF
open Go.RowKit Go.Proofs.YtlhdkajflmpnbaaDoorW.PrintWords Go.Proofs.YtlhdkajflmpnbaaDoorW.PrintLast Go.Proofs.YtlhdkajflmpnbaaDoorW.PrintMore
set_option linter.unusedVariables false
set_option linter.unusedSimpArgs false
theorem CalendarTexts_pure : Go.Proofs.YtlhdkajflmpnbaaDoor.calendarTexts.Pure := by
  intro n s _ _
  show ∃ k, spilelaw04_CalendarTexts.f k n s = some true
  have hP : ∃ r, Ev (fun k => calendar_Print.f k n) r ∧ Ev (fun k => spileref04_Print.f k n) r := by
    by_cases c : 0 ≤ n ∧ n ≤ 100000
    · obtain ⟨y, m, d, h⟩ := exists_dt c.1 c.2
      exact ⟨_, Print_yes h, rPrint_yes h⟩
    · exact ⟨_, Ev.now (Print_no c), Ev.now (rPrint_no c)⟩
  have hQ : ∃ r, Ev (fun k => calendar_Parse.f k s) r ∧ Ev (fun k => spileref04_Parse.f k s) r := by
    by_cases c : okT s
    · by_cases c2 : ∃ j, isDt j (numD s 0 4) (numD s 5 2) (numD s 8 2)
      · obtain ⟨j, h⟩ := c2
        exact ⟨_, Parse_day c (Day_yes h), rParse_day c (rDay_yes h)⟩
      · have c' : ∀ j, ¬ isDt j (numD s 0 4) (numD s 5 2) (numD s 8 2) := fun j h => c2 ⟨j, h⟩
        exact ⟨_, Parse_day c (Day_no c'), rParse_day c (rDay_no c')⟩
    · exact ⟨_, Ev.now (Parse_bad c), rParse_bad c⟩
  obtain ⟨r, ⟨N1, h1⟩, ⟨N2, h2⟩⟩ := hP
  obtain ⟨t, ⟨N3, h3⟩, ⟨N4, h4⟩⟩ := hQ
  refine ⟨N1 + N2 + N3 + N4, ?_⟩
  have a1 : calendar_Print.f (N1 + N2 + N3 + N4) n = some r := h1 _ (by omega)
  have a2 : spileref04_Print.f (N1 + N2 + N3 + N4) n = some r := h2 _ (by omega)
  have a3 : calendar_Parse.f (N1 + N2 + N3 + N4) s = some t := h3 _ (by omega)
  have a4 : spileref04_Parse.f (N1 + N2 + N3 + N4) s = some t := h4 _ (by omega)
  unfold spilelaw04_CalendarTexts.f spilelaw04_awake.f
  rw [Option.bind_some, if_pos rfl]
  split
  · rfl
  · rw [a1, Option.bind_some, a2, Option.bind_some, a3, Option.bind_some, a4, Option.bind_some]
    simp

end Go.Proofs.YtlhdkajflmpnbaaDoor.PF
namespace Go.Proofs.YtlhdkajflmpnbaaDoor
/-- The given statement. -/
theorem calendarTexts_holds : Rows.CalendarTextsCardSaid := calendarTexts.card PF.CalendarTexts_pure
#print axioms calendarTexts_holds
end Go.Proofs.YtlhdkajflmpnbaaDoor
