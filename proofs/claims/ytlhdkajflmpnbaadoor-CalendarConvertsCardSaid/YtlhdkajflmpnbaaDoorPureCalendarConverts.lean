/- The law CalendarConverts of package spilelaw04 returns true for every input and leaves its arguments as they were; the library's table of powers of ten reads as the program's text lays it. -/
import Derived.Test.YtlhdkajflmpnbaaDoorLawCalendarConverts
import Derived.Test.YtlhdkajflmpnbaaDoorMCal04
import Derived.Test.YtlhdkajflmpnbaaDoorMCal04b
import Derived.Test.YtlhdkajflmpnbaaDoorMEv
import Derived.Test.YtlhdkajflmpnbaaDoorPF10
import Derived.Test.YtlhdkajflmpnbaaDoorPF3
import Derived.Test.YtlhdkajflmpnbaaDoorPF4
import Derived.Test.YtlhdkajflmpnbaaDoorPF5
import Derived.Test.YtlhdkajflmpnbaaDoorPF6
import Derived.Test.YtlhdkajflmpnbaaDoorPF8
import Derived.Test.YtlhdkajflmpnbaaDoorPF9
namespace Go.Proofs.YtlhdkajflmpnbaaDoor.PF
open Go.RowKit Go.Proofs.YtlhdkajflmpnbaaDoorW.PrintWords Go.Proofs.YtlhdkajflmpnbaaDoorW.PrintLast Go.Proofs.YtlhdkajflmpnbaaDoorW.PrintMore
set_option linter.unusedVariables false
set_option linter.unusedSimpArgs false
theorem CalendarConverts_pure : Go.Proofs.YtlhdkajflmpnbaaDoor.calendarConverts.Pure := by
  rintro n ⟨y0, m0, d0⟩ _ _
  show ∃ k, spilelaw04_CalendarConverts.f k n y0 m0 d0 = some true
  have hD : ∃ r, Ev (fun k => calendar_Day.f k y0 m0 d0) r ∧ Ev (fun k => spileref04_Day.f k y0 m0 d0) r := by
    by_cases c : ∃ j, isDt j y0 m0 d0
    · obtain ⟨j, h⟩ := c
      exact ⟨_, Day_yes h, rDay_yes h⟩
    · have c' : ∀ j, ¬ isDt j y0 m0 d0 := fun j h => c ⟨j, h⟩
      exact ⟨_, Day_no c', rDay_no c'⟩
  have hN : ∃ r s, Ev (fun k => calendar_Date.f k n) r ∧ Ev (fun k => spileref04_Date.f k n) r ∧ Ev (fun k => calendar_Season.f k n) s ∧ Ev (fun k => spileref04_Season.f k n) s := by
    by_cases c : 0 ≤ n ∧ n ≤ 100000
    · obtain ⟨y, m, d, h⟩ := exists_dt c.1 c.2
      exact ⟨_, _, Date_yes h, rDate_yes h, Season_yes h, rSeason_yes h⟩
    · exact ⟨_, _, Ev.now (Date_no c), Ev.now (rDate_no c), Ev.now (Season_no c), Ev.now (rSeason_no c)⟩
  have hW : ∃ r, calendar_Weekday.f n = some r := by
    unfold calendar_Weekday.f
    rw [is_at, Option.bind_some]
    split <;> exact ⟨_, rfl⟩
  obtain ⟨r, ⟨N1, h1⟩, ⟨N2, h2⟩⟩ := hD
  obtain ⟨s, t, ⟨N3, h3⟩, ⟨N4, h4⟩, ⟨N5, h5⟩, ⟨N6, h6⟩⟩ := hN
  obtain ⟨u, h7⟩ := hW
  have h8 : spileref04_Weekday.f n = some u := h7
  obtain ⟨K, hK⟩ : ∃ K, K = N1 + N2 + N3 + N4 + N5 + N6 := ⟨_, rfl⟩
  refine ⟨K, ?_⟩
  have a1 : calendar_Day.f K y0 m0 d0 = some r := h1 _ (by omega)
  have a2 : spileref04_Day.f K y0 m0 d0 = some r := h2 _ (by omega)
  have a3 : calendar_Date.f K n = some s := h3 _ (by omega)
  have a4 : spileref04_Date.f K n = some s := h4 _ (by omega)
  have a5 : calendar_Season.f K n = some t := h5 _ (by omega)
  have a6 : spileref04_Season.f K n = some t := h6 _ (by omega)
  unfold spilelaw04_CalendarConverts.f spilelaw04_awake.f
  rw [Option.bind_some, if_pos rfl, a3, Option.bind_some, a4, Option.bind_some, a1, Option.bind_some, a2, Option.bind_some, h7, Option.bind_some, h8, Option.bind_some, a5, Option.bind_some, a6, Option.bind_some]
  simp

end Go.Proofs.YtlhdkajflmpnbaaDoor.PF
namespace Go.Proofs.YtlhdkajflmpnbaaDoor
/-- The given statement. -/
theorem calendarConverts_holds : Rows.CalendarConvertsCardSaid := calendarConverts.card PF.CalendarConverts_pure
#print axioms calendarConverts_holds
end Go.Proofs.YtlhdkajflmpnbaaDoor
