/- The law CalendarCounts of package spilelaw04 returns true for every input and leaves its arguments as they were; the library's table of powers of ten reads as the program's text lays it. -/
import Derived.Test.YtlhdkajflmpnbaaDoorLawCalendarCounts
import Derived.Test.YtlhdkajflmpnbaaDoorMCal04
import Derived.Test.YtlhdkajflmpnbaaDoorMCal04b
import Derived.Test.YtlhdkajflmpnbaaDoorMCal04c
import Derived.Test.YtlhdkajflmpnbaaDoorMEv
import Derived.Test.YtlhdkajflmpnbaaDoorPF11
import Derived.Test.YtlhdkajflmpnbaaDoorPF5
import Derived.Test.YtlhdkajflmpnbaaDoorPF6
namespace Go.Proofs.YtlhdkajflmpnbaaDoor.PF
open Go.RowKit Go.Proofs.YtlhdkajflmpnbaaDoorW.PrintWords Go.Proofs.YtlhdkajflmpnbaaDoorW.PrintLast Go.Proofs.YtlhdkajflmpnbaaDoorW.PrintMore
set_option linter.unusedVariables false
set_option linter.unusedSimpArgs false
theorem CalendarCounts_pure : Go.Proofs.YtlhdkajflmpnbaaDoor.calendarCounts.Pure := by
  intro n a n' _ _ _
  show ∃ k, spilelaw04_CalendarCounts.f k n a n' = some true
  have hL : ∃ r, Ev (fun k => calendar_Later.f k n a) r ∧ Ev (fun k => spileref04_Later.f k n a) r := by
    by_cases c : 0 ≤ n ∧ n ≤ 100000 ∧ -3600 ≤ a ∧ a ≤ 3600
    · obtain ⟨y, m, d, h⟩ := exists_dt c.1 c.2.1
      exact ⟨_, Later_yes h c.2.2.1 c.2.2.2, rLater_yes h c.2.2.1 c.2.2.2⟩
    · exact ⟨_, Later_no (by omega), rLater_no (by omega)⟩
  have hY : ∃ r, Ev (fun k => calendar_Years.f k n n') r ∧ Ev (fun k => spileref04_Years.f k n n') r := by
    by_cases c : 0 ≤ n ∧ n ≤ 100000
    · by_cases c' : 0 ≤ n' ∧ n' ≤ 100000
      · rcases Int.lt_or_le n' n with h | h
        · exact ⟨_, Years_order c c' h⟩
        · obtain ⟨y, m, d, hd⟩ := exists_dt c.1 c.2
          obtain ⟨y', m', d', hd'⟩ := exists_dt c'.1 c'.2
          exact ⟨_, Years_yes hd hd' h, rYears_yes hd hd' h⟩
      · exact ⟨_, Years_no (Or.inr c')⟩
    · exact ⟨_, Years_no (Or.inl c)⟩
  obtain ⟨r, ⟨N1, h1⟩, ⟨N2, h2⟩⟩ := hL
  obtain ⟨s, ⟨N3, h3⟩, ⟨N4, h4⟩⟩ := hY
  refine ⟨N1 + N2 + N3 + N4, ?_⟩
  have a1 : calendar_Later.f (N1 + N2 + N3 + N4) n a = some r := h1 _ (by omega)
  have a2 : spileref04_Later.f (N1 + N2 + N3 + N4) n a = some r := h2 _ (by omega)
  have a3 : calendar_Years.f (N1 + N2 + N3 + N4) n n' = some s := h3 _ (by omega)
  have a4 : spileref04_Years.f (N1 + N2 + N3 + N4) n n' = some s := h4 _ (by omega)
  unfold spilelaw04_CalendarCounts.f spilelaw04_awake.f
  rw [Option.bind_some, if_pos rfl, a1, Option.bind_some, a2, Option.bind_some, a3, Option.bind_some, a4, Option.bind_some]
  simp

end Go.Proofs.YtlhdkajflmpnbaaDoor.PF
namespace Go.Proofs.YtlhdkajflmpnbaaDoor
/-- The given statement. -/
theorem calendarCounts_holds : Rows.CalendarCountsCardSaid := calendarCounts.card PF.CalendarCounts_pure
#print axioms calendarCounts_holds
end Go.Proofs.YtlhdkajflmpnbaaDoor
