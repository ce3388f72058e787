/- The law CalendarFollows of package spilelaw04 returns true for every input and leaves its arguments as they were; the library's table of powers of ten reads as the program's text lays it. -/
import Derived.Test.YtlhdkajflmpnbaaDoorLawCalendarFollows
import Derived.Test.YtlhdkajflmpnbaaDoorMCal04
import Derived.Test.YtlhdkajflmpnbaaDoorMCal04b
import Derived.Test.YtlhdkajflmpnbaaDoorPF1
import Derived.Test.YtlhdkajflmpnbaaDoorPF13
import Derived.Test.YtlhdkajflmpnbaaDoorPF3
import Derived.Test.YtlhdkajflmpnbaaDoorPF4
import Derived.Test.YtlhdkajflmpnbaaDoorPF6
namespace Go.Proofs.YtlhdkajflmpnbaaDoor.PF
open Go.RowKit Go.Proofs.YtlhdkajflmpnbaaDoorW.PrintWords Go.Proofs.YtlhdkajflmpnbaaDoorW.PrintLast Go.Proofs.YtlhdkajflmpnbaaDoorW.PrintMore
set_option linter.unusedVariables false
set_option linter.unusedSimpArgs false
theorem CalendarFollows_pure : Go.Proofs.YtlhdkajflmpnbaaDoor.calendarFollows.Pure := by
  intro n _
  show ∃ k, spilelaw04_CalendarFollows.f k n = some true
  by_cases hn : 0 ≤ n ∧ n ≤ 100000
  · obtain ⟨y, m, d, h⟩ := exists_dt hn.1 hn.2
    have hy := h.y_le
    have hd := h.d_le
    have hy0 := h.2.2.1
    have hm1 := h.1.1
    have hm2 := h.1.2.1
    obtain ⟨N1, h1⟩ := Date_yes h
    obtain ⟨N2, h2⟩ := Day_yes h
    have hj : ∃ N, ∀ k, N ≤ k → spilelaw04_CalendarFollows.j0 (k + 1) n false y m d = some true := by
      by_cases hl : n < 100000
      · have hnx := h.next hl
        have hw1 : wrap64 (n + 1) = n + 1 := w64_ (by omega) (by omega)
        have hw2 : wrap64 (d + 1) = d + 1 := w64_ (by omega) (by omega)
        have hw3 : wrap64 (m + 1) = m + 1 := w64_ (by omega) (by omega)
        have hw4 : wrap64 (y + 1) = y + 1 := w64_ (by omega) (by omega)
        have hb := lenM_bounds (m := m) (lpN_two y)
        rcases hnx with ⟨hd2, hx⟩ | ⟨hd2, hm, hx⟩ | ⟨hd2, hm, hx⟩
        · obtain ⟨N3, h3⟩ := Date_yes hx
          refine ⟨N3, fun k hk => ?_⟩
          have a : calendar_Date.f k (n + 1) = some (y, m, d + 1, 0) := h3 k hk
          simp only [spilelaw04_CalendarFollows.j0]
          rw [if_neg (by decide), hw1, a, Option.bind_some, hw2]
          simp
          omega
        · obtain ⟨N3, h3⟩ := Date_yes hx
          refine ⟨N3, fun k hk => ?_⟩
          have a : calendar_Date.f k (n + 1) = some (y, m + 1, 1, 0) := h3 k hk
          simp only [spilelaw04_CalendarFollows.j0]
          rw [if_neg (by decide), hw1, a, Option.bind_some, hw2, hw3]
          simp
          rw [if_neg (by omega), if_pos (by omega), decide_eq_true hm]
        · obtain ⟨N3, h3⟩ := Date_yes hx
          refine ⟨N3, fun k hk => ?_⟩
          have a : calendar_Date.f k (n + 1) = some (y + 1, 1, 1, 0) := h3 k hk
          simp only [spilelaw04_CalendarFollows.j0]
          rw [if_neg (by decide), hw1, a, Option.bind_some, hw2, hw3, hw4, hd2, hm]
          simp
      · obtain rfl : n = 100000 := by omega
        refine ⟨0, fun k _ => ?_⟩
        simp only [spilelaw04_CalendarFollows.j0]
        rw [if_neg (by decide), w64_ (show -9223372036854775808 ≤ (100000 : Int) + 1 by omega) (by omega), Date_no (by omega), Option.bind_some]
        simp
    obtain ⟨N3, h3⟩ := hj
    refine ⟨N1 + N2 + N3 + 1, ?_⟩
    have a1 : calendar_Date.f (N1 + N2 + N3 + 1) n = some (y, m, d, 0) := h1 _ (by omega)
    have a2 : calendar_Day.f (N1 + N2 + N3 + 1) y m d = some (n, 0) := h2 _ (by omega)
    unfold spilelaw04_CalendarFollows.f spilelaw04_awake.f
    rw [Option.bind_some, if_pos rfl, a1, Option.bind_some]
    dsimp only
    rw [if_pos (by trivial), a2, Option.bind_some]
    dsimp only
    rw [if_pos (by trivial), show (n != n) = false by simp]
    exact h3 _ (by omega)
  · refine ⟨0, ?_⟩
    unfold spilelaw04_CalendarFollows.f spilelaw04_awake.f
    rw [Option.bind_some, if_pos rfl, Date_no hn, Option.bind_some]
    simp
    omega

end Go.Proofs.YtlhdkajflmpnbaaDoor.PF
namespace Go.Proofs.YtlhdkajflmpnbaaDoor
/-- The given statement. -/
theorem calendarFollows_holds : Rows.CalendarFollowsCardSaid := calendarFollows.card PF.CalendarFollows_pure
#print axioms calendarFollows_holds
end Go.Proofs.YtlhdkajflmpnbaaDoor
