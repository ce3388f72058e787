/- The law CalendarYears of package spilelaw04 returns true for every input and leaves its arguments as they were; the library's table of powers of ten reads as the program's text lays it. -/
import Derived.Test.YtlhdkajflmpnbaaDoorLawCalendarYears
import Derived.Test.YtlhdkajflmpnbaaDoorMCal04
import Derived.Test.YtlhdkajflmpnbaaDoorMCal04b
import Derived.Test.YtlhdkajflmpnbaaDoorMCal04c
import Derived.Test.YtlhdkajflmpnbaaDoorMEv
import Derived.Test.YtlhdkajflmpnbaaDoorPF1
import Derived.Test.YtlhdkajflmpnbaaDoorPF16
import Derived.Test.YtlhdkajflmpnbaaDoorPF3
import Derived.Test.YtlhdkajflmpnbaaDoorPF5
import Derived.Test.YtlhdkajflmpnbaaDoorPF6
namespace Go.Proofs.YtlhdkajflmpnbaaDoor.PF
open Go.RowKit Go.Proofs.YtlhdkajflmpnbaaDoorW.PrintWords Go.Proofs.YtlhdkajflmpnbaaDoorW.PrintLast Go.Proofs.YtlhdkajflmpnbaaDoorW.PrintMore
set_option linter.unusedVariables false
set_option linter.unusedSimpArgs false
theorem CalendarYears_pure : Go.Proofs.YtlhdkajflmpnbaaDoor.calendarYears.Pure := by
  intro n n' x _ _ hx
  have hx' := YtlhdkajflmpnbaaDoorR.wf_i64_ hx
  show ∃ i, spilelaw04_CalendarYears.f i n n' x = some true
  have hbad : ∀ r : Int, r ≠ 0 → Ev (fun k => calendar_Years.f k n n') (0, r) → ∃ i, spilelaw04_CalendarYears.f i n n' x = some true := by
    rintro r hr ⟨N1, g1⟩
    refine ⟨N1, ?_⟩
    have a1 : calendar_Years.f N1 n n' = some _ := g1 _ (by omega)
    unfold spilelaw04_CalendarYears.f spilelaw04_awake.f
    rw [Option.bind_some, if_pos rfl, a1, Option.bind_some]
    simp only
    rw [if_neg hr]
    rfl
  by_cases c : 0 ≤ n ∧ n ≤ 100000
  · by_cases c' : 0 ≤ n' ∧ n' ≤ 100000
    · rcases Int.lt_or_le n' n with ho | ho
      · exact hbad 5 (by decide) (Years_order c c' ho).1
      · obtain ⟨y, m, d, h⟩ := exists_dt c.1 c.2
        obtain ⟨y', m', d', h'⟩ := exists_dt c'.1 c'.2
        have hY0 := yearN_nonneg h h' ho
        have hY1 := yearN_le h h' ho
        have hi := years_iff h h' ho hY0
        have hi1 := years_iff h h' ho (j := yearN y m d y' n' + 1) (by omega)
        obtain ⟨Y, hYe⟩ : ∃ Y, Y = yearN y m d y' n' := ⟨_, rfl⟩
        rw [← hYe] at hY0 hY1 hi hi1
        have hL1 : laterN y m d (12 * Y) ≤ n' := hi.2 (Int.le_refl _)
        have hL0 : 0 ≤ laterN y m d (12 * Y) := by
          rw [laterN_years y m d Y h.1.1 h.1.2.1]
          have hb := lenM_bounds (m := m) (lpN_two (y + Y))
          have hok : okD (y + Y) m (min d (lenM (lpN (y + Y)) m)) := by have h1 := h.1.1; have h2 := h.1.2.1; have h3 := h.d_le; unfold okD; omega
          have := hok.year
          have hy0 := h.2.2.1
          have := befY_le (show 1900 ≤ y + Y by omega)
          rw [befY_1900] at this
          omega
        have hL2 : n' < laterN y m d (12 * (Y + 1)) := by
          rcases Int.lt_or_le n' (laterN y m d (12 * (Y + 1))) with q | q
          · exact q
          · have := hi1.1 q; omega
        obtain ⟨N1, g1⟩ := Years_yes h h' ho
        rw [← hYe] at g1
        obtain ⟨N2, g2⟩ := Later_yes h (k := 12 * Y) (by omega) (by omega)
        obtain ⟨N3, g3⟩ := Later_yes h (k := 12 * (Y + 1)) (by omega) (by omega)
        have hj1 : Ev (fun i => spilelaw04_CalendarYears.j1 i n n' x Y false) true := by
          by_cases c2 : 0 ≤ x ∧ x ≤ 100000
          · have hz : ∃ r : Int × Int, Ev (fun k => calendar_Years.f k n (n' + x)) r ∧ (r.2 = 0 → Y ≤ r.1) := by
              by_cases c3 : n' + x ≤ 100000
              · obtain ⟨y2, m2, d2, h2⟩ := exists_dt (n := n' + x) (by omega) c3
                refine ⟨_, Years_yes h h2 (by omega), fun _ => ?_⟩
                exact (years_iff h h2 (by omega) hY0).1 (by omega)
              · exact ⟨_, (Years_no (Or.inr (by omega))).1, fun e => by cases e⟩
            obtain ⟨⟨r1, r2⟩, ⟨N4, g4⟩, hr⟩ := hz
            refine ⟨N4 + 1, fun i hi => ?_⟩
            obtain ⟨i, rfl⟩ : ∃ j, i = j + 1 := ⟨i - 1, by omega⟩
            have a4 : calendar_Years.f i n (n' + x) = some _ := g4 i (by omega)
            dsimp only
            simp only [spilelaw04_CalendarYears.j1]
            rw [if_neg (by decide), if_neg (by omega), if_neg (by omega), w64_ (show -9223372036854775808 ≤ n' + x by omega) (by omega), a4, Option.bind_some]
            simp only at hr ⊢
            by_cases c4 : r2 = 0
            · rw [if_pos c4, decide_eq_true (hr c4)]
            · rw [if_neg c4]
          · refine Ev.ret (fun i => ?_)
            simp only [spilelaw04_CalendarYears.j1]
            rw [if_neg (by decide)]
            by_cases c3 : x < 0
            · rw [if_pos c3]
            · rw [if_neg c3, if_pos (by omega)]
        obtain ⟨N4, g4⟩ := hj1
        have hj0 : Ev (fun i => spilelaw04_CalendarYears.j0 i n n' x Y false) true := by
          refine ⟨N2 + N3 + N4 + 1, fun i hi => ?_⟩
          obtain ⟨i, rfl⟩ : ∃ j, i = j + 1 := ⟨i - 1, by omega⟩
          have a2 : calendar_Later.f i n (12 * Y) = some _ := g2 i (by omega)
          have a3 : calendar_Later.f i n (12 * (Y + 1)) = some _ := g3 i (by omega)
          have a4 : spilelaw04_CalendarYears.j1 i n n' x Y false = some true := g4 i (by omega)
          have e2 : laterR (laterN y m d (12 * Y)) = (laterN y m d (12 * Y), 0) := by unfold laterR; rw [if_pos ⟨hL0, by omega⟩]
          rw [e2] at a2
          dsimp only
          simp only [spilelaw04_CalendarYears.j0]
          rw [if_neg (by decide), w64_ (show -9223372036854775808 ≤ 12 * Y by omega) (by omega), w64_ (show -9223372036854775808 ≤ Y + 1 by omega) (by omega), w64_ (show -9223372036854775808 ≤ 12 * (Y + 1) by omega) (by omega), a2, Option.bind_some, a3, Option.bind_some]
          dsimp only
          rw [if_pos (by trivial), if_neg (by omega)]
          unfold laterR
          by_cases c3 : 0 ≤ laterN y m d (12 * (Y + 1)) ∧ laterN y m d (12 * (Y + 1)) ≤ 100000
          · rw [if_pos c3]
            dsimp only
            rw [if_pos (by trivial), decide_eq_false (by omega)]
            exact a4
          · rw [if_neg c3]
            simp only
            rw [if_neg (by decide)]
            exact a4
        obtain ⟨N5, g5⟩ := hj0
        refine ⟨N1 + N5, ?_⟩
        have a1 : calendar_Years.f (N1 + N5) n n' = some _ := g1 _ (by omega)
        have a5 : spilelaw04_CalendarYears.j0 (N1 + N5) n n' x Y false = some true := g5 _ (by omega)
        unfold spilelaw04_CalendarYears.f spilelaw04_awake.f
        rw [Option.bind_some, if_pos rfl, a1, Option.bind_some]
        dsimp only
        rw [if_pos (by trivial), if_neg (by omega), decide_eq_false (by omega)]
        exact a5
    · exact hbad 2 (by decide) (Years_no (Or.inr c')).1
  · exact hbad 2 (by decide) (Years_no (Or.inl c)).1

end Go.Proofs.YtlhdkajflmpnbaaDoor.PF
namespace Go.Proofs.YtlhdkajflmpnbaaDoor
/-- The given statement. -/
theorem calendarYears_holds : Rows.CalendarYearsCardSaid := calendarYears.card PF.CalendarYears_pure
#print axioms calendarYears_holds
end Go.Proofs.YtlhdkajflmpnbaaDoor
