/- The law CalendarLater of package spilelaw04 returns true for every input and leaves its arguments as they were; the library's table of powers of ten reads as the program's text lays it. -/
import Derived.Test.YtlhdkajflmpnbaaDoorLawCalendarLater
import Derived.Test.YtlhdkajflmpnbaaDoorMCal04
import Derived.Test.YtlhdkajflmpnbaaDoorMCal04b
import Derived.Test.YtlhdkajflmpnbaaDoorMCal04c
import Derived.Test.YtlhdkajflmpnbaaDoorMEv
import Derived.Test.YtlhdkajflmpnbaaDoorPF1
import Derived.Test.YtlhdkajflmpnbaaDoorPF15
import Derived.Test.YtlhdkajflmpnbaaDoorPF3
import Derived.Test.YtlhdkajflmpnbaaDoorPF5
import Derived.Test.YtlhdkajflmpnbaaDoorPF6
namespace Go.Proofs.YtlhdkajflmpnbaaDoor.PF
open Go.RowKit Go.Proofs.YtlhdkajflmpnbaaDoorW.PrintWords Go.Proofs.YtlhdkajflmpnbaaDoorW.PrintLast Go.Proofs.YtlhdkajflmpnbaaDoorW.PrintMore
set_option linter.unusedVariables false
set_option linter.unusedSimpArgs false
theorem Later_ok {n y m d k : Int} (h : isDt n y m d) (hk : -3600 ≤ k) (hk2 : k ≤ 3600) (h0 : 0 ≤ laterN y m d k) (h1 : laterN y m d k ≤ 100000) : Ev (fun f => calendar_Later.f f n k) (laterN y m d k, 0) := by
  have e : laterR (laterN y m d k) = (laterN y m d k, 0) := by unfold laterR; rw [if_pos ⟨h0, h1⟩]
  rw [← e]
  exact Later_yes h hk hk2
/-- The last test. -/
theorem later_j3 {n y m d k : Int} (h : isDt n y m d) (hk : -3600 ≤ k) (hk2 : k ≤ 3600) (h0 : 0 ≤ laterN y m 1 k) (h1 : laterN y m 1 k ≤ 100000) (f : Int) (b : Bool) (hb : b = false → -3600 ≤ f ∧ f ≤ 3600 ∧ -3600 ≤ k + f ∧ k + f ≤ 3600) :
    Ev (fun i => spilelaw04_CalendarLater.j3 i n k f (laterN y m 1 k) 0 b y m d) true := by
  cases b
  · obtain ⟨f0, f1, f2, f3⟩ := hb rfl
    have hF := h.first
    have hS := later_isDt hF h0 h1
    rw [show min 1 (lenM (lpN ((12 * y + m - 1 + k) / 12)) ((12 * y + m - 1 + k) % 12 + 1)) = 1 by have := lenM_bounds (m := (12 * y + m - 1 + k) % 12 + 1) (lpN_two ((12 * y + m - 1 + k) / 12)); omega] at hS
    obtain ⟨N1, g1⟩ := Later_yes hF (k := k + f) f2 f3
    obtain ⟨N2, g2⟩ := Later_yes hS (k := f) f0 f1
    have e : laterN ((12 * y + m - 1 + k) / 12) ((12 * y + m - 1 + k) % 12 + 1) 1 f = laterN y m 1 (k + f) := by
      rw [laterN_first, laterN_first, show 12 * ((12 * y + m - 1 + k) / 12) + ((12 * y + m - 1 + k) % 12 + 1) - 1 + f = 12 * y + m - 1 + (k + f) by omega]
    have hd := h.d_le
    have hn0 := h.2.2.2.1
    have hn1 := h.2.2.2.2
    refine ⟨N1 + N2 + 1, fun i hi => ?_⟩
    obtain ⟨i, rfl⟩ : ∃ j, i = j + 1 := ⟨i - 1, by omega⟩
    have a1 : calendar_Later.f i (n - d + 1) (k + f) = some _ := g1 i (by omega)
    have a2 : calendar_Later.f i (laterN y m 1 k) f = some _ := g2 i (by omega)
    rw [e] at a2
    dsimp only
    simp only [spilelaw04_CalendarLater.j3]
    rw [if_neg (by decide), w64_ (show -9223372036854775808 ≤ n - d by omega) (by omega), w64_ (show -9223372036854775808 ≤ n - d + 1 by omega) (by omega), w64_ (show -9223372036854775808 ≤ k + f by omega) (by omega), a1, Option.bind_some, a2, Option.bind_some]
    simp
  · refine Ev.ret (fun i => ?_)
    simp [spilelaw04_CalendarLater.j3]
theorem later_j2 {n y m d k : Int} (h : isDt n y m d) (hk : -3600 ≤ k) (hk2 : k ≤ 3600) (h0 : 0 ≤ laterN y m d k) (h1 : laterN y m d k ≤ 100000) (f : Int) (hw : -9223372036854775808 ≤ f ∧ f ≤ 9223372036854775807) :
    Ev (fun i => spilelaw04_CalendarLater.j2 i n k f false y m d) true := by
  have hF := h.first
  have hd := h.d_le
  have hn0 := h.2.2.2.1
  have hn1 := h.2.2.2.2
  have hS0 := later_isDt h h0 h1
  have hle : laterN y m 1 k ≤ laterN y m d k := laterN_mono hF h (by omega) k
  have hge : 0 ≤ laterN y m 1 k := by
    have hok := later_ok (t := 12 * y + m - 1 + k) (Int.le_refl 1)
    have a := hok.year
    have b0 := hS0.2.2.1
    have b := befY_le b0
    rw [befY_1900] at b
    unfold laterN
    omega
  obtain ⟨N1, g1⟩ := Later_ok hF hk hk2 hge (by omega)
  have hj : ∀ b : Bool, (b = false → -3600 ≤ f ∧ f ≤ 3600 ∧ -3600 ≤ k + f ∧ k + f ≤ 3600) → Ev (fun i => spilelaw04_CalendarLater.j3 i n k f (laterN y m 1 k) 0 b y m d) true :=
    fun b hb => later_j3 h hk hk2 hge (by omega) f b hb
  obtain ⟨N2, g2⟩ := hj true (fun h => by cases h)
  by_cases c : -3600 ≤ f ∧ f ≤ 3600
  · obtain ⟨N3, g3⟩ := hj (decide (k + f < -3600 ∨ k + f > 3600)) (fun hb => by have := of_decide_eq_false hb; omega)
    refine ⟨N1 + N2 + N3 + 1, fun i hi => ?_⟩
    obtain ⟨i, rfl⟩ : ∃ j, i = j + 1 := ⟨i - 1, by omega⟩
    have a1 : calendar_Later.f i (n - d + 1) k = some _ := g1 i (by omega)
    have a2 : spilelaw04_CalendarLater.j3 i n k f (laterN y m 1 k) 0 true y m d = some true := g2 i (by omega)
    have a3 : spilelaw04_CalendarLater.j3 i n k f (laterN y m 1 k) 0 (decide (k + f < -3600 ∨ k + f > 3600)) y m d = some true := g3 i (by omega)
    dsimp only
    simp only [spilelaw04_CalendarLater.j2]
    rw [if_neg (by decide), w64_ (show -9223372036854775808 ≤ n - d by omega) (by omega), w64_ (show -9223372036854775808 ≤ n - d + 1 by omega) (by omega), w64_ (show -9223372036854775808 ≤ k + f by omega) (by omega), a1, Option.bind_some]
    dsimp only
    rw [if_pos (by trivial), if_neg (by omega), if_neg (by omega)]
    by_cases c2 : k + f < -3600
    · rw [if_pos c2]; exact a2
    · rw [if_neg c2, show decide (k + f > 3600) = decide (k + f < -3600 ∨ k + f > 3600) by rw [decide_eq_decide]; omega]
      exact a3
  · refine ⟨N1 + N2 + 1, fun i hi => ?_⟩
    obtain ⟨i, rfl⟩ : ∃ j, i = j + 1 := ⟨i - 1, by omega⟩
    have a1 : calendar_Later.f i (n - d + 1) k = some _ := g1 i (by omega)
    have a2 : spilelaw04_CalendarLater.j3 i n k f (laterN y m 1 k) 0 true y m d = some true := g2 i (by omega)
    dsimp only
    simp only [spilelaw04_CalendarLater.j2]
    rw [if_neg (by decide), w64_ (show -9223372036854775808 ≤ n - d by omega) (by omega), w64_ (show -9223372036854775808 ≤ n - d + 1 by omega) (by omega), a1, Option.bind_some]
    dsimp only
    rw [if_pos (by trivial)]
    by_cases c2 : f < -3600
    · rw [if_pos c2]; exact a2
    · rw [if_neg c2, if_pos (by omega)]; exact a2
theorem later_j1 {n y m d k : Int} (h : isDt n y m d) (hk : -3600 ≤ k) (hk2 : k ≤ 3600) (h0 : 0 ≤ laterN y m d k) (h1 : laterN y m d k ≤ 100000) (f : Int) (hw : -9223372036854775808 ≤ f ∧ f ≤ 9223372036854775807) :
    Ev (fun i => spilelaw04_CalendarLater.j1 i n k f (laterN y m d k)) true := by
  have hS := later_isDt h h0 h1
  have hy := h.y_le
  have hy0 := h.2.2.1
  have hm1 := h.1.1
  have hm2 := h.1.2.1
  obtain ⟨N1, g1⟩ := Date_yes h
  obtain ⟨N2, g2⟩ := Date_yes hS
  obtain ⟨N3, g3⟩ := later_j2 h hk hk2 h0 h1 f hw
  refine ⟨N1 + N2 + N3 + 1, fun i hi => ?_⟩
  obtain ⟨i, rfl⟩ : ∃ j, i = j + 1 := ⟨i - 1, by omega⟩
  have a1 : calendar_Date.f i n = some _ := g1 i (by omega)
  have a2 : calendar_Date.f i (laterN y m d k) = some _ := g2 i (by omega)
  have a3 : spilelaw04_CalendarLater.j2 i n k f false y m d = some true := g3 i (by omega)
  dsimp only
  simp only [spilelaw04_CalendarLater.j1]
  rw [a1, Option.bind_some, a2, Option.bind_some]
  dsimp only
  rw [if_pos (by trivial), if_pos rfl, w64_ (show -9223372036854775808 ≤ 12 * ((12 * y + m - 1 + k) / 12) by omega) (by omega), w64_ (show -9223372036854775808 ≤ 12 * ((12 * y + m - 1 + k) / 12) + ((12 * y + m - 1 + k) % 12 + 1) by omega) (by omega),
    w64_ (show -9223372036854775808 ≤ 12 * y by omega) (by omega), w64_ (show -9223372036854775808 ≤ 12 * y + m by omega) (by omega), w64_ (show -9223372036854775808 ≤ 12 * y + m + k by omega) (by omega), if_pos (by omega), decide_eq_false (by omega)]
  exact a3
theorem CalendarLater_pure : Go.Proofs.YtlhdkajflmpnbaaDoor.calendarLater.Pure := by
  intro n x k f _ hx _ hf
  have hf' := YtlhdkajflmpnbaaDoorR.wf_i64_ hf
  show ∃ i, spilelaw04_CalendarLater.f i n x k f = some true
  by_cases c : 0 ≤ n ∧ n ≤ 100000 ∧ -3600 ≤ k ∧ k ≤ 3600
  · obtain ⟨y, m, d, h⟩ := exists_dt c.1 c.2.1
    by_cases hr : 0 ≤ laterN y m d k ∧ laterN y m d k ≤ 100000
    · obtain ⟨N1, g1⟩ := Later_ok h c.2.2.1 c.2.2.2 hr.1 hr.2
      obtain ⟨N2, g2⟩ := later_j1 h c.2.2.1 c.2.2.2 hr.1 hr.2 f hf'
      have hj : ∀ b : Bool, (b = true → 0 ≤ x ∧ x ≤ 100000) → Ev (fun i => spilelaw04_CalendarLater.j0 i n x k f (laterN y m d k) b) true := by
        intro b hb
        cases b
        · refine ⟨N2 + 1, fun i hi => ?_⟩
          obtain ⟨i, rfl⟩ : ∃ j, i = j + 1 := ⟨i - 1, by omega⟩
          dsimp only
          simp only [spilelaw04_CalendarLater.j0]
          rw [if_neg (by decide)]
          exact g2 i (by omega)
        · obtain ⟨x0, x1⟩ := hb rfl
          by_cases c2 : n + x ≤ 100000
          · obtain ⟨y', m', d', h'⟩ := exists_dt (n := n + x) (by omega) c2
            obtain ⟨N3, g3⟩ := Later_yes h' c.2.2.1 c.2.2.2
            have hmono := laterN_mono h h' (by omega) k
            refine ⟨N2 + N3 + 1, fun i hi => ?_⟩
            obtain ⟨i, rfl⟩ : ∃ j, i = j + 1 := ⟨i - 1, by omega⟩
            have a3 : calendar_Later.f i (n + x) k = some _ := g3 i (by omega)
            have a2 : spilelaw04_CalendarLater.j1 i n k f (laterN y m d k) = some true := g2 i (by omega)
            dsimp only
            simp only [spilelaw04_CalendarLater.j0]
            rw [if_pos trivial, w64_ (show -9223372036854775808 ≤ n + x by omega) (by omega), a3, Option.bind_some]
            unfold laterR
            by_cases c3 : 0 ≤ laterN y' m' d' k ∧ laterN y' m' d' k ≤ 100000
            · rw [if_pos c3]
              dsimp only
              rw [if_pos (by trivial), if_neg (by omega)]
              exact a2
            · rw [if_neg c3]
              simp only
              rw [if_neg (by decide)]
              exact a2
          · obtain ⟨N3, g3⟩ := Later_no (n := n + x) (k := k) (by omega)
            refine ⟨N2 + N3 + 1, fun i hi => ?_⟩
            obtain ⟨i, rfl⟩ : ∃ j, i = j + 1 := ⟨i - 1, by omega⟩
            have a3 : calendar_Later.f i (n + x) k = some _ := g3 i (by omega)
            have a2 : spilelaw04_CalendarLater.j1 i n k f (laterN y m d k) = some true := g2 i (by omega)
            dsimp only
            simp only [spilelaw04_CalendarLater.j0]
            rw [if_pos trivial, w64_ (show -9223372036854775808 ≤ n + x by omega) (by omega), a3, Option.bind_some]
            simp only
            rw [if_neg (by decide)]
            exact a2
      obtain ⟨N3, g3⟩ := hj (decide (0 ≤ x ∧ x ≤ 100000)) (fun hb => of_decide_eq_true hb)
      refine ⟨N1 + N3, ?_⟩
      have a1 : calendar_Later.f (N1 + N3) n k = some _ := g1 _ (by omega)
      have a3 : spilelaw04_CalendarLater.j0 (N1 + N3) n x k f (laterN y m d k) (decide (0 ≤ x ∧ x ≤ 100000)) = some true := g3 _ (by omega)
      unfold spilelaw04_CalendarLater.f spilelaw04_awake.f
      rw [Option.bind_some, if_pos rfl, a1, Option.bind_some]
      dsimp only
      rw [if_pos (by trivial)]
      by_cases c3 : x ≥ 0
      · rw [if_pos c3, show decide (x ≤ 100000) = decide (0 ≤ x ∧ x ≤ 100000) by rw [decide_eq_decide]; omega]
        exact a3
      · rw [if_neg c3, show false = decide (0 ≤ x ∧ x ≤ 100000) by rw [decide_eq_false (by omega)]]
        exact a3
    · obtain ⟨N1, g1⟩ := Later_yes h c.2.2.1 c.2.2.2
      refine ⟨N1, ?_⟩
      have a1 : calendar_Later.f N1 n k = some (laterR (laterN y m d k)) := g1 _ (by omega)
      have e : laterR (laterN y m d k) = (0, 15) := by unfold laterR; rw [if_neg hr]
      rw [e] at a1
      unfold spilelaw04_CalendarLater.f spilelaw04_awake.f
      rw [Option.bind_some, if_pos rfl, a1, Option.bind_some]
      simp
  · obtain ⟨N1, g1⟩ := Later_no (n := n) (k := k) (by omega)
    refine ⟨N1, ?_⟩
    have a1 : calendar_Later.f N1 n k = some _ := g1 _ (by omega)
    unfold spilelaw04_CalendarLater.f spilelaw04_awake.f
    rw [Option.bind_some, if_pos rfl, a1, Option.bind_some]
    simp

end Go.Proofs.YtlhdkajflmpnbaaDoor.PF
namespace Go.Proofs.YtlhdkajflmpnbaaDoor
/-- The given statement. -/
theorem calendarLater_holds : Rows.CalendarLaterCardSaid := calendarLater.card PF.CalendarLater_pure
#print axioms calendarLater_holds
end Go.Proofs.YtlhdkajflmpnbaaDoor
