/- Years, and how later days follow each other. -/
import Derived.Test.YtlhdkajflmpnbaaDoorMCal04
import Derived.Test.YtlhdkajflmpnbaaDoorMCal04b
import Derived.Test.YtlhdkajflmpnbaaDoorMEv
import Derived.Test.YtlhdkajflmpnbaaDoorPF1
import Derived.Test.YtlhdkajflmpnbaaDoorPF11
import Derived.Test.YtlhdkajflmpnbaaDoorPF3
import Derived.Test.YtlhdkajflmpnbaaDoorPF5
namespace Go.Proofs.YtlhdkajflmpnbaaDoor.PF
open Go.RowKit Go.Proofs.YtlhdkajflmpnbaaDoorW.PrintWords Go.Proofs.YtlhdkajflmpnbaaDoorW.PrintLast Go.Proofs.YtlhdkajflmpnbaaDoorW.PrintMore
set_option linter.unusedVariables false
set_option linter.unusedSimpArgs false
theorem laterN_years (y m d j : Int) (h1 : 1 ≤ m) (h2 : m ≤ 12) : laterN y m d (12 * j) = dayN (y + j) m (min d (lenM (lpN (y + j)) m)) := by
  unfold laterN
  rw [show (12 * y + m - 1 + 12 * j) / 12 = y + j by omega, show (12 * y + m - 1 + 12 * j) % 12 + 1 = m by omega]
theorem isDt.year_le {n y m d n' y' m' d' : Int} (h : isDt n y m d) (h' : isDt n' y' m' d') (hn : n ≤ n') : y ≤ y' := by
  have a := h.1.year
  have b := h'.1.year
  have e := h.2.1
  have e' := h'.2.1
  rcases Int.lt_or_le y' y with c | c
  · have := befY_le (show y' + 1 ≤ y by omega)
    omega
  · exact c
/-- The full years. -/
def yearN (fy fm fd ty n : Int) : Int := if laterN fy fm fd (12 * (ty - fy)) > n then ty - fy - 1 else ty - fy
theorem years_iff {n y m d n' y' m' d' : Int} (h : isDt n y m d) (h' : isDt n' y' m' d') (hn : n ≤ n') {j : Int} (hj : 0 ≤ j) : laterN y m d (12 * j) ≤ n' ↔ j ≤ yearN y m d y' n' := by
  have hy := h.year_le h' hn
  have hb' := h'.1.year
  have e' := h'.2.1
  have hok : okD (y + j) m (min d (lenM (lpN (y + j)) m)) := by
    have := lenM_bounds (m := m) (lpN_two (y + j))
    have h1 := h.1.1
    have h2 := h.1.2.1
    have h3 := h.d_le
    unfold okD
    omega
  have hk := hok.year
  have el := laterN_years y m d j h.1.1 h.1.2.1
  unfold yearN
  rcases Int.lt_trichotomy j (y' - y) with c | c | c
  · have := befY_le (show y + j + 1 ≤ y' by omega)
    rw [el]
    constructor
    · intro _; split <;> omega
    · intro _; omega
  · rw [← c]
    split
    · constructor
      · intro _; omega
      · intro _; omega
    · constructor
      · intro _; omega
      · intro _; omega
  · have := befY_le (show y' + 1 ≤ y + j by omega)
    rw [el]
    constructor
    · intro _; omega
    · intro hh; split at hh <;> omega
theorem later_zero {n y m d : Int} (h : isDt n y m d) : laterN y m d 0 = n := by
  have e := laterN_years y m d 0 h.1.1 h.1.2.1
  rw [show (12 : Int) * 0 = 0 by rfl, Int.add_zero] at e
  rw [e, ← h.2.1, show min d (lenM (lpN y) m) = d by have := h.1.2.2.2; omega]
theorem yearN_nonneg {n y m d n' y' m' d' : Int} (h : isDt n y m d) (h' : isDt n' y' m' d') (hn : n ≤ n') : 0 ≤ yearN y m d y' n' := by
  rw [← years_iff h h' hn (Int.le_refl 0), show (12 : Int) * 0 = 0 by rfl, later_zero h]
  exact hn
theorem yearN_le {n y m d n' y' m' d' : Int} (h : isDt n y m d) (h' : isDt n' y' m' d') (hn : n ≤ n') : yearN y m d y' n' ≤ 273 := by
  have a := h.2.2.1
  have b := h'.y_le
  unfold yearN
  split <;> omega
theorem Years_yes {n y m d n' y' m' d' : Int} (h : isDt n y m d) (h' : isDt n' y' m' d') (hn : n ≤ n') : Ev (fun k => calendar_Years.f k n n') (yearN y m d y' n', 0) := by
  have hy := h.year_le h' hn
  have a := h.2.2.1
  have b := h'.y_le
  obtain ⟨N, hN⟩ := date_ev h
  obtain ⟨M, hM⟩ := date_ev h'
  obtain ⟨P, hP⟩ := later_ev h (k := 12 * (y' - y)) (by omega) (by omega)
  refine ⟨N + M + P + 1, fun k hk => ?_⟩
  obtain ⟨k, rfl⟩ : ∃ j, k = j + 1 := ⟨k - 1, by omega⟩
  have a1 : calendar_date.f k n = some (y, m, d) := hN k (by omega)
  have a2 : calendar_date.f k n' = some (y', m', d') := hM k (by omega)
  have a3 : calendar_later.f k n (12 * (y' - y)) = some _ := hP k (by omega)
  show calendar_Years.f (k + 1) n n' = _
  unfold calendar_Years.f
  rw [is_yes h.2.2.2.1 h.2.2.2.2, Option.bind_some, if_pos rfl, is_yes h'.2.2.2.1 h'.2.2.2.2, Option.bind_some]
  simp only [calendar_Years.j0]
  rw [if_neg (by decide), if_neg (by omega), a2, Option.bind_some, a1, Option.bind_some]
  simp only
  rw [w64_ (show -9223372036854775808 ≤ y' - y by omega) (by omega), w64_ (show -9223372036854775808 ≤ 12 * (y' - y) by omega) (by omega), a3, Option.bind_some]
  unfold yearN
  split
  · rw [w64_ (by omega) (by omega)]
  · rfl
theorem rYears_yes {n y m d n' y' m' d' : Int} (h : isDt n y m d) (h' : isDt n' y' m' d') (hn : n ≤ n') : Ev (fun k => spileref04_Years.f k n n') (yearN y m d y' n', 0) := by
  have hY0 := yearN_nonneg h h' hn
  have hY1 := yearN_le h h' hn
  have key : ∀ (j : Nat) (x : Int), 0 ≤ x → x + j = yearN y m d y' n' → Ev (fun k => spileref04_Years.l0 k n n' x) (yearN y m d y' n', 0) := by
    intro j
    induction j with
    | zero =>
      intro x hx e
      obtain rfl : x = yearN y m d y' n' := by omega
      obtain ⟨P, hP⟩ := rlater_ev h (k := 12 * (yearN y m d y' n' + 1)) (by omega) (by omega)
      have hi := years_iff h h' hn (j := yearN y m d y' n' + 1) (by omega)
      refine ⟨P + 1, fun k hk => ?_⟩
      obtain ⟨k, rfl⟩ : ∃ j, k = j + 1 := ⟨k - 1, by omega⟩
      have a3 : spileref04_later.f k n (12 * (yearN y m d y' n' + 1)) = some _ := hP k (by omega)
      have hm := h.1.1
      have hy := h.2.2.1
      unfold laterQ at a3
      rw [if_neg (by omega)] at a3
      dsimp only
      simp only [spileref04_Years.l0]
      rw [w64_ (show -9223372036854775808 ≤ yearN y m d y' n' + 1 by omega) (by omega), w64_ (by omega) (by omega), a3, Option.bind_some, if_neg (by omega)]
    | succ j ih =>
      intro x hx e
      obtain ⟨P, hP⟩ := rlater_ev h (k := 12 * (x + 1)) (by omega) (by omega)
      obtain ⟨M, hM⟩ := ih (x + 1) (by omega) (by omega)
      have hi := years_iff h h' hn (j := x + 1) (by omega)
      refine ⟨P + M + 1, fun k hk => ?_⟩
      obtain ⟨k, rfl⟩ : ∃ j, k = j + 1 := ⟨k - 1, by omega⟩
      have a3 : spileref04_later.f k n (12 * (x + 1)) = some _ := hP k (by omega)
      have a4 : spileref04_Years.l0 k n n' (x + 1) = some _ := hM k (by omega)
      have hm := h.1.1
      have hy := h.2.2.1
      unfold laterQ at a3
      rw [if_neg (by omega)] at a3
      dsimp only
      simp only [spileref04_Years.l0]
      rw [w64_ (show -9223372036854775808 ≤ x + 1 by omega) (by omega), w64_ (by omega) (by omega), a3, Option.bind_some, if_pos (by omega), a4]
  obtain ⟨P, hP⟩ := key (yearN y m d y' n').toNat 0 (by omega) (by omega)
  refine ⟨P + 1, fun k hk => ?_⟩
  obtain ⟨k, rfl⟩ : ∃ j, k = j + 1 := ⟨k - 1, by omega⟩
  have a4 : spileref04_Years.l0 k n n' 0 = some _ := hP k (by omega)
  show spileref04_Years.f (k + 1) n n' = _
  unfold spileref04_Years.f
  rw [isDay_eq, isDay_eq, is_yes h.2.2.2.1 h.2.2.2.2, Option.bind_some, if_pos rfl, is_yes h'.2.2.2.1 h'.2.2.2.2, Option.bind_some]
  simp only [spileref04_Years.j0]
  rw [if_neg (by decide), if_neg (by omega), a4]
theorem Years_no {n n' : Int} (h : ¬ (0 ≤ n ∧ n ≤ 100000) ∨ ¬ (0 ≤ n' ∧ n' ≤ 100000)) : Ev (fun k => calendar_Years.f k n n') (0, 2) ∧ Ev (fun k => spileref04_Years.f k n n') (0, 2) := by
  refine ⟨Ev.ret (fun k => ?_), Ev.ret (fun k => ?_)⟩
  · unfold calendar_Years.f
    by_cases c : 0 ≤ n ∧ n ≤ 100000
    · rw [is_yes c.1 c.2, Option.bind_some, if_pos rfl, is_no (by omega), Option.bind_some]
      simp [calendar_Years.j0]
    · rw [is_no c, Option.bind_some, if_neg (by decide)]
      simp [calendar_Years.j0]
  · unfold spileref04_Years.f
    rw [isDay_eq, isDay_eq]
    by_cases c : 0 ≤ n ∧ n ≤ 100000
    · rw [is_yes c.1 c.2, Option.bind_some, if_pos rfl, is_no (by omega), Option.bind_some]
      simp [spileref04_Years.j0]
    · rw [is_no c, Option.bind_some, if_neg (by decide)]
      simp [spileref04_Years.j0]
theorem Years_order {n n' : Int} (h : 0 ≤ n ∧ n ≤ 100000) (h' : 0 ≤ n' ∧ n' ≤ 100000) (hn : n' < n) : Ev (fun k => calendar_Years.f k n n') (0, 5) ∧ Ev (fun k => spileref04_Years.f k n n') (0, 5) := by
  refine ⟨Ev.ret (fun k => ?_), Ev.ret (fun k => ?_)⟩
  · unfold calendar_Years.f
    rw [is_yes h.1 h.2, Option.bind_some, if_pos rfl, is_yes h'.1 h'.2, Option.bind_some]
    simp only [calendar_Years.j0]
    rw [if_neg (by decide), if_pos (by omega)]
  · unfold spileref04_Years.f
    rw [isDay_eq, isDay_eq, is_yes h.1 h.2, Option.bind_some, if_pos rfl, is_yes h'.1 h'.2, Option.bind_some]
    simp only [spileref04_Years.j0]
    rw [if_neg (by decide), if_pos (by omega)]
/-! ### Later days -/
theorem laterN_mono {n y m d n' y' m' d' : Int} (h : isDt n y m d) (h' : isDt n' y' m' d') (hn : n ≤ n') (k : Int) : laterN y m d k ≤ laterN y' m' d' k := by
  have hl : ltD y m d y' m' d' ∨ (y = y' ∧ m = m' ∧ d = d') := by
    rcases ltD_total y m d y' m' d' with c | c | c
    · exact Or.inl c
    · exact Or.inr c
    · have := dayN_lt h'.1 h.1 c
      have := h.2.1
      have := h'.2.1
      omega
  have hm := h.1.1
  have hm2 := h.1.2.1
  have hm' := h'.1.1
  have hm2' := h'.1.2.1
  by_cases c : 12 * y + m = 12 * y' + m'
  · obtain rfl : y = y' := by omega
    obtain rfl : m = m' := by omega
    have hd : d ≤ d' := by unfold ltD at hl; omega
    unfold laterN dayN
    have : min d (lenM (lpN ((12 * y + m - 1 + k) / 12)) ((12 * y + m - 1 + k) % 12 + 1)) ≤ min d' (lenM (lpN ((12 * y + m - 1 + k) / 12)) ((12 * y + m - 1 + k) % 12 + 1)) := by omega
    omega
  · have hT : 12 * y + m < 12 * y' + m' := by unfold ltD at hl; omega
    have a := later_ok (t := 12 * y + m - 1 + k) h.d_le.1
    have b := later_ok (t := 12 * y' + m' - 1 + k) h'.d_le.1
    have := dayN_lt a b (by unfold ltD; omega)
    unfold laterN
    omega
theorem isDt.first {n y m d : Int} (h : isDt n y m d) : isDt (n - d + 1) y m 1 := by
  have hd := h.d_le
  obtain ⟨⟨h1, h2, h3, h4⟩, h5, h6, h7, h8⟩ := h
  have hb := lenM_bounds (m := m) (lpN_two y)
  have hok : okD y m 1 := ⟨h1, h2, by omega, by omega⟩
  have e : dayN y m 1 = n - d + 1 := by unfold dayN at h5 ⊢; omega
  have a := hok.year
  have b := befY_le h6
  rw [befY_1900] at b
  exact ⟨hok, e, h6, by omega, by omega⟩
/-- Where a later day lies, if it is a day. -/
theorem later_isDt {n y m d k : Int} (h : isDt n y m d) (h0 : 0 ≤ laterN y m d k) (h1 : laterN y m d k ≤ 100000) :
    isDt (laterN y m d k) ((12 * y + m - 1 + k) / 12) ((12 * y + m - 1 + k) % 12 + 1) (min d (lenM (lpN ((12 * y + m - 1 + k) / 12)) ((12 * y + m - 1 + k) % 12 + 1))) := by
  have a := later_ok (t := 12 * y + m - 1 + k) h.d_le.1
  refine ⟨a, rfl, ?_, h0, h1⟩
  have b := a.year
  rcases Int.lt_or_le ((12 * y + m - 1 + k) / 12) 1900 with c | c
  · have := befY_le (show (12 * y + m - 1 + k) / 12 + 1 ≤ 1900 by omega)
    rw [befY_1900] at this
    unfold laterN at h0
    omega
  · exact c
theorem laterN_first (y m k : Int) : laterN y m 1 k = dayN ((12 * y + m - 1 + k) / 12) ((12 * y + m - 1 + k) % 12 + 1) 1 := by
  unfold laterN
  rw [show min 1 (lenM (lpN ((12 * y + m - 1 + k) / 12)) ((12 * y + m - 1 + k) % 12 + 1)) = 1 by have := lenM_bounds (m := (12 * y + m - 1 + k) % 12 + 1) (lpN_two ((12 * y + m - 1 + k) / 12)); omega]

end Go.Proofs.YtlhdkajflmpnbaaDoor.PF
