/- What the calendar's exported functions return, program and reference. -/
import Derived.Test.YtlhdkajflmpnbaaDoorMCal04
import Derived.Test.YtlhdkajflmpnbaaDoorMEv
import Derived.Test.YtlhdkajflmpnbaaDoorPF1
import Derived.Test.YtlhdkajflmpnbaaDoorPF11
import Derived.Test.YtlhdkajflmpnbaaDoorPF3
import Derived.Test.YtlhdkajflmpnbaaDoorPF4
import Derived.Test.YtlhdkajflmpnbaaDoorPF5
import Derived.Test.YtlhdkajflmpnbaaDoorPF6
import Derived.Test.YtlhdkajflmpnbaaDoorPF7
import Derived.Test.YtlhdkajflmpnbaaDoorPF8
import Derived.Test.YtlhdkajflmpnbaaDoorPF9
namespace Go.Proofs.YtlhdkajflmpnbaaDoor.PF
open Go.RowKit Go.Proofs.YtlhdkajflmpnbaaDoorW.PrintWords Go.Proofs.YtlhdkajflmpnbaaDoorW.PrintLast Go.Proofs.YtlhdkajflmpnbaaDoorW.PrintMore
set_option linter.unusedVariables false
set_option linter.unusedSimpArgs false
theorem Ev.at {α : Type} {F : Nat → Option α} {r : α} (h : Ev F r) : ∃ N, ∀ k, N ≤ k → F k = some r := h
theorem is_yes {n : Int} (h0 : 0 ≤ n) (h1 : n ≤ 100000) : calendar_is.f n = some true := (is_at n).trans (by rw [decide_eq_true ⟨h0, h1⟩])
theorem is_no {n : Int} (h : ¬ (0 ≤ n ∧ n ≤ 100000)) : calendar_is.f n = some false := (is_at n).trans (by rw [decide_eq_false h])
theorem isDay_eq (n : Int) : spileref04_IsDay.f n = calendar_is.f n := rfl
/-! ### The reference's -/
theorem rleap_at (y : Int) : spileref04_leap.f y = some (decide (lpY y)) := by
  unfold spileref04_leap.f
  by_cases h1 : y % 4 = 0
  · rw [if_pos ((tmod_zero y 4).2 h1)]
    by_cases h2 : y % 100 = 0
    · rw [if_pos ((tmod_zero y 100).2 h2)]
      congr 1
      by_cases h3 : y % 400 = 0
      · rw [decide_eq_true (show lpY y from ⟨h1, Or.inr h3⟩)]; exact beq_iff_eq.2 ((tmod_zero y 400).2 h3)
      · rw [decide_eq_false (show ¬ lpY y from fun h => h.2.elim (fun h => h h2) h3)]; exact beq_eq_false_iff_ne.2 (fun h => h3 ((tmod_zero y 400).1 h))
    · rw [if_neg (fun h => h2 ((tmod_zero y 100).1 h)), decide_eq_true (show lpY y from ⟨h1, Or.inl h2⟩)]
  · rw [if_neg (fun h => h1 ((tmod_zero y 4).1 h)), decide_eq_false (show ¬ lpY y from fun h => h1 h.1)]
    congr 1
    exact beq_eq_false_iff_ne.2 (fun h => h1 (by have := (tmod_zero y 400).1 h; omega))
theorem rlength_at {y m : Int} (h1 : 1 ≤ m) (h2 : m ≤ 12) : spileref04_length.f y m = some (lenM (lpN y) m) := by
  unfold spileref04_length.f
  rw [rleap_at, w64_ (by omega) (by omega)]
  by_cases hy : lpY y
  · have e : lpN y = 1 := by unfold lpN; rw [if_pos hy]
    rw [e, decide_eq_true hy]
    rcases month_cases h1 h2 with rfl | rfl | rfl | rfl | rfl | rfl | rfl | rfl | rfl | rfl | rfl | rfl <;> rfl
  · have e : lpN y = 0 := by unfold lpN; rw [if_neg hy]
    rw [e, decide_eq_false hy]
    rcases month_cases h1 h2 with rfl | rfl | rfl | rfl | rfl | rfl | rfl | rfl | rfl | rfl | rfl | rfl <;> rfl
theorem first_at {y : Int} (h1 : 1 ≤ y) (h2 : y ≤ 1000000) : spileref04_first.f y = some (befY y) := by
  unfold spileref04_first.f befY
  rw [w64_ (show -9223372036854775808 ≤ y - 1900 by omega) (by omega), w64_ (show -9223372036854775808 ≤ y - 1 by omega) (by omega), Int.tdiv_eq_ediv_of_nonneg (by omega), Int.tdiv_eq_ediv_of_nonneg (by omega), Int.tdiv_eq_ediv_of_nonneg (by omega),
    w64_ (show -9223372036854775808 ≤ 365 * (y - 1900) by omega) (by omega), w64_ (show -9223372036854775808 ≤ (y - 1) / 4 by omega) (by omega), w64_ (show -9223372036854775808 ≤ (y - 1) / 100 by omega) (by omega), w64_ (show -9223372036854775808 ≤ (y - 1) / 400 by omega) (by omega),
    w64_ (show -9223372036854775808 ≤ (y - 1) / 4 - (y - 1) / 100 by omega) (by omega), w64_ (show -9223372036854775808 ≤ (y - 1) / 4 - (y - 1) / 100 + (y - 1) / 400 by omega) (by omega), w64_ (show -9223372036854775808 ≤ 365 * (y - 1900) + ((y - 1) / 4 - (y - 1) / 100 + (y - 1) / 400) by omega) (by omega), w64_ (by omega) (by omega)]
theorem of_months {n y m d : Int} (h : isDt n y m d) : ∀ (j : Nat) (m0 : Int), 1 ≤ m0 → m0 + j = m → Ev (fun k => spileref04_Of.l1 k y (cumM (lpN y) m + d - 1 - cumM (lpN y) m0) m0) (y, m, d) := by
  have hd := h.d_le
  have hy := h.y_le
  obtain ⟨⟨h1, h2, h3, h4⟩, h5, h6, h7, h8⟩ := h
  have hL := lpN_two y
  intro j
  induction j with
  | zero =>
    intro m0 hm0 e
    obtain rfl : m0 = m := by omega
    refine Ev.ret (fun k => ?_)
    simp only [spileref04_Of.l1]
    rw [rlength_at h1 h2, Option.bind_some, if_neg (by omega), w64_ (by omega) (by omega), show cumM (lpN y) m0 + d - 1 - cumM (lpN y) m0 + 1 = d by omega]
  | succ j ih =>
    intro m0 hm0 e
    have hb := cumM_bounds (m := m) hL
    have hb0 := cumM_bounds (m := m0) hL
    have hs := cumM_succ (L := lpN y) (m := m0) hm0 (by omega)
    have hle := cumM_le hL (show 1 ≤ m0 + 1 by omega) (show m0 + 1 ≤ m by omega) (by omega)
    have hl := lenM_bounds (m := m0) hL
    refine Ev.step (fun k => ?_) (ih (m0 + 1) (by omega) (by omega))
    simp only [spileref04_Of.l1]
    rw [rlength_at hm0 (by omega), Option.bind_some, if_pos (by omega), Option.bind_some, w64_ (by omega) (by omega), w64_ (by omega) (by omega), hs, show cumM (lpN y) m + d - 1 - cumM (lpN y) m0 - lenM (lpN y) m0 = cumM (lpN y) m + d - 1 - (cumM (lpN y) m0 + lenM (lpN y) m0) by omega]
theorem of_ev {n y m d : Int} (h : isDt n y m d) : Ev (fun k => spileref04_Of.f k n) (y, m, d) := by
  have hd := h.d_le
  have hy := h.y_le
  have hyr := h.1.year
  have hmo := of_months h (m - 1).toNat 1 (by omega) (by have := h.1.1; omega)
  have key : ∀ (j : Nat) (y0 : Int), 1900 ≤ y0 → y0 + j = y → Ev (fun k => spileref04_Of.l0 k n y0) (y, m, d) := by
    obtain ⟨h1, h5, h6, h7, h8⟩ := h
    intro j
    induction j with
    | zero =>
      intro y0 hy0 e
      obtain rfl : y0 = y := by omega
      have hb := befY_bounds (y := y0) (by omega) (by omega)
      refine Ev.step (fun k => ?_) hmo
      simp only [spileref04_Of.l0]
      rw [w64_ (show -9223372036854775808 ≤ y0 + 1 by omega) (by omega), first_at (by omega) (by omega), Option.bind_some, if_neg (by omega), first_at (by omega) (by omega), Option.bind_some, w64_ (by omega) (by omega), cumM_one, ← h5]
      congr 1
      unfold dayN
      omega
    | succ j ih =>
      intro y0 hy0 e
      have hle := befY_le (show y0 + 1 ≤ y by omega)
      refine Ev.step (fun k => ?_) (ih (y0 + 1) (by omega) (by omega))
      simp only [spileref04_Of.l0]
      rw [w64_ (show -9223372036854775808 ≤ y0 + 1 by omega) (by omega), first_at (by omega) (by omega), Option.bind_some, if_pos (by omega)]
  exact key (y - 1900).toNat 1900 (by omega) (by have := h.2.2.1; omega)
theorem rnumber_ev {y m d : Int} (hy : 1 ≤ y) (hy2 : y ≤ 100000) (h1 : 1 ≤ m) (h2 : m ≤ 12) (hd : -100 ≤ d) (hd2 : d ≤ 100) : Ev (fun k => spileref04_number.f k y m d) (dayN y m d) := by
  have hL := lpN_two y
  have hb := befY_bounds hy hy2
  have key : ∀ (j : Nat) (m0 : Int), 1 ≤ m0 → m0 + j = m → Ev (fun k => spileref04_number.l0 k (befY y + d - 1 + cumM (lpN y) m0) m0 y m d) (dayN y m d) := by
    intro j
    induction j with
    | zero =>
      intro m0 hm0 e
      obtain rfl : m0 = m := by omega
      refine Ev.ret (fun k => ?_)
      simp only [spileref04_number.l0]
      rw [if_neg (by omega)]
      unfold dayN
      congr 1
      omega
    | succ j ih =>
      intro m0 hm0 e
      have hb0 := cumM_bounds (m := m0) hL
      have hs := cumM_succ (L := lpN y) (m := m0) hm0 (by omega)
      have hl := lenM_bounds (m := m0) hL
      refine Ev.step (fun k => ?_) (ih (m0 + 1) (by omega) (by omega))
      simp only [spileref04_number.l0]
      rw [if_pos (by omega), rlength_at hm0 (by omega), Option.bind_some, w64_ (by omega) (by omega), w64_ (by omega) (by omega), hs, Int.add_assoc]
  refine Ev.same (fun k => ?_) (key (m - 1).toNat 1 (by omega) (by omega))
  unfold spileref04_number.f
  rw [first_at hy (by omega), Option.bind_some, w64_ (show -9223372036854775808 ≤ befY y + d by omega) (by omega), w64_ (by omega) (by omega), cumM_one, Int.add_zero]
/-- Many months later, as the reference tells it. -/
def laterQ (y m d k : Int) : Int := if 12 * y + m - 1 + k < 22800 then -1 else laterN y m d k
theorem rlater_ev {n y m d : Int} (h : isDt n y m d) {k : Int} (hk : -4000 ≤ k) (hk2 : k ≤ 4000) : Ev (fun f => spileref04_later.f f n k) (laterQ y m d k) := by
  have hy := h.y_le
  have hd := h.d_le
  have h6 := h.2.2.1
  have hm1 := h.1.1
  have hm2 := h.1.2.1
  obtain ⟨N, hN⟩ := of_ev h
  obtain ⟨M, hM⟩ := rnumber_ev (y := (12 * y + m - 1 + k) / 12) (m := (12 * y + m - 1 + k) % 12 + 1) (d := min d (lenM (lpN ((12 * y + m - 1 + k) / 12)) ((12 * y + m - 1 + k) % 12 + 1))) (by omega) (by omega) (by omega) (by omega)
    (by have := lenM_bounds (m := (12 * y + m - 1 + k) % 12 + 1) (lpN_two ((12 * y + m - 1 + k) / 12)); omega) (by omega)
  refine ⟨N + M, fun f hf => ?_⟩
  replace hN := hN f (by omega)
  replace hM := hM f (by omega)
  dsimp only at hN hM ⊢
  unfold spileref04_later.f laterQ
  rw [hN, Option.bind_some]
  simp only
  rw [w64_ (show -9223372036854775808 ≤ 12 * y by omega) (by omega), w64_ (show -9223372036854775808 ≤ 12 * y + m by omega) (by omega), w64_ (show -9223372036854775808 ≤ 12 * y + m - 1 by omega) (by omega), w64_ (show -9223372036854775808 ≤ 12 * y + m - 1 + k by omega) (by omega)]
  by_cases hT : 12 * y + m - 1 + k < 22800
  · rw [if_pos hT, if_pos hT]
  · rw [if_neg hT, if_neg hT, Int.tdiv_eq_ediv_of_nonneg (by omega), Int.tmod_eq_emod_of_nonneg (by omega), w64_ (by omega) (by omega), w64_ (by omega) (by omega), rlength_at (by omega) (by omega), Option.bind_some]
    have e : mn d (lenM (lpN ((12 * y + m - 1 + k) / 12)) ((12 * y + m - 1 + k) % 12 + 1)) = min d (lenM (lpN ((12 * y + m - 1 + k) / 12)) ((12 * y + m - 1 + k) % 12 + 1)) := by unfold mn; split <;> omega
    rw [e, hM]
    rfl
/-! ### Date -/
theorem Date_yes {n y m d : Int} (h : isDt n y m d) : Ev (fun k => calendar_Date.f k n) (y, m, d, 0) := by
  obtain ⟨N, hN⟩ := date_ev h
  refine ⟨N, fun k hk => ?_⟩
  replace hN := hN k hk
  dsimp only at hN ⊢
  unfold calendar_Date.f
  rw [is_yes h.2.2.2.1 h.2.2.2.2, Option.bind_some, if_pos rfl, hN]
  rfl
theorem rDate_yes {n y m d : Int} (h : isDt n y m d) : Ev (fun k => spileref04_Date.f k n) (y, m, d, 0) := by
  obtain ⟨N, hN⟩ := of_ev h
  refine ⟨N, fun k hk => ?_⟩
  replace hN := hN k hk
  dsimp only at hN ⊢
  unfold spileref04_Date.f
  rw [isDay_eq, is_yes h.2.2.2.1 h.2.2.2.2, Option.bind_some, if_pos rfl, hN]
  rfl
theorem Date_no {n : Int} (h : ¬ (0 ≤ n ∧ n ≤ 100000)) (k : Nat) : calendar_Date.f k n = some (0, 0, 0, 2) := by unfold calendar_Date.f; rw [is_no h]; rfl
theorem rDate_no {n : Int} (h : ¬ (0 ≤ n ∧ n ≤ 100000)) (k : Nat) : spileref04_Date.f k n = some (0, 0, 0, 2) := by unfold spileref04_Date.f; rw [isDay_eq, is_no h]; rfl
/-! ### Day -/
theorem Day_yes {n y m d : Int} (h : isDt n y m d) : Ev (fun k => calendar_Day.f k y m d) (n, 0) := by
  have hy := h.y_le
  have hd := h.d_le
  obtain ⟨h1, h2, h3, h4⟩ := h.1
  obtain ⟨N, hN⟩ := number_ev (y := y) (m := m) (d := d) (by have := h.2.2.1; omega) (by omega) h1 h2 (by omega) (by omega)
  obtain ⟨M, hM⟩ := date_ev h
  refine ⟨N + M + 1, fun k hk => ?_⟩
  obtain ⟨k, rfl⟩ : ∃ j, k = j + 1 := ⟨k - 1, by omega⟩
  have a1 : calendar_number.f k y m d = some (dayN y m d) := hN k (by omega)
  have a2 : calendar_date.f k n = some (y, m, d) := hM k (by omega)
  have h6 := h.2.2.1
  show calendar_Day.f (k + 1) y m d = some (n, 0)
  unfold calendar_Day.f
  rw [if_neg (by omega), if_neg (by omega), if_neg (by omega), if_neg (by omega), if_neg (by omega), length_at h1 h2, Option.bind_some, decide_eq_false (by omega)]
  simp only [calendar_Day.j0]
  rw [if_neg (by decide), a1, Option.bind_some, h.2.1, is_yes h.2.2.2.1 h.2.2.2.2, Option.bind_some, if_pos rfl, a2, Option.bind_some]
  simp
theorem Day_no {y m d : Int} (h : ∀ n, ¬ isDt n y m d) : Ev (fun k => calendar_Day.f k y m d) (0, 1) := by
  have hbad : ∀ k, calendar_Day.j0 (k + 1) true y m d = some (0, 1) := fun k => by simp [calendar_Day.j0]
  by_cases hc : 1900 ≤ y ∧ y ≤ 2200 ∧ okD y m d
  · obtain ⟨h6, h7, hok⟩ := hc
    obtain ⟨h1, h2, h3, h4⟩ := hok
    have hb := lenM_bounds (m := m) (lpN_two y)
    obtain ⟨N, hN⟩ := number_ev (y := y) (m := m) (d := d) (by omega) (by omega) h1 h2 (by omega) (by omega)
    refine ⟨N + 1, fun k hk => ?_⟩
    obtain ⟨k, rfl⟩ : ∃ j, k = j + 1 := ⟨k - 1, by omega⟩
    have a1 : calendar_number.f k y m d = some (dayN y m d) := hN k (by omega)
    show calendar_Day.f (k + 1) y m d = some (0, 1)
    unfold calendar_Day.f
    rw [if_neg (by omega), if_neg (by omega), if_neg (by omega), if_neg (by omega), if_neg (by omega), length_at h1 h2, Option.bind_some, decide_eq_false (by omega)]
    simp only [calendar_Day.j0]
    rw [if_neg (by decide), a1, Option.bind_some, is_no (fun hr => h _ ⟨⟨h1, h2, h3, h4⟩, rfl, h6, hr.1, hr.2⟩), Option.bind_some, if_neg (by decide)]
  · refine Ev.ret (fun k => ?_)
    unfold calendar_Day.f
    by_cases c1 : y < 1900
    · rw [if_pos c1]; exact hbad k
    rw [if_neg c1]
    by_cases c2 : y > 2200
    · rw [if_pos c2]; exact hbad k
    rw [if_neg c2]
    by_cases c3 : m < 1
    · rw [if_pos c3]; exact hbad k
    rw [if_neg c3]
    by_cases c4 : m > 12
    · rw [if_pos c4]; exact hbad k
    rw [if_neg c4]
    by_cases c5 : d < 1
    · rw [if_pos c5]; exact hbad k
    rw [if_neg c5, length_at (by omega) (by omega), Option.bind_some, decide_eq_true (show d > lenM (lpN y) m from by
      by_cases c6 : d > lenM (lpN y) m
      · exact c6
      · exact absurd ⟨by omega, by omega, by omega, by omega, by omega, by omega⟩ hc)]
    exact hbad k
theorem rDay_yes {n y m d : Int} (h : isDt n y m d) : Ev (fun k => spileref04_Day.f k y m d) (n, 0) := by
  have hy := h.y_le
  have hd := h.d_le
  obtain ⟨h1, h2, h3, h4⟩ := h.1
  obtain ⟨N, hN⟩ := rnumber_ev (y := y) (m := m) (d := d) (by have := h.2.2.1; omega) (by omega) h1 h2 (by omega) (by omega)
  refine ⟨N, fun k hk => ?_⟩
  have a1 : spileref04_number.f k y m d = some (dayN y m d) := hN k (by omega)
  have h6 := h.2.2.1
  show spileref04_Day.f k y m d = some (n, 0)
  unfold spileref04_Day.f
  rw [if_neg (by omega), if_neg (by omega), if_neg (by omega), if_neg (by omega), if_neg (by omega), rlength_at h1 h2, Option.bind_some, if_neg (by omega), a1, Option.bind_some, isDay_eq, h.2.1, is_yes h.2.2.2.1 h.2.2.2.2, Option.bind_some, if_pos rfl, Option.bind_some]
theorem rDay_no {y m d : Int} (h : ∀ n, ¬ isDt n y m d) : Ev (fun k => spileref04_Day.f k y m d) (0, 1) := by
  by_cases hc : 1900 ≤ y ∧ y ≤ 2200 ∧ okD y m d
  · obtain ⟨h6, h7, hok⟩ := hc
    obtain ⟨h1, h2, h3, h4⟩ := hok
    have hb := lenM_bounds (m := m) (lpN_two y)
    obtain ⟨N, hN⟩ := rnumber_ev (y := y) (m := m) (d := d) (by omega) (by omega) h1 h2 (by omega) (by omega)
    refine ⟨N, fun k hk => ?_⟩
    have a1 : spileref04_number.f k y m d = some (dayN y m d) := hN k (by omega)
    show spileref04_Day.f k y m d = some (0, 1)
    unfold spileref04_Day.f
    rw [if_neg (by omega), if_neg (by omega), if_neg (by omega), if_neg (by omega), if_neg (by omega), rlength_at h1 h2, Option.bind_some, if_neg (by omega), a1, Option.bind_some, isDay_eq, is_no (fun hr => h _ ⟨⟨h1, h2, h3, h4⟩, rfl, h6, hr.1, hr.2⟩), Option.bind_some, if_neg (by decide)]
  · refine Ev.now (fun k => ?_)
    unfold spileref04_Day.f
    by_cases c1 : y < 1900
    · rw [if_pos c1]
    rw [if_neg c1]
    by_cases c2 : y > 2200
    · rw [if_pos c2]
    rw [if_neg c2]
    by_cases c3 : m < 1
    · rw [if_pos c3]
    rw [if_neg c3]
    by_cases c4 : m > 12
    · rw [if_pos c4]
    rw [if_neg c4]
    by_cases c5 : d < 1
    · rw [if_pos c5]
    rw [if_neg c5, rlength_at (by omega) (by omega), Option.bind_some, if_pos (show d > lenM (lpN y) m from by
      by_cases c6 : d > lenM (lpN y) m
      · exact c6
      · exact absurd ⟨by omega, by omega, by omega, by omega, by omega, by omega⟩ hc)]
/-! ### Season -/
theorem Season_yes {n y m d : Int} (h : isDt n y m d) : Ev (fun k => calendar_Season.f k n) (m % 12 / 3 + 1, 0) := by
  obtain ⟨N, hN⟩ := date_ev h
  have h1 := h.1.1
  have h2 := h.1.2.1
  refine ⟨N, fun k hk => ?_⟩
  have a2 : calendar_date.f k n = some (y, m, d) := hN k (by omega)
  show calendar_Season.f k n = _
  unfold calendar_Season.f
  rw [is_yes h.2.2.2.1 h.2.2.2.2, Option.bind_some, if_pos rfl, a2, Option.bind_some]
  simp only
  rw [Int.tmod_eq_emod_of_nonneg (by omega), Int.tdiv_eq_ediv_of_nonneg (by omega), w64_ (show -9223372036854775808 ≤ m % 12 / 3 by omega) (by omega), w64_ (by omega) (by omega)]
theorem rSeason_yes {n y m d : Int} (h : isDt n y m d) : Ev (fun k => spileref04_Season.f k n) (m % 12 / 3 + 1, 0) := by
  obtain ⟨N, hN⟩ := of_ev h
  have h1 := h.1.1
  have h2 := h.1.2.1
  refine ⟨N, fun k hk => ?_⟩
  have a2 : spileref04_Of.f k n = some (y, m, d) := hN k (by omega)
  show spileref04_Season.f k n = _
  unfold spileref04_Season.f
  rw [isDay_eq, is_yes h.2.2.2.1 h.2.2.2.2, Option.bind_some, if_pos rfl, a2, Option.bind_some]
  simp only
  rw [Int.tmod_eq_emod_of_nonneg (by omega), Int.tdiv_eq_ediv_of_nonneg (by omega), w64_ (show -9223372036854775808 ≤ m % 12 / 3 by omega) (by omega), w64_ (by omega) (by omega)]
theorem Season_no {n : Int} (h : ¬ (0 ≤ n ∧ n ≤ 100000)) (k : Nat) : calendar_Season.f k n = some (0, 2) := by unfold calendar_Season.f; rw [is_no h]; rfl
theorem rSeason_no {n : Int} (h : ¬ (0 ≤ n ∧ n ≤ 100000)) (k : Nat) : spileref04_Season.f k n = some (0, 2) := by unfold spileref04_Season.f; rw [isDay_eq, is_no h]; rfl
/-! ### Later -/
/-- What Later returns. -/
def laterR (L : Int) : Int × Int := if 0 ≤ L ∧ L ≤ 100000 then (L, 0) else (0, 15)
theorem Later_yes {n y m d : Int} (h : isDt n y m d) {k : Int} (hk : -3600 ≤ k) (hk2 : k ≤ 3600) : Ev (fun f => calendar_Later.f f n k) (laterR (laterN y m d k)) := by
  obtain ⟨N, hN⟩ := later_ev h (k := k) (by omega) (by omega)
  refine ⟨N + 1, fun f hf => ?_⟩
  obtain ⟨f, rfl⟩ : ∃ j, f = j + 1 := ⟨f - 1, by omega⟩
  have a1 : calendar_later.f f n k = some (laterN y m d k) := hN f (by omega)
  show calendar_Later.f (f + 1) n k = _
  unfold calendar_Later.f laterR
  rw [is_yes h.2.2.2.1 h.2.2.2.2, Option.bind_some, if_pos rfl, if_neg (by omega), decide_eq_false (by omega)]
  simp only [calendar_Later.j0]
  rw [if_neg (by decide), a1, Option.bind_some]
  by_cases c : 0 ≤ laterN y m d k ∧ laterN y m d k ≤ 100000
  · rw [is_yes c.1 c.2, Option.bind_some, if_pos rfl, if_pos c]
  · rw [is_no c, Option.bind_some, if_neg (by decide), if_neg c]
theorem Later_no {n k : Int} (h : ¬ (0 ≤ n ∧ n ≤ 100000) ∨ k < -3600 ∨ 3600 < k) : Ev (fun f => calendar_Later.f f n k) (0, 2) := by
  refine Ev.ret (fun f => ?_)
  unfold calendar_Later.f
  by_cases c : 0 ≤ n ∧ n ≤ 100000
  · rw [is_yes c.1 c.2, Option.bind_some, if_pos rfl]
    by_cases c2 : k < -3600
    · rw [if_pos c2]; simp [calendar_Later.j0]
    · rw [if_neg c2, decide_eq_true (by omega)]; simp [calendar_Later.j0]
  · rw [is_no c, Option.bind_some, if_neg (by decide)]; simp [calendar_Later.j0]
theorem laterN_neg {n y m d k : Int} (h : isDt n y m d) (hT : 12 * y + m - 1 + k < 22800) (hk : -3600 ≤ k) : laterN y m d k < 0 := by
  have hy := h.2.2.1
  have hm := h.1.1
  have hok := later_ok (t := 12 * y + m - 1 + k) h.d_le.1
  have := hok.year
  have h2 := befY_le (show (12 * y + m - 1 + k) / 12 + 1 ≤ 1900 by omega)
  rw [befY_1900] at h2
  unfold laterN
  omega
theorem rLater_yes {n y m d : Int} (h : isDt n y m d) {k : Int} (hk : -3600 ≤ k) (hk2 : k ≤ 3600) : Ev (fun f => spileref04_Later.f f n k) (laterR (laterN y m d k)) := by
  obtain ⟨N, hN⟩ := rlater_ev h (k := k) (by omega) (by omega)
  refine ⟨N + 1, fun f hf => ?_⟩
  obtain ⟨f, rfl⟩ : ∃ j, f = j + 1 := ⟨f - 1, by omega⟩
  have a1 : spileref04_later.f f n k = some (laterQ y m d k) := hN f (by omega)
  show spileref04_Later.f (f + 1) n k = _
  unfold spileref04_Later.f laterR
  rw [isDay_eq, is_yes h.2.2.2.1 h.2.2.2.2, Option.bind_some, if_pos rfl, if_neg (by omega), decide_eq_false (by omega)]
  simp only [spileref04_Later.j0]
  rw [if_neg (by decide), a1, Option.bind_some, isDay_eq]
  unfold laterQ
  by_cases hT : 12 * y + m - 1 + k < 22800
  · rw [if_pos hT, is_no (by omega), Option.bind_some, if_neg (by decide), if_neg (by have := laterN_neg h hT hk; omega)]
  · rw [if_neg hT]
    by_cases c : 0 ≤ laterN y m d k ∧ laterN y m d k ≤ 100000
    · rw [is_yes c.1 c.2, Option.bind_some, if_pos rfl, if_pos c]
    · rw [is_no c, Option.bind_some, if_neg (by decide), if_neg c]
theorem rLater_no {n k : Int} (h : ¬ (0 ≤ n ∧ n ≤ 100000) ∨ k < -3600 ∨ 3600 < k) : Ev (fun f => spileref04_Later.f f n k) (0, 2) := by
  refine Ev.ret (fun f => ?_)
  unfold spileref04_Later.f
  rw [isDay_eq]
  by_cases c : 0 ≤ n ∧ n ≤ 100000
  · rw [is_yes c.1 c.2, Option.bind_some, if_pos rfl]
    by_cases c2 : k < -3600
    · rw [if_pos c2]; simp [spileref04_Later.j0]
    · rw [if_neg c2, decide_eq_true (by omega)]; simp [spileref04_Later.j0]
  · rw [is_no c, Option.bind_some, if_neg (by decide)]; simp [spileref04_Later.j0]

end Go.Proofs.YtlhdkajflmpnbaaDoor.PF
