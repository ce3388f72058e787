/- The calendar: what the program's functions and the reference's return, told by dates. -/
import Derived.Test.YtlhdkajflmpnbaaDoorMEv
import Derived.Test.YtlhdkajflmpnbaaDoorPF1
import Derived.Test.YtlhdkajflmpnbaaDoorPF3
import Derived.Test.YtlhdkajflmpnbaaDoorPF5
namespace Go.Proofs.YtlhdkajflmpnbaaDoor.PF
open Go.RowKit Go.Proofs.YtlhdkajflmpnbaaDoorW.PrintWords Go.Proofs.YtlhdkajflmpnbaaDoorW.PrintLast Go.Proofs.YtlhdkajflmpnbaaDoorW.PrintMore
set_option linter.unusedVariables false
set_option linter.unusedSimpArgs false
/-- A day's date. -/
def isDt (n y m d : Int) : Prop := okD y m d ∧ dayN y m d = n ∧ 1900 ≤ y ∧ 0 ≤ n ∧ n ≤ 100000
theorem isDt.y_le {n y m d : Int} (h : isDt n y m d) : y ≤ 2173 := by
  obtain ⟨h1, h2, h3, h4, h5⟩ := h
  have a := h1.year
  have b := befY_le h3
  rw [befY_1900] at b
  omega
theorem isDt.d_le {n y m d : Int} (h : isDt n y m d) : 1 ≤ d ∧ d ≤ 31 := by
  have := h.1.2.2
  have := lenM_bounds (m := m) (lpN_two y)
  omega
theorem isDt.uniq {n y m d y' m' d' : Int} (h : isDt n y m d) (h' : isDt n y' m' d') : y = y' ∧ m = m' ∧ d = d' := dayN_inj h.1 h'.1 (h.2.1.trans h'.2.1.symm)
/-- The next date. -/
theorem isDt.next {n y m d : Int} (h : isDt n y m d) (hn : n < 100000) : (d < lenM (lpN y) m ∧ isDt (n + 1) y m (d + 1)) ∨ (d = lenM (lpN y) m ∧ m < 12 ∧ isDt (n + 1) y (m + 1) 1) ∨ (d = 31 ∧ m = 12 ∧ isDt (n + 1) (y + 1) 1 1) := by
  obtain ⟨⟨h1, h2, h3, h4⟩, h5, h6, h7, h8⟩ := h
  have hL := lpN_two y
  by_cases hd : d < lenM (lpN y) m
  · exact Or.inl ⟨hd, ⟨h1, h2, by omega, by omega⟩, by unfold dayN at h5 ⊢; omega, h6, by omega, by omega⟩
  · have hd : d = lenM (lpN y) m := by omega
    by_cases hm : m < 12
    · have hb := lenM_bounds (m := m + 1) hL
      refine Or.inr (Or.inl ⟨hd, hm, ⟨by omega, by omega, by omega, by omega⟩, ?_, h6, by omega, by omega⟩)
      have := cumM_succ (L := lpN y) h1 h2
      unfold dayN at h5 ⊢
      omega
    · obtain rfl : m = 12 := by omega
      have e : lenM (lpN y) 12 = 31 := rfl
      have hb := lenM_bounds (m := 1) (lpN_two (y + 1))
      refine Or.inr (Or.inr ⟨by omega, rfl, ⟨by omega, by omega, by omega, by omega⟩, ?_, by omega, by omega, by omega⟩)
      have e2 := cumM_succ (L := lpN y) h1 h2
      have e3 : cumM (lpN y) (12 + 1) = 365 + lpN y := rfl
      have e4 := befY_succ y
      have e5 := cumM_one (lpN (y + 1))
      unfold dayN at h5 ⊢
      omega
theorem exists_dt {n : Int} (h0 : 0 ≤ n) (h1 : n ≤ 100000) : ∃ y m d, isDt n y m d := by
  obtain ⟨k, rfl⟩ : ∃ k : Nat, n = k := ⟨n.toNat, by omega⟩
  clear h0
  induction k with
  | zero => exact ⟨1900, 1, 1, by decide, by decide, by omega, by omega, by omega⟩
  | succ k ih =>
    obtain ⟨y, m, d, h⟩ := ih (by omega)
    rw [show ((k + 1 : Nat) : Int) = (k : Int) + 1 by omega]
    rcases h.next (by omega) with ⟨_, h⟩ | ⟨_, _, h⟩ | ⟨_, _, h⟩
    · exact ⟨_, _, _, h⟩
    · exact ⟨_, _, _, h⟩
    · exact ⟨_, _, _, h⟩
theorem cumM_bounds {L m : Int} (hL : L = 0 ∨ L = 1) : 0 ≤ cumM L m ∧ cumM L m ≤ 366 := by
  unfold cumM
  repeat (first | omega | split)
theorem befY_bounds {y : Int} (h0 : 1 ≤ y) (h1 : y ≤ 100000) : -1000000 ≤ befY y ∧ befY y ≤ 40000000 := by unfold befY; omega
/-! ### The program's -/
theorem length_at {y m : Int} (h1 : 1 ≤ m) (h2 : m ≤ 12) : calendar_length.f y m = some (lenM (lpN y) m) := if_pos ⟨h1, h2⟩
theorem before_at {y : Int} (h1 : 1 ≤ y) (h2 : y ≤ 1000000) : calendar_before.f y = some (befY y) := if_pos ⟨h1, h2⟩
theorem is_at (n : Int) : calendar_is.f n = some (decide (0 ≤ n ∧ n ≤ 100000)) := by
  unfold calendar_is.f
  by_cases h : 0 ≤ n
  · rw [if_pos h]; congr 1; rw [decide_eq_decide]; exact ⟨fun k => ⟨h, k⟩, fun k => k.2⟩
  · rw [if_neg h, decide_eq_false (fun k => h k.1)]
theorem date_months {n y m d : Int} (h : isDt n y m d) : ∀ (j : Nat) (m0 : Int), 1 ≤ m0 → m0 + j = m → Ev (fun k => calendar_date.l1 k (cumM (lpN y) m + d - 1 - cumM (lpN y) m0) y m0 1) (y, m, d) := by
  have hd := h.d_le
  have hy := h.y_le
  obtain ⟨⟨h1, h2, h3, h4⟩, h5, h6, h7, h8⟩ := h
  have hL := lpN_two y
  intro j
  induction j with
  | zero =>
    intro m0 hm0 e
    obtain rfl : m0 = m := by omega
    refine Ev.ret (fun k => ?_)
    simp only [calendar_date.l1]
    rw [length_at h1 h2, Option.bind_some, if_neg (by omega), w64_ (by omega) (by omega), show 1 + (cumM (lpN y) m0 + d - 1 - cumM (lpN y) m0) = d by omega]
  | succ j ih =>
    intro m0 hm0 e
    have hb := cumM_bounds (m := m) hL
    have hb0 := cumM_bounds (m := m0) hL
    have hs := cumM_succ (L := lpN y) (m := m0) hm0 (by omega)
    have hle := cumM_le hL (show 1 ≤ m0 + 1 by omega) (show m0 + 1 ≤ m by omega) (by omega)
    have hl := lenM_bounds (m := m0) hL
    refine Ev.step (fun k => ?_) (ih (m0 + 1) (by omega) (by omega))
    simp only [calendar_date.l1]
    rw [length_at hm0 (by omega), Option.bind_some, if_pos (by omega), Option.bind_some, w64_ (by omega) (by omega), w64_ (by omega) (by omega), hs, show cumM (lpN y) m + d - 1 - cumM (lpN y) m0 - lenM (lpN y) m0 = cumM (lpN y) m + d - 1 - (cumM (lpN y) m0 + lenM (lpN y) m0) by omega]
theorem date_years {n y m d : Int} (h : isDt n y m d) : ∀ (j : Nat) (y0 : Int), 1900 ≤ y0 → y0 + j = y → Ev (fun k => calendar_date.l0 k n y0 1 1) (y, m, d) := by
  have hd := h.d_le
  have hy := h.y_le
  have hyr := h.1.year
  have hmo := date_months h (m - 1).toNat 1 (by omega) (by have := h.1.1; omega)
  obtain ⟨h1, h5, h6, h7, h8⟩ := h
  intro j
  induction j with
  | zero =>
    intro y0 hy0 e
    obtain rfl : y0 = y := by omega
    have hb := befY_bounds (y := y0) (by omega) (by omega)
    refine Ev.step (fun k => ?_) hmo
    simp only [calendar_date.l0]
    rw [w64_ (show -9223372036854775808 ≤ y0 + 1 by omega) (by omega), before_at (by omega) (by omega), Option.bind_some, if_neg (by omega), before_at (by omega) (by omega), Option.bind_some, w64_ (by omega) (by omega), cumM_one, ← h5]
    congr 1
    unfold dayN
    omega
  | succ j ih =>
    intro y0 hy0 e
    have hle := befY_le (show y0 + 1 ≤ y by omega)
    refine Ev.step (fun k => ?_) (ih (y0 + 1) (by omega) (by omega))
    simp only [calendar_date.l0]
    rw [w64_ (show -9223372036854775808 ≤ y0 + 1 by omega) (by omega), before_at (by omega) (by omega), Option.bind_some, if_pos (by omega)]
theorem date_ev {n y m d : Int} (h : isDt n y m d) : Ev (fun k => calendar_date.f k n) (y, m, d) := by
  have hy := h.y_le
  have hyr := h.1.year
  have h6 := h.2.2.1
  have h7 := h.2.2.2.1
  have h8 := h.2.2.2.2
  have e := h.2.1
  have hq : 1900 + n / 366 ≤ y := by
    have hk : befY (y + 1) ≤ 366 * (y + 1 - 1900) := by
      obtain ⟨k, hk⟩ : ∃ k : Nat, y + 1 = 1900 + k := ⟨(y + 1 - 1900).toNat, by omega⟩
      rw [hk]
      clear hk hy hyr h6 h7 h8 e h
      induction k with
      | zero => decide
      | succ k ih =>
        rw [show (1900 : Int) + ((k + 1 : Nat) : Int) = 1900 + k + 1 by omega, befY_succ]
        have := lpN_two (1900 + k)
        omega
    omega
  refine Ev.same (fun k => ?_) (date_years h (y - (1900 + n / 366)).toNat (1900 + n / 366) (by omega) (by omega))
  unfold calendar_date.f
  rw [Int.tdiv_eq_ediv_of_nonneg h7, w64_ (show -9223372036854775808 ≤ n / 366 by omega) (by omega), w64_ (by omega) (by omega)]
theorem number_ev {y m d : Int} (hy : 1 ≤ y) (hy2 : y ≤ 100000) (h1 : 1 ≤ m) (h2 : m ≤ 12) (hd : -100 ≤ d) (hd2 : d ≤ 100) : Ev (fun k => calendar_number.f k y m d) (dayN y m d) := by
  have hL := lpN_two y
  have hb := befY_bounds hy hy2
  have key : ∀ (j : Nat) (m0 : Int), 1 ≤ m0 → m0 + j = m → Ev (fun k => calendar_number.l0 k (befY y + d - 1 + cumM (lpN y) m0) m0 y m d) (dayN y m d) := by
    intro j
    induction j with
    | zero =>
      intro m0 hm0 e
      obtain rfl : m0 = m := by omega
      refine Ev.ret (fun k => ?_)
      simp only [calendar_number.l0]
      rw [if_neg (by omega)]
      unfold dayN
      congr 1
      omega
    | succ j ih =>
      intro m0 hm0 e
      have hb0 := cumM_bounds (m := m0) hL
      have hs := cumM_succ (L := lpN y) (m := m0) hm0 (by omega)
      have hl := lenM_bounds (m := m0) hL
      refine Ev.step (fun k => ?_) (ih (m0 + 1) (by omega) (by omega))
      simp only [calendar_number.l0]
      rw [if_pos (by omega), length_at hm0 (by omega), Option.bind_some, w64_ (by omega) (by omega), w64_ (by omega) (by omega), hs, Int.add_assoc]
  refine Ev.same (fun k => ?_) (key (m - 1).toNat 1 (by omega) (by omega))
  unfold calendar_number.f
  rw [before_at hy (by omega), Option.bind_some, w64_ (show -9223372036854775808 ≤ befY y + d by omega) (by omega), w64_ (by omega) (by omega), cumM_one, Int.add_zero]
theorem later_ev {n y m d : Int} (h : isDt n y m d) {k : Int} (hk : -4000 ≤ k) (hk2 : k ≤ 4000) : Ev (fun f => calendar_later.f f n k) (laterN y m d k) := by
  have hy := h.y_le
  have hd := h.d_le
  have h6 := h.2.2.1
  have hm1 := h.1.1
  have hm2 := h.1.2.1
  obtain ⟨N, hN⟩ := date_ev h
  obtain ⟨M, hM⟩ := number_ev (y := (12 * y + m - 1 + k) / 12) (m := (12 * y + m - 1 + k) % 12 + 1) (d := min d (lenM (lpN ((12 * y + m - 1 + k) / 12)) ((12 * y + m - 1 + k) % 12 + 1))) (by omega) (by omega) (by omega) (by omega)
    (by have := lenM_bounds (m := (12 * y + m - 1 + k) % 12 + 1) (lpN_two ((12 * y + m - 1 + k) / 12)); omega) (by omega)
  refine ⟨N + M, fun f hf => ?_⟩
  replace hN := hN f (by omega)
  replace hM := hM f (by omega)
  dsimp only at hN hM ⊢
  unfold calendar_later.f
  rw [hN, Option.bind_some]
  simp only
  rw [w64_ (show -9223372036854775808 ≤ 12 * y by omega) (by omega), w64_ (show -9223372036854775808 ≤ 12 * y + m by omega) (by omega), w64_ (show -9223372036854775808 ≤ 12 * y + m - 1 by omega) (by omega), w64_ (show -9223372036854775808 ≤ 12 * y + m - 1 + k by omega) (by omega),
    Int.tdiv_eq_ediv_of_nonneg (by omega), Int.tmod_eq_emod_of_nonneg (by omega), w64_ (by omega) (by omega), w64_ (by omega) (by omega), length_at (by omega) (by omega), Option.bind_some]
  have e : mn d (lenM (lpN ((12 * y + m - 1 + k) / 12)) ((12 * y + m - 1 + k) % 12 + 1)) = min d (lenM (lpN ((12 * y + m - 1 + k) / 12)) ((12 * y + m - 1 + k) % 12 + 1)) := by unfold mn; split <;> omega
  rw [e, hM]
  rfl

end Go.Proofs.YtlhdkajflmpnbaaDoor.PF
