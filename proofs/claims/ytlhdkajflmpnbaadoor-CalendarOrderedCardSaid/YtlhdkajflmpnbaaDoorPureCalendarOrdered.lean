/- The law CalendarOrdered of package spilelaw04 returns true for every input and leaves its arguments as they were; the library's table of powers of ten reads as the program's text lays it. -/
import Derived.Test.YtlhdkajflmpnbaaDoorLawCalendarOrdered
import Derived.Test.YtlhdkajflmpnbaaDoorMCal04
import Derived.Test.YtlhdkajflmpnbaaDoorMCal04b
import Derived.Test.YtlhdkajflmpnbaaDoorMEv
import Derived.Test.YtlhdkajflmpnbaaDoorMTxt04
import Derived.Test.YtlhdkajflmpnbaaDoorPF14
import Derived.Test.YtlhdkajflmpnbaaDoorPF3
import Derived.Test.YtlhdkajflmpnbaaDoorPF5
import Derived.Test.YtlhdkajflmpnbaaDoorPF6
namespace Go.Proofs.YtlhdkajflmpnbaaDoor.PF
open Go.RowKit Go.Proofs.YtlhdkajflmpnbaaDoorW.PrintWords Go.Proofs.YtlhdkajflmpnbaaDoorW.PrintLast Go.Proofs.YtlhdkajflmpnbaaDoorW.PrintMore
set_option linter.unusedVariables false
set_option linter.unusedSimpArgs false
theorem toList_lit (l : Array UInt8) : (⟨l⟩ : ByteArray).toList = l.toList := Lib.toList_data _
theorem lex1 {p q : Int} (hp : 0 ≤ p) (hp1 : p ≤ 9) (hq : 0 ≤ q) (hq1 : q ≤ 9) : (digC p < digC q ↔ p < q) ∧ (digC p = digC q ↔ p = q) := by
  rw [digC_lt, digC_eq]
  omega
theorem digC_mod (p : Int) (hp : 0 ≤ p) : digC p = digC (p % 10) := by rw [digC_eq]; omega
theorem lex2 {p q : Int} (hp : 0 ≤ p) (hp1 : p ≤ 99) (hq : 0 ≤ q) (hq1 : q ≤ 99) (P : Prop) :
    (digC (p / 10) < digC (q / 10) ∨ digC (p / 10) = digC (q / 10) ∧ (digC p < digC q ∨ digC p = digC q ∧ P)) ↔ p < q ∨ p = q ∧ P := by
  rw [digC_mod p hp, digC_mod q hq, (lex1 (p := p / 10) (q := q / 10) (by omega) (by omega) (by omega) (by omega)).1, (lex1 (p := p / 10) (q := q / 10) (by omega) (by omega) (by omega) (by omega)).2, (lex1 (p := p % 10) (q := q % 10) (by omega) (by omega) (by omega) (by omega)).1, (lex1 (p := p % 10) (q := q % 10) (by omega) (by omega) (by omega) (by omega)).2]
  by_cases h : P
  · simp only [h, and_true]; omega
  · simp only [h, and_false, or_false]; omega
theorem lex4 {p q : Int} (hp : 0 ≤ p) (hp1 : p ≤ 9999) (hq : 0 ≤ q) (hq1 : q ≤ 9999) (P : Prop) :
    (digC (p / 1000) < digC (q / 1000) ∨ digC (p / 1000) = digC (q / 1000) ∧ (digC (p / 100) < digC (q / 100) ∨ digC (p / 100) = digC (q / 100) ∧ (digC (p / 10) < digC (q / 10) ∨ digC (p / 10) = digC (q / 10) ∧ (digC p < digC q ∨ digC p = digC q ∧ P)))) ↔ p < q ∨ p = q ∧ P := by
  have e1 : ∀ r : Int, 0 ≤ r → digC (r / 1000) = digC (r / 100 / 10) := fun r h => by rw [digC_eq]; omega
  have e2 : ∀ r : Int, 0 ≤ r → digC (r / 10) = digC (r % 100 / 10) := fun r h => by rw [digC_eq]; omega
  have e3 : ∀ r : Int, 0 ≤ r → digC r = digC (r % 100) := fun r h => by rw [digC_eq]; omega
  have a := lex2 (p := p % 100) (q := q % 100) (by omega) (by omega) (by omega) (by omega) P
  have b := lex2 (p := p / 100) (q := q / 100) (by omega) (by omega) (by omega) (by omega) (p % 100 < q % 100 ∨ p % 100 = q % 100 ∧ P)
  rw [← e2 p hp, ← e2 q hq, ← e3 p hp, ← e3 q hq] at a
  rw [← e1 p hp, ← e1 q hq] at b
  rw [a, b]
  by_cases h : P
  · simp only [h, and_true]; omega
  · simp only [h, and_false, or_false]; omega
theorem less_iff (a b : UInt8) (x y : List UInt8) : Op.bytesLess (a :: x) (b :: y) = true ↔ a < b ∨ a = b ∧ Op.bytesLess x y = true := by
  show (decide (a < b) || (a == b && Op.bytesLess x y)) = true ↔ _
  rw [Bool.or_eq_true, Bool.and_eq_true, beq_iff_eq, decide_eq_true_iff]
theorem dateT_less {n y m d n' y' m' d' : Int} (h : isDt n y m d) (h' : isDt n' y' m' d') : Op.bytesLess (dateT y m d).toList (dateT y' m' d').toList = decide (n < n') := by
  obtain ⟨p0, p1, p2, p3, p4, p5⟩ := h.print
  obtain ⟨q0, q1, q2, q3, q4, q5⟩ := h'.print
  have e : (Op.bytesLess (dateT y m d).toList (dateT y' m' d').toList = true) ↔ n < n' := by
    unfold dateT
    rw [toList_lit, toList_lit]
    simp only [less_iff]
    rw [← h.2.1, ← h'.2.1, dayN_lt_iff h.1 h'.1]
    have z : (Op.bytesLess ([] : List UInt8) [] = true) ↔ False := ⟨fun h => absurd h (by decide), False.elim⟩
    have k45 : ∀ P : Prop, ((45 : UInt8) < 45 ∨ True ∧ P) ↔ P := fun P => ⟨fun h => by
      rcases h with h | h
      · exact absurd h (by decide)
      · exact h.2, fun h => Or.inr ⟨trivial, h⟩⟩
    rw [lex2 p4 p5 q4 q5, k45, lex2 p2 p3 q2 q3, k45, lex4 (by omega) p1 (by omega) q1, z]
    unfold ltD
    constructor
    · rintro (h | ⟨h1, h | ⟨h2, h | ⟨_, h⟩⟩⟩)
      · exact Or.inl h
      · exact Or.inr ⟨h1, Or.inl h⟩
      · exact Or.inr ⟨h1, Or.inr ⟨h2, h⟩⟩
      · exact h.elim
    · rintro (h | ⟨h1, h | ⟨h2, h⟩⟩)
      · exact Or.inl h
      · exact Or.inr ⟨h1, Or.inl h⟩
      · exact Or.inr ⟨h1, Or.inr ⟨h2, Or.inl h⟩⟩
  by_cases c : n < n'
  · rw [decide_eq_true c]; exact e.2 c
  · rw [decide_eq_false c]; exact Bool.eq_false_iff.2 (fun h => c (e.1 h))
theorem bt_dateT (y m d : Int) : bt (dateT y m d) 0 = ((digC (y / 1000)).toNat : Int) ∧ bt (dateT y m d) 1 = ((digC (y / 100)).toNat : Int) ∧ bt (dateT y m d) 2 = ((digC (y / 10)).toNat : Int) ∧ bt (dateT y m d) 3 = ((digC y).toNat : Int) ∧ bt (dateT y m d) 4 = 45 ∧
    bt (dateT y m d) 5 = ((digC (m / 10)).toNat : Int) ∧ bt (dateT y m d) 6 = ((digC m).toNat : Int) ∧ bt (dateT y m d) 7 = 45 ∧ bt (dateT y m d) 8 = ((digC (d / 10)).toNat : Int) ∧ bt (dateT y m d) 9 = ((digC d).toNat : Int) := ⟨rfl, rfl, rfl, rfl, rfl, rfl, rfl, rfl, rfl, rfl⟩
theorem dateT_ok {n y m d : Int} (h : isDt n y m d) : okT (dateT y m d) ∧ numD (dateT y m d) 0 4 = y ∧ numD (dateT y m d) 5 2 = m ∧ numD (dateT y m d) 8 2 = d := by
  obtain ⟨p0, p1, p2, p3, p4, p5⟩ := h.print
  obtain ⟨b0, b1, b2, b3, b4, b5, b6, b7, b8, b9⟩ := bt_dateT y m d
  simp only [digC_toNat] at b0 b1 b2 b3 b5 b6 b8 b9
  refine ⟨⟨rfl, fun j hj => ?_⟩, ?_, ?_, ?_⟩
  · have : j = 0 ∨ j = 1 ∨ j = 2 ∨ j = 3 ∨ j = 4 ∨ j = 5 ∨ j = 6 ∨ j = 7 ∨ j = 8 ∨ j = 9 := by omega
    unfold okC
    rcases this with rfl | rfl | rfl | rfl | rfl | rfl | rfl | rfl | rfl | rfl
    · rw [if_neg (by omega)]; show 48 ≤ bt _ 0 ∧ bt _ 0 ≤ 57; omega
    · rw [if_neg (by omega)]; show 48 ≤ bt _ 1 ∧ bt _ 1 ≤ 57; omega
    · rw [if_neg (by omega)]; show 48 ≤ bt _ 2 ∧ bt _ 2 ≤ 57; omega
    · rw [if_neg (by omega)]; show 48 ≤ bt _ 3 ∧ bt _ 3 ≤ 57; omega
    · rw [if_pos (by omega)]; exact b4
    · rw [if_neg (by omega)]; show 48 ≤ bt _ 5 ∧ bt _ 5 ≤ 57; omega
    · rw [if_neg (by omega)]; show 48 ≤ bt _ 6 ∧ bt _ 6 ≤ 57; omega
    · rw [if_pos (by omega)]; exact b7
    · rw [if_neg (by omega)]; show 48 ≤ bt _ 8 ∧ bt _ 8 ≤ 57; omega
    · rw [if_neg (by omega)]; show 48 ≤ bt _ 9 ∧ bt _ 9 ≤ 57; omega
  · show 10 * (10 * (10 * (10 * 0 + (bt (dateT y m d) 0 - 48)) + (bt (dateT y m d) 1 - 48)) + (bt (dateT y m d) 2 - 48)) + (bt (dateT y m d) 3 - 48) = y
    omega
  · show 10 * (10 * 0 + (bt (dateT y m d) 5 - 48)) + (bt (dateT y m d) 6 - 48) = m
    omega
  · show 10 * (10 * 0 + (bt (dateT y m d) 8 - 48)) + (bt (dateT y m d) 9 - 48) = d
    omega
theorem byte_of_bt {s : ByteArray} {j : Nat} (hj : j < s.size) {p : Int} (h : bt s (j : Int) = 48 + ((p.toNat % 10 : Nat) : Int)) : s.data[j]'hj = digC p := by
  rw [← UInt8.toNat_inj, digC_toNat]
  unfold bt at h
  rw [dif_pos (show ((j : Int)).toNat < s.size from hj)] at h
  have e : (s[((j : Int)).toNat]'hj).toNat = (s.data[j]'hj).toNat := rfl
  omega
theorem dateT_nums {s : ByteArray} (h : okT s) : dateT (numD s 0 4) (numD s 5 2) (numD s 8 2) = s := by
  obtain ⟨h0, h4, h7, a, b, c⟩ := (okT_iff s).1 h
  have a0 := a 0 (by omega) (by omega); have a1 := a 1 (by omega) (by omega); have a2 := a 2 (by omega) (by omega); have a3 := a 3 (by omega) (by omega)
  have b5 := b 5 (by omega) (by omega); have b6 := b 6 (by omega) (by omega)
  have c8 := c 8 (by omega) (by omega); have c9 := c 9 (by omega) (by omega)
  have ey : numD s 0 4 = 10 * (10 * (10 * (10 * 0 + (bt s ((0 : Nat) : Int) - 48)) + (bt s ((1 : Nat) : Int) - 48)) + (bt s ((2 : Nat) : Int) - 48)) + (bt s ((3 : Nat) : Int) - 48) := rfl
  have em : numD s 5 2 = 10 * (10 * 0 + (bt s ((5 : Nat) : Int) - 48)) + (bt s ((6 : Nat) : Int) - 48) := rfl
  have ed : numD s 8 2 = 10 * (10 * 0 + (bt s ((8 : Nat) : Int) - 48)) + (bt s ((9 : Nat) : Int) - 48) := rfl
  generalize numD s 0 4 = y at ey ⊢
  generalize numD s 5 2 = m at em ⊢
  generalize numD s 8 2 = d at ed ⊢
  have hsz : s.data.size = 10 := h0
  have t45 : ∀ j : Nat, ∀ hj : j < s.size, bt s (j : Int) = 45 → s.data[j]'hj = 45 := fun j hj hb => by
    rw [← UInt8.toNat_inj]
    unfold bt at hb
    rw [dif_pos (show ((j : Int)).toNat < s.size from hj)] at hb
    have e : (s[((j : Int)).toNat]'hj).toNat = (s.data[j]'hj).toNat := rfl
    show _ = 45
    omega
  have e0 := byte_of_bt (s := s) (j := 0) (p := y / 1000) (by omega) (by omega)
  have e1 := byte_of_bt (s := s) (j := 1) (p := y / 100) (by omega) (by omega)
  have e2 := byte_of_bt (s := s) (j := 2) (p := y / 10) (by omega) (by omega)
  have e3 := byte_of_bt (s := s) (j := 3) (p := y) (by omega) (by omega)
  have e4 := t45 4 (by omega) h4
  have e5 := byte_of_bt (s := s) (j := 5) (p := m / 10) (by omega) (by omega)
  have e6 := byte_of_bt (s := s) (j := 6) (p := m) (by omega) (by omega)
  have e7 := t45 7 (by omega) h7
  have e8 := byte_of_bt (s := s) (j := 8) (p := d / 10) (by omega) (by omega)
  have e9 := byte_of_bt (s := s) (j := 9) (p := d) (by omega) (by omega)
  refine ByteArray.ext (Array.ext (by rw [hsz]; rfl) (fun j h1 h2 => ?_))
  have : j = 0 ∨ j = 1 ∨ j = 2 ∨ j = 3 ∨ j = 4 ∨ j = 5 ∨ j = 6 ∨ j = 7 ∨ j = 8 ∨ j = 9 := by omega
  rcases this with rfl | rfl | rfl | rfl | rfl | rfl | rfl | rfl | rfl | rfl
  · exact e0.symm
  · exact e1.symm
  · exact e2.symm
  · exact e3.symm
  · exact e4.symm
  · exact e5.symm
  · exact e6.symm
  · exact e7.symm
  · exact e8.symm
  · exact e9.symm
theorem ordered_j0 (a b : Int) : Ev (fun k => spilelaw04_CalendarOrdered.j0 k a b) true := by
  by_cases ca : 0 ≤ a ∧ a ≤ 100000
  · obtain ⟨y, m, d, h⟩ := exists_dt ca.1 ca.2
    obtain ⟨N1, g1⟩ := Print_yes h
    by_cases cb : 0 ≤ b ∧ b ≤ 100000
    · obtain ⟨y', m', d', h'⟩ := exists_dt cb.1 cb.2
      obtain ⟨N2, g2⟩ := Print_yes h'
      obtain ⟨k1, k2, k3, k4⟩ := dateT_ok h
      obtain ⟨N3, g3⟩ := Parse_day (s := dateT y m d) k1 (r := (a, 0)) (by rw [k2, k3, k4]; exact Day_yes h)
      refine ⟨N1 + N2 + N3 + 1, fun k hk => ?_⟩
      obtain ⟨k, rfl⟩ : ∃ j, k = j + 1 := ⟨k - 1, by omega⟩
      have a1 : calendar_Print.f k a = some (dateT y m d, 0) := g1 k (by omega)
      have a2 : calendar_Print.f k b = some (dateT y' m' d', 0) := g2 k (by omega)
      have a3 : calendar_Parse.f k (dateT y m d) = some (a, 0) := g3 k (by omega)
      dsimp only
      simp only [spilelaw04_CalendarOrdered.j0]
      rw [a1, Option.bind_some, a2, Option.bind_some]
      dsimp only
      rw [if_pos (by trivial), if_pos (by trivial), a3, Option.bind_some]
      dsimp only
      rw [if_pos (by trivial), if_pos (by trivial), dateT_less h h']
      rw [if_pos (by simp)]
      rfl
    · refine ⟨N1 + 1, fun k hk => ?_⟩
      obtain ⟨k, rfl⟩ : ∃ j, k = j + 1 := ⟨k - 1, by omega⟩
      have a1 : calendar_Print.f k a = some (dateT y m d, 0) := g1 k (by omega)
      dsimp only
      simp only [spilelaw04_CalendarOrdered.j0]
      rw [a1, Option.bind_some, Print_no cb, Option.bind_some]
      dsimp only
      rw [if_pos (by trivial), if_neg (by decide), toList_lit]
      rfl
  · by_cases cb : 0 ≤ b ∧ b ≤ 100000
    · obtain ⟨y', m', d', h'⟩ := exists_dt cb.1 cb.2
      obtain ⟨N2, g2⟩ := Print_yes h'
      refine ⟨N2 + 1, fun k hk => ?_⟩
      obtain ⟨k, rfl⟩ : ∃ j, k = j + 1 := ⟨k - 1, by omega⟩
      have a2 : calendar_Print.f k b = some (dateT y' m' d', 0) := g2 k (by omega)
      dsimp only
      simp only [spilelaw04_CalendarOrdered.j0]
      rw [Print_no ca, Option.bind_some, a2, Option.bind_some]
      dsimp only
      rw [if_neg (by decide), toList_lit, if_pos (by rfl), if_pos (by trivial)]
    · refine Ev.ret (fun k => ?_)
      simp only [spilelaw04_CalendarOrdered.j0]
      rw [Print_no ca, Option.bind_some, Print_no cb, Option.bind_some]
      dsimp only
      rw [if_neg (by decide), toList_lit, if_pos (by rfl), if_neg (by decide)]
      rfl
theorem CalendarOrdered_pure : Go.Proofs.YtlhdkajflmpnbaaDoor.calendarOrdered.Pure := by
  intro a b s _ _ _
  show ∃ k, spilelaw04_CalendarOrdered.f k a b s = some true
  obtain ⟨N1, g1⟩ := ordered_j0 a b
  have hQ : ∃ r, Ev (fun k => calendar_Parse.f k s) r ∧ (r.2 = 0 → ∃ y m d, isDt r.1 y m d ∧ dateT y m d = s) := by
    by_cases c : okT s
    · by_cases c2 : ∃ j, isDt j (numD s 0 4) (numD s 5 2) (numD s 8 2)
      · obtain ⟨j, h⟩ := c2
        exact ⟨_, Parse_day c (Day_yes h), fun _ => ⟨_, _, _, h, dateT_nums c⟩⟩
      · have c' : ∀ j, ¬ isDt j (numD s 0 4) (numD s 5 2) (numD s 8 2) := fun j h => c2 ⟨j, h⟩
        exact ⟨_, Parse_day c (Day_no c'), fun e => by cases e⟩
    · exact ⟨_, Ev.now (Parse_bad c), fun e => by cases e⟩
  obtain ⟨⟨n, e⟩, ⟨N2, g2⟩, hr⟩ := hQ
  by_cases ce : e = 0
  · subst ce
    obtain ⟨y, m, d, h, hs⟩ := hr rfl
    obtain ⟨N3, g3⟩ := Print_yes h
    refine ⟨N1 + N2 + N3, ?_⟩
    have a1 : spilelaw04_CalendarOrdered.j0 (N1 + N2 + N3) a b = some true := g1 _ (by omega)
    have a2 : calendar_Parse.f (N1 + N2 + N3) s = some (n, 0) := g2 _ (by omega)
    have a3 : calendar_Print.f (N1 + N2 + N3) n = some (dateT y m d, 0) := g3 _ (by omega)
    unfold spilelaw04_CalendarOrdered.f spilelaw04_awake.f
    rw [Option.bind_some, if_pos rfl]
    split
    · rfl
    · rw [a2, Option.bind_some]
      dsimp only
      rw [if_pos (by trivial), a3, Option.bind_some]
      dsimp only
      rw [if_pos (by trivial), hs, if_pos (by trivial)]
      exact a1
  · refine ⟨N1 + N2, ?_⟩
    have a1 : spilelaw04_CalendarOrdered.j0 (N1 + N2) a b = some true := g1 _ (by omega)
    have a2 : calendar_Parse.f (N1 + N2) s = some (n, e) := g2 _ (by omega)
    unfold spilelaw04_CalendarOrdered.f spilelaw04_awake.f
    rw [Option.bind_some, if_pos rfl]
    split
    · rfl
    · rw [a2, Option.bind_some]
      dsimp only
      rw [if_neg ce]
      exact a1

end Go.Proofs.YtlhdkajflmpnbaaDoor.PF
namespace Go.Proofs.YtlhdkajflmpnbaaDoor
/-- The given statement. -/
theorem calendarOrdered_holds : Rows.CalendarOrderedCardSaid := calendarOrdered.card PF.CalendarOrdered_pure
#print axioms calendarOrdered_holds
end Go.Proofs.YtlhdkajflmpnbaaDoor
