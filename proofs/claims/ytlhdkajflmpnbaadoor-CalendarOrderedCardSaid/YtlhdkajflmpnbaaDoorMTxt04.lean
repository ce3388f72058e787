/- Texts of dates: what Print and Parse return, program and reference. -/
import Derived.Test.YtlhdkajflmpnbaaDoorMCal04
import Derived.Test.YtlhdkajflmpnbaaDoorMCal04b
import Derived.Test.YtlhdkajflmpnbaaDoorMEv
import Derived.Test.YtlhdkajflmpnbaaDoorPF1
import Derived.Test.YtlhdkajflmpnbaaDoorPF11
import Derived.Test.YtlhdkajflmpnbaaDoorPF12
import Derived.Test.YtlhdkajflmpnbaaDoorPF3
import Derived.Test.YtlhdkajflmpnbaaDoorPF4
import Derived.Test.YtlhdkajflmpnbaaDoorPF5
import Derived.Test.YtlhdkajflmpnbaaDoorPF6
import Derived.Test.YtlhdkajflmpnbaaDoorPF8
import Derived.Lib.Strings
namespace Go.Proofs.YtlhdkajflmpnbaaDoor.PF
open Go.RowKit Go.Proofs.YtlhdkajflmpnbaaDoorW.PrintWords Go.Proofs.YtlhdkajflmpnbaaDoorW.PrintLast Go.Proofs.YtlhdkajflmpnbaaDoorW.PrintMore
set_option linter.unusedVariables false
set_option linter.unusedSimpArgs false
theorem bsz (l : Array UInt8) : (⟨l⟩ : ByteArray).size = l.size := rfl
theorem digC_toNat (n : Int) : (digC n).toNat = 48 + n.toNat % 10 := by
  unfold digC
  rw [UInt8.toNat_ofNat']
  omega
theorem digC_lt (p q : Int) : digC p < digC q ↔ p.toNat % 10 < q.toNat % 10 := by rw [UInt8.lt_iff_toNat_lt, digC_toNat, digC_toNat]; omega
theorem digC_eq (p q : Int) : digC p = digC q ↔ p.toNat % 10 = q.toNat % 10 := by rw [← UInt8.toNat_inj, digC_toNat, digC_toNat]; omega
/-! ### The reference's digits -/
theorem digits_step {n : Int} (h0 : 0 ≤ n) (h1 : n ≤ 1000000) {many i : Int} (hi : i < many) (hi0 : 0 ≤ i) (hm : many ≤ 10) (s : ByteArray) (hs : s.size ≤ 100) (k : Nat) :
    spileref04_digits.l0 (k + 1) n many s i = spileref04_digits.l0 k (n / 10) many ((⟨#[digC n]⟩ : ByteArray) ++ s) (i + 1) := by
  simp only [spileref04_digits.l0]
  rw [if_pos hi, Int.tmod_eq_emod_of_nonneg h0, Int.tdiv_eq_ediv_of_nonneg h0, w64_ (show -9223372036854775808 ≤ n / 10 by omega) (by omega), w64_ (show -9223372036854775808 ≤ i + 1 by omega) (by omega), w64_ (show -9223372036854775808 ≤ 48 + n % 10 by omega) (by omega), Option.bind_some,
    show (48 + n % 10) % 256 = 48 + n % 10 by omega]
  have e : strOfNums [48 + n % 10] = (⟨#[digC n]⟩ : ByteArray) := by
    unfold strOfNums digC
    rw [List.map_cons, List.map_nil, show (48 + n % 10).toNat = 48 + n.toNat % 10 by omega]
  rw [e, if_pos (by show 1 + s.size ≤ _; omega)]
theorem digits_end (n many : Int) (s : ByteArray) (i : Int) (hi : ¬ i < many) (k : Nat) : spileref04_digits.l0 (k + 1) n many s i = some s := by
  simp only [spileref04_digits.l0]
  rw [if_neg hi]
theorem digits_two {n : Int} (h0 : 0 ≤ n) (h1 : n ≤ 1000000) : Ev (fun k => spileref04_digits.f k n 2) (⟨#[digC (n / 10), digC n]⟩ : ByteArray) := by
  refine ⟨3, fun k hk => ?_⟩
  obtain ⟨k, rfl⟩ : ∃ j, k = j + 3 := ⟨k - 3, by omega⟩
  show spileref04_digits.l0 (k + 2 + 1) n 2 ⟨#[]⟩ 0 = _
  rw [digits_step h0 h1 (by omega) (by omega) (by omega) _ (by simp [ByteArray.size_append, bsz])]
  show spileref04_digits.l0 (k + 1 + 1) (n / 10) 2 _ (0 + 1) = _
  rw [digits_step (by omega) (by omega) (by omega) (by omega) (by omega) _ (by simp [ByteArray.size_append, bsz]), digits_end _ _ _ _ (by omega)]
  congr 1
theorem digits_four {n : Int} (h0 : 0 ≤ n) (h1 : n ≤ 1000000) : Ev (fun k => spileref04_digits.f k n 4) (⟨#[digC (n / 1000), digC (n / 100), digC (n / 10), digC n]⟩ : ByteArray) := by
  refine ⟨5, fun k hk => ?_⟩
  obtain ⟨k, rfl⟩ : ∃ j, k = j + 5 := ⟨k - 5, by omega⟩
  show spileref04_digits.l0 (k + 4 + 1) n 4 ⟨#[]⟩ 0 = _
  rw [digits_step h0 h1 (by omega) (by omega) (by omega) _ (by simp [ByteArray.size_append, bsz])]
  show spileref04_digits.l0 (k + 3 + 1) (n / 10) 4 _ (0 + 1) = _
  rw [digits_step (by omega) (by omega) (by omega) (by omega) (by omega) _ (by simp [ByteArray.size_append, bsz])]
  show spileref04_digits.l0 (k + 2 + 1) (n / 10 / 10) 4 _ (0 + 1 + 1) = _
  rw [digits_step (by omega) (by omega) (by omega) (by omega) (by omega) _ (by simp [ByteArray.size_append, bsz])]
  show spileref04_digits.l0 (k + 1 + 1) (n / 10 / 10 / 10) 4 _ (0 + 1 + 1 + 1) = _
  rw [digits_step (by omega) (by omega) (by omega) (by omega) (by omega) _ (by simp [ByteArray.size_append, bsz]), digits_end _ _ _ _ (by omega), show n / 10 / 10 / 10 = n / 1000 by omega, show n / 10 / 10 = n / 100 by omega]
  congr 1
/-! ### Print -/
theorem isDt.print {n y m d : Int} (h : isDt n y m d) : 1000 ≤ y ∧ y ≤ 9999 ∧ 0 ≤ m ∧ m ≤ 99 ∧ 0 ≤ d ∧ d ≤ 99 := by
  have := h.y_le
  have := h.d_le
  have := h.2.2.1
  have := h.1.1
  have := h.1.2.1
  omega
theorem Print_yes {n y m d : Int} (h : isDt n y m d) : Ev (fun k => calendar_Print.f k n) (dateT y m d, 0) := by
  obtain ⟨N, hN⟩ := date_ev h
  refine ⟨N, fun k hk => ?_⟩
  have a : calendar_date.f k n = some (y, m, d) := hN k hk
  show calendar_Print.f k n = _
  unfold calendar_Print.f
  rw [is_yes h.2.2.2.1 h.2.2.2.2, Option.bind_some, if_pos rfl, a, Option.bind_some]
  dsimp only
  rw [if_pos h.print]
theorem Print_no {n : Int} (h : ¬ (0 ≤ n ∧ n ≤ 100000)) (k : Nat) : calendar_Print.f k n = some ((⟨#[]⟩ : ByteArray), 2) := by unfold calendar_Print.f; rw [is_no h]; rfl
theorem rPrint_no {n : Int} (h : ¬ (0 ≤ n ∧ n ≤ 100000)) (k : Nat) : spileref04_Print.f k n = some ((⟨#[]⟩ : ByteArray), 2) := by unfold spileref04_Print.f; rw [isDay_eq, is_no h]; rfl
theorem rPrint_yes {n y m d : Int} (h : isDt n y m d) : Ev (fun k => spileref04_Print.f k n) (dateT y m d, 0) := by
  obtain ⟨p0, p1, p2, p3, p4, p5⟩ := h.print
  obtain ⟨N1, h1⟩ := of_ev h
  obtain ⟨N2, h2⟩ := digits_four (n := y) (by omega) (by omega)
  obtain ⟨N3, h3⟩ := digits_two (n := m) (by omega) (by omega)
  obtain ⟨N4, h4⟩ := digits_two (n := d) (by omega) (by omega)
  refine ⟨N1 + N2 + N3 + N4, fun k hk => ?_⟩
  have a1 : spileref04_Of.f k n = some (y, m, d) := h1 k (by omega)
  have a2 : spileref04_digits.f k y 4 = some _ := h2 k (by omega)
  have a3 : spileref04_digits.f k m 2 = some _ := h3 k (by omega)
  have a4 : spileref04_digits.f k d 2 = some _ := h4 k (by omega)
  show spileref04_Print.f k n = _
  unfold spileref04_Print.f
  rw [isDay_eq, is_yes h.2.2.2.1 h.2.2.2.2, Option.bind_some, if_pos rfl, a1, Option.bind_some]
  dsimp only
  rw [a2, Option.bind_some, if_pos (by simp [ByteArray.size_append, bsz]), a3, Option.bind_some, if_pos (by simp [ByteArray.size_append, bsz]), if_pos (by simp [ByteArray.size_append, bsz]), a4, Option.bind_some, if_pos (by simp [ByteArray.size_append, bsz])]
  have e : ((⟨#[digC (y / 1000), digC (y / 100), digC (y / 10), digC y]⟩ : ByteArray) ++ (⟨#[45]⟩ : ByteArray) ++ (⟨#[digC (m / 10), digC m]⟩ : ByteArray) ++ (⟨#[45]⟩ : ByteArray) ++ (⟨#[digC (d / 10), digC d]⟩ : ByteArray)) = dateT y m d := ByteArray.ext (by simp [dateT, ByteArray.data_append])
  rw [e]
/-! ### Parse -/
theorem value_go (t s : ByteArray) (a L : Nat) (hL : t.size = L) (hL4 : L ≤ 4) (ht : ∀ i < L, bt t (i : Int) = bt s ((a + i : Nat) : Int)) :
    ∀ j i : Nat, i + j = L → (∀ x < i, 48 ≤ bt s ((a + x : Nat) : Int) ∧ bt s ((a + x : Nat) : Int) ≤ 57) →
      ((∀ x < L, 48 ≤ bt s ((a + x : Nat) : Int) ∧ bt s ((a + x : Nat) : Int) ≤ 57) → Ev (fun k => spileref04_value.l0 k t (numD s a i) (i : Int)) (numD s a L, true)) ∧
      ((¬ ∀ x < L, 48 ≤ bt s ((a + x : Nat) : Int) ∧ bt s ((a + x : Nat) : Int) ≤ 57) → Ev (fun k => spileref04_value.l0 k t (numD s a i) (i : Int)) (0, false)) := by
  intro j
  induction j with
  | zero =>
    intro i hi hx
    obtain rfl : i = L := by omega
    refine ⟨fun _ => Ev.ret (fun k => ?_), fun h => absurd hx h⟩
    simp only [spileref04_value.l0]
    rw [if_neg (by omega)]
  | succ j ih =>
    intro i hi hx
    have hti := ht i (by omega)
    have hr := bt_range s ((a + i : Nat) : Int)
    have hn := numD_le s a i (fun q h1 h2 => by have := hx (q - a) (by omega); rwa [show a + (q - a) = q by omega] at this)
    have hp : (10 : Int) ^ i ≤ 10000 := by
      have : i = 0 ∨ i = 1 ∨ i = 2 ∨ i = 3 ∨ i = 4 := by omega
      rcases this with e | e | e | e | e <;> rw [e] <;> decide
    by_cases hd : 48 ≤ bt s ((a + i : Nat) : Int) ∧ bt s ((a + i : Nat) : Int) ≤ 57
    · obtain ⟨i1, i2⟩ := ih (i + 1) (by omega) (fun x hx2 => by
        by_cases e : x = i
        · rw [e]; exact hd
        · exact hx x (by omega))
      have step : ∀ k, spileref04_value.l0 (k + 1) t (numD s a i) (i : Int) = spileref04_value.l0 k t (numD s a (i + 1)) ((i + 1 : Nat) : Int) := fun k => by
        simp only [spileref04_value.l0]
        rw [if_pos (by omega), if_pos (by omega), hti, if_neg (by omega), if_neg (by omega), show (bt s ((a + i : Nat) : Int) - 48) % 256 = bt s ((a + i : Nat) : Int) - 48 by omega, w64_ (show -9223372036854775808 ≤ 10 * numD s a i by omega) (by omega), w64_ (by omega) (by omega), w64_ (by omega) (by omega)]
        rfl
      exact ⟨fun h => Ev.step step (i1 h), fun h => Ev.step step (i2 h)⟩
    · refine ⟨fun h => absurd (h i (by omega)) hd, fun _ => Ev.ret (fun k => ?_)⟩
      simp only [spileref04_value.l0]
      rw [if_pos (by omega), if_pos (by omega), hti]
      by_cases c : bt s ((a + i : Nat) : Int) < 48
      · rw [if_pos c]
      · rw [if_neg c, if_pos (by omega)]
theorem bt_extract (s : ByteArray) (a b i : Nat) (hi : i < b - a) (hb : b ≤ s.size) : bt (s.extract a b) (i : Int) = bt s ((a + i : Nat) : Int) := by
  have h1 : i < (s.extract a b).size := by rw [ByteArray.size_extract]; omega
  unfold bt
  rw [dif_pos (show ((i : Int)).toNat < (s.extract a b).size from h1), dif_pos (show (((a + i : Nat) : Int)).toNat < s.size by rw [Int.toNat_natCast]; omega)]
  simp only [Int.toNat_natCast]
  rw [ByteArray.getElem_extract]
theorem value_ev (s : ByteArray) (a b : Nat) (hb : b ≤ s.size) (hab : b - a ≤ 4) :
    ((∀ x, a ≤ x → x < b → 48 ≤ bt s (x : Int) ∧ bt s (x : Int) ≤ 57) → Ev (fun k => spileref04_value.f k (s.extract a b)) (numD s a (b - a), true)) ∧
    ((¬ ∀ x, a ≤ x → x < b → 48 ≤ bt s (x : Int) ∧ bt s (x : Int) ≤ 57) → Ev (fun k => spileref04_value.f k (s.extract a b)) (0, false)) := by
  obtain ⟨h1, h2⟩ := value_go (s.extract a b) s a (b - a) (by rw [ByteArray.size_extract]; omega) hab (fun i hi => bt_extract s a b i hi hb) (b - a) 0 (by omega) (fun x hx => absurd hx (Nat.not_lt_zero _))
  refine ⟨fun h => h1 (fun x hx => h (a + x) (by omega) (by omega)), fun h => h2 (fun h3 => h (fun x hx hx2 => ?_))⟩
  have := h3 (x - a) (by omega)
  rwa [show a + (x - a) = x by omega] at this
theorem okT_iff (s : ByteArray) : okT s ↔ s.size = 10 ∧ bt s 4 = 45 ∧ bt s 7 = 45 ∧ (∀ x : Nat, 0 ≤ x → x < 4 → 48 ≤ bt s (x : Int) ∧ bt s (x : Int) ≤ 57) ∧ (∀ x : Nat, 5 ≤ x → x < 7 → 48 ≤ bt s (x : Int) ∧ bt s (x : Int) ≤ 57) ∧ (∀ x : Nat, 8 ≤ x → x < 10 → 48 ≤ bt s (x : Int) ∧ bt s (x : Int) ≤ 57) := by
  unfold okT okC
  constructor
  · rintro ⟨h0, h⟩
    refine ⟨h0, by have := h 4 (by omega); rwa [if_pos (by omega)] at this, by have := h 7 (by omega); rwa [if_pos (by omega)] at this, fun x h1 h2 => ?_, fun x h1 h2 => ?_, fun x h1 h2 => ?_⟩
    · have := h x (by omega); rwa [if_neg (by omega)] at this
    · have := h x (by omega); rwa [if_neg (by omega)] at this
    · have := h x (by omega); rwa [if_neg (by omega)] at this
  · rintro ⟨h0, h4, h7, a, b, c⟩
    refine ⟨h0, fun j hj => ?_⟩
    by_cases e : j = 4 ∨ j = 7
    · rw [if_pos e]
      rcases e with rfl | rfl
      · exact h4
      · exact h7
    · rw [if_neg e]
      have : j < 4 ∨ 5 ≤ j ∧ j < 7 ∨ 8 ≤ j := by omega
      rcases this with q | q | q
      · exact a j (by omega) q
      · exact b j q.1 q.2
      · exact c j q (by omega)
theorem Parse_day {s : ByteArray} (h : okT s) {r : Int × Int} (hr : Ev (fun k => calendar_Day.f k (numD s 0 4) (numD s 5 2) (numD s 8 2)) r) : Ev (fun k => calendar_Parse.f k s) r := by
  obtain ⟨N, hN⟩ := hr
  refine ⟨N, fun k hk => ?_⟩
  show calendar_Parse.f k s = _
  unfold calendar_Parse.f
  rw [if_pos h]
  exact hN k hk
theorem Parse_bad {s : ByteArray} (h : ¬ okT s) (k : Nat) : calendar_Parse.f k s = some (0, 3) := by unfold calendar_Parse.f; rw [if_neg h]
theorem rParse_j0 {s : ByteArray} (h0 : s.size = 10) : ((∀ x : Nat, 0 ≤ x → x < 4 → 48 ≤ bt s (x : Int) ∧ bt s (x : Int) ≤ 57) ∧ (∀ x : Nat, 5 ≤ x → x < 7 → 48 ≤ bt s (x : Int) ∧ bt s (x : Int) ≤ 57) ∧ (∀ x : Nat, 8 ≤ x → x < 10 → 48 ≤ bt s (x : Int) ∧ bt s (x : Int) ≤ 57) →
      ∀ r, Ev (fun k => spileref04_Day.f k (numD s 0 4) (numD s 5 2) (numD s 8 2)) r → Ev (fun k => spileref04_Parse.j0 k s false) r) ∧
    (¬ ((∀ x : Nat, 0 ≤ x → x < 4 → 48 ≤ bt s (x : Int) ∧ bt s (x : Int) ≤ 57) ∧ (∀ x : Nat, 5 ≤ x → x < 7 → 48 ≤ bt s (x : Int) ∧ bt s (x : Int) ≤ 57) ∧ (∀ x : Nat, 8 ≤ x → x < 10 → 48 ≤ bt s (x : Int) ∧ bt s (x : Int) ≤ 57)) → Ev (fun k => spileref04_Parse.j0 k s false) (0, 3)) := by
  have v1 := value_ev s 0 4 (by omega) (by omega)
  have v2 := value_ev s 5 7 (by omega) (by omega)
  have v3 := value_ev s 8 10 (by omega) (by omega)
  have main : ∀ (b1 b2 b3 : Int × Bool), Ev (fun k => spileref04_value.f k (s.extract 0 4)) b1 → Ev (fun k => spileref04_value.f k (s.extract 5 7)) b2 → Ev (fun k => spileref04_value.f k (s.extract 8 10)) b3 →
      ∃ N, ∀ k, N ≤ k → spileref04_Parse.j0 (k + 1) s false = (if b1.2 = true then (if b2.2 = true then (if b3.2 = true then ((spileref04_Day.f k b1.1 b2.1 b3.1).bind fun bt239 => (some (bt239.1, bt239.2))) else (some (0, 3))) else (some (0, 3))) else (some (0, 3))) := by
    rintro b1 b2 b3 ⟨N1, h1⟩ ⟨N2, h2⟩ ⟨N3, h3⟩
    refine ⟨N1 + N2 + N3, fun k hk => ?_⟩
    have a1 : spileref04_value.f k (s.extract 0 4) = some b1 := h1 k (by omega)
    have a2 : spileref04_value.f k (s.extract 5 7) = some b2 := h2 k (by omega)
    have a3 : spileref04_value.f k (s.extract 8 10) = some b3 := h3 k (by omega)
    simp only [spileref04_Parse.j0]
    rw [if_neg (by decide), if_pos (by omega), if_pos (by omega), a1, Option.bind_some, if_pos (by omega), if_pos (by omega), a2, Option.bind_some, if_pos (by omega), h0, a3, Option.bind_some]
  constructor
  · rintro ⟨c1, c2, c3⟩ r ⟨M, hM⟩
    obtain ⟨N, hN⟩ := main _ _ _ (v1.1 c1) (v2.1 c2) (v3.1 c3)
    refine ⟨N + M + 1, fun k hk => ?_⟩
    obtain ⟨k, rfl⟩ : ∃ j, k = j + 1 := ⟨k - 1, by omega⟩
    have a : spileref04_Day.f k (numD s 0 4) (numD s 5 2) (numD s 8 2) = some r := hM k (by omega)
    show spileref04_Parse.j0 (k + 1) s false = _
    rw [hN k (by omega), if_pos rfl, if_pos rfl, if_pos rfl]
    show (spileref04_Day.f k (numD s 0 4) (numD s 5 2) (numD s 8 2)).bind _ = _
    rw [a, Option.bind_some]
  · intro hn
    by_cases c1 : ∀ x : Nat, 0 ≤ x → x < 4 → 48 ≤ bt s (x : Int) ∧ bt s (x : Int) ≤ 57
    · by_cases c2 : ∀ x : Nat, 5 ≤ x → x < 7 → 48 ≤ bt s (x : Int) ∧ bt s (x : Int) ≤ 57
      · have c3 : ¬ ∀ x : Nat, 8 ≤ x → x < 10 → 48 ≤ bt s (x : Int) ∧ bt s (x : Int) ≤ 57 := fun c3 => hn ⟨c1, c2, c3⟩
        obtain ⟨N, hN⟩ := main _ _ _ (v1.1 c1) (v2.1 c2) (v3.2 c3)
        exact Ev.step (G := fun _ => some (0, 3)) (F := fun k => spileref04_Parse.j0 (k + N) s false) (fun k => by show spileref04_Parse.j0 (k + 1 + N) s false = _; rw [show k + 1 + N = (k + N) + 1 by omega, hN _ (by omega)]; rfl) (Ev.now (fun _ => rfl)) |>.imp (fun M h k hk => h k hk) |> fun ⟨M, h⟩ => ⟨M + N, fun k hk => by have := h (k - N) (by omega); dsimp only at this; rwa [show k - N + N = k by omega] at this⟩
      · obtain ⟨r3, h3⟩ : ∃ r3, Ev (fun k => spileref04_value.f k (s.extract 8 10)) r3 := by
          by_cases c3 : ∀ x : Nat, 8 ≤ x → x < 10 → 48 ≤ bt s (x : Int) ∧ bt s (x : Int) ≤ 57
          · exact ⟨_, v3.1 c3⟩
          · exact ⟨_, v3.2 c3⟩
        obtain ⟨N, hN⟩ := main _ _ _ (v1.1 c1) (v2.2 c2) h3
        refine ⟨N + 1, fun k hk => ?_⟩
        obtain ⟨k, rfl⟩ : ∃ j, k = j + 1 := ⟨k - 1, by omega⟩
        show spileref04_Parse.j0 (k + 1) s false = _
        rw [hN k (by omega), if_pos rfl, if_neg (by decide)]
    · obtain ⟨r2, h2⟩ : ∃ r2, Ev (fun k => spileref04_value.f k (s.extract 5 7)) r2 := by
        by_cases c3 : ∀ x : Nat, 5 ≤ x → x < 7 → 48 ≤ bt s (x : Int) ∧ bt s (x : Int) ≤ 57
        · exact ⟨_, v2.1 c3⟩
        · exact ⟨_, v2.2 c3⟩
      obtain ⟨r3, h3⟩ : ∃ r3, Ev (fun k => spileref04_value.f k (s.extract 8 10)) r3 := by
        by_cases c3 : ∀ x : Nat, 8 ≤ x → x < 10 → 48 ≤ bt s (x : Int) ∧ bt s (x : Int) ≤ 57
        · exact ⟨_, v3.1 c3⟩
        · exact ⟨_, v3.2 c3⟩
      obtain ⟨N, hN⟩ := main _ _ _ (v1.2 c1) h2 h3
      refine ⟨N + 1, fun k hk => ?_⟩
      obtain ⟨k, rfl⟩ : ∃ j, k = j + 1 := ⟨k - 1, by omega⟩
      show spileref04_Parse.j0 (k + 1) s false = _
      rw [hN k (by omega), if_neg (by decide)]
theorem rParse_day {s : ByteArray} (h : okT s) {r : Int × Int} (hr : Ev (fun k => spileref04_Day.f k (numD s 0 4) (numD s 5 2) (numD s 8 2)) r) : Ev (fun k => spileref04_Parse.f k s) r := by
  obtain ⟨h0, h4, h7, a, b, c⟩ := (okT_iff s).1 h
  obtain ⟨N, hN⟩ := (rParse_j0 h0).1 ⟨a, b, c⟩ r hr
  refine ⟨N, fun k hk => ?_⟩
  show spileref04_Parse.f k s = _
  unfold spileref04_Parse.f
  rw [if_pos (by omega), if_pos (by omega), if_pos h4, if_pos (by omega), h7]
  exact hN k hk
theorem rParse_bad {s : ByteArray} (h : ¬ okT s) : Ev (fun k => spileref04_Parse.f k s) (0, 3) := by
  have hb : ∀ k, spileref04_Parse.j0 (k + 1) s true = some (0, 3) := fun k => by simp [spileref04_Parse.j0]
  by_cases h0 : s.size = 10
  · by_cases h4 : bt s 4 = 45
    · by_cases h7 : bt s 7 = 45
      · obtain ⟨N, hN⟩ := (rParse_j0 h0).2 (fun hc => h ((okT_iff s).2 ⟨h0, h4, h7, hc⟩))
        refine ⟨N, fun k hk => ?_⟩
        show spileref04_Parse.f k s = _
        unfold spileref04_Parse.f
        rw [if_pos (by omega), if_pos (by omega), if_pos h4, if_pos (by omega), h7]
        exact hN k hk
      · refine Ev.ret (fun k => ?_)
        unfold spileref04_Parse.f
        rw [if_pos (by omega), if_pos (by omega), if_pos h4, if_pos (by omega), show (bt s 7 != 45) = true from bne_iff_ne.2 h7]
        exact hb k
    · refine Ev.ret (fun k => ?_)
      unfold spileref04_Parse.f
      rw [if_pos (by omega), if_pos (by omega), if_neg h4]
      exact hb k
  · refine Ev.ret (fun k => ?_)
    unfold spileref04_Parse.f
    rw [if_neg (by omega)]
    exact hb k

end Go.Proofs.YtlhdkajflmpnbaaDoor.PF
