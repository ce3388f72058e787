-- Written by a program of this session (wip/pr.py) out of Lean's print of the translation; Lean checks it.
import Derived.Test.YtlhdkajflmpnbaaDoorPF0
import Derived.Test.YtlhdkajflmpnbaaDoorPF4
namespace Go.Proofs.YtlhdkajflmpnbaaDoor.PF
open Go.RowKit Go.Proofs.YtlhdkajflmpnbaaDoorW.PrintWords Go.Proofs.YtlhdkajflmpnbaaDoorW.PrintLast Go.Proofs.YtlhdkajflmpnbaaDoorW.PrintMore
attribute [local go_sem] max2_int min2_int max_two min_two max_three min_three max_four min_four   -- for this text's walks alone
set_option linter.unusedVariables false
set_option linter.unusedSimpArgs false

/-! ### calendar_Parse: function 25 -/
-- MAKING
-- ROUNDS
/-- A sign of a date's text is right. -/
def okC (s : ByteArray) (j : Nat) : Prop := if j = 4 ∨ j = 7 then bt s j = 45 else 48 ≤ bt s j ∧ bt s j ≤ 57
instance (s : ByteArray) (j : Nat) : Decidable (okC s j) := by unfold okC; infer_instance
/-- The number of n digits from a place on. -/
def numD (s : ByteArray) (a : Nat) : Nat → Int
  | 0 => 0
  | n + 1 => 10 * numD s a n + (bt s ((a + n : Nat) : Int) - 48)
def okT (s : ByteArray) : Prop := s.size = 10 ∧ ∀ j < 10, okC s j
instance (s : ByteArray) : Decidable (okT s) := by unfold okT; infer_instance
def calendar_Parse.f (k : Nat) (s : ByteArray) : Option (Int × Int) := if okT s then calendar_Day.f k (numD s 0 4) (numD s 5 2) (numD s 8 2) else some (0, 3)
theorem calendar_Parse.mono : ∀ s k, LeO (calendar_Parse.f k s) (calendar_Parse.f (k + 1) s) := by
  intro s k
  unfold calendar_Parse.f
  split
  · exact calendar_Day.mono _ _ _ _
  · exact LeO.refl _
theorem bt_range (s : ByteArray) (i : Int) : 0 ≤ bt s i ∧ bt s i ≤ 255 := by
  unfold bt
  split
  · rename_i h
    have := (s[i.toNat]'h).toNat_lt
    omega
  · omega
/-- What the rounds keep: i signs are read, in part p, with the numbers a, b, c. -/
def ParI (s : ByteArray) (i : Nat) (p a b c : Int) : Prop := p = (if i ≤ 4 then 0 else if i ≤ 7 then 1 else 2) ∧ a = numD s 0 (min i 4) ∧ b = numD s 5 (min (i - 5) 2) ∧ c = numD s 8 (i - 8) ∧ 0 ≤ a ∧ a ≤ 9999 ∧ 0 ≤ b ∧ b ≤ 99 ∧ 0 ≤ c ∧ c ≤ 99 ∧ ∀ j < i, okC s j
theorem numD_le (s : ByteArray) (a n : Nat) (h : ∀ j, a ≤ j → j < a + n → 48 ≤ bt s j ∧ bt s j ≤ 57) : 0 ≤ numD s a n ∧ numD s a n + 1 ≤ 10 ^ n := by
  induction n with
  | zero => simp [numD]
  | succ n ih =>
    have h1 := ih (fun j h1 h2 => h j h1 (by omega))
    have h2 := h (a + n) (by omega) (by omega)
    rw [numD, Int.pow_succ]
    omega
theorem ParI.next {s : ByteArray} {i : Nat} {p a b c : Int} (h : ParI s i p a b c) (hi : i < 10) (hok : okC s i) :
    ParI s (i + 1) (if i + 1 ≤ 4 then 0 else if i + 1 ≤ 7 then 1 else 2) (numD s 0 (min (i + 1) 4)) (numD s 5 (min (i + 1 - 5) 2)) (numD s 8 (i + 1 - 8)) := by
  obtain ⟨-, -, -, -, -, -, -, -, -, -, hj⟩ := h
  have hall : ∀ j < i + 1, okC s j := fun j hj2 => by
    by_cases e : j = i
    · rw [e]; exact hok
    · exact hj j (by omega)
  have dig : ∀ j < i + 1, j ≠ 4 → j ≠ 7 → 48 ≤ bt s j ∧ bt s j ≤ 57 := fun j h1 h2 h3 => by
    have := hall j h1
    unfold okC at this
    rwa [if_neg (by omega)] at this
  have l1 := numD_le s 0 (min (i + 1) 4) (fun j h1 h2 => dig j (by omega) (by omega) (by omega))
  have l2 := numD_le s 5 (min (i + 1 - 5) 2) (fun j h1 h2 => dig j (by omega) (by omega) (by omega))
  have l3 := numD_le s 8 (i + 1 - 8) (fun j h1 h2 => dig j (by omega) (by omega) (by omega))
  have p1 : (10 : Int) ^ min (i + 1) 4 ≤ 10000 := by
    have : min (i + 1) 4 = 0 ∨ min (i + 1) 4 = 1 ∨ min (i + 1) 4 = 2 ∨ min (i + 1) 4 = 3 ∨ min (i + 1) 4 = 4 := by omega
    rcases this with e | e | e | e | e <;> rw [e] <;> decide
  have p2 : (10 : Int) ^ min (i + 1 - 5) 2 ≤ 100 := by
    have : min (i + 1 - 5) 2 = 0 ∨ min (i + 1 - 5) 2 = 1 ∨ min (i + 1 - 5) 2 = 2 := by omega
    rcases this with e | e | e <;> rw [e] <;> decide
  have p3 : (10 : Int) ^ (i + 1 - 8) ≤ 100 := by
    have : i + 1 - 8 = 0 ∨ i + 1 - 8 = 1 ∨ i + 1 - 8 = 2 := by omega
    rcases this with e | e | e <;> rw [e] <;> decide
  refine ⟨rfl, rfl, rfl, rfl, l1.1, by omega, l2.1, by omega, l3.1, by omega, hall⟩
set_option maxHeartbeats 8000000 in
set_option maxRecDepth 100000 in
theorem calendar_Parse.calls (k : Nat) (s : ByteArray) (r1 r2 : Int) (w : World) (h : calendar_Parse.f k s = some (r1, r2)) :
    Calls Tryd.prog 25 #[.string s] w fun e w' => e = .returned (.tuple #[.int .i64 r1, .int .i64 r2]) ∧ Below w.heap.size w w' := by
  have HB := Aside0.mk (Below.refl w.heap.size w)
  by_cases hs : s.size = 10
  · have hbad : ∀ j < 10, ¬ okC s j → r1 = 0 ∧ r2 = 3 := fun j hj hn => by
      unfold calendar_Parse.f at h
      rw [if_neg (fun ht => hn (ht.2 j hj))] at h
      obtain ⟨rfl, rfl⟩ := Prod.mk.inj (Option.some.inj h)
      exact ⟨rfl, rfl⟩
    have HBAD := Aside0.mk hbad
    have HGOOD : Aside0 ((∀ j < 10, okC s j) → calendar_Day.f k (numD s 0 4) (numD s 5 2) (numD s 8 2) = some (r1, r2)) := ⟨fun ha => by
      unfold calendar_Parse.f at h
      rwa [if_pos ⟨hs, ha⟩] at h⟩
    clear h hbad
    have hs' : (s.size : Int) = 10 := by omega
    have HS := Aside0.mk hs
    go_enter Tryd.func25, Tryd.ntmps25
    go_wp2
    go_loopg [5, 13] 10 (fun kx v5 v13 wr => ∃ (i : Nat) (x p a b c : Int), v5 = .int .i64 p ∧ v13 = .int .i64 x ∧ Aside0 (x = i ∧ i ≤ 10 ∧ 10 - i ≤ kx ∧ ParI s i p a b c) ∧ Aside0 (wr.heap[w.heap.size]? = some (.cells #[.int .i64 a, .int .i64 b, .int .i64 c] 46 (0, 0))) ∧ Aside0 (Below w.heap.size w wr))
    case atStart => exact ⟨0, 0, 0, 0, 0, 0, rfl, rfl, ⟨rfl, by omega, by omega, rfl, rfl, rfl, rfl, by omega, by omega, by omega, by omega, by omega, by omega, fun j hj => absurd hj (Nat.not_lt_zero _)⟩, ⟨blk_new _ _⟩, ⟨below_alloc HB.out _⟩⟩
    case round =>
      obtain ⟨i, x, p, a, b, c, rfl, rfl, HI, BK, HB2⟩ := hrel
      clear HB
      have hc0 : wr.cell? ⟨w.heap.size, 0, none⟩ = some (.int .i64 a) := (blk_cell BK.out 0).trans rfl
      have hc1 : wr.cell? ⟨w.heap.size, 1, none⟩ = some (.int .i64 b) := (blk_cell BK.out 1).trans rfl
      have hc2 : wr.cell? ⟨w.heap.size, 2, none⟩ = some (.int .i64 c) := (blk_cell BK.out 2).trans rfl
      have hf0 := blk_frozen BK.out 0
      have hf1 := blk_frozen BK.out 1
      have hf2 := blk_frozen BK.out 2
      have hi : i = 0 ∨ i = 1 ∨ i = 2 ∨ i = 3 ∨ i = 4 ∨ i = 5 ∨ i = 6 ∨ i = 7 ∨ i = 8 ∨ i = 9 ∨ i = 10 := by have := HI.out.2.1; omega
      rcases hi with rfl | rfl | rfl | rfl | rfl | rfl | rfl | rfl | rfl | rfl | rfl

      · -- sign 0
        obtain ⟨rfl, -, hk, hP⟩ := HI.out
        obtain rfl := hP.1.trans (show _ = (0 : Int) from rfl)
        have hx : ∀ h : 0 < s.size, ((s[0]'h).toNat : Int) = bt s 0 := fun h => bt_at s 0 h
        by_cases h1 : bt s 0 < 48
        · have b1 := decide_eq_true h1
          obtain ⟨rfl, rfl⟩ := HBAD.out 0 (by omega) (by unfold okC; rw [if_neg (by omega)]; intro h; exact absurd h.1 (by simpa using h1))
          clear h1 hk hP
          go_wp2
          go_ret2
          exact ⟨rfl, HB2.out⟩
        · have b1 := decide_eq_false h1
          by_cases h2 : 57 < bt s 0
          · have b2 := decide_eq_true h2
            obtain ⟨rfl, rfl⟩ := HBAD.out 0 (by omega) (by unfold okC; rw [if_neg (by omega)]; intro h; exact absurd h.2 (by simpa using h2))
            clear h1 h2 hk hP
            go_wp2
            go_ret2
            exact ⟨rfl, HB2.out⟩
          · have b2 := decide_eq_false h2
            have HN : Aside0 (ParI s 1 0 (10 * a + (bt s 0 - 48)) b c) := ⟨by
              have hN := hP.next (by omega) (show okC s 0 by unfold okC; rw [if_neg (by omega)]; exact ⟨by simpa using h1, by simpa using h2⟩)
              rw [hP.2.1, hP.2.2.1, hP.2.2.2.1]
              exact hN⟩
            have e1 : (bt s 0 - 48) % 256 = bt s 0 - 48 := by omega
            have e2 : wrap64 (10 * a) = 10 * a := by have := hP; unfold ParI at this; unfold wrap64; omega
            have e3 : wrap64 (10 * a + (bt s 0 - 48)) = 10 * a + (bt s 0 - 48) := by have := hP; unfold ParI at this; unfold wrap64; omega
            have HK := Aside0.mk hk
            clear h1 h2 hk hP
            go_wp2
            go_roundg (10 - 1)
            case measure => have := HK.out; omega
            case rel => exact ⟨1, 1, 0, (10 * a + (bt s 0 - 48)), b, c, rfl, rfl, ⟨rfl, by omega, by omega, HN.out⟩, ⟨blk_put (cs := #[.int .i64 a, .int .i64 b, .int .i64 c]) BK.out _ _ rfl⟩, ⟨below_set HB2.out (Nat.le_refl _)⟩⟩
      · -- sign 1
        obtain ⟨rfl, -, hk, hP⟩ := HI.out
        obtain rfl := hP.1.trans (show _ = (0 : Int) from rfl)
        have hx : ∀ h : 1 < s.size, ((s[1]'h).toNat : Int) = bt s 1 := fun h => bt_at s 1 h
        by_cases h1 : bt s 1 < 48
        · have b1 := decide_eq_true h1
          obtain ⟨rfl, rfl⟩ := HBAD.out 1 (by omega) (by unfold okC; rw [if_neg (by omega)]; intro h; exact absurd h.1 (by simpa using h1))
          clear h1 hk hP
          go_wp2
          go_ret2
          exact ⟨rfl, HB2.out⟩
        · have b1 := decide_eq_false h1
          by_cases h2 : 57 < bt s 1
          · have b2 := decide_eq_true h2
            obtain ⟨rfl, rfl⟩ := HBAD.out 1 (by omega) (by unfold okC; rw [if_neg (by omega)]; intro h; exact absurd h.2 (by simpa using h2))
            clear h1 h2 hk hP
            go_wp2
            go_ret2
            exact ⟨rfl, HB2.out⟩
          · have b2 := decide_eq_false h2
            have HN : Aside0 (ParI s 2 0 (10 * a + (bt s 1 - 48)) b c) := ⟨by
              have hN := hP.next (by omega) (show okC s 1 by unfold okC; rw [if_neg (by omega)]; exact ⟨by simpa using h1, by simpa using h2⟩)
              rw [hP.2.1, hP.2.2.1, hP.2.2.2.1]
              exact hN⟩
            have e1 : (bt s 1 - 48) % 256 = bt s 1 - 48 := by omega
            have e2 : wrap64 (10 * a) = 10 * a := by have := hP; unfold ParI at this; unfold wrap64; omega
            have e3 : wrap64 (10 * a + (bt s 1 - 48)) = 10 * a + (bt s 1 - 48) := by have := hP; unfold ParI at this; unfold wrap64; omega
            have HK := Aside0.mk hk
            clear h1 h2 hk hP
            go_wp2
            go_roundg (10 - 2)
            case measure => have := HK.out; omega
            case rel => exact ⟨2, 2, 0, (10 * a + (bt s 1 - 48)), b, c, rfl, rfl, ⟨rfl, by omega, by omega, HN.out⟩, ⟨blk_put (cs := #[.int .i64 a, .int .i64 b, .int .i64 c]) BK.out _ _ rfl⟩, ⟨below_set HB2.out (Nat.le_refl _)⟩⟩
      · -- sign 2
        obtain ⟨rfl, -, hk, hP⟩ := HI.out
        obtain rfl := hP.1.trans (show _ = (0 : Int) from rfl)
        have hx : ∀ h : 2 < s.size, ((s[2]'h).toNat : Int) = bt s 2 := fun h => bt_at s 2 h
        by_cases h1 : bt s 2 < 48
        · have b1 := decide_eq_true h1
          obtain ⟨rfl, rfl⟩ := HBAD.out 2 (by omega) (by unfold okC; rw [if_neg (by omega)]; intro h; exact absurd h.1 (by simpa using h1))
          clear h1 hk hP
          go_wp2
          go_ret2
          exact ⟨rfl, HB2.out⟩
        · have b1 := decide_eq_false h1
          by_cases h2 : 57 < bt s 2
          · have b2 := decide_eq_true h2
            obtain ⟨rfl, rfl⟩ := HBAD.out 2 (by omega) (by unfold okC; rw [if_neg (by omega)]; intro h; exact absurd h.2 (by simpa using h2))
            clear h1 h2 hk hP
            go_wp2
            go_ret2
            exact ⟨rfl, HB2.out⟩
          · have b2 := decide_eq_false h2
            have HN : Aside0 (ParI s 3 0 (10 * a + (bt s 2 - 48)) b c) := ⟨by
              have hN := hP.next (by omega) (show okC s 2 by unfold okC; rw [if_neg (by omega)]; exact ⟨by simpa using h1, by simpa using h2⟩)
              rw [hP.2.1, hP.2.2.1, hP.2.2.2.1]
              exact hN⟩
            have e1 : (bt s 2 - 48) % 256 = bt s 2 - 48 := by omega
            have e2 : wrap64 (10 * a) = 10 * a := by have := hP; unfold ParI at this; unfold wrap64; omega
            have e3 : wrap64 (10 * a + (bt s 2 - 48)) = 10 * a + (bt s 2 - 48) := by have := hP; unfold ParI at this; unfold wrap64; omega
            have HK := Aside0.mk hk
            clear h1 h2 hk hP
            go_wp2
            go_roundg (10 - 3)
            case measure => have := HK.out; omega
            case rel => exact ⟨3, 3, 0, (10 * a + (bt s 2 - 48)), b, c, rfl, rfl, ⟨rfl, by omega, by omega, HN.out⟩, ⟨blk_put (cs := #[.int .i64 a, .int .i64 b, .int .i64 c]) BK.out _ _ rfl⟩, ⟨below_set HB2.out (Nat.le_refl _)⟩⟩
      · -- sign 3
        obtain ⟨rfl, -, hk, hP⟩ := HI.out
        obtain rfl := hP.1.trans (show _ = (0 : Int) from rfl)
        have hx : ∀ h : 3 < s.size, ((s[3]'h).toNat : Int) = bt s 3 := fun h => bt_at s 3 h
        by_cases h1 : bt s 3 < 48
        · have b1 := decide_eq_true h1
          obtain ⟨rfl, rfl⟩ := HBAD.out 3 (by omega) (by unfold okC; rw [if_neg (by omega)]; intro h; exact absurd h.1 (by simpa using h1))
          clear h1 hk hP
          go_wp2
          go_ret2
          exact ⟨rfl, HB2.out⟩
        · have b1 := decide_eq_false h1
          by_cases h2 : 57 < bt s 3
          · have b2 := decide_eq_true h2
            obtain ⟨rfl, rfl⟩ := HBAD.out 3 (by omega) (by unfold okC; rw [if_neg (by omega)]; intro h; exact absurd h.2 (by simpa using h2))
            clear h1 h2 hk hP
            go_wp2
            go_ret2
            exact ⟨rfl, HB2.out⟩
          · have b2 := decide_eq_false h2
            have HN : Aside0 (ParI s 4 0 (10 * a + (bt s 3 - 48)) b c) := ⟨by
              have hN := hP.next (by omega) (show okC s 3 by unfold okC; rw [if_neg (by omega)]; exact ⟨by simpa using h1, by simpa using h2⟩)
              rw [hP.2.1, hP.2.2.1, hP.2.2.2.1]
              exact hN⟩
            have e1 : (bt s 3 - 48) % 256 = bt s 3 - 48 := by omega
            have e2 : wrap64 (10 * a) = 10 * a := by have := hP; unfold ParI at this; unfold wrap64; omega
            have e3 : wrap64 (10 * a + (bt s 3 - 48)) = 10 * a + (bt s 3 - 48) := by have := hP; unfold ParI at this; unfold wrap64; omega
            have HK := Aside0.mk hk
            clear h1 h2 hk hP
            go_wp2
            go_roundg (10 - 4)
            case measure => have := HK.out; omega
            case rel => exact ⟨4, 4, 0, (10 * a + (bt s 3 - 48)), b, c, rfl, rfl, ⟨rfl, by omega, by omega, HN.out⟩, ⟨blk_put (cs := #[.int .i64 a, .int .i64 b, .int .i64 c]) BK.out _ _ rfl⟩, ⟨below_set HB2.out (Nat.le_refl _)⟩⟩
      · -- dash 4
        obtain ⟨rfl, -, hk, hP⟩ := HI.out
        obtain rfl := hP.1.trans (show _ = (0 : Int) from rfl)
        have hx : ∀ h : 4 < s.size, ((s[4]'h).toNat : Int) = bt s 4 := fun h => bt_at s 4 h
        by_cases h1 : bt s 4 = 45
        · have b1 : (bt s 4 != 45) = false := bne_eq_false_iff_eq.mpr h1
          have b2 : (bt s 4 == 45) = true := beq_iff_eq.mpr h1
          have HN : Aside0 (ParI s 5 1 a b c) := ⟨by
            have hN := hP.next (by omega) (show okC s 4 by unfold okC; rw [if_pos (by omega)]; exact h1)
            rw [hP.2.1, hP.2.2.1, hP.2.2.2.1]
            exact hN⟩
          have HK := Aside0.mk hk
          clear h1 hk hP
          go_wp2
          go_roundg (10 - 5)
          case measure => have := HK.out; omega
          case rel => exact ⟨5, 5, 1, a, b, c, rfl, rfl, ⟨rfl, by omega, by omega, HN.out⟩, BK, HB2⟩
        · have b1 : (bt s 4 != 45) = true := bne_iff_ne.mpr h1
          have b2 : (bt s 4 == 45) = false := beq_eq_false_iff_ne.mpr h1
          obtain ⟨rfl, rfl⟩ := HBAD.out 4 (by omega) (by unfold okC; rw [if_pos (by omega)]; exact h1)
          clear h1 hk hP
          go_wp2
          go_ret2
          exact ⟨rfl, HB2.out⟩
      · -- sign 5
        obtain ⟨rfl, -, hk, hP⟩ := HI.out
        obtain rfl := hP.1.trans (show _ = (1 : Int) from rfl)
        have hx : ∀ h : 5 < s.size, ((s[5]'h).toNat : Int) = bt s 5 := fun h => bt_at s 5 h
        by_cases h1 : bt s 5 < 48
        · have b1 := decide_eq_true h1
          obtain ⟨rfl, rfl⟩ := HBAD.out 5 (by omega) (by unfold okC; rw [if_neg (by omega)]; intro h; exact absurd h.1 (by simpa using h1))
          clear h1 hk hP
          go_wp2
          go_ret2
          exact ⟨rfl, HB2.out⟩
        · have b1 := decide_eq_false h1
          by_cases h2 : 57 < bt s 5
          · have b2 := decide_eq_true h2
            obtain ⟨rfl, rfl⟩ := HBAD.out 5 (by omega) (by unfold okC; rw [if_neg (by omega)]; intro h; exact absurd h.2 (by simpa using h2))
            clear h1 h2 hk hP
            go_wp2
            go_ret2
            exact ⟨rfl, HB2.out⟩
          · have b2 := decide_eq_false h2
            have HN : Aside0 (ParI s 6 1 a (10 * b + (bt s 5 - 48)) c) := ⟨by
              have hN := hP.next (by omega) (show okC s 5 by unfold okC; rw [if_neg (by omega)]; exact ⟨by simpa using h1, by simpa using h2⟩)
              rw [hP.2.1, hP.2.2.1, hP.2.2.2.1]
              exact hN⟩
            have e1 : (bt s 5 - 48) % 256 = bt s 5 - 48 := by omega
            have e2 : wrap64 (10 * b) = 10 * b := by have := hP; unfold ParI at this; unfold wrap64; omega
            have e3 : wrap64 (10 * b + (bt s 5 - 48)) = 10 * b + (bt s 5 - 48) := by have := hP; unfold ParI at this; unfold wrap64; omega
            have HK := Aside0.mk hk
            clear h1 h2 hk hP
            go_wp2
            go_roundg (10 - 6)
            case measure => have := HK.out; omega
            case rel => exact ⟨6, 6, 1, a, (10 * b + (bt s 5 - 48)), c, rfl, rfl, ⟨rfl, by omega, by omega, HN.out⟩, ⟨blk_put (cs := #[.int .i64 a, .int .i64 b, .int .i64 c]) BK.out _ _ rfl⟩, ⟨below_set HB2.out (Nat.le_refl _)⟩⟩
      · -- sign 6
        obtain ⟨rfl, -, hk, hP⟩ := HI.out
        obtain rfl := hP.1.trans (show _ = (1 : Int) from rfl)
        have hx : ∀ h : 6 < s.size, ((s[6]'h).toNat : Int) = bt s 6 := fun h => bt_at s 6 h
        by_cases h1 : bt s 6 < 48
        · have b1 := decide_eq_true h1
          obtain ⟨rfl, rfl⟩ := HBAD.out 6 (by omega) (by unfold okC; rw [if_neg (by omega)]; intro h; exact absurd h.1 (by simpa using h1))
          clear h1 hk hP
          go_wp2
          go_ret2
          exact ⟨rfl, HB2.out⟩
        · have b1 := decide_eq_false h1
          by_cases h2 : 57 < bt s 6
          · have b2 := decide_eq_true h2
            obtain ⟨rfl, rfl⟩ := HBAD.out 6 (by omega) (by unfold okC; rw [if_neg (by omega)]; intro h; exact absurd h.2 (by simpa using h2))
            clear h1 h2 hk hP
            go_wp2
            go_ret2
            exact ⟨rfl, HB2.out⟩
          · have b2 := decide_eq_false h2
            have HN : Aside0 (ParI s 7 1 a (10 * b + (bt s 6 - 48)) c) := ⟨by
              have hN := hP.next (by omega) (show okC s 6 by unfold okC; rw [if_neg (by omega)]; exact ⟨by simpa using h1, by simpa using h2⟩)
              rw [hP.2.1, hP.2.2.1, hP.2.2.2.1]
              exact hN⟩
            have e1 : (bt s 6 - 48) % 256 = bt s 6 - 48 := by omega
            have e2 : wrap64 (10 * b) = 10 * b := by have := hP; unfold ParI at this; unfold wrap64; omega
            have e3 : wrap64 (10 * b + (bt s 6 - 48)) = 10 * b + (bt s 6 - 48) := by have := hP; unfold ParI at this; unfold wrap64; omega
            have HK := Aside0.mk hk
            clear h1 h2 hk hP
            go_wp2
            go_roundg (10 - 7)
            case measure => have := HK.out; omega
            case rel => exact ⟨7, 7, 1, a, (10 * b + (bt s 6 - 48)), c, rfl, rfl, ⟨rfl, by omega, by omega, HN.out⟩, ⟨blk_put (cs := #[.int .i64 a, .int .i64 b, .int .i64 c]) BK.out _ _ rfl⟩, ⟨below_set HB2.out (Nat.le_refl _)⟩⟩
      · -- dash 7
        obtain ⟨rfl, -, hk, hP⟩ := HI.out
        obtain rfl := hP.1.trans (show _ = (1 : Int) from rfl)
        have hx : ∀ h : 7 < s.size, ((s[7]'h).toNat : Int) = bt s 7 := fun h => bt_at s 7 h
        by_cases h1 : bt s 7 = 45
        · have b1 : (bt s 7 != 45) = false := bne_eq_false_iff_eq.mpr h1
          have b2 : (bt s 7 == 45) = true := beq_iff_eq.mpr h1
          have HN : Aside0 (ParI s 8 2 a b c) := ⟨by
            have hN := hP.next (by omega) (show okC s 7 by unfold okC; rw [if_pos (by omega)]; exact h1)
            rw [hP.2.1, hP.2.2.1, hP.2.2.2.1]
            exact hN⟩
          have HK := Aside0.mk hk
          clear h1 hk hP
          go_wp2
          go_roundg (10 - 8)
          case measure => have := HK.out; omega
          case rel => exact ⟨8, 8, 2, a, b, c, rfl, rfl, ⟨rfl, by omega, by omega, HN.out⟩, BK, HB2⟩
        · have b1 : (bt s 7 != 45) = true := bne_iff_ne.mpr h1
          have b2 : (bt s 7 == 45) = false := beq_eq_false_iff_ne.mpr h1
          obtain ⟨rfl, rfl⟩ := HBAD.out 7 (by omega) (by unfold okC; rw [if_pos (by omega)]; exact h1)
          clear h1 hk hP
          go_wp2
          go_ret2
          exact ⟨rfl, HB2.out⟩
      · -- sign 8
        obtain ⟨rfl, -, hk, hP⟩ := HI.out
        obtain rfl := hP.1.trans (show _ = (2 : Int) from rfl)
        have hx : ∀ h : 8 < s.size, ((s[8]'h).toNat : Int) = bt s 8 := fun h => bt_at s 8 h
        by_cases h1 : bt s 8 < 48
        · have b1 := decide_eq_true h1
          obtain ⟨rfl, rfl⟩ := HBAD.out 8 (by omega) (by unfold okC; rw [if_neg (by omega)]; intro h; exact absurd h.1 (by simpa using h1))
          clear h1 hk hP
          go_wp2
          go_ret2
          exact ⟨rfl, HB2.out⟩
        · have b1 := decide_eq_false h1
          by_cases h2 : 57 < bt s 8
          · have b2 := decide_eq_true h2
            obtain ⟨rfl, rfl⟩ := HBAD.out 8 (by omega) (by unfold okC; rw [if_neg (by omega)]; intro h; exact absurd h.2 (by simpa using h2))
            clear h1 h2 hk hP
            go_wp2
            go_ret2
            exact ⟨rfl, HB2.out⟩
          · have b2 := decide_eq_false h2
            have HN : Aside0 (ParI s 9 2 a b (10 * c + (bt s 8 - 48))) := ⟨by
              have hN := hP.next (by omega) (show okC s 8 by unfold okC; rw [if_neg (by omega)]; exact ⟨by simpa using h1, by simpa using h2⟩)
              rw [hP.2.1, hP.2.2.1, hP.2.2.2.1]
              exact hN⟩
            have e1 : (bt s 8 - 48) % 256 = bt s 8 - 48 := by omega
            have e2 : wrap64 (10 * c) = 10 * c := by have := hP; unfold ParI at this; unfold wrap64; omega
            have e3 : wrap64 (10 * c + (bt s 8 - 48)) = 10 * c + (bt s 8 - 48) := by have := hP; unfold ParI at this; unfold wrap64; omega
            have HK := Aside0.mk hk
            clear h1 h2 hk hP
            go_wp2
            go_roundg (10 - 9)
            case measure => have := HK.out; omega
            case rel => exact ⟨9, 9, 2, a, b, (10 * c + (bt s 8 - 48)), rfl, rfl, ⟨rfl, by omega, by omega, HN.out⟩, ⟨blk_put (cs := #[.int .i64 a, .int .i64 b, .int .i64 c]) BK.out _ _ rfl⟩, ⟨below_set HB2.out (Nat.le_refl _)⟩⟩
      · -- sign 9
        obtain ⟨rfl, -, hk, hP⟩ := HI.out
        obtain rfl := hP.1.trans (show _ = (2 : Int) from rfl)
        have hx : ∀ h : 9 < s.size, ((s[9]'h).toNat : Int) = bt s 9 := fun h => bt_at s 9 h
        by_cases h1 : bt s 9 < 48
        · have b1 := decide_eq_true h1
          obtain ⟨rfl, rfl⟩ := HBAD.out 9 (by omega) (by unfold okC; rw [if_neg (by omega)]; intro h; exact absurd h.1 (by simpa using h1))
          clear h1 hk hP
          go_wp2
          go_ret2
          exact ⟨rfl, HB2.out⟩
        · have b1 := decide_eq_false h1
          by_cases h2 : 57 < bt s 9
          · have b2 := decide_eq_true h2
            obtain ⟨rfl, rfl⟩ := HBAD.out 9 (by omega) (by unfold okC; rw [if_neg (by omega)]; intro h; exact absurd h.2 (by simpa using h2))
            clear h1 h2 hk hP
            go_wp2
            go_ret2
            exact ⟨rfl, HB2.out⟩
          · have b2 := decide_eq_false h2
            have HN : Aside0 (ParI s 10 2 a b (10 * c + (bt s 9 - 48))) := ⟨by
              have hN := hP.next (by omega) (show okC s 9 by unfold okC; rw [if_neg (by omega)]; exact ⟨by simpa using h1, by simpa using h2⟩)
              rw [hP.2.1, hP.2.2.1, hP.2.2.2.1]
              exact hN⟩
            have e1 : (bt s 9 - 48) % 256 = bt s 9 - 48 := by omega
            have e2 : wrap64 (10 * c) = 10 * c := by have := hP; unfold ParI at this; unfold wrap64; omega
            have e3 : wrap64 (10 * c + (bt s 9 - 48)) = 10 * c + (bt s 9 - 48) := by have := hP; unfold ParI at this; unfold wrap64; omega
            have HK := Aside0.mk hk
            clear h1 h2 hk hP
            go_wp2
            go_roundg (10 - 10)
            case measure => have := HK.out; omega
            case rel => exact ⟨10, 10, 2, a, b, (10 * c + (bt s 9 - 48)), rfl, rfl, ⟨rfl, by omega, by omega, HN.out⟩, ⟨blk_put (cs := #[.int .i64 a, .int .i64 b, .int .i64 c]) BK.out _ _ rfl⟩, ⟨below_set HB2.out (Nat.le_refl _)⟩⟩
      · -- the end
        obtain ⟨rfl, -, hk, hP⟩ := HI.out
        obtain rfl := hP.1.trans (show _ = (2 : Int) from rfl)
        have hday := HGOOD.out hP.2.2.2.2.2.2.2.2.2.2
        have ea : numD s 0 4 = a := hP.2.1.symm
        have eb : numD s 5 2 = b := hP.2.2.1.symm
        have ec : numD s 8 2 = c := hP.2.2.2.1.symm
        rw [ea, eb, ec] at hday
        have HD := Aside0.mk (fun w' => calendar_Day.calls k a b c r1 r2 w' hday)
        clear hday hP hk ea eb ec HGOOD HBAD
        go_wp2_with (go_at_call 13; refine (HD.out _).mono ?_; rintro e w' ⟨rfl, hd⟩)
        go_ret2
        exact ⟨rfl, below_step HB2.out hd⟩
  · unfold calendar_Parse.f at h
    rw [if_neg (fun ht => hs ht.1)] at h
    obtain ⟨rfl, rfl⟩ := Prod.mk.inj (Option.some.inj h)
    have hne : ((s.size : Int) != 10) = true := bne_iff_ne.mpr (by omega)
    clear hs h
    go_enter Tryd.func25, Tryd.ntmps25
    go_wp2
    go_ret2
    exact ⟨rfl, HB.out⟩

/-! ### spilelaw04_awake: function 10 -/
-- MAKING
def spilelaw04_awake.f : Option Bool := some true
/-- In a world the examples hold. -/
def AwakeOK (w : World) : Prop := Calls Tryd.prog 10 #[] w fun e w' => e = .returned (.bool true) ∧ Below w.heap.size w w'
theorem calA_ {w w1 : World} (h : Aside0 (∀ w1, Below w.heap.size w w1 → AwakeOK w1)) (hb : Below w.heap.size w w1) : AwakeOK w1 := h.out w1 hb
theorem spilelaw04_awake.calls (r : Bool) (w : World) (h : spilelaw04_awake.f = some r) (hA : AwakeOK w := by exact calA_ (by assumption) (by repeat (first | (with_reducible first | exact HB.out | apply below_alloc | apply pw_below_drewN | apply below_drew1) | exact HB.out))) :
    Calls Tryd.prog 10 #[] w fun e w' => e = .returned (.bool r) ∧ Below w.heap.size w w' := by
  cases h
  exact hA

/-! ### spileref04_IsDay: function 29 -/
def spileref04_IsDay.f (a0 : Int) : Option (Bool) := if a0 ≥ 0 then (some (decide (a0 ≤ 100000))) else (some false)
set_option maxHeartbeats 8000000 in
set_option maxRecDepth 100000 in
theorem spileref04_IsDay.calls (a0 : Int) (r : Bool) (w : World) (h : spileref04_IsDay.f a0 = some r) :
  Calls Tryd.prog 29 #[.int .i64 a0] w fun e w' => e = .returned (.bool r) ∧ Drawn0 w w' := by
 have H : (if a0 ≥ 0 then (some (decide (a0 ≤ 100000))) else (some false)) = some r := h
 clear h
 by_cases c2 : a0 ≥ 0
 ·rw [if_pos c2] at H
  have c2b0 : decide (0 ≤ a0) = true := decide_eq_true c2
  clear c2
  obtain rfl := Option.some.inj H
  go_enter Tryd.func29, Tryd.ntmps29
  go_wp2
  go_ret
  exact ⟨by first | rfl | (simp; done) | (simp [*]; done), by repeat (first | exact Drawn0.refl _ | apply Drawn0.step)⟩
 ·rw [if_neg c2] at H
  have c2b0 : decide (0 ≤ a0) = false := decide_eq_false c2
  clear c2
  obtain rfl := Option.some.inj H
  go_enter Tryd.func29, Tryd.ntmps29
  go_wp2
  go_ret
  exact ⟨by first | rfl | (simp; done) | (simp [*]; done), by repeat (first | exact Drawn0.refl _ | apply Drawn0.step)⟩

/-! ### spileref04_leap: function 44 -/
def spileref04_leap.f (a0 : Int) : Option (Bool) := if (Int.tmod a0 4) = 0 then (if (Int.tmod a0 100) = 0 then (some ((Int.tmod a0 400) == 0)) else (some true)) else (some ((Int.tmod a0 400) == 0))
set_option maxHeartbeats 8000000 in
set_option maxRecDepth 100000 in
theorem spileref04_leap.calls (a0 : Int) (r : Bool) (w : World) (h : spileref04_leap.f a0 = some r) :
  Calls Tryd.prog 44 #[.int .i64 a0] w fun e w' => e = .returned (.bool r) ∧ Drawn0 w w' := by
 have H : (if (Int.tmod a0 4) = 0 then (if (Int.tmod a0 100) = 0 then (some ((Int.tmod a0 400) == 0)) else (some true)) else (some ((Int.tmod a0 400) == 0))) = some r := h
 clear h
 by_cases c2 : (Int.tmod a0 4) = 0
 ·rw [if_pos c2] at H
  have c2b0 : ((Int.tmod a0 4) == 0) = true := beq_iff_eq.mpr c2
  have c2b1 : ((Int.tmod a0 4) != 0) = false := bne_eq_false_iff_eq.mpr c2
  clear c2
  by_cases c3 : (Int.tmod a0 100) = 0
  ·rw [if_pos c3] at H
   have c3b0 : ((Int.tmod a0 100) == 0) = true := beq_iff_eq.mpr c3
   have c3b1 : ((Int.tmod a0 100) != 0) = false := bne_eq_false_iff_eq.mpr c3
   clear c3
   obtain rfl := Option.some.inj H
   go_enter Tryd.func44, Tryd.ntmps44
   go_wp2
   go_ret
   exact ⟨by first | rfl | (simp; done) | (simp [*]; done), by repeat (first | exact Drawn0.refl _ | apply Drawn0.step)⟩
  ·rw [if_neg c3] at H
   have c3b0 : ((Int.tmod a0 100) == 0) = false := beq_eq_false_iff_ne.mpr c3
   have c3b1 : ((Int.tmod a0 100) != 0) = true := bne_iff_ne.mpr c3
   obtain rfl := Option.some.inj H
   go_enter Tryd.func44, Tryd.ntmps44
   go_wp2
   go_ret
   exact ⟨by first | rfl | (simp; done) | (simp [*]; done), by repeat (first | exact Drawn0.refl _ | apply Drawn0.step)⟩
 ·rw [if_neg c2] at H
  have c2b0 : ((Int.tmod a0 4) == 0) = false := beq_eq_false_iff_ne.mpr c2
  have c2b1 : ((Int.tmod a0 4) != 0) = true := bne_iff_ne.mpr c2
  obtain rfl := Option.some.inj H
  go_enter Tryd.func44, Tryd.ntmps44
  go_wp2
  go_ret
  exact ⟨by first | rfl | (simp; done) | (simp [*]; done), by repeat (first | exact Drawn0.refl _ | apply Drawn0.step)⟩

/-! ### spileref04_length: function 33 -/
def spileref04_length.f (a0 : Int) (a1 : Int) : Option (Int) := if a1 = 2 then ((spileref04_leap.f a0).bind fun t145 => (if t145 = true then (some 29) else ((some (([31, 28, 31, 30, 31, 30, 31, 31, 30, 31, 30, 31] : List Int) : List Int)).bind fun y146 => (if 0 ≤ (wrap64 (a1 - 1)) then (if (wrap64 (a1 - 1)) < (y146.length : Int) then (some (rd y146 (wrap64 (a1 - 1)))) else (none)) else (none))))) else ((some (([31, 28, 31, 30, 31, 30, 31, 31, 30, 31, 30, 31] : List Int) : List Int)).bind fun y150 => (if 0 ≤ (wrap64 (a1 - 1)) then (if (wrap64 (a1 - 1)) < (y150.length : Int) then (some (rd y150 (wrap64 (a1 - 1)))) else (none)) else (none)))
set_option maxHeartbeats 8000000 in
set_option maxRecDepth 100000 in
theorem spileref04_length.calls (a0 : Int) (a1 : Int) (r : Int) (w : World) (h : spileref04_length.f a0 a1 = some r) :
  Calls Tryd.prog 33 #[.int .i64 a0, .int .i64 a1] w fun e w' => e = .returned (.int .i64 r) ∧ Below w.heap.size w w' := by
 have HB := Aside0.mk (Below.refl w.heap.size w)
 have H : (if a1 = 2 then ((spileref04_leap.f a0).bind fun t145 => (if t145 = true then (some 29) else ((some (([31, 28, 31, 30, 31, 30, 31, 31, 30, 31, 30, 31] : List Int) : List Int)).bind fun y146 => (if 0 ≤ (wrap64 (a1 - 1)) then (if (wrap64 (a1 - 1)) < (y146.length : Int) then (some (rd y146 (wrap64 (a1 - 1)))) else (none)) else (none))))) else ((some (([31, 28, 31, 30, 31, 30, 31, 31, 30, 31, 30, 31] : List Int) : List Int)).bind fun y150 => (if 0 ≤ (wrap64 (a1 - 1)) then (if (wrap64 (a1 - 1)) < (y150.length : Int) then (some (rd y150 (wrap64 (a1 - 1)))) else (none)) else (none)))) = some r := h
 clear h
 by_cases c3 : a1 = 2
 ·rw [if_pos c3] at H
  have c3b0 : (a1 == 2) = true := beq_iff_eq.mpr c3
  have c3b1 : (a1 != 2) = false := bne_eq_false_iff_eq.mpr c3
  clear c3
  replace H := Option.bind_eq_some_iff.mp H
  obtain ⟨t145, A40, H⟩ := H
  replace H : (if t145 = true then (some 29) else ((some (([31, 28, 31, 30, 31, 30, 31, 31, 30, 31, 30, 31] : List Int) : List Int)).bind fun y146 => (if 0 ≤ (wrap64 (a1 - 1)) then (if (wrap64 (a1 - 1)) < (y146.length : Int) then (some (rd y146 (wrap64 (a1 - 1)))) else (none)) else (none)))) = some r := H
  have A4 := Aside0.mk A40
  clear A40
  by_cases c5 : t145 = true
  ·subst c5
   have H1 : (some 29) = some r := by rw [if_pos rfl] at H; exact H
   clear H
   have H := H1
   clear H1
   obtain rfl := Option.some.inj H
   go_enter Tryd.func33, Tryd.ntmps33
   go_wp2_with (first | (go_at_call 44; (with_reducible refine (spileref04_leap.calls a0 true _ A4.out).mono ?_); rintro e w' ⟨rfl, ⟨nd, rfl⟩⟩))
   go_ret
   exact ⟨by first | rfl | (simp [errW_none, errW_some] <;> rfl) | (simp [*, errW_none, errW_some] <;> rfl), by repeat (first | (with_reducible first | exact HB.out | apply below_alloc | apply pw_below_drewN | apply below_drew1) | exact HB.out)⟩
  ·replace c5 := Bool.eq_false_iff.mpr c5
   subst c5
   have H1 : ((some (([31, 28, 31, 30, 31, 30, 31, 31, 30, 31, 30, 31] : List Int) : List Int)).bind fun y146 => (if 0 ≤ (wrap64 (a1 - 1)) then (if (wrap64 (a1 - 1)) < (y146.length : Int) then (some (rd y146 (wrap64 (a1 - 1)))) else (none)) else (none))) = some r := by rw [if_neg (show ¬ (false = true) by decide)] at H; exact H
   clear H
   have H := H1
   clear H1
   obtain ⟨y146, hy146⟩ : ∃ y_ : List Int, y_ = (([31, 28, 31, 30, 31, 30, 31, 31, 30, 31, 30, 31] : List Int)) := ⟨_, rfl⟩
   replace H : (if 0 ≤ (wrap64 (a1 - 1)) then (if (wrap64 (a1 - 1)) < (y146.length : Int) then (some (rd y146 (wrap64 (a1 - 1)))) else (none)) else (none)) = some r := by first | (rw [hy146]; with_reducible exact H) | (have H2_ := (Option.bind_some _ _).symm.trans H; rw [hy146]; with_reducible exact H2_) | (have H2_ := (Option.bind_some _ _).symm.trans H; with_reducible exact H2_) | with_reducible exact H | (rw [hy146]; exact H) | exact H
   have Ny146 := Aside0.mk hy146
   clear hy146
   obtain ⟨ji6, hji6⟩ : ∃ j_ : Int, (wrap64 (a1 - 1)) = j_ := ⟨_, rfl⟩
   replace H : (if 0 ≤ (ji6) then (if (ji6) < (y146.length : Int) then (some (rd y146 (ji6))) else (none)) else (none)) = some r := by first | (rw [hji6] at H; exact H) | (simp only [hji6] at H ⊢; exact H)
   (try rw [hji6] at A4)
   have hji6w : (IntKind.i64.wrap (a1 - 1)) = ji6 := (i64_w _).trans hji6
   by_cases c7 : 0 ≤ (ji6)
   ·rw [if_pos c7] at H
    have c7b0 : decide (0 ≤ (ji6)) = true := decide_eq_true c7
    clear c7
    by_cases c8 : (ji6) < (y146.length : Int)
    ·rw [if_pos c8] at H
     have c8b0 : decide ((ji6) < (y146.length : Int)) = true := decide_eq_true c8
     clear c8
     obtain rfl := Option.some.inj H
     go_enter Tryd.func33, Tryd.ntmps33
     go_wp2_with (first | (go_at_call 44; (with_reducible refine (spileref04_leap.calls a0 false _ A4.out).mono ?_); rintro e w' ⟨rfl, ⟨nd, rfl⟩⟩) | ((with_reducible refine gate_dst (N := 11) rfl ?_); refine Kd.R_lit (Kd.int .i64) _ 3 ?hg (N := 11) ?hd (xs := ([31, 28, 31, 30, 31, 30, 31, 31, 30, 31, 30, 31] : List Int)) (inner := [.int .i64 31, .int .i64 28, .int .i64 31, .int .i64 30, .int .i64 31, .int .i64 30, .int .i64 31, .int .i64 31, .int .i64 30, .int .i64 31, .int .i64 30, .int .i64 31]) (ok := fun _ => True) (okp := fun _ => True) ?hr ?hp (fun _ hk => hk) trivial (Below.refl _ _) (Nat.le_refl _) (by simp) ?_; (case hd => rfl); (case hg => rfl); (case hr => first | (go_simp; done) | (go_simp; rfl)); (case hp => exact (Reps.one (show Kd.M (Kd.int .i64) _ _ _ 31 [.int .i64 31] from rfl) (Reps.one (show Kd.M (Kd.int .i64) _ _ _ 28 [.int .i64 28] from rfl) (Reps.one (show Kd.M (Kd.int .i64) _ _ _ 31 [.int .i64 31] from rfl) (Reps.one (show Kd.M (Kd.int .i64) _ _ _ 30 [.int .i64 30] from rfl) (Reps.one (show Kd.M (Kd.int .i64) _ _ _ 31 [.int .i64 31] from rfl) (Reps.one (show Kd.M (Kd.int .i64) _ _ _ 30 [.int .i64 30] from rfl) (Reps.one (show Kd.M (Kd.int .i64) _ _ _ 31 [.int .i64 31] from rfl) (Reps.one (show Kd.M (Kd.int .i64) _ _ _ 31 [.int .i64 31] from rfl) (Reps.one (show Kd.M (Kd.int .i64) _ _ _ 30 [.int .i64 30] from rfl) (Reps.one (show Kd.M (Kd.int .i64) _ _ _ 31 [.int .i64 31] from rfl) (Reps.one (show Kd.M (Kd.int .i64) _ _ _ 30 [.int .i64 30] from rfl) (Reps.one (show Kd.M (Kd.int .i64) _ _ _ 31 [.int .i64 31] from rfl) (Reps.none _ _)))))))))))))); intro v147 w9 ho10 hb hg_ hnew_; clear hg_ hnew_; (first | rw [← Ny146.out] at ho10 | (simp only [Int.reduceToNat] at ho10; rw [← Ny146.out] at ho10)); have n0_ := Aside0.mk (Kd.R_lower ho10 (below_size (by repeat (first | (with_reducible first | exact HB.out | apply below_alloc | apply pw_below_drewN | apply below_drew1) | exact HB.out)))); have n1_ := Aside0.mk (below_step (by repeat (first | (with_reducible first | exact HB.out | apply below_alloc | apply pw_below_drewN | apply below_drew1) | exact HB.out)) hb); clear HB; have HO148 := n0_; have HB := n1_; clear n0_ n1_; clear hb ho10; obtain ⟨Ao11, co11, eo11⟩ := Kd.R_slice HO148.out; subst eo11; have p149 : 0 ≤ ((ji6) : Int) := of_decide_eq_true (by first | (with_reducible assumption) | assumption); have q149 : (ji6) < (y146.length : Int) := of_decide_eq_true (by first | (with_reducible assumption) | assumption); obtain ⟨ad149, e149, hx149_0⟩ := Kd.at_int (Kd.R_reads' HO148.out).2.2 (ji6) p149 q149; cases e149; replace p149 := eq_true p149; replace q149 := eq_true q149))
     go_ret
     exact ⟨by first | rfl | (simp [errW_none, errW_some] <;> rfl) | (simp only [← hji6]; first | rfl | (simp [errW_none, errW_some] <;> rfl)) | (simp [*, errW_none, errW_some] <;> rfl), by repeat (first | (with_reducible first | exact HB.out | apply below_alloc | apply pw_below_drewN | apply below_drew1) | exact HB.out)⟩
    ·rw [if_neg c8] at H
     exact absurd H (by simp)
   ·rw [if_neg c7] at H
    exact absurd H (by simp)
 ·rw [if_neg c3] at H
  have c3b0 : (a1 == 2) = false := beq_eq_false_iff_ne.mpr c3
  have c3b1 : (a1 != 2) = true := bne_iff_ne.mpr c3
  obtain ⟨y150, hy150⟩ : ∃ y_ : List Int, y_ = (([31, 28, 31, 30, 31, 30, 31, 31, 30, 31, 30, 31] : List Int)) := ⟨_, rfl⟩
  replace H : (if 0 ≤ (wrap64 (a1 - 1)) then (if (wrap64 (a1 - 1)) < (y150.length : Int) then (some (rd y150 (wrap64 (a1 - 1)))) else (none)) else (none)) = some r := by first | (rw [hy150]; with_reducible exact H) | (have H2_ := (Option.bind_some _ _).symm.trans H; rw [hy150]; with_reducible exact H2_) | (have H2_ := (Option.bind_some _ _).symm.trans H; with_reducible exact H2_) | with_reducible exact H | (rw [hy150]; exact H) | exact H
  have Ny150 := Aside0.mk hy150
  clear hy150
  obtain ⟨ji12, hji12⟩ : ∃ j_ : Int, (wrap64 (a1 - 1)) = j_ := ⟨_, rfl⟩
  replace H : (if 0 ≤ (ji12) then (if (ji12) < (y150.length : Int) then (some (rd y150 (ji12))) else (none)) else (none)) = some r := by first | (rw [hji12] at H; exact H) | (simp only [hji12] at H ⊢; exact H)
  have hji12w : (IntKind.i64.wrap (a1 - 1)) = ji12 := (i64_w _).trans hji12
  by_cases c13 : 0 ≤ (ji12)
  ·rw [if_pos c13] at H
   have c13b0 : decide (0 ≤ (ji12)) = true := decide_eq_true c13
   clear c13
   by_cases c14 : (ji12) < (y150.length : Int)
   ·rw [if_pos c14] at H
    have c14b0 : decide ((ji12) < (y150.length : Int)) = true := decide_eq_true c14
    clear c14
    obtain rfl := Option.some.inj H
    go_enter Tryd.func33, Tryd.ntmps33
    go_wp2_with (first | ((with_reducible refine gate_dst (N := 11) rfl ?_); refine Kd.R_lit (Kd.int .i64) _ 3 ?hg (N := 11) ?hd (xs := ([31, 28, 31, 30, 31, 30, 31, 31, 30, 31, 30, 31] : List Int)) (inner := [.int .i64 31, .int .i64 28, .int .i64 31, .int .i64 30, .int .i64 31, .int .i64 30, .int .i64 31, .int .i64 31, .int .i64 30, .int .i64 31, .int .i64 30, .int .i64 31]) (ok := fun _ => True) (okp := fun _ => True) ?hr ?hp (fun _ hk => hk) trivial (Below.refl _ _) (Nat.le_refl _) (by simp) ?_; (case hd => rfl); (case hg => rfl); (case hr => first | (go_simp; done) | (go_simp; rfl)); (case hp => exact (Reps.one (show Kd.M (Kd.int .i64) _ _ _ 31 [.int .i64 31] from rfl) (Reps.one (show Kd.M (Kd.int .i64) _ _ _ 28 [.int .i64 28] from rfl) (Reps.one (show Kd.M (Kd.int .i64) _ _ _ 31 [.int .i64 31] from rfl) (Reps.one (show Kd.M (Kd.int .i64) _ _ _ 30 [.int .i64 30] from rfl) (Reps.one (show Kd.M (Kd.int .i64) _ _ _ 31 [.int .i64 31] from rfl) (Reps.one (show Kd.M (Kd.int .i64) _ _ _ 30 [.int .i64 30] from rfl) (Reps.one (show Kd.M (Kd.int .i64) _ _ _ 31 [.int .i64 31] from rfl) (Reps.one (show Kd.M (Kd.int .i64) _ _ _ 31 [.int .i64 31] from rfl) (Reps.one (show Kd.M (Kd.int .i64) _ _ _ 30 [.int .i64 30] from rfl) (Reps.one (show Kd.M (Kd.int .i64) _ _ _ 31 [.int .i64 31] from rfl) (Reps.one (show Kd.M (Kd.int .i64) _ _ _ 30 [.int .i64 30] from rfl) (Reps.one (show Kd.M (Kd.int .i64) _ _ _ 31 [.int .i64 31] from rfl) (Reps.none _ _)))))))))))))); intro v151 w15 ho16 hb hg_ hnew_; clear hg_ hnew_; (first | rw [← Ny150.out] at ho16 | (simp only [Int.reduceToNat] at ho16; rw [← Ny150.out] at ho16)); have n0_ := Aside0.mk (Kd.R_lower ho16 (below_size (by repeat (first | (with_reducible first | exact HB.out | apply below_alloc | apply pw_below_drewN | apply below_drew1) | exact HB.out)))); have n1_ := Aside0.mk (below_step (by repeat (first | (with_reducible first | exact HB.out | apply below_alloc | apply pw_below_drewN | apply below_drew1) | exact HB.out)) hb); clear HB; have HO152 := n0_; have HB := n1_; clear n0_ n1_; clear hb ho16; obtain ⟨Ao17, co17, eo17⟩ := Kd.R_slice HO152.out; subst eo17; have p153 : 0 ≤ ((ji12) : Int) := of_decide_eq_true (by first | (with_reducible assumption) | assumption); have q153 : (ji12) < (y150.length : Int) := of_decide_eq_true (by first | (with_reducible assumption) | assumption); obtain ⟨ad153, e153, hx153_0⟩ := Kd.at_int (Kd.R_reads' HO152.out).2.2 (ji12) p153 q153; cases e153; replace p153 := eq_true p153; replace q153 := eq_true q153))
    go_ret
    exact ⟨by first | rfl | (simp [errW_none, errW_some] <;> rfl) | (simp only [← hji12]; first | rfl | (simp [errW_none, errW_some] <;> rfl)) | (simp [*, errW_none, errW_some] <;> rfl), by repeat (first | (with_reducible first | exact HB.out | apply below_alloc | apply pw_below_drewN | apply below_drew1) | exact HB.out)⟩
   ·rw [if_neg c14] at H
    exact absurd H (by simp)
  ·rw [if_neg c13] at H
   exact absurd H (by simp)

/-! ### spileref04_first: function 42 -/
def spileref04_first.f (a0 : Int) : Option (Int) := some (wrap64 ((wrap64 ((wrap64 (365 * (wrap64 (a0 - 1900)))) + (wrap64 ((wrap64 ((wrap64 (Int.tdiv (wrap64 (a0 - 1)) 4)) - (wrap64 (Int.tdiv (wrap64 (a0 - 1)) 100)))) + (wrap64 (Int.tdiv (wrap64 (a0 - 1)) 400)))))) - 460))
set_option maxHeartbeats 8000000 in
set_option maxRecDepth 100000 in
theorem spileref04_first.calls (a0 : Int) (r : Int) (w : World) (h : spileref04_first.f a0 = some r) :
  Calls Tryd.prog 42 #[.int .i64 a0] w fun e w' => e = .returned (.int .i64 r) ∧ Drawn0 w w' := by
 have H : (some (wrap64 ((wrap64 ((wrap64 (365 * (wrap64 (a0 - 1900)))) + (wrap64 ((wrap64 ((wrap64 (Int.tdiv (wrap64 (a0 - 1)) 4)) - (wrap64 (Int.tdiv (wrap64 (a0 - 1)) 100)))) + (wrap64 (Int.tdiv (wrap64 (a0 - 1)) 400)))))) - 460))) = some r := h
 clear h
 obtain rfl := Option.some.inj H
 go_enter Tryd.func42, Tryd.ntmps42
 go_wp2
 go_ret
 exact ⟨by first | rfl | (simp; done) | (simp [*]; done), by repeat (first | exact Drawn0.refl _ | apply Drawn0.step)⟩

/-! ### spileref04_Of: function 30 -/
mutual
def spileref04_Of.l0 : Nat → Int → Int → Option (Int × Int × Int)
 | 0, _, _ => none
 | k + 1, x0, x3 => (spileref04_first.f (wrap64 (x3 + 1))).bind fun t155 => (if t155 ≤ x0 then (spileref04_Of.l0 k x0 (wrap64 (x3 + 1))) else ((spileref04_first.f x3).bind fun t156 => (spileref04_Of.l1 k x3 (wrap64 (x0 - t156)) 1)))
def spileref04_Of.l1 : Nat → Int → Int → Int → Option (Int × Int × Int)
 | 0, _, _, _ => none
 | k + 1, x3, x4, x5 => (spileref04_length.f x3 x5).bind fun t157 => (if x4 ≥ t157 then ((spileref04_length.f x3 x5).bind fun t158 => (spileref04_Of.l1 k x3 (wrap64 (x4 - t158)) (wrap64 (x5 + 1)))) else (some (x3, x5, wrap64 (x4 + 1))))
end
def spileref04_Of.f (k : Nat) (a0 : Int) : Option (Int × Int × Int) := spileref04_Of.l0 k a0 1900
theorem spileref04_Of.mono_l : ∀ k, (∀ y0 y1, LeO (spileref04_Of.l0 k y0 y1) (spileref04_Of.l0 (k + 1) y0 y1)) ∧ (∀ y0 y1 y2, LeO (spileref04_Of.l1 k y0 y1 y2) (spileref04_Of.l1 (k + 1) y0 y1 y2))
 | 0 => ⟨fun _ _ r h => by simp [spileref04_Of.l0] at h, fun _ _ _ r h => by simp [spileref04_Of.l1] at h⟩
 | k + 1 => by
  obtain ⟨ih0, ih1⟩ := spileref04_Of.mono_l k
  refine ⟨?_, ?_⟩
  ·intro y0 y1
   unfold spileref04_Of.l0
   repeat' first
   | (with_reducible exact ih0 _ _)
   | (with_reducible exact ih1 _ _ _)
   | (with_reducible exact LeO.refl _)
   | (with_reducible exact LeO.none _)
   | (with_reducible refine LeO.ite ?_ ?_)
   | (with_reducible refine LeO.bind ?_ (fun _ => ?_))
   | exact ih0 _ _
   | exact ih1 _ _ _
   | exact LeO.none _
   | refine LeO.ite ?_ ?_
   | refine LeO.bind ?_ (fun _ => ?_)
  ·intro y0 y1 y2
   unfold spileref04_Of.l1
   repeat' first
   | (with_reducible exact ih0 _ _)
   | (with_reducible exact ih1 _ _ _)
   | (with_reducible exact LeO.refl _)
   | (with_reducible exact LeO.none _)
   | (with_reducible refine LeO.ite ?_ ?_)
   | (with_reducible refine LeO.bind ?_ (fun _ => ?_))
   | exact ih0 _ _
   | exact ih1 _ _ _
   | exact LeO.none _
   | refine LeO.ite ?_ ?_
   | refine LeO.bind ?_ (fun _ => ?_)
theorem spileref04_Of.mono : ∀ a0 k, LeO (spileref04_Of.f k a0) (spileref04_Of.f (k + 1) a0) := by
 intro a0 k
 obtain ⟨ih0, ih1⟩ := spileref04_Of.mono_l k
 unfold spileref04_Of.f
 repeat' first
   | (with_reducible exact ih0 _ _)
   | (with_reducible exact ih1 _ _ _)
   | (with_reducible exact LeO.refl _)
   | (with_reducible exact LeO.none _)
   | (with_reducible refine LeO.ite ?_ ?_)
   | (with_reducible refine LeO.bind ?_ (fun _ => ?_))
   | exact ih0 _ _
   | exact ih1 _ _ _
   | exact LeO.none _
   | refine LeO.ite ?_ ?_
   | refine LeO.bind ?_ (fun _ => ?_)
set_option maxHeartbeats 8000000 in
set_option maxRecDepth 100000 in
theorem spileref04_Of.calls (k : Nat) (a0 : Int) (r1 : Int) (r2 : Int) (r3 : Int) (w : World) (h : spileref04_Of.f k a0 = some (r1, r2, r3)) :
  Calls Tryd.prog 30 #[.int .i64 a0] w fun e w' => e = .returned (.agg #[.int .i64 r1, .int .i64 r2, .int .i64 r3]) ∧ Below w.heap.size w w' := by
 have hu23 := Tryd.underlying23
 have HB := Aside0.mk (Below.refl w.heap.size w)
 have H : (spileref04_Of.l0 k a0 1900) = some (r1, r2, r3) := h
 clear h
 have H' := Aside0.mk H
 clear H
 go_enter Tryd.func30, Tryd.ntmps30
 go_wp2_with (first | ((with_reducible refine gate_dst (N := 2) rfl ?_); refine box_event ?hg (N := 2) ?hd (cs := #[.int .i64 0, .int .i64 0, .int .i64 0]) (t := 23) ?hr ?_; (case hd => rfl); (case hg => rfl); (case hr => first | (go_simp; done) | (go_simp; rfl)); intro gb154 hg w2 hbox hb; have n0_ := Aside0.mk (below_step (by repeat (first | (with_reducible first | exact HB.out | apply below_alloc | apply pw_below_drewN | apply below_drew1) | exact HB.out)) hb); have n1_ := Aside0.mk (hbox); have n2_ := Aside0.mk ((by rw [hg]; exact (below_size (by repeat (first | (with_reducible first | exact HB.out | apply below_alloc | apply pw_below_drewN | apply below_drew1) | exact HB.out))) : w.heap.size ≤ gb154)); have n3_ := Aside0.mk ((by rw [hg]; exact (below_size (by repeat (first | (with_reducible first | exact HB.out | apply below_alloc | apply pw_below_drewN | apply below_drew1) | exact HB.out))) : w.heap.size ≤ gb154)); clear HB; have HB := n0_; have BK154 := n1_; have GW154 := n2_; have GE154 := n3_; clear n0_ n1_ n2_ n3_; clear hb hbox hg))
 go_loopg [3] k (fun kq v3 w' => ∃ (x3_1 : Int), v3 = .int .i64 x3_1 ∧ Aside0 (spileref04_Of.l0 kq a0 x3_1 = some (r1, r2, r3)) ∧ Aside0 (kq ≤ k) ∧ Aside0 (w'.heap[gb154]? = some (.cells #[.int .i64 0, .int .i64 0, .int .i64 0] 23 (0, 0))) ∧ Aside0 (Below w.heap.size w w'))
 case atStart => exact ⟨(1900), (by first | rfl | (simp; done) | (simp [*]; done)), H', ⟨Nat.le_refl _⟩, ⟨by (with_reducible repeat (first | refine blk_drewN ?_ _ | refine blk_drew ?_ | refine blk_alloc ?_ _)); exact BK154.out⟩, ⟨by repeat (first | (with_reducible first | exact HB.out | apply below_alloc | apply pw_below_drewN | apply below_drew1 | refine below_set ?_ GE154.out) | exact HB.out)⟩⟩
 case round =>
  clear H'
  try clear p2
  obtain ⟨x3_1, rfl, HA, HK1, BK154, HB⟩ := hrel
  cases gk with
  | zero => exact absurd HA.out (by simp [spileref04_Of.l0])
  | succ k1 =>
   have H := HA.out
   clear HA
   simp only [spileref04_Of.l0] at H
   replace H := Option.bind_eq_some_iff.mp H
   obtain ⟨t155, A30, H⟩ := H
   replace H : (if t155 ≤ a0 then (spileref04_Of.l0 k1 a0 (wrap64 (x3_1 + 1))) else ((spileref04_first.f x3_1).bind fun t156 => (spileref04_Of.l1 k1 x3_1 (wrap64 (a0 - t156)) 1))) = some (r1, r2, r3) := H
   have A3 := Aside0.mk A30
   clear A30
   by_cases c4 : t155 ≤ a0
   ·rw [if_pos c4] at H
    have c4b0 : decide (t155 ≤ a0) = true := decide_eq_true c4
    clear c4
    have H' := Aside0.mk H
    clear H
    go_wp2_with (first | ((with_reducible refine gate_callee (f := 42) rfl ?_); refine goesL_ (some 8) rfl rfl Tryd.func42 (by kernel_rfl) rfl #[.int .i64 (wrap64 (x3_1 + 1))] rfl (by (try simp only [List.map_toArray, List.map_cons, List.map_nil]); first | done | rfl | (simp only [List.length_drop, List.length_take]; rfl)) ?_; (with_reducible refine (spileref04_first.calls (wrap64 (x3_1 + 1)) t155 _ A3.out).mono ?_); rintro e w' ⟨rfl, ⟨nd, rfl⟩⟩; refine ⟨_, rfl, ?_⟩))
    go_roundg k1
    case measure => have := HK1.out; omega
    case rel => exact ⟨(wrap64 (x3_1 + 1)), (by first | rfl | (simp; done) | (simp [*]; done)), H', ⟨by have := HK1.out; omega⟩, ⟨by (with_reducible repeat (first | refine blk_drewN ?_ _ | refine blk_drew ?_ | refine blk_alloc ?_ _)); exact BK154.out⟩, ⟨by repeat (first | (with_reducible first | exact HB.out | apply below_alloc | apply pw_below_drewN | apply below_drew1 | refine below_set ?_ GE154.out) | exact HB.out)⟩⟩
   ·rw [if_neg c4] at H
    have c4b0 : decide (t155 ≤ a0) = false := decide_eq_false c4
    clear c4
    replace H := Option.bind_eq_some_iff.mp H
    obtain ⟨t156, A50, H⟩ := H
    replace H : (spileref04_Of.l1 k1 x3_1 (wrap64 (a0 - t156)) 1) = some (r1, r2, r3) := H
    have A5 := Aside0.mk A50
    clear A50
    have H' := Aside0.mk H
    clear H
    go_wp2_with (first | ((with_reducible refine gate_callee (f := 42) rfl ?_); refine goesL_ (some 8) rfl rfl Tryd.func42 (by kernel_rfl) rfl #[.int .i64 (wrap64 (x3_1 + 1))] rfl (by (try simp only [List.map_toArray, List.map_cons, List.map_nil]); first | done | rfl | (simp only [List.length_drop, List.length_take]; rfl)) ?_; (with_reducible refine (spileref04_first.calls (wrap64 (x3_1 + 1)) t155 _ A3.out).mono ?_); rintro e w' ⟨rfl, ⟨nd, rfl⟩⟩; refine ⟨_, rfl, ?_⟩) | ((with_reducible refine gate_callee (f := 42) rfl ?_); refine goesL_ (some 15) rfl rfl Tryd.func42 (by kernel_rfl) rfl #[.int .i64 x3_1] rfl (by (try simp only [List.map_toArray, List.map_cons, List.map_nil]); first | done | rfl | (simp only [List.length_drop, List.length_take]; rfl)) ?_; (with_reducible refine (spileref04_first.calls x3_1 t156 _ A5.out).mono ?_); rintro e w' ⟨rfl, ⟨nd, rfl⟩⟩; refine ⟨_, rfl, ?_⟩))
    go_loopg [4, 5] k1 (fun kq v4 v5 w' => ∃ (x4_2 : Int) (x5_2 : Int), v4 = .int .i64 x4_2 ∧ v5 = .int .i64 x5_2 ∧ Aside0 (spileref04_Of.l1 kq x3_1 x4_2 x5_2 = some (r1, r2, r3)) ∧ Aside0 (kq ≤ k1) ∧ Aside0 (w'.heap[gb154]? = some (.cells #[.int .i64 0, .int .i64 0, .int .i64 0] 23 (0, 0))) ∧ Aside0 (Below w.heap.size w w'))
    case atStart => exact ⟨(wrap64 (a0 - t156)), (1), (by first | rfl | (simp; done) | (simp [*]; done)), (by first | rfl | (simp; done) | (simp [*]; done)), H', ⟨Nat.le_refl _⟩, ⟨by (with_reducible repeat (first | refine blk_drewN ?_ _ | refine blk_drew ?_ | refine blk_alloc ?_ _)); exact BK154.out⟩, ⟨by repeat (first | (with_reducible first | exact HB.out | apply below_alloc | apply pw_below_drewN | apply below_drew1 | refine below_set ?_ GE154.out) | exact HB.out)⟩⟩
    case round =>
     clear H'
     try clear p2
     try clear c3
     try clear c4
     try clear c4b0
     try clear p2
     obtain ⟨x4_2, x5_2, rfl, rfl, HA, HK2, BK154, HB⟩ := hrel
     cases gk with
     | zero => exact absurd HA.out (by simp [spileref04_Of.l1])
     | succ k2 =>
      have H := HA.out
      clear HA
      simp only [spileref04_Of.l1] at H
      replace H := Option.bind_eq_some_iff.mp H
      obtain ⟨t157, A60, H⟩ := H
      replace H : (if x4_2 ≥ t157 then ((spileref04_length.f x3_1 x5_2).bind fun t158 => (spileref04_Of.l1 k2 x3_1 (wrap64 (x4_2 - t158)) (wrap64 (x5_2 + 1)))) else (some (x3_1, x5_2, wrap64 (x4_2 + 1)))) = some (r1, r2, r3) := H
      have A6 := Aside0.mk A60
      clear A60
      by_cases c7 : x4_2 ≥ t157
      ·rw [if_pos c7] at H
       have c7b0 : decide (t157 ≤ x4_2) = true := decide_eq_true c7
       clear c7
       replace H := Option.bind_eq_some_iff.mp H
       obtain ⟨t158, A80, H⟩ := H
       replace H : (spileref04_Of.l1 k2 x3_1 (wrap64 (x4_2 - t158)) (wrap64 (x5_2 + 1))) = some (r1, r2, r3) := H
       have A8 := Aside0.mk A80
       clear A80
       have H' := Aside0.mk H
       clear H
       go_wp2_with (first | ((with_reducible refine gate_callee (f := 33) rfl ?_); refine goesL_ (some 20) rfl rfl Tryd.func33 (by kernel_rfl) rfl #[.int .i64 x3_1, .int .i64 x5_2] rfl (by (try simp only [List.map_toArray, List.map_cons, List.map_nil]); first | done | rfl | (simp only [List.length_drop, List.length_take]; rfl)) ?_; (with_reducible refine (spileref04_length.calls x3_1 x5_2 t157 _ A6.out).mono ?_); rintro e w9 ⟨rfl, hb⟩; refine ⟨_, rfl, ?_⟩; have n0_ := Aside0.mk (blk_below (g := gb154) (o := .cells #[.int .i64 0, .int .i64 0, .int .i64 0] 23 (0, 0)) (by (with_reducible repeat (first | refine blk_drewN ?_ _ | refine blk_drew ?_ | refine blk_alloc ?_ _)); exact BK154.out) hb); have n1_ := Aside0.mk (below_step (by repeat (first | (with_reducible first | exact HB.out | apply below_alloc | apply pw_below_drewN | apply below_drew1 | refine below_set ?_ GE154.out) | exact HB.out)) hb); clear BK154; clear HB; have BK154 := n0_; have HB := n1_; clear n0_ n1_; (try clear hb); (try clear hb2); (try clear hk); (try clear hi)) | ((with_reducible refine gate_callee (f := 33) rfl ?_); refine goesL_ (some 25) rfl rfl Tryd.func33 (by kernel_rfl) rfl #[.int .i64 x3_1, .int .i64 x5_2] rfl (by (try simp only [List.map_toArray, List.map_cons, List.map_nil]); first | done | rfl | (simp only [List.length_drop, List.length_take]; rfl)) ?_; (with_reducible refine (spileref04_length.calls x3_1 x5_2 t158 _ A8.out).mono ?_); rintro e w10 ⟨rfl, hb⟩; refine ⟨_, rfl, ?_⟩; have n0_ := Aside0.mk (blk_below (g := gb154) (o := .cells #[.int .i64 0, .int .i64 0, .int .i64 0] 23 (0, 0)) (by (with_reducible repeat (first | refine blk_drewN ?_ _ | refine blk_drew ?_ | refine blk_alloc ?_ _)); exact BK154.out) hb); have n1_ := Aside0.mk (below_step (by repeat (first | (with_reducible first | exact HB.out | apply below_alloc | apply pw_below_drewN | apply below_drew1 | refine below_set ?_ GE154.out) | exact HB.out)) hb); clear BK154; clear HB; have BK154 := n0_; have HB := n1_; clear n0_ n1_; (try clear hb); (try clear hb2); (try clear hk); (try clear hi)))
       go_roundg k2
       case measure => have := HK1.out; have := HK2.out; omega
       case rel => exact ⟨(wrap64 (x4_2 - t158)), (wrap64 (x5_2 + 1)), (by first | rfl | (simp; done) | (simp [*]; done)), (by first | rfl | (simp; done) | (simp [*]; done)), H', ⟨by have := HK1.out; have := HK2.out; omega⟩, ⟨by (with_reducible repeat (first | refine blk_drewN ?_ _ | refine blk_drew ?_ | refine blk_alloc ?_ _)); exact BK154.out⟩, ⟨by repeat (first | (with_reducible first | exact HB.out | apply below_alloc | apply pw_below_drewN | apply below_drew1 | refine below_set ?_ GE154.out) | exact HB.out)⟩⟩
      ·rw [if_neg c7] at H
       have c7b0 : decide (t157 ≤ x4_2) = false := decide_eq_false c7
       clear c7
       simp only [Option.some.injEq, Prod.mk.injEq] at H
       obtain ⟨rfl, rfl, rfl⟩ := H
       go_wp2_with (first | ((with_reducible refine gate_callee (f := 33) rfl ?_); refine goesL_ (some 20) rfl rfl Tryd.func33 (by kernel_rfl) rfl #[.int .i64 x3_1, .int .i64 x5_2] rfl (by (try simp only [List.map_toArray, List.map_cons, List.map_nil]); first | done | rfl | (simp only [List.length_drop, List.length_take]; rfl)) ?_; (with_reducible refine (spileref04_length.calls x3_1 x5_2 t157 _ A6.out).mono ?_); rintro e w11 ⟨rfl, hb⟩; refine ⟨_, rfl, ?_⟩; have n0_ := Aside0.mk (blk_below (g := gb154) (o := .cells #[.int .i64 0, .int .i64 0, .int .i64 0] 23 (0, 0)) (by (with_reducible repeat (first | refine blk_drewN ?_ _ | refine blk_drew ?_ | refine blk_alloc ?_ _)); exact BK154.out) hb); have n1_ := Aside0.mk (below_step (by repeat (first | (with_reducible first | exact HB.out | apply below_alloc | apply pw_below_drewN | apply below_drew1 | refine below_set ?_ GE154.out) | exact HB.out)) hb); clear BK154; clear HB; have BK154 := n0_; have HB := n1_; clear n0_ n1_; (try clear hb); (try clear hb2); (try clear hk); (try clear hi); have hcz12_0 : w11.cell? ⟨gb154, 0, none⟩ = some (.int .i64 0) := (blk_cell BK154.out 0).trans rfl; have hcz12_1 : w11.cell? ⟨gb154, 1, none⟩ = some (.int .i64 0) := (blk_cell BK154.out 1).trans rfl; have hcz12_2 : w11.cell? ⟨gb154, 2, none⟩ = some (.int .i64 0) := (blk_cell BK154.out 2).trans rfl; have hfz12_0 := blk_frozen BK154.out 0; have hfz12_1 := blk_frozen BK154.out 1; have hfz12_2 := blk_frozen BK154.out 2))
       refine bodyPost_ret (results_cell_row rfl _ _ gb154 23 #[.int .i64 x3_1, .int .i64 x5_2, .int .i64 (wrap64 (x4_2 + 1))] (0, 0) _ rfl (by (with_reducible repeat (first | refine blk_drewN ?_ _ | refine blk_drew ?_ | refine blk_alloc ?_ _)); refine blk_put (cs := #[.int .i64 x3_1, .int .i64 x5_2, .int .i64 0]) ?_ 2 _ rfl; (with_reducible repeat (first | refine blk_drewN ?_ _ | refine blk_drew ?_ | refine blk_alloc ?_ _)); refine blk_put (cs := #[.int .i64 x3_1, .int .i64 0, .int .i64 0]) ?_ 1 _ rfl; (with_reducible repeat (first | refine blk_drewN ?_ _ | refine blk_drew ?_ | refine blk_alloc ?_ _)); refine blk_put (cs := #[.int .i64 0, .int .i64 0, .int .i64 0]) ?_ 0 _ rfl; (with_reducible repeat (first | refine blk_drewN ?_ _ | refine blk_drew ?_ | refine blk_alloc ?_ _)); exact BK154.out) Tryd.underlying23 rfl (by kernel_rfl)) rfl ?_
       exact ⟨by first | rfl | (simp [errW_none, errW_some] <;> rfl) | (simp [*, errW_none, errW_some] <;> rfl), by repeat (first | (with_reducible first | exact HB.out | apply below_alloc | apply pw_below_drewN | apply below_drew1 | refine below_set ?_ GE154.out) | exact HB.out)⟩

/-! ### spileref04_Date: function 12 -/
def spileref04_Date.f (k : Nat) (a0 : Int) : Option (Int × Int × Int × Int) := (spileref04_IsDay.f a0).bind fun t160 => (if t160 = true then ((spileref04_Of.f k a0).bind fun bt161 => (some (bt161.1, bt161.2.1, bt161.2.2, 0))) else (some (0, 0, 0, 2)))
theorem spileref04_Date.mono : ∀ a0 k, LeO (spileref04_Date.f k a0) (spileref04_Date.f (k + 1) a0) := by
 intro a0 k
 unfold spileref04_Date.f
 repeat' first
   | (with_reducible exact spileref04_Of.mono _ _)
   | (with_reducible exact LeO.refl _)
   | (with_reducible exact LeO.none _)
   | (with_reducible refine LeO.ite ?_ ?_)
   | (with_reducible refine LeO.bind ?_ (fun _ => ?_))
   | exact spileref04_Of.mono _ _
   | exact LeO.none _
   | refine LeO.ite ?_ ?_
   | refine LeO.bind ?_ (fun _ => ?_)
set_option maxHeartbeats 8000000 in
set_option maxRecDepth 100000 in
theorem spileref04_Date.calls (k : Nat) (a0 : Int) (r1 : Int) (r2 : Int) (r3 : Int) (r4 : Int) (w : World) (h : spileref04_Date.f k a0 = some (r1, r2, r3, r4)) :
  Calls Tryd.prog 12 #[.int .i64 a0] w fun e w' => e = .returned (.tuple #[.agg #[.int .i64 r1, .int .i64 r2, .int .i64 r3], .int .i64 r4]) ∧ Below w.heap.size w w' := by
 have hu23 := Tryd.underlying23
 have HB := Aside0.mk (Below.refl w.heap.size w)
 have H : ((spileref04_IsDay.f a0).bind fun t160 => (if t160 = true then ((spileref04_Of.f k a0).bind fun bt161 => (some (bt161.1, bt161.2.1, bt161.2.2, 0))) else (some (0, 0, 0, 2)))) = some (r1, r2, r3, r4) := h
 clear h
 replace H := Option.bind_eq_some_iff.mp H
 obtain ⟨t160, A20, H⟩ := H
 replace H : (if t160 = true then ((spileref04_Of.f k a0).bind fun bt161 => (some (bt161.1, bt161.2.1, bt161.2.2, 0))) else (some (0, 0, 0, 2))) = some (r1, r2, r3, r4) := H
 have A2 := Aside0.mk A20
 clear A20
 by_cases c3 : t160 = true
 ·subst c3
  have H1 : ((spileref04_Of.f k a0).bind fun bt161 => (some (bt161.1, bt161.2.1, bt161.2.2, 0))) = some (r1, r2, r3, r4) := by rw [if_pos rfl] at H; exact H
  clear H
  have H := H1
  clear H1
  replace H := Option.bind_eq_some_iff.mp H
  obtain ⟨⟨t161, t162, t163⟩, A40, H⟩ := H
  replace H : (some (t161, t162, t163, 0)) = some (r1, r2, r3, r4) := H
  have A4 := Aside0.mk A40
  clear A40
  simp only [Option.some.injEq, Prod.mk.injEq] at H
  obtain ⟨rfl, rfl, rfl, rfl⟩ := H
  go_enter Tryd.func12, Tryd.ntmps12
  go_wp2_with (first | ((with_reducible refine gate_dst (N := 2) rfl ?_); refine box_event ?hg (N := 2) ?hd (cs := #[.int .i64 0, .int .i64 0, .int .i64 0]) (t := 23) ?hr ?_; (case hd => rfl); (case hg => rfl); (case hr => first | (go_simp; done) | (go_simp; rfl)); intro gb159 hg w5 hbox hb; have n0_ := Aside0.mk (below_step (by repeat (first | (with_reducible first | exact HB.out | apply below_alloc | apply pw_below_drewN | apply below_drew1) | exact HB.out)) hb); have n1_ := Aside0.mk (hbox); have n2_ := Aside0.mk ((by rw [hg]; exact (below_size (by repeat (first | (with_reducible first | exact HB.out | apply below_alloc | apply pw_below_drewN | apply below_drew1) | exact HB.out))) : w.heap.size ≤ gb159)); have n3_ := Aside0.mk ((by rw [hg]; exact (below_size (by repeat (first | (with_reducible first | exact HB.out | apply below_alloc | apply pw_below_drewN | apply below_drew1) | exact HB.out))) : w.heap.size ≤ gb159)); clear HB; have HB := n0_; have BK159 := n1_; have GW159 := n2_; have GE159 := n3_; clear n0_ n1_ n2_ n3_; clear hb hbox hg) | ((with_reducible refine gate_callee (f := 29) rfl ?_); refine goesL_ (some 5) rfl rfl Tryd.func29 (by kernel_rfl) rfl #[.int .i64 a0] rfl (by (try simp only [List.map_toArray, List.map_cons, List.map_nil]); first | done | rfl | (simp only [List.length_drop, List.length_take]; rfl)) ?_; (with_reducible refine (spileref04_IsDay.calls a0 true _ A2.out).mono ?_); rintro e w' ⟨rfl, ⟨nd, rfl⟩⟩; refine ⟨_, rfl, ?_⟩; (try (rw [drewN_self w5]; generalize hq_ : World.drewN w5 _ = w5; have n0_ : Aside0 (w5.heap[gb159]? = some (.cells #[.int .i64 0, .int .i64 0, .int .i64 0] 23 (0, 0))) := ⟨by rw [← hq_]; exact (by (with_reducible repeat (first | refine blk_drewN ?_ _ | refine blk_drew ?_ | refine blk_alloc ?_ _)); exact BK159.out)⟩; have n1_ : Aside0 (Below w.heap.size w w5) := ⟨by rw [← hq_]; exact (by repeat (first | (with_reducible first | exact HB.out | apply below_alloc | apply pw_below_drewN | apply below_drew1 | refine below_set ?_ GE159.out) | exact HB.out))⟩; clear BK159 HB hq_; have BK159 := n0_; have HB := n1_; clear n0_ n1_))) | ((with_reducible refine gate_callee (f := 30) rfl ?_); refine goesL_ (some 9) rfl rfl Tryd.func30 (by kernel_rfl) rfl #[.int .i64 a0] rfl (by (try simp only [List.map_toArray, List.map_cons, List.map_nil]); first | done | rfl | (simp only [List.length_drop, List.length_take]; rfl)) ?_; (with_reducible refine (spileref04_Of.calls k a0 t161 t162 t163 _ A4.out).mono ?_); rintro e w6 ⟨rfl, hb⟩; refine ⟨_, rfl, ?_⟩; have n0_ := Aside0.mk (blk_below (g := gb159) (o := .cells #[.int .i64 0, .int .i64 0, .int .i64 0] 23 (0, 0)) (by (with_reducible repeat (first | refine blk_drewN ?_ _ | refine blk_drew ?_ | refine blk_alloc ?_ _)); exact BK159.out) hb); have n1_ := Aside0.mk (below_step (by repeat (first | (with_reducible first | exact HB.out | apply below_alloc | apply pw_below_drewN | apply below_drew1 | refine below_set ?_ GE159.out) | exact HB.out)) hb); clear BK159; clear HB; have BK159 := n0_; have HB := n1_; clear n0_ n1_; (try clear hb); (try clear hb2); (try clear hk); (try clear hi); have hcz7_0 : w6.cell? ⟨gb159, 0, none⟩ = some (.int .i64 0) := (blk_cell BK159.out 0).trans rfl; have hcz7_1 : w6.cell? ⟨gb159, 1, none⟩ = some (.int .i64 0) := (blk_cell BK159.out 1).trans rfl; have hcz7_2 : w6.cell? ⟨gb159, 2, none⟩ = some (.int .i64 0) := (blk_cell BK159.out 2).trans rfl; have hfz7_0 := blk_frozen BK159.out 0; have hfz7_1 := blk_frozen BK159.out 1; have hfz7_2 := blk_frozen BK159.out 2))
  refine bodyPost_ret (results_ct rfl _ _ gb159 23 #[.int .i64 t161, .int .i64 t162, .int .i64 t163] (0, 0) _ rfl (by (with_reducible repeat (first | refine blk_drewN ?_ _ | refine blk_drew ?_ | refine blk_alloc ?_ _)); refine blk_put (cs := #[.int .i64 t161, .int .i64 t162, .int .i64 0]) ?_ 2 _ rfl; (with_reducible repeat (first | refine blk_drewN ?_ _ | refine blk_drew ?_ | refine blk_alloc ?_ _)); refine blk_put (cs := #[.int .i64 t161, .int .i64 0, .int .i64 0]) ?_ 1 _ rfl; (with_reducible repeat (first | refine blk_drewN ?_ _ | refine blk_drew ?_ | refine blk_alloc ?_ _)); refine blk_put (cs := #[.int .i64 0, .int .i64 0, .int .i64 0]) ?_ 0 _ rfl; (with_reducible repeat (first | refine blk_drewN ?_ _ | refine blk_drew ?_ | refine blk_alloc ?_ _)); exact BK159.out) Tryd.underlying23 rfl (by kernel_rfl)) rfl ?_
  exact ⟨by first | rfl | (simp [errW_none, errW_some] <;> rfl) | (simp [*, errW_none, errW_some] <;> rfl), by repeat (first | (with_reducible first | exact HB.out | apply below_alloc | apply pw_below_drewN | apply below_drew1 | refine below_set ?_ GE159.out) | exact HB.out)⟩
 ·replace c3 := Bool.eq_false_iff.mpr c3
  subst c3
  have H1 : (some (0, 0, 0, 2)) = some (r1, r2, r3, r4) := by rw [if_neg (show ¬ (false = true) by decide)] at H; exact H
  clear H
  have H := H1
  clear H1
  simp only [Option.some.injEq, Prod.mk.injEq] at H
  obtain ⟨rfl, rfl, rfl, rfl⟩ := H
  go_enter Tryd.func12, Tryd.ntmps12
  go_wp2_with (first | ((with_reducible refine gate_dst (N := 2) rfl ?_); refine box_event ?hg (N := 2) ?hd (cs := #[.int .i64 0, .int .i64 0, .int .i64 0]) (t := 23) ?hr ?_; (case hd => rfl); (case hg => rfl); (case hr => first | (go_simp; done) | (go_simp; rfl)); intro gb159 hg w8 hbox hb; have n0_ := Aside0.mk (below_step (by repeat (first | (with_reducible first | exact HB.out | apply below_alloc | apply pw_below_drewN | apply below_drew1) | exact HB.out)) hb); have n1_ := Aside0.mk (hbox); have n2_ := Aside0.mk ((by rw [hg]; exact (below_size (by repeat (first | (with_reducible first | exact HB.out | apply below_alloc | apply pw_below_drewN | apply below_drew1) | exact HB.out))) : w.heap.size ≤ gb159)); have n3_ := Aside0.mk ((by rw [hg]; exact (below_size (by repeat (first | (with_reducible first | exact HB.out | apply below_alloc | apply pw_below_drewN | apply below_drew1) | exact HB.out))) : w.heap.size ≤ gb159)); clear HB; have HB := n0_; have BK159 := n1_; have GW159 := n2_; have GE159 := n3_; clear n0_ n1_ n2_ n3_; clear hb hbox hg) | ((with_reducible refine gate_callee (f := 29) rfl ?_); refine goesL_ (some 5) rfl rfl Tryd.func29 (by kernel_rfl) rfl #[.int .i64 a0] rfl (by (try simp only [List.map_toArray, List.map_cons, List.map_nil]); first | done | rfl | (simp only [List.length_drop, List.length_take]; rfl)) ?_; (with_reducible refine (spileref04_IsDay.calls a0 false _ A2.out).mono ?_); rintro e w' ⟨rfl, ⟨nd, rfl⟩⟩; refine ⟨_, rfl, ?_⟩; (try (rw [drewN_self w8]; generalize hq_ : World.drewN w8 _ = w8; have n0_ : Aside0 (w8.heap[gb159]? = some (.cells #[.int .i64 0, .int .i64 0, .int .i64 0] 23 (0, 0))) := ⟨by rw [← hq_]; exact (by (with_reducible repeat (first | refine blk_drewN ?_ _ | refine blk_drew ?_ | refine blk_alloc ?_ _)); exact BK159.out)⟩; have n1_ : Aside0 (Below w.heap.size w w8) := ⟨by rw [← hq_]; exact (by repeat (first | (with_reducible first | exact HB.out | apply below_alloc | apply pw_below_drewN | apply below_drew1 | refine below_set ?_ GE159.out) | exact HB.out))⟩; clear BK159 HB hq_; have BK159 := n0_; have HB := n1_; clear n0_ n1_)); have hcz9_0 : w8.cell? ⟨gb159, 0, none⟩ = some (.int .i64 0) := (blk_cell BK159.out 0).trans rfl; have hcz9_1 : w8.cell? ⟨gb159, 1, none⟩ = some (.int .i64 0) := (blk_cell BK159.out 1).trans rfl; have hcz9_2 : w8.cell? ⟨gb159, 2, none⟩ = some (.int .i64 0) := (blk_cell BK159.out 2).trans rfl; have hfz9_0 := blk_frozen BK159.out 0; have hfz9_1 := blk_frozen BK159.out 1; have hfz9_2 := blk_frozen BK159.out 2))
  refine bodyPost_ret (results_ct rfl _ _ gb159 23 #[.int .i64 0, .int .i64 0, .int .i64 0] (0, 0) _ rfl (by (with_reducible repeat (first | refine blk_drewN ?_ _ | refine blk_drew ?_ | refine blk_alloc ?_ _)); refine blk_put (cs := #[.int .i64 0, .int .i64 0, .int .i64 0]) ?_ 2 _ rfl; (with_reducible repeat (first | refine blk_drewN ?_ _ | refine blk_drew ?_ | refine blk_alloc ?_ _)); refine blk_put (cs := #[.int .i64 0, .int .i64 0, .int .i64 0]) ?_ 1 _ rfl; (with_reducible repeat (first | refine blk_drewN ?_ _ | refine blk_drew ?_ | refine blk_alloc ?_ _)); refine blk_put (cs := #[.int .i64 0, .int .i64 0, .int .i64 0]) ?_ 0 _ rfl; (with_reducible repeat (first | refine blk_drewN ?_ _ | refine blk_drew ?_ | refine blk_alloc ?_ _)); exact BK159.out) Tryd.underlying23 rfl (by kernel_rfl)) rfl ?_
  exact ⟨by first | rfl | (simp [errW_none, errW_some] <;> rfl) | (simp [*, errW_none, errW_some] <;> rfl), by repeat (first | (with_reducible first | exact HB.out | apply below_alloc | apply pw_below_drewN | apply below_drew1 | refine below_set ?_ GE159.out) | exact HB.out)⟩

end Go.Proofs.YtlhdkajflmpnbaaDoor.PF
