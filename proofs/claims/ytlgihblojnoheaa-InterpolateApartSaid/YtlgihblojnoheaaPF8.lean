-- Written by a program of this session (wip/pr.py) out of Lean's print of the translation; Lean checks it.
import Derived.Test.YtlgihblojnoheaaPF0
import Derived.Test.YtlgihblojnoheaaPF1
import Derived.Test.YtlgihblojnoheaaPF3
import Derived.Test.YtlgihblojnoheaaPF5
import Derived.Test.YtlgihblojnoheaaPF6
import Derived.Test.YtlgihblojnoheaaPF7
namespace Go.Proofs.Ytlgihblojnoheaa.PF
open Go.RowKit Go.Proofs.YtlgihblojnoheaaW.PrintWords Go.Proofs.YtlgihblojnoheaaW.PrintLast Go.Proofs.YtlgihblojnoheaaW.PrintMore
attribute [local go_sem] max2_int min2_int max_two min_two max_three min_three max_four min_four   -- for this text's walks alone
set_option linter.unusedVariables false
set_option linter.unusedSimpArgs false

attribute [local go_sem high] eqA34
/-! ### api_Grade_29: function 29 -/
def api_Grade_29.l0 : Nat → List (S34) → List (S34) → Int → Int → Option (Bool)
 | 0, _, _, _, _ => none
 | k + 1, x0, x1, x12, x13 => if x13 < x12 then (if 0 ≤ x13 then (if x13 < (x0.length : Int) then (if x13 < (x1.length : Int) then (if (!(((rd_T34 x0 x13).f0) == ((rd_T34 x1 x13).f0)) || (!(((rd_T34 x0 x13).f1) == ((rd_T34 x1 x13).f1)))) = true then (some false) else (api_Grade_29.l0 k x0 x1 x12 (wrap64 (x13 + 1)))) else (none)) else (none)) else (none)) else (some true)
def api_Grade_29.f (k : Nat) (l0 : List (S34)) (l1 : List (S34)) : Option (Bool) := if (l0.length : Int) = (l1.length : Int) then (api_Grade_29.l0 k l0 l1 (l0.length : Int) 0) else (some false)
theorem api_Grade_29.mono_l : ∀ k, (∀ y0 y1 y2 y3, LeO (api_Grade_29.l0 k y0 y1 y2 y3) (api_Grade_29.l0 (k + 1) y0 y1 y2 y3))
 | 0 => fun _ _ _ _ r h => by simp [api_Grade_29.l0] at h
 | k + 1 => by
  have ih0 := api_Grade_29.mono_l k
  ·intro y0 y1 y2 y3
   unfold api_Grade_29.l0
   repeat' first
   | (with_reducible exact ih0 _ _ _ _)
   | (with_reducible exact LeO.refl _)
   | (with_reducible exact LeO.none _)
   | (with_reducible refine LeO.ite ?_ ?_)
   | (with_reducible refine LeO.bind ?_ (fun _ => ?_))
   | exact ih0 _ _ _ _
   | exact LeO.none _
   | refine LeO.ite ?_ ?_
   | refine LeO.bind ?_ (fun _ => ?_)
theorem api_Grade_29.mono : ∀ a0 a1 k, LeO (api_Grade_29.f k a0 a1) (api_Grade_29.f (k + 1) a0 a1) := by
 intro a0 a1 k
 have ih0 := api_Grade_29.mono_l k
 unfold api_Grade_29.f
 repeat' first
   | (with_reducible exact ih0 _ _ _ _)
   | (with_reducible exact LeO.refl _)
   | (with_reducible exact LeO.none _)
   | (with_reducible refine LeO.ite ?_ ?_)
   | (with_reducible refine LeO.bind ?_ (fun _ => ?_))
   | exact ih0 _ _ _ _
   | exact LeO.none _
   | refine LeO.ite ?_ ?_
   | refine LeO.bind ?_ (fun _ => ?_)
set_option maxHeartbeats 8000000 in
set_option maxRecDepth 100000 in
theorem api_Grade_29.calls (k : Nat) (A0 : Option Addr) (c0 : Nat) (l0 : List (S34)) (A1 : Option Addr) (c1 : Nat) (l1 : List (S34)) (r : Bool) (w : World) (hr0 : Kd.C k34 w A0 l0.length l0) (hc0 : l0.length ≤ c0) (hr1 : Kd.C k34 w A1 l1.length l1) (hc1 : l1.length ≤ c1) (h : api_Grade_29.f k l0 l1 = some r) :
  Calls Try.prog 29 #[.slice A0 l0.length c0, .slice A1 l1.length c1] w fun e w' => e = .returned (.bool r) ∧ Drawn0 w w' := by
 have hu34 := Try.underlying34
 have HR0 := Aside0.mk hr0
 have HC0 := Aside0.mk hc0
 clear hr0 hc0
 have HR1 := Aside0.mk hr1
 have HC1 := Aside0.mk hc1
 clear hr1 hc1
 have H : (if (l0.length : Int) = (l1.length : Int) then (api_Grade_29.l0 k l0 l1 (l0.length : Int) 0) else (some false)) = some r := h
 clear h
 by_cases c3 : (l0.length : Int) = (l1.length : Int)
 ·rw [if_pos c3] at H
  have c3b0 : ((l0.length : Int) == (l1.length : Int)) = true := beq_iff_eq.mpr c3
  have c3b1 : ((l0.length : Int) != (l1.length : Int)) = false := bne_eq_false_iff_eq.mpr c3
  have c3b2 : (l0.length == l1.length) = true := by first | simpa using c3 | (simp at c3 ⊢; omega)
  clear c3
  have H' := Aside0.mk H
  clear H
  go_enter Try.func29, Try.ntmps29
  go_wp2
  repeat (go_quiet (fail); try go_wp2)
  go_loopg [13] k (fun kq v13 w' => ∃ (x13_1 : Int), v13 = .int .i64 x13_1 ∧ Aside0 (api_Grade_29.l0 kq l0 l1 (l0.length : Int) x13_1 = some r) ∧ Aside0 (kq ≤ k) ∧ Drawn0 w w')
  case atStart => exact ⟨(0), (by first | rfl | (simp; done) | (simp [*]; done)), H', ⟨Nat.le_refl _⟩, by repeat (first | exact Drawn0.refl _ | apply Drawn0.step)⟩
  case round =>
   clear H'
   try clear c1
   try clear c2
   try clear p2
   try clear c3
   try clear c3b0
   try clear c3b1
   try clear c3b2
   obtain ⟨x13_1, rfl, HA, HK1, ⟨m1, rfl⟩⟩ := hrel
   cases gk with
   | zero => exact absurd HA.out (by simp [api_Grade_29.l0])
   | succ k1 =>
    have H := HA.out
    clear HA
    simp only [api_Grade_29.l0] at H
    by_cases c4 : x13_1 < (l0.length : Int)
    ·rw [if_pos c4] at H
     have c4b0 : decide (x13_1 < (l0.length : Int)) = true := decide_eq_true c4
     clear c4
     by_cases c5 : 0 ≤ x13_1
     ·rw [if_pos c5] at H
      have c5b0 : decide (0 ≤ x13_1) = true := decide_eq_true c5
      clear c5
      by_cases c6 : x13_1 < (l0.length : Int)
      ·rw [if_pos c6] at H
       have c6b0 : decide (x13_1 < (l0.length : Int)) = true := decide_eq_true c6
       clear c6
       by_cases c7 : x13_1 < (l1.length : Int)
       ·rw [if_pos c7] at H
        have c7b0 : decide (x13_1 < (l1.length : Int)) = true := decide_eq_true c7
        clear c7
        by_cases c8 : (!(((rd_T34 l0 x13_1).f0) == ((rd_T34 l1 x13_1).f0)) || (!(((rd_T34 l0 x13_1).f1) == ((rd_T34 l1 x13_1).f1)))) = true
        ·rw [if_pos c8] at H
         have c8b0 : (!(((rd_T34 l0 x13_1).f0) == ((rd_T34 l1 x13_1).f0)) || (!(((rd_T34 l0 x13_1).f1) == ((rd_T34 l1 x13_1).f1)))) = true := c8
         clear c8
         obtain rfl := Option.some.inj H
         have p142 : 0 ≤ (x13_1 : Int) := of_decide_eq_true (by first | (with_reducible assumption) | assumption)
         have q142 : x13_1 < (l0.length : Int) := of_decide_eq_true (by first | (with_reducible assumption) | assumption)
         obtain ⟨ad142, e142, hx142_0, hx142_1⟩ := at_T34 HR0.out x13_1 p142 q142
         cases e142
         replace p142 := eq_true p142
         replace q142 := eq_true q142
         have p143 : 0 ≤ (x13_1 : Int) := of_decide_eq_true (by first | (with_reducible assumption) | assumption)
         have q143 : x13_1 < (l1.length : Int) := of_decide_eq_true (by first | (with_reducible assumption) | assumption)
         obtain ⟨ad143, e143, hx143_0, hx143_1⟩ := at_T34 HR1.out x13_1 p143 q143
         cases e143
         replace p143 := eq_true p143
         replace q143 := eq_true q143
         go_wp2
         repeat (go_quiet (fail); try go_wp2)
         go_ret
         exact ⟨by first | rfl | (simp; done) | (simp [*]; done), by repeat (first | exact Drawn0.refl _ | apply Drawn0.step)⟩
        ·rw [if_neg c8] at H
         have c8b0 : (!(((rd_T34 l0 x13_1).f0) == ((rd_T34 l1 x13_1).f0)) || (!(((rd_T34 l0 x13_1).f1) == ((rd_T34 l1 x13_1).f1)))) = false := by simpa using c8
         clear c8
         have H' := Aside0.mk H
         clear H
         have p142 : 0 ≤ (x13_1 : Int) := of_decide_eq_true (by first | (with_reducible assumption) | assumption)
         have q142 : x13_1 < (l0.length : Int) := of_decide_eq_true (by first | (with_reducible assumption) | assumption)
         obtain ⟨ad142, e142, hx142_0, hx142_1⟩ := at_T34 HR0.out x13_1 p142 q142
         cases e142
         replace p142 := eq_true p142
         replace q142 := eq_true q142
         have p143 : 0 ≤ (x13_1 : Int) := of_decide_eq_true (by first | (with_reducible assumption) | assumption)
         have q143 : x13_1 < (l1.length : Int) := of_decide_eq_true (by first | (with_reducible assumption) | assumption)
         obtain ⟨ad143, e143, hx143_0, hx143_1⟩ := at_T34 HR1.out x13_1 p143 q143
         cases e143
         replace p143 := eq_true p143
         replace q143 := eq_true q143
         go_wp2
         repeat (go_quiet (fail); try go_wp2)
         go_roundg k1
         case measure => have := HK1.out; omega
         case rel => exact ⟨(wrap64 (x13_1 + 1)), (by first | rfl | (simp; done) | (simp [*]; done)), H', ⟨by have := HK1.out; omega⟩, by repeat (first | exact Drawn0.refl _ | apply Drawn0.step)⟩
       ·rw [if_neg c7] at H
        exact absurd H (by simp)
      ·rw [if_neg c6] at H
       exact absurd H (by simp)
     ·rw [if_neg c5] at H
      exact absurd H (by simp)
    ·rw [if_neg c4] at H
     have c4b0 : decide (x13_1 < (l0.length : Int)) = false := decide_eq_false c4
     clear c4
     obtain rfl := Option.some.inj H
     go_wp2
     repeat (go_quiet (fail); try go_wp2)
     go_ret
     exact ⟨by first | rfl | (simp; done) | (simp [*]; done), by repeat (first | exact Drawn0.refl _ | apply Drawn0.step)⟩
 ·rw [if_neg c3] at H
  have c3b0 : ((l0.length : Int) == (l1.length : Int)) = false := beq_eq_false_iff_ne.mpr c3
  have c3b1 : ((l0.length : Int) != (l1.length : Int)) = true := bne_iff_ne.mpr c3
  have c3b2 : (l0.length == l1.length) = false := by first | simpa using c3 | (simp at c3 ⊢; omega)
  obtain rfl := Option.some.inj H
  go_enter Try.func29, Try.ntmps29
  go_wp2
  repeat (go_quiet (fail); try go_wp2)
  go_ret
  exact ⟨by first | rfl | (simp; done) | (simp [*]; done), by repeat (first | exact Drawn0.refl _ | apply Drawn0.step)⟩

/-! ### spilelaw18_awake: function 9 -/
-- MAKING
/-! The example of the chapter. Its plain part: what Thin does row by row. -/
theorem RightT.same_go {l : List S34} (h : RightT l) {a b a' b' : Int} (h0 : 0 ≤ a) (h1 : a < a') (h2 : a' ≤ 10000) (hb0 : 0 ≤ b) (hb : b ≤ 120000) (hb0' : 0 ≤ b') (hb' : b' ≤ 120000) (hseg : ∀ s, a ≤ s → s ≤ a' → dens l s = segF a b a' b' s) :
    ∀ (d : Nat) (i : Int), i + d = a' + 1 → a ≤ i → ∀ k, interpolate_same.l0 (k + d + 1) l i a b a' b' = some true := by
  intro d
  induction d with
  | zero =>
    intro i hi ha k
    simp only [interpolate_same.l0]
    rw [if_neg (by omega)]
  | succ d ih =>
    intro i hi ha k
    rw [show k + (d + 1) + 1 = (k + d + 1) + 1 by omega]
    simp only [interpolate_same.l0]
    rw [if_pos (by omega), h.at (by omega) (by omega), Option.bind_some, interpolate_between.plain h0 h1 h2 ha (by omega) hb0 hb hb0' hb', Option.bind_some, if_pos (hseg i ha (by omega)), w64_ (by omega) (by omega)]
    exact ih (i + 1) (by omega) (by omega) k
theorem thin_skip (k : Nat) (l out : List S34) (i : Int) (hl : l.length ≤ 128) (ho : 0 < out.length) (ho2 : out.length ≤ 128) (h0 : 0 ≤ i) (hi : i < (l.length : Int) - 1)
    (hs : interpolate_same.f k l (rd_T34 out ((out.length : Int) - 1)).f0 (rd_T34 out ((out.length : Int) - 1)).f1 (rd_T34 l (i + 1)).f0 (rd_T34 l (i + 1)).f1 = some true) :
    interpolate_Thin.l0 (k + 1) l out i = interpolate_Thin.l0 k l out (i + 1) := by
  simp only [interpolate_Thin.l0]
  rw [w64_ (x := (l.length : Int) - 1) (by omega) (by omega), w64_ (x := (out.length : Int) - 1) (by omega) (by omega), w64_ (x := i + 1) (by omega) (by omega), if_pos hi, if_pos (by omega), if_pos (by omega), if_pos (by omega), if_pos (by omega), hs, Option.bind_some, if_pos rfl]
theorem thin_keep (k : Nat) (l out : List S34) (i : Int) (hl : l.length ≤ 128) (ho : 0 < out.length) (ho2 : out.length ≤ 128) (h0 : 0 ≤ i) (hi : i < (l.length : Int) - 1)
    (hs : interpolate_same.f k l (rd_T34 out ((out.length : Int) - 1)).f0 (rd_T34 out ((out.length : Int) - 1)).f1 (rd_T34 l (i + 1)).f0 (rd_T34 l (i + 1)).f1 = some false) :
    interpolate_Thin.l0 (k + 1) l out i = interpolate_Thin.l0 k l (out ++ [rd_T34 l i]) (i + 1) := by
  simp only [interpolate_Thin.l0]
  rw [w64_ (x := (l.length : Int) - 1) (by omega) (by omega), w64_ (x := (out.length : Int) - 1) (by omega) (by omega), w64_ (x := i + 1) (by omega) (by omega), if_pos hi, if_pos (by omega), if_pos (by omega), if_pos (by omega), if_pos (by omega), hs, Option.bind_some, if_neg (by simp), if_pos h0, if_pos (by omega), if_pos (by omega)]
theorem thin_end (k : Nat) (l out : List S34) (i : Int) (hl : l.length ≤ 128) (hl0 : 0 < l.length) (ho2 : out.length ≤ 128) (hi : (l.length : Int) - 1 ≤ i) :
    interpolate_Thin.l0 (k + 1) l out i = some (out ++ [rd_T34 l ((l.length : Int) - 1)], 0) := by
  simp only [interpolate_Thin.l0]
  rw [w64_ (x := (l.length : Int) - 1) (by omega) (by omega), if_neg (by omega), if_pos (by omega), if_pos (by omega), if_pos (by omega)]
def exT : List S34 := [(⟨0, 99820⟩ : S34), (⟨5000, 93016⟩ : S34), (⟨10000, 78924⟩ : S34)]
def exT4 : List S34 := [(⟨0, 99820⟩ : S34), (⟨5000, 93016⟩ : S34), (⟨7500, 85970⟩ : S34), (⟨10000, 78924⟩ : S34)]
theorem exT_right : RightT exT := (right_iff exT).1 (by decide)
theorem exT4_right : RightT exT4 := (right_iff exT4).1 (by decide)
theorem exT_d1 : interpolate_Density.f exT 6000 = some (90198, 0) := by kernel_rfl
theorem exT_d2 : interpolate_Density.f exT 7500 = some (85970, 0) := by kernel_rfl
theorem exT_first : firstS exT 90198 = 6001 := by
  obtain ⟨f0, f1, f2, f3⟩ := exT_right.first_spec 90198
  have e1 : dens exT 6000 = 90198 := by kernel_rfl
  have e2 : dens exT 6001 = 90195 := by kernel_rfl
  rcases Int.lt_or_le (firstS exT 90198) 6001 with h | h
  · have := f3 6000 (by omega) (by decide)
    omega
  · rcases Int.lt_or_le 6001 (firstS exT 90198) with h' | h'
    · have := f2 6001 (by decide) h'
      omega
    · omega
theorem exT_s : interpolate_Strength.f exT 90198 = some (6000, 0) := by
  have e0 : interpolate_right.f exT = some true := by kernel_rfl
  have e1 : interpolate_in.f 90198 = some true := by kernel_rfl
  have e2 : interpolate_first.f exT 90198 = some (firstS exT 90198) := by unfold interpolate_first.f; rw [if_pos ((right_iff exT).2 exT_right)]
  unfold interpolate_Strength.f
  rw [e0, Option.bind_some, if_pos rfl, e1, Option.bind_some, if_pos rfl, if_pos (by decide), if_neg (by decide), e2, Option.bind_some, exT_first, w64_ (by decide) (by decide)]
  rfl
theorem exT_same : interpolate_same.f 5998 exT4 5000 93016 10000 78924 = some true := by
  have hseg : ∀ s : Int, 5000 ≤ s → s ≤ 10000 → dens exT4 s = segF 5000 93016 10000 78924 s := by
    intro s h0 h1
    rcases Int.lt_or_le 7500 s with h | h
    · have e : dens exT4 s = segL exT4 2 s := exT4_right.dens_seg (i := 2) ⟨by decide, by show (7500 : Int) ≤ s; omega, by show s ≤ (10000 : Int); omega⟩
      rw [e]
      show segF 7500 85970 10000 78924 s = _
      unfold segF
      omega
    · have e : dens exT4 s = segL exT4 1 s := exT4_right.dens_seg (i := 1) ⟨by decide, by show (5000 : Int) ≤ s; omega, by show s ≤ (7500 : Int); omega⟩
      rw [e]
      show segF 5000 93016 7500 85970 s = _
      unfold segF
      omega
  exact exT4_right.same_go (by decide) (by decide) (by decide) (by decide) (by decide) (by decide) (by decide) hseg 5001 5000 (by decide) (by decide) 996
theorem exT_thin : interpolate_Thin.f 6000 exT4 = some (exT, 0) := by
  have e0 : interpolate_right.f exT4 = some true := by kernel_rfl
  unfold interpolate_Thin.f
  rw [e0, Option.bind_some, if_pos rfl, if_pos (by decide)]
  have s1 := thin_keep 5999 exT4 [(⟨0, 99820⟩ : S34)] 1 (by decide) (by decide) (by decide) (by decide) (by decide) (by kernel_rfl)
  have s2 := thin_skip 5998 exT4 ([(⟨0, 99820⟩ : S34)] ++ [rd_T34 exT4 1]) 2 (by decide) (by decide) (by decide) (by decide) (by decide) exT_same
  have s3 := thin_end 5997 exT4 ([(⟨0, 99820⟩ : S34)] ++ [rd_T34 exT4 1]) 3 (by decide) (by decide) (by decide) (by decide)
  exact s1.trans (s2.trans s3)
theorem exT_eq : api_Grade_29.f 9 exT exT = some true := by kernel_rfl
theorem exT_C (w : World) : Kd.C k34 (w.alloc (.cells #[.int .i64 0, .int .i64 99820, .int .i64 5000, .int .i64 93016, .int .i64 10000, .int .i64 78924] 34)) (some ⟨w.heap.size, 0, none⟩) 3 exT := by
  refine ⟨rfl, by decide, fun _ => ⟨_, rfl, fun j p hj => ?_⟩⟩
  have hb := blk_new w (.cells #[.int .i64 0, .int .i64 99820, .int .i64 5000, .int .i64 93016, .int .i64 10000, .int .i64 78924] 34 (0, 0))
  refine ⟨[.int .i64 p.f0, .int .i64 p.f1], rfl, k34_mk _ p, fun i u hi => ?_⟩
  rw [Addr.add_lit, Nat.zero_add]
  refine (blk_cell hb (j * 2 + i)).trans ?_
  have hj' : j < 3 := (List.getElem?_eq_some_iff.1 hj).1
  have hi' : i < 2 := (List.getElem?_eq_some_iff.1 hi).1
  rcases (show j = 0 ∨ j = 1 ∨ j = 2 by omega) with rfl | rfl | rfl <;> (have hp := Option.some.inj hj; subst hp; rcases (show i = 0 ∨ i = 1 by omega) with rfl | rfl <;> exact hi)
theorem below_less {B C : Nat} {w w' : World} (h : Below C w w') (hB : B ≤ C) : Below B w w' := ⟨h.os, h.tape, h.output, h.size, fun k hk => h.block k (by omega)⟩
def spilelaw18_awake.f : Option Bool := some true
set_option maxHeartbeats 1000000 in
set_option maxRecDepth 100000 in
theorem spilelaw18_awake.calls (r : Bool) (w : World) (h : spilelaw18_awake.f = some r) : Calls Try.prog 9 #[] w fun e w' => e = .returned (.bool r) ∧ Below w.heap.size w w' := by
  have hr := Option.some.inj h
  subst hr
  clear h
  have hu := Try.underlying34
  obtain ⟨W0, hW0⟩ : ∃ W0, W0 = w.alloc (.cells #[.int .i64 0, .int .i64 99820, .int .i64 5000, .int .i64 93016, .int .i64 10000, .int .i64 78924] 34) := ⟨_, rfl⟩
  have hC : Kd.C k34 W0 (some ⟨w.heap.size, 0, none⟩) 3 exT := by rw [hW0]; exact exT_C w
  have hB0 : Below w.heap.size w W0 := by rw [hW0]; exact below_alloc (Below.refl _ _) _
  have H1 := Aside0.mk (fun W (hb : Below W0.heap.size W0 W) => interpolate_Density.calls (some ⟨w.heap.size, 0, none⟩) 3 exT 6000 90198 0 W (Kd.C_below hC hb) (by decide) exT_d1)
  have H2 := Aside0.mk (fun W (hb : Below W0.heap.size W0 W) => interpolate_Density.calls (some ⟨w.heap.size, 0, none⟩) 3 exT 7500 85970 0 W (Kd.C_below hC hb) (by decide) exT_d2)
  have H3 := Aside0.mk (fun W (hb : Below W0.heap.size W0 W) => interpolate_Strength.calls (some ⟨w.heap.size, 0, none⟩) 3 exT 90198 6000 0 W (Kd.C_below hC hb) (by decide) exT_s)
  have H4 := Aside0.mk (fun W (hb : Below W0.heap.size W0 W) => api_Grade_28.calls (some ⟨w.heap.size, 0, none⟩) 3 exT exT W (Kd.C_below hC hb) (by decide) (by unfold api_Grade_28.f; rw [if_pos (by decide)]))
  have H5 := Aside0.mk (fun W A c (hr : Kd.C k34 W A 4 exT4) (hc : 4 ≤ c) => interpolate_Thin.calls 6000 A c exT4 exT 0 W hr hc exT_thin)
  have H6 := Aside0.mk (fun W A c (hr : Kd.C k34 W A 3 exT) (hc : 3 ≤ c) (hb : Below W0.heap.size W0 W) => api_Grade_29.calls 9 A c exT (some ⟨w.heap.size, 0, none⟩) 3 exT true W hr hc (Kd.C_below hC hb) (by decide) exT_eq)
  have HB0 := Aside0.mk hB0
  have HW0 := Aside0.mk hW0
  clear hB0 hW0 hC
  go_enter Try.func9, Try.ntmps9
  go_wp2_with fail
  rw [← HW0.out]
  refine (H1.out W0 (Below.refl _ _)).mono ?_
  rintro e w1 ⟨rfl, hb⟩
  have HB := Aside0.mk hb
  clear hb H1
  go_wp2_with fail
  refine (H2.out _ HB.out).mono ?_
  rintro e w2 ⟨rfl, hb⟩
  replace HB := Aside0.mk (below_step HB.out hb)
  clear hb H2
  go_wp2_with fail
  refine (H3.out _ HB.out).mono ?_
  rintro e w3 ⟨rfl, hb⟩
  replace HB := Aside0.mk (below_step HB.out hb)
  clear hb H3
  go_wp2_with fail
  refine (H4.out _ HB.out).mono ?_
  rintro e w4 ⟨v, rfl, hR, hb⟩
  have HR := Aside0.mk hR
  have HS := Aside0.mk (below_size HB.out)
  have HT := Aside0.mk (Nat.le_trans (below_size hb) (Nat.le_refl _))
  replace HB := Aside0.mk (below_step HB.out hb)
  clear hb hR H4
  go_wp2_with fail
  have hI := api_Grade_27.one w3.heap.size v exT ⟨7500, 85970⟩ 2 w4.heap.size 1 34 (w4.alloc (.cells #[.int .i64 7500, .int .i64 85970] 34)) (Kd.R_alloc HR.out _) (by decide) (by decide) (Nat.le_trans HT.out (below_size (below_alloc (Below.refl _ _) _))) (blk_new w4 _) (fun h => Nat.lt_irrefl _ (Kd.R_lt HR.out _ h))
  refine (show Calls Try.prog 27 #[v, .int .i64 2, .slice (some ⟨w4.heap.size, 0, none⟩) 1 1] _ _ from hI).mono ?_
  clear hI
  rintro e w5 ⟨v', rfl, hR', hb'⟩
  replace HB := Aside0.mk ((below_alloc HB.out (.cells #[.int .i64 7500, .int .i64 85970] 34)).trans (below_less hb' HS.out))
  change Kd.R _ _ _ _ _ v' exT4 at hR'
  obtain ⟨A5, c5, rfl⟩ := Kd.R_slice hR'
  have q5 := Aside0.mk (Kd.R_reads' hR').2
  clear hR' hb' HR HS HT
  go_wp2_with fail
  refine (H5.out _ A5 c5 q5.out.2 q5.out.1).mono ?_
  rintro e w6 ⟨u, rfl, hU, hb⟩
  obtain ⟨A6, c6, rfl⟩ := Kd.R_slice hU
  have q6 := Aside0.mk (Kd.R_reads' hU).2
  replace HB := Aside0.mk (below_step HB.out hb)
  clear hU hb H5 q5
  go_wp2_with fail
  refine (H6.out _ A6 c6 q6.out.2 q6.out.1 HB.out).mono ?_
  rintro e w7 ⟨rfl, hd⟩
  replace HB := Aside0.mk (below_step HB.out hd.below)
  clear hd H6 q6
  go_wp2
  go_ret
  exact ⟨rfl, below_step HB0.out HB.out⟩

/-! ### spileref16_Few: function 10 -/
def spileref16_Few.f (l0 : List (S34)) : Option (Bool) := if (l0.length : Int) ≤ 20 then (some true) else (if (l0.length : Int) > 128 then (some (decide ((l0.length : Int) ≤ 133))) else (some false))
set_option maxHeartbeats 8000000 in
set_option maxRecDepth 100000 in
theorem spileref16_Few.calls (A0 : Option Addr) (c0 : Nat) (l0 : List (S34)) (r : Bool) (w : World) (hr0 : Kd.C k34 w A0 l0.length l0) (hc0 : l0.length ≤ c0) (h : spileref16_Few.f l0 = some r) :
  Calls Try.prog 10 #[.slice A0 l0.length c0] w fun e w' => e = .returned (.bool r) ∧ Drawn0 w w' := by
 have HR0 := Aside0.mk hr0
 have HC0 := Aside0.mk hc0
 clear hr0 hc0
 have H : (if (l0.length : Int) ≤ 20 then (some true) else (if (l0.length : Int) > 128 then (some (decide ((l0.length : Int) ≤ 133))) else (some false))) = some r := h
 clear h
 by_cases c2 : (l0.length : Int) ≤ 20
 ·rw [if_pos c2] at H
  have c2b0 : decide ((l0.length : Int) ≤ 20) = true := decide_eq_true c2
  have c2b1 : decide (l0.length ≤ 20) = true := decide_eq_true (by omega)
  clear c2
  obtain rfl := Option.some.inj H
  go_enter Try.func10, Try.ntmps10
  go_wp2
  go_ret
  exact ⟨by first | rfl | (simp; done) | (simp [*]; done), by repeat (first | exact Drawn0.refl _ | apply Drawn0.step)⟩
 ·rw [if_neg c2] at H
  have c2b0 : decide ((l0.length : Int) ≤ 20) = false := decide_eq_false c2
  have c2b1 : decide (l0.length ≤ 20) = false := decide_eq_false (by omega)
  clear c2
  by_cases c3 : (l0.length : Int) > 128
  ·rw [if_pos c3] at H
   have c3b0 : decide (128 < (l0.length : Int)) = true := decide_eq_true c3
   have c3b1 : decide (128 < l0.length) = true := decide_eq_true (by omega)
   clear c3
   obtain rfl := Option.some.inj H
   go_enter Try.func10, Try.ntmps10
   go_wp2
   go_ret
   exact ⟨by first | rfl | (simp; done) | (simp [*]; done), by repeat (first | exact Drawn0.refl _ | apply Drawn0.step)⟩
  ·rw [if_neg c3] at H
   have c3b0 : decide (128 < (l0.length : Int)) = false := decide_eq_false c3
   have c3b1 : decide (128 < l0.length) = false := decide_eq_false (by omega)
   clear c3
   obtain rfl := Option.some.inj H
   go_enter Try.func10, Try.ntmps10
   go_wp2
   go_ret
   exact ⟨by first | rfl | (simp; done) | (simp [*]; done), by repeat (first | exact Drawn0.refl _ | apply Drawn0.step)⟩

end Go.Proofs.Ytlgihblojnoheaa.PF
