-- Written by a program of this session (wip/pr.py) out of Lean's print of the translation; Lean checks it.
import Derived.Test.YtlhdkajflmpnbaaDoorPF0
import Derived.Test.YtlhdkajflmpnbaaDoorPF5
import Derived.Test.YtlhdkajflmpnbaaDoorPF6
namespace Go.Proofs.YtlhdkajflmpnbaaDoor.PF
open Go.RowKit Go.Proofs.YtlhdkajflmpnbaaDoorW.PrintWords Go.Proofs.YtlhdkajflmpnbaaDoorW.PrintLast Go.Proofs.YtlhdkajflmpnbaaDoorW.PrintMore
attribute [local go_sem] max2_int min2_int max_two min_two max_three min_three max_four min_four   -- for this text's walks alone
set_option linter.unusedVariables false
set_option linter.unusedSimpArgs false

/-! ### spilelaw04_CalendarYears: function 9 -/
mutual
def spilelaw04_CalendarYears.j0 : Nat → Int → Int → Int → Int → Bool → Option (Bool)
 | 0, _, _, _, _, _ => none
 | k + 1, x0, x1, x2, x7, x32 => if x32 = true then (some false) else ((calendar_Later.f k x0 (wrap64 (12 * x7))).bind fun bt298 => ((calendar_Later.f k x0 (wrap64 (12 * (wrap64 (x7 + 1))))).bind fun bt300 => (if bt298.2 = 0 then (if bt298.1 > x1 then (spilelaw04_CalendarYears.j1 k x0 x1 x2 x7 true) else (if bt300.2 = 0 then (spilelaw04_CalendarYears.j1 k x0 x1 x2 x7 (decide (bt300.1 ≤ x1))) else (spilelaw04_CalendarYears.j1 k x0 x1 x2 x7 false))) else (spilelaw04_CalendarYears.j1 k x0 x1 x2 x7 true))))
def spilelaw04_CalendarYears.j1 : Nat → Int → Int → Int → Int → Bool → Option (Bool)
 | 0, _, _, _, _, _ => none
 | k + 1, x0, x1, x2, x7, x63 => if x63 = true then (some false) else (if x2 < 0 then (some true) else (if x2 > 100000 then (some true) else ((calendar_Years.f k x0 (wrap64 (x1 + x2))).bind fun bt302 => (if bt302.2 = 0 then (some (decide (bt302.1 ≥ x7))) else (some true)))))
end
def spilelaw04_CalendarYears.f (k : Nat) (a0 : Int) (a1 : Int) (a2 : Int) : Option (Bool) := (spilelaw04_awake.f).bind fun t295 => (if t295 = true then ((calendar_Years.f k a0 a1).bind fun bt296 => (if bt296.2 = 0 then (if bt296.1 < 0 then (spilelaw04_CalendarYears.j0 k a0 a1 a2 bt296.1 true) else (spilelaw04_CalendarYears.j0 k a0 a1 a2 bt296.1 (decide (bt296.1 > 300)))) else (some (bt296.1 == 0)))) else (some false))
theorem spilelaw04_CalendarYears.mono_l : ∀ k, (∀ y0 y1 y2 y3 y4, LeO (spilelaw04_CalendarYears.j0 k y0 y1 y2 y3 y4) (spilelaw04_CalendarYears.j0 (k + 1) y0 y1 y2 y3 y4)) ∧ (∀ y0 y1 y2 y3 y4, LeO (spilelaw04_CalendarYears.j1 k y0 y1 y2 y3 y4) (spilelaw04_CalendarYears.j1 (k + 1) y0 y1 y2 y3 y4))
 | 0 => ⟨fun _ _ _ _ _ r h => by simp [spilelaw04_CalendarYears.j0] at h, fun _ _ _ _ _ r h => by simp [spilelaw04_CalendarYears.j1] at h⟩
 | k + 1 => by
  obtain ⟨ih0, ih1⟩ := spilelaw04_CalendarYears.mono_l k
  refine ⟨?_, ?_⟩
  ·intro y0 y1 y2 y3 y4
   unfold spilelaw04_CalendarYears.j0
   repeat' first
   | (with_reducible exact ih0 _ _ _ _ _)
   | (with_reducible exact ih1 _ _ _ _ _)
   | (with_reducible exact calendar_Later.mono _ _ _)
   | (with_reducible exact calendar_Years.mono _ _ _)
   | (with_reducible exact LeO.refl _)
   | (with_reducible exact LeO.none _)
   | (with_reducible refine LeO.ite ?_ ?_)
   | (with_reducible refine LeO.bind ?_ (fun _ => ?_))
   | exact ih0 _ _ _ _ _
   | exact ih1 _ _ _ _ _
   | exact calendar_Later.mono _ _ _
   | exact calendar_Years.mono _ _ _
   | exact LeO.none _
   | refine LeO.ite ?_ ?_
   | refine LeO.bind ?_ (fun _ => ?_)
  ·intro y0 y1 y2 y3 y4
   unfold spilelaw04_CalendarYears.j1
   repeat' first
   | (with_reducible exact ih0 _ _ _ _ _)
   | (with_reducible exact ih1 _ _ _ _ _)
   | (with_reducible exact calendar_Later.mono _ _ _)
   | (with_reducible exact calendar_Years.mono _ _ _)
   | (with_reducible exact LeO.refl _)
   | (with_reducible exact LeO.none _)
   | (with_reducible refine LeO.ite ?_ ?_)
   | (with_reducible refine LeO.bind ?_ (fun _ => ?_))
   | exact ih0 _ _ _ _ _
   | exact ih1 _ _ _ _ _
   | exact calendar_Later.mono _ _ _
   | exact calendar_Years.mono _ _ _
   | exact LeO.none _
   | refine LeO.ite ?_ ?_
   | refine LeO.bind ?_ (fun _ => ?_)
theorem spilelaw04_CalendarYears.mono : ∀ a0 a1 a2 k, LeO (spilelaw04_CalendarYears.f k a0 a1 a2) (spilelaw04_CalendarYears.f (k + 1) a0 a1 a2) := by
 intro a0 a1 a2 k
 obtain ⟨ih0, ih1⟩ := spilelaw04_CalendarYears.mono_l k
 unfold spilelaw04_CalendarYears.f
 repeat' first
   | (with_reducible exact ih0 _ _ _ _ _)
   | (with_reducible exact ih1 _ _ _ _ _)
   | (with_reducible exact calendar_Later.mono _ _ _)
   | (with_reducible exact calendar_Years.mono _ _ _)
   | (with_reducible exact LeO.refl _)
   | (with_reducible exact LeO.none _)
   | (with_reducible refine LeO.ite ?_ ?_)
   | (with_reducible refine LeO.bind ?_ (fun _ => ?_))
   | exact ih0 _ _ _ _ _
   | exact ih1 _ _ _ _ _
   | exact calendar_Later.mono _ _ _
   | exact calendar_Years.mono _ _ _
   | exact LeO.none _
   | refine LeO.ite ?_ ?_
   | refine LeO.bind ?_ (fun _ => ?_)
set_option maxHeartbeats 8000000 in
set_option maxRecDepth 100000 in
theorem spilelaw04_CalendarYears.calls (k : Nat) (a0 : Int) (a1 : Int) (a2 : Int) (r : Bool) (w : World) (hA_ : Aside0 (∀ w1, Below w.heap.size w w1 → AwakeOK w1)) (hP_ : Aside0 (∀ w1, Below w.heap.size w w1 → PrintOK w1)) (h : spilelaw04_CalendarYears.f k a0 a1 a2 = some r) :
  Calls Tryd.prog 9 #[.int .i64 a0, .int .i64 a1, .int .i64 a2] w fun e w' => e = .returned (.bool r) ∧ Below w.heap.size w w' := by
 have HB := Aside0.mk (Below.refl w.heap.size w)
 have H : ((spilelaw04_awake.f).bind fun t295 => (if t295 = true then ((calendar_Years.f k a0 a1).bind fun bt296 => (if bt296.2 = 0 then (if bt296.1 < 0 then (spilelaw04_CalendarYears.j0 k a0 a1 a2 bt296.1 true) else (spilelaw04_CalendarYears.j0 k a0 a1 a2 bt296.1 (decide (bt296.1 > 300)))) else (some (bt296.1 == 0)))) else (some false))) = some r := h
 clear h
 replace H := Option.bind_eq_some_iff.mp H
 obtain ⟨t295, A40, H⟩ := H
 replace H : (if t295 = true then ((calendar_Years.f k a0 a1).bind fun bt296 => (if bt296.2 = 0 then (if bt296.1 < 0 then (spilelaw04_CalendarYears.j0 k a0 a1 a2 bt296.1 true) else (spilelaw04_CalendarYears.j0 k a0 a1 a2 bt296.1 (decide (bt296.1 > 300)))) else (some (bt296.1 == 0)))) else (some false)) = some r := H
 have A4 := Aside0.mk A40
 clear A40
 by_cases c5 : t295 = true
 ·subst c5
  have H1 : ((calendar_Years.f k a0 a1).bind fun bt296 => (if bt296.2 = 0 then (if bt296.1 < 0 then (spilelaw04_CalendarYears.j0 k a0 a1 a2 bt296.1 true) else (spilelaw04_CalendarYears.j0 k a0 a1 a2 bt296.1 (decide (bt296.1 > 300)))) else (some (bt296.1 == 0)))) = some r := by rw [if_pos rfl] at H; exact H
  clear H
  have H := H1
  clear H1
  replace H := Option.bind_eq_some_iff.mp H
  obtain ⟨⟨t296, t297⟩, A60, H⟩ := H
  replace H : (if t297 = 0 then (if t296 < 0 then (spilelaw04_CalendarYears.j0 k a0 a1 a2 t296 true) else (spilelaw04_CalendarYears.j0 k a0 a1 a2 t296 (decide (t296 > 300)))) else (some (t296 == 0))) = some r := H
  have A6 := Aside0.mk A60
  clear A60
  by_cases c7 : t297 = 0
  ·rw [if_pos c7] at H
   have c7b0 : (t297 == 0) = true := beq_iff_eq.mpr c7
   have c7b1 : (t297 != 0) = false := bne_eq_false_iff_eq.mpr c7
   clear c7
   have HC8 := Aside0.mk H
   clear H
   go_enter Tryd.func9, Tryd.ntmps9
   go_upto_region 6 with (first | ((with_reducible refine gate_callee (f := 10) rfl ?_); refine goesL_ (some 15) rfl rfl Tryd.func10 (by kernel_rfl) rfl #[] rfl (by (try simp only [List.map_toArray, List.map_cons, List.map_nil]); first | done | rfl | (simp only [List.length_drop, List.length_take]; rfl)) ?_; (with_reducible refine (spilelaw04_awake.calls  true _ A4.out).mono ?_); rintro e w9 ⟨rfl, hb⟩; refine ⟨_, rfl, ?_⟩; have n0_ := Aside0.mk (below_step (by repeat (first | (with_reducible first | exact HB.out | apply below_alloc | apply pw_below_drewN | apply below_drew1) | exact HB.out)) hb); clear HB; have HB := n0_; clear n0_; (try clear hb); (try clear hb2); (try clear hk); (try clear hi)) | ((with_reducible refine gate_callee (f := 21) rfl ?_); refine goesL_ (some 20) rfl rfl Tryd.func21 (by kernel_rfl) rfl #[.int .i64 a0, .int .i64 a1] rfl (by (try simp only [List.map_toArray, List.map_cons, List.map_nil]); first | done | rfl | (simp only [List.length_drop, List.length_take]; rfl)) ?_; (with_reducible refine (calendar_Years.calls k a0 a1 t296 t297 _ A6.out).mono ?_); rintro e w10 ⟨rfl, hb⟩; refine ⟨_, rfl, ?_⟩; have n0_ := Aside0.mk (below_step (by repeat (first | (with_reducible first | exact HB.out | apply below_alloc | apply pw_below_drewN | apply below_drew1) | exact HB.out)) hb); clear HB; have HB := n0_; clear n0_; (try clear hb); (try clear hb2); (try clear hk); (try clear hi)))
   (try simp only [Act.put, List.setIfInBounds_toArray, List.set_cons_zero, List.set_cons_succ])
   go_cut [32] (fun v32 wc => ∃ (kq : Nat) (x32_7 : Bool), v32 = .bool x32_7 ∧ Aside0 (spilelaw04_CalendarYears.j0 kq a0 a1 a2 t296 x32_7 = some r) ∧ Aside0 (kq ≤ k) ∧ Aside0 (Below w.heap.size w wc))
   case first =>
    have H := HC8.out
    clear HC8
    by_cases c11 : t296 < 0
    ·rw [if_pos c11] at H
     have c11b0 : decide (t296 < 0) = true := decide_eq_true c11
     clear c11
     (first | rw [c11b0] | (simp only [i64_w, i32_w]; rw [c11b0]) | skip)
     have H' := Aside0.mk H
     clear H
     go_wp2
     go_meet
     case rel => exact ⟨_, (true), (by first | rfl | (simp; done) | (simp [*]; done)), H', ⟨by first | omega | exact Nat.le_refl _⟩, ⟨by repeat (first | (with_reducible first | exact HB.out | apply below_alloc | apply pw_below_drewN | apply below_drew1) | exact HB.out)⟩⟩
    ·rw [if_neg c11] at H
     have c11b0 : decide (t296 < 0) = false := decide_eq_false c11
     clear c11
     (first | rw [c11b0] | (simp only [i64_w, i32_w]; rw [c11b0]) | skip)
     have H' := Aside0.mk H
     clear H
     go_wp2
     go_meet
     case rel => exact ⟨_, (decide (t296 > 300)), (by first | rfl | (simp; done) | (simp [*]; done)), H', ⟨by first | omega | exact Nat.le_refl _⟩, ⟨by repeat (first | (with_reducible first | exact HB.out | apply below_alloc | apply pw_below_drewN | apply below_drew1) | exact HB.out)⟩⟩
   case rest =>
    clear HC8
    try clear c1
    try clear c2
    try clear p2
    try clear c5
    try clear c7
    try clear c7b0
    try clear c7b1
    try clear c9
    try clear c10
    try clear c11
    try clear c11b0
    obtain ⟨kq, x32_7, rfl, HA, HJ7, HB⟩ := hcut
    cases kq with
    | zero => exact absurd HA.out (by simp [spilelaw04_CalendarYears.j0])
    | succ kj7 =>
     have H := HA.out
     clear HA
     simp only [spilelaw04_CalendarYears.j0] at H
     by_cases c12 : x32_7 = true
     ·subst c12
      have H1 : (some false) = some r := by rw [if_pos rfl] at H; exact H
      clear H
      have H := H1
      clear H1
      obtain rfl := Option.some.inj H
      go_wp2
      go_ret
      exact ⟨by first | rfl | (simp [errW_none, errW_some] <;> rfl) | (simp [*, errW_none, errW_some] <;> rfl), by repeat (first | (with_reducible first | exact HB.out | apply below_alloc | apply pw_below_drewN | apply below_drew1) | exact HB.out)⟩
     ·replace c12 := Bool.eq_false_iff.mpr c12
      subst c12
      have H1 : ((calendar_Later.f kj7 a0 (wrap64 (12 * t296))).bind fun bt298 => ((calendar_Later.f kj7 a0 (wrap64 (12 * (wrap64 (t296 + 1))))).bind fun bt300 => (if bt298.2 = 0 then (if bt298.1 > a1 then (spilelaw04_CalendarYears.j1 kj7 a0 a1 a2 t296 true) else (if bt300.2 = 0 then (spilelaw04_CalendarYears.j1 kj7 a0 a1 a2 t296 (decide (bt300.1 ≤ a1))) else (spilelaw04_CalendarYears.j1 kj7 a0 a1 a2 t296 false))) else (spilelaw04_CalendarYears.j1 kj7 a0 a1 a2 t296 true)))) = some r := by rw [if_neg (show ¬ (false = true) by decide)] at H; exact H
      clear H
      have H := H1
      clear H1
      replace H := Option.bind_eq_some_iff.mp H
      obtain ⟨⟨t298, t299⟩, A130, H⟩ := H
      replace H : ((calendar_Later.f kj7 a0 (wrap64 (12 * (wrap64 (t296 + 1))))).bind fun bt300 => (if t299 = 0 then (if t298 > a1 then (spilelaw04_CalendarYears.j1 kj7 a0 a1 a2 t296 true) else (if bt300.2 = 0 then (spilelaw04_CalendarYears.j1 kj7 a0 a1 a2 t296 (decide (bt300.1 ≤ a1))) else (spilelaw04_CalendarYears.j1 kj7 a0 a1 a2 t296 false))) else (spilelaw04_CalendarYears.j1 kj7 a0 a1 a2 t296 true))) = some r := H
      have A13 := Aside0.mk A130
      clear A130
      replace H := Option.bind_eq_some_iff.mp H
      obtain ⟨⟨t300, t301⟩, A140, H⟩ := H
      replace H : (if t299 = 0 then (if t298 > a1 then (spilelaw04_CalendarYears.j1 kj7 a0 a1 a2 t296 true) else (if t301 = 0 then (spilelaw04_CalendarYears.j1 kj7 a0 a1 a2 t296 (decide (t300 ≤ a1))) else (spilelaw04_CalendarYears.j1 kj7 a0 a1 a2 t296 false))) else (spilelaw04_CalendarYears.j1 kj7 a0 a1 a2 t296 true)) = some r := H
      have A14 := Aside0.mk A140
      clear A140
      have HC15 := Aside0.mk H
      clear H
      go_upto_region 10 with (first | ((with_reducible refine gate_callee (f := 19) rfl ?_); refine goesL_ (some 37) rfl rfl Tryd.func19 (by kernel_rfl) rfl #[.int .i64 a0, .int .i64 (wrap64 (12 * t296))] rfl (by (try simp only [List.map_toArray, List.map_cons, List.map_nil]); first | done | rfl | (simp only [List.length_drop, List.length_take]; rfl)) ?_; (with_reducible refine (calendar_Later.calls kj7 a0 (wrap64 (12 * t296)) t298 t299 _ A13.out).mono ?_); rintro e w16 ⟨rfl, hb⟩; refine ⟨_, rfl, ?_⟩; have n0_ := Aside0.mk (below_step (by repeat (first | (with_reducible first | exact HB.out | apply below_alloc | apply pw_below_drewN | apply below_drew1) | exact HB.out)) hb); clear HB; have HB := n0_; clear n0_; (try clear hb); (try clear hb2); (try clear hk); (try clear hi)) | ((with_reducible refine gate_callee (f := 19) rfl ?_); refine goesL_ (some 45) rfl rfl Tryd.func19 (by kernel_rfl) rfl #[.int .i64 a0, .int .i64 (wrap64 (12 * (wrap64 (t296 + 1))))] rfl (by (try simp only [List.map_toArray, List.map_cons, List.map_nil]); first | done | rfl | (simp only [List.length_drop, List.length_take]; rfl)) ?_; (with_reducible refine (calendar_Later.calls kj7 a0 (wrap64 (12 * (wrap64 (t296 + 1)))) t300 t301 _ A14.out).mono ?_); rintro e w17 ⟨rfl, hb⟩; refine ⟨_, rfl, ?_⟩; have n0_ := Aside0.mk (below_step (by repeat (first | (with_reducible first | exact HB.out | apply below_alloc | apply pw_below_drewN | apply below_drew1) | exact HB.out)) hb); clear HB; have HB := n0_; clear n0_; (try clear hb); (try clear hb2); (try clear hk); (try clear hi)))
      (try simp only [Act.put, List.setIfInBounds_toArray, List.set_cons_zero, List.set_cons_succ])
      go_cut [63] (fun v63 wc => ∃ (kq : Nat) (x63_14 : Bool), v63 = .bool x63_14 ∧ Aside0 (spilelaw04_CalendarYears.j1 kq a0 a1 a2 t296 x63_14 = some r) ∧ Aside0 (kq ≤ kj7) ∧ Aside0 (Below w.heap.size w wc))
      case first =>
       have H := HC15.out
       clear HC15
       by_cases c18 : t299 = 0
       ·rw [if_pos c18] at H
        have c18b0 : (t299 == 0) = true := beq_iff_eq.mpr c18
        have c18b1 : (t299 != 0) = false := bne_eq_false_iff_eq.mpr c18
        clear c18
        (first | rw [c18b0] | (simp only [i64_w, i32_w]; rw [c18b0]) | skip)
        by_cases c19 : t298 > a1
        ·rw [if_pos c19] at H
         have c19b0 : decide (a1 < t298) = true := decide_eq_true c19
         clear c19
         have H' := Aside0.mk H
         clear H
         go_wp2
         go_meet
         case rel => exact ⟨_, (true), (by first | rfl | (simp; done) | (simp [*]; done)), H', ⟨by have := HJ7.out; first | omega | exact Nat.le_refl _⟩, ⟨by repeat (first | (with_reducible first | exact HB.out | apply below_alloc | apply pw_below_drewN | apply below_drew1) | exact HB.out)⟩⟩
        ·rw [if_neg c19] at H
         have c19b0 : decide (a1 < t298) = false := decide_eq_false c19
         clear c19
         by_cases c20 : t301 = 0
         ·rw [if_pos c20] at H
          have c20b0 : (t301 == 0) = true := beq_iff_eq.mpr c20
          have c20b1 : (t301 != 0) = false := bne_eq_false_iff_eq.mpr c20
          clear c20
          have H' := Aside0.mk H
          clear H
          go_wp2
          go_meet
          case rel => exact ⟨_, (decide (t300 ≤ a1)), (by first | rfl | (simp; done) | (simp [*]; done)), H', ⟨by have := HJ7.out; first | omega | exact Nat.le_refl _⟩, ⟨by repeat (first | (with_reducible first | exact HB.out | apply below_alloc | apply pw_below_drewN | apply below_drew1) | exact HB.out)⟩⟩
         ·rw [if_neg c20] at H
          have c20b0 : (t301 == 0) = false := beq_eq_false_iff_ne.mpr c20
          have c20b1 : (t301 != 0) = true := bne_iff_ne.mpr c20
          have H' := Aside0.mk H
          clear H
          go_wp2
          go_meet
          case rel => exact ⟨_, (false), (by first | rfl | (simp; done) | (simp [*]; done)), H', ⟨by have := HJ7.out; first | omega | exact Nat.le_refl _⟩, ⟨by repeat (first | (with_reducible first | exact HB.out | apply below_alloc | apply pw_below_drewN | apply below_drew1) | exact HB.out)⟩⟩
       ·rw [if_neg c18] at H
        have c18b0 : (t299 == 0) = false := beq_eq_false_iff_ne.mpr c18
        have c18b1 : (t299 != 0) = true := bne_iff_ne.mpr c18
        (first | rw [c18b0] | (simp only [i64_w, i32_w]; rw [c18b0]) | skip)
        have H' := Aside0.mk H
        clear H
        go_wp2
        go_meet
        case rel => exact ⟨_, (true), (by first | rfl | (simp; done) | (simp [*]; done)), H', ⟨by have := HJ7.out; first | omega | exact Nat.le_refl _⟩, ⟨by repeat (first | (with_reducible first | exact HB.out | apply below_alloc | apply pw_below_drewN | apply below_drew1) | exact HB.out)⟩⟩
      case rest =>
       clear HC15
       try clear c1
       try clear c2
       try clear p2
       try clear c5
       try clear p6
       try clear c7
       try clear c7b0
       try clear c7b1
       try clear c9
       try clear c10
       try clear c11
       try clear c11b0
       try clear c12
       try clear c18
       try clear c18b0
       try clear c18b1
       try clear c19
       try clear c19b0
       try clear c20
       try clear c20b0
       try clear c20b1
       try clear p2
       obtain ⟨kq, x63_14, rfl, HA, HJ14, HB⟩ := hcut
       cases kq with
       | zero => exact absurd HA.out (by simp [spilelaw04_CalendarYears.j1])
       | succ kj14 =>
        have H := HA.out
        clear HA
        simp only [spilelaw04_CalendarYears.j1] at H
        by_cases c21 : x63_14 = true
        ·subst c21
         have H1 : (some false) = some r := by rw [if_pos rfl] at H; exact H
         clear H
         have H := H1
         clear H1
         obtain rfl := Option.some.inj H
         go_wp2
         go_ret
         exact ⟨by first | rfl | (simp [errW_none, errW_some] <;> rfl) | (simp [*, errW_none, errW_some] <;> rfl), by repeat (first | (with_reducible first | exact HB.out | apply below_alloc | apply pw_below_drewN | apply below_drew1) | exact HB.out)⟩
        ·replace c21 := Bool.eq_false_iff.mpr c21
         subst c21
         have H1 : (if a2 < 0 then (some true) else (if a2 > 100000 then (some true) else ((calendar_Years.f kj14 a0 (wrap64 (a1 + a2))).bind fun bt302 => (if bt302.2 = 0 then (some (decide (bt302.1 ≥ t296))) else (some true))))) = some r := by rw [if_neg (show ¬ (false = true) by decide)] at H; exact H
         clear H
         have H := H1
         clear H1
         by_cases c22 : a2 < 0
         ·rw [if_pos c22] at H
          have c22b0 : decide (a2 < 0) = true := decide_eq_true c22
          clear c22
          obtain rfl := Option.some.inj H
          go_wp2
          go_ret
          exact ⟨by first | rfl | (simp [errW_none, errW_some] <;> rfl) | (simp [*, errW_none, errW_some] <;> rfl), by repeat (first | (with_reducible first | exact HB.out | apply below_alloc | apply pw_below_drewN | apply below_drew1) | exact HB.out)⟩
         ·rw [if_neg c22] at H
          have c22b0 : decide (a2 < 0) = false := decide_eq_false c22
          clear c22
          by_cases c23 : a2 > 100000
          ·rw [if_pos c23] at H
           have c23b0 : decide (100000 < a2) = true := decide_eq_true c23
           clear c23
           obtain rfl := Option.some.inj H
           go_wp2
           go_ret
           exact ⟨by first | rfl | (simp [errW_none, errW_some] <;> rfl) | (simp [*, errW_none, errW_some] <;> rfl), by repeat (first | (with_reducible first | exact HB.out | apply below_alloc | apply pw_below_drewN | apply below_drew1) | exact HB.out)⟩
          ·rw [if_neg c23] at H
           have c23b0 : decide (100000 < a2) = false := decide_eq_false c23
           clear c23
           replace H := Option.bind_eq_some_iff.mp H
           obtain ⟨⟨t302, t303⟩, A240, H⟩ := H
           replace H : (if t303 = 0 then (some (decide (t302 ≥ t296))) else (some true)) = some r := H
           have A24 := Aside0.mk A240
           clear A240
           by_cases c25 : t303 = 0
           ·rw [if_pos c25] at H
            have c25b0 : (t303 == 0) = true := beq_iff_eq.mpr c25
            have c25b1 : (t303 != 0) = false := bne_eq_false_iff_eq.mpr c25
            clear c25
            obtain rfl := Option.some.inj H
            go_wp2_with (first | ((with_reducible refine gate_callee (f := 21) rfl ?_); refine goesL_ (some 75) rfl rfl Tryd.func21 (by kernel_rfl) rfl #[.int .i64 a0, .int .i64 (wrap64 (a1 + a2))] rfl (by (try simp only [List.map_toArray, List.map_cons, List.map_nil]); first | done | rfl | (simp only [List.length_drop, List.length_take]; rfl)) ?_; (with_reducible refine (calendar_Years.calls kj14 a0 (wrap64 (a1 + a2)) t302 t303 _ A24.out).mono ?_); rintro e w26 ⟨rfl, hb⟩; refine ⟨_, rfl, ?_⟩; have n0_ := Aside0.mk (below_step (by repeat (first | (with_reducible first | exact HB.out | apply below_alloc | apply pw_below_drewN | apply below_drew1) | exact HB.out)) hb); clear HB; have HB := n0_; clear n0_; (try clear hb); (try clear hb2); (try clear hk); (try clear hi)))
            go_ret
            exact ⟨by first | rfl | (simp [errW_none, errW_some] <;> rfl) | (simp [*, errW_none, errW_some] <;> rfl), by repeat (first | (with_reducible first | exact HB.out | apply below_alloc | apply pw_below_drewN | apply below_drew1) | exact HB.out)⟩
           ·rw [if_neg c25] at H
            have c25b0 : (t303 == 0) = false := beq_eq_false_iff_ne.mpr c25
            have c25b1 : (t303 != 0) = true := bne_iff_ne.mpr c25
            obtain rfl := Option.some.inj H
            go_wp2_with (first | ((with_reducible refine gate_callee (f := 21) rfl ?_); refine goesL_ (some 75) rfl rfl Tryd.func21 (by kernel_rfl) rfl #[.int .i64 a0, .int .i64 (wrap64 (a1 + a2))] rfl (by (try simp only [List.map_toArray, List.map_cons, List.map_nil]); first | done | rfl | (simp only [List.length_drop, List.length_take]; rfl)) ?_; (with_reducible refine (calendar_Years.calls kj14 a0 (wrap64 (a1 + a2)) t302 t303 _ A24.out).mono ?_); rintro e w27 ⟨rfl, hb⟩; refine ⟨_, rfl, ?_⟩; have n0_ := Aside0.mk (below_step (by repeat (first | (with_reducible first | exact HB.out | apply below_alloc | apply pw_below_drewN | apply below_drew1) | exact HB.out)) hb); clear HB; have HB := n0_; clear n0_; (try clear hb); (try clear hb2); (try clear hk); (try clear hi)))
            go_ret
            exact ⟨by first | rfl | (simp [errW_none, errW_some] <;> rfl) | (simp [*, errW_none, errW_some] <;> rfl), by repeat (first | (with_reducible first | exact HB.out | apply below_alloc | apply pw_below_drewN | apply below_drew1) | exact HB.out)⟩
  ·rw [if_neg c7] at H
   have c7b0 : (t297 == 0) = false := beq_eq_false_iff_ne.mpr c7
   have c7b1 : (t297 != 0) = true := bne_iff_ne.mpr c7
   obtain rfl := Option.some.inj H
   go_enter Tryd.func9, Tryd.ntmps9
   go_wp2_with (first | ((with_reducible refine gate_callee (f := 10) rfl ?_); refine goesL_ (some 15) rfl rfl Tryd.func10 (by kernel_rfl) rfl #[] rfl (by (try simp only [List.map_toArray, List.map_cons, List.map_nil]); first | done | rfl | (simp only [List.length_drop, List.length_take]; rfl)) ?_; (with_reducible refine (spilelaw04_awake.calls  true _ A4.out).mono ?_); rintro e w28 ⟨rfl, hb⟩; refine ⟨_, rfl, ?_⟩; have n0_ := Aside0.mk (below_step (by repeat (first | (with_reducible first | exact HB.out | apply below_alloc | apply pw_below_drewN | apply below_drew1) | exact HB.out)) hb); clear HB; have HB := n0_; clear n0_; (try clear hb); (try clear hb2); (try clear hk); (try clear hi)) | ((with_reducible refine gate_callee (f := 21) rfl ?_); refine goesL_ (some 20) rfl rfl Tryd.func21 (by kernel_rfl) rfl #[.int .i64 a0, .int .i64 a1] rfl (by (try simp only [List.map_toArray, List.map_cons, List.map_nil]); first | done | rfl | (simp only [List.length_drop, List.length_take]; rfl)) ?_; (with_reducible refine (calendar_Years.calls k a0 a1 t296 t297 _ A6.out).mono ?_); rintro e w29 ⟨rfl, hb⟩; refine ⟨_, rfl, ?_⟩; have n0_ := Aside0.mk (below_step (by repeat (first | (with_reducible first | exact HB.out | apply below_alloc | apply pw_below_drewN | apply below_drew1) | exact HB.out)) hb); clear HB; have HB := n0_; clear n0_; (try clear hb); (try clear hb2); (try clear hk); (try clear hi)))
   go_ret
   exact ⟨by first | rfl | (simp [errW_none, errW_some] <;> rfl) | (simp [*, errW_none, errW_some] <;> rfl), by repeat (first | (with_reducible first | exact HB.out | apply below_alloc | apply pw_below_drewN | apply below_drew1) | exact HB.out)⟩
 ·replace c5 := Bool.eq_false_iff.mpr c5
  subst c5
  have H1 : (some false) = some r := by rw [if_neg (show ¬ (false = true) by decide)] at H; exact H
  clear H
  have H := H1
  clear H1
  obtain rfl := Option.some.inj H
  go_enter Tryd.func9, Tryd.ntmps9
  go_wp2_with (first | ((with_reducible refine gate_callee (f := 10) rfl ?_); refine goesL_ (some 15) rfl rfl Tryd.func10 (by kernel_rfl) rfl #[] rfl (by (try simp only [List.map_toArray, List.map_cons, List.map_nil]); first | done | rfl | (simp only [List.length_drop, List.length_take]; rfl)) ?_; (with_reducible refine (spilelaw04_awake.calls  false _ A4.out).mono ?_); rintro e w30 ⟨rfl, hb⟩; refine ⟨_, rfl, ?_⟩; have n0_ := Aside0.mk (below_step (by repeat (first | (with_reducible first | exact HB.out | apply below_alloc | apply pw_below_drewN | apply below_drew1) | exact HB.out)) hb); clear HB; have HB := n0_; clear n0_; (try clear hb); (try clear hb2); (try clear hk); (try clear hi)))
  go_ret
  exact ⟨by first | rfl | (simp [errW_none, errW_some] <;> rfl) | (simp [*, errW_none, errW_some] <;> rfl), by repeat (first | (with_reducible first | exact HB.out | apply below_alloc | apply pw_below_drewN | apply below_drew1) | exact HB.out)⟩

/-- THE ONE PURE STATEMENT of spilelaw04_CalendarYears: yours. -/
def spilelaw04_CalendarYears.Pure : Prop := ∀ (a0 : Int) (a1 : Int) (a2 : Int), (Lit.int .i64 a0).wf = true → (Lit.int .i64 a1).wf = true → (Lit.int .i64 a2).wf = true → ∃ k, spilelaw04_CalendarYears.f k a0 a1 a2 = some true
theorem spilelaw04_CalendarYears.walk : True := trivial

end Go.Proofs.YtlhdkajflmpnbaaDoor.PF
