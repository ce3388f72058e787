-- Written by a program of this session (wip/pr.py) out of Lean's print of the translation; Lean checks it.
import Derived.Test.YtlhdkajflmpnbaaDoorPF0
import Derived.Test.YtlhdkajflmpnbaaDoorPF3
import Derived.Test.YtlhdkajflmpnbaaDoorPF5
import Derived.Test.YtlhdkajflmpnbaaDoorPF6
namespace Go.Proofs.YtlhdkajflmpnbaaDoor.PF
open Go.RowKit Go.Proofs.YtlhdkajflmpnbaaDoorW.PrintWords Go.Proofs.YtlhdkajflmpnbaaDoorW.PrintLast Go.Proofs.YtlhdkajflmpnbaaDoorW.PrintMore
attribute [local go_sem] max2_int min2_int max_two min_two max_three min_three max_four min_four   -- for this text's walks alone
set_option linter.unusedVariables false
set_option linter.unusedSimpArgs false

/-! ### spilelaw04_CalendarLater: function 8 -/
mutual
def spilelaw04_CalendarLater.j0 : Nat → Int → Int → Int → Int → Int → Bool → Option (Bool)
 | 0, _, _, _, _, _, _ => none
 | k + 1, x0, x1, x2, x3, x9, x40 => if x40 = true then ((calendar_Later.f k (wrap64 (x0 + x1)) x2).bind fun bt277 => (if bt277.2 = 0 then (if bt277.1 < x9 then (some false) else (spilelaw04_CalendarLater.j1 k x0 x2 x3 x9)) else (spilelaw04_CalendarLater.j1 k x0 x2 x3 x9))) else (spilelaw04_CalendarLater.j1 k x0 x2 x3 x9)
def spilelaw04_CalendarLater.j1 : Nat → Int → Int → Int → Int → Option (Bool)
 | 0, _, _, _, _ => none
 | k + 1, x0, x2, x3, x9 => (calendar_Date.f k x0).bind fun bt279 => ((calendar_Date.f k x9).bind fun bt284 => (if bt279.2.2.2 = 0 then (if bt284.2.2.2 = 0 then (if (wrap64 ((wrap64 (12 * bt284.1)) + bt284.2.1)) = (wrap64 ((wrap64 ((wrap64 (12 * bt279.1)) + bt279.2.1)) + x2)) then (spilelaw04_CalendarLater.j2 k x0 x2 x3 (decide (bt284.2.2.1 > bt279.2.2.1)) bt279.1 bt279.2.1 bt279.2.2.1) else (spilelaw04_CalendarLater.j2 k x0 x2 x3 true bt279.1 bt279.2.1 bt279.2.2.1)) else (spilelaw04_CalendarLater.j2 k x0 x2 x3 true bt279.1 bt279.2.1 bt279.2.2.1)) else (spilelaw04_CalendarLater.j2 k x0 x2 x3 true bt279.1 bt279.2.1 bt279.2.2.1)))
def spilelaw04_CalendarLater.j2 : Nat → Int → Int → Int → Bool → Int → Int → Int → Option (Bool)
 | 0, _, _, _, _, _, _, _ => none
 | k + 1, x0, x2, x3, x95, x284000, x284001, x284002 => if x95 = true then (some false) else ((calendar_Later.f k (wrap64 ((wrap64 (x0 - x284002)) + 1)) x2).bind fun bt289 => (if bt289.2 = 0 then (if x3 < (-3600) then (spilelaw04_CalendarLater.j3 k x0 x2 x3 bt289.1 bt289.2 true x284000 x284001 x284002) else (if x3 > 3600 then (spilelaw04_CalendarLater.j3 k x0 x2 x3 bt289.1 bt289.2 true x284000 x284001 x284002) else (if (wrap64 (x2 + x3)) < (-3600) then (spilelaw04_CalendarLater.j3 k x0 x2 x3 bt289.1 bt289.2 true x284000 x284001 x284002) else (spilelaw04_CalendarLater.j3 k x0 x2 x3 bt289.1 bt289.2 (decide ((wrap64 (x2 + x3)) > 3600)) x284000 x284001 x284002)))) else (spilelaw04_CalendarLater.j3 k x0 x2 x3 bt289.1 bt289.2 true x284000 x284001 x284002)))
def spilelaw04_CalendarLater.j3 : Nat → Int → Int → Int → Int → Int → Bool → Int → Int → Int → Option (Bool)
 | 0, _, _, _, _, _, _, _, _, _ => none
 | k + 1, x0, x2, x3, x17, x18, x127, x284000, x284001, x284002 => if x127 = true then (if x18 = 0 then (some true) else (some (x18 == 15))) else ((calendar_Later.f k (wrap64 ((wrap64 (x0 - x284002)) + 1)) (wrap64 (x2 + x3))).bind fun bt291 => ((calendar_Later.f k x17 x3).bind fun bt293 => (if bt291.1 = bt293.1 then (some (bt291.2 == bt293.2)) else (some false))))
end
def spilelaw04_CalendarLater.f (k : Nat) (a0 : Int) (a1 : Int) (a2 : Int) (a3 : Int) : Option (Bool) := (spilelaw04_awake.f).bind fun t274 => (if t274 = true then ((calendar_Later.f k a0 a2).bind fun bt275 => (if bt275.2 = 0 then (if a1 ≥ 0 then (spilelaw04_CalendarLater.j0 k a0 a1 a2 a3 bt275.1 (decide (a1 ≤ 100000))) else (spilelaw04_CalendarLater.j0 k a0 a1 a2 a3 bt275.1 false)) else (some (bt275.1 == 0)))) else (some false))
theorem spilelaw04_CalendarLater.mono_l : ∀ k, (∀ y0 y1 y2 y3 y4 y5, LeO (spilelaw04_CalendarLater.j0 k y0 y1 y2 y3 y4 y5) (spilelaw04_CalendarLater.j0 (k + 1) y0 y1 y2 y3 y4 y5)) ∧ (∀ y0 y1 y2 y3, LeO (spilelaw04_CalendarLater.j1 k y0 y1 y2 y3) (spilelaw04_CalendarLater.j1 (k + 1) y0 y1 y2 y3)) ∧ (∀ y0 y1 y2 y3 y4 y5 y6, LeO (spilelaw04_CalendarLater.j2 k y0 y1 y2 y3 y4 y5 y6) (spilelaw04_CalendarLater.j2 (k + 1) y0 y1 y2 y3 y4 y5 y6)) ∧ (∀ y0 y1 y2 y3 y4 y5 y6 y7 y8, LeO (spilelaw04_CalendarLater.j3 k y0 y1 y2 y3 y4 y5 y6 y7 y8) (spilelaw04_CalendarLater.j3 (k + 1) y0 y1 y2 y3 y4 y5 y6 y7 y8))
 | 0 => ⟨fun _ _ _ _ _ _ r h => by simp [spilelaw04_CalendarLater.j0] at h, fun _ _ _ _ r h => by simp [spilelaw04_CalendarLater.j1] at h, fun _ _ _ _ _ _ _ r h => by simp [spilelaw04_CalendarLater.j2] at h, fun _ _ _ _ _ _ _ _ _ r h => by simp [spilelaw04_CalendarLater.j3] at h⟩
 | k + 1 => by
  obtain ⟨ih0, ih1, ih2, ih3⟩ := spilelaw04_CalendarLater.mono_l k
  refine ⟨?_, ?_, ?_, ?_⟩
  ·intro y0 y1 y2 y3 y4 y5
   unfold spilelaw04_CalendarLater.j0
   repeat' first
   | (with_reducible exact ih0 _ _ _ _ _ _)
   | (with_reducible exact ih1 _ _ _ _)
   | (with_reducible exact ih2 _ _ _ _ _ _ _)
   | (with_reducible exact ih3 _ _ _ _ _ _ _ _ _)
   | (with_reducible exact calendar_Date.mono _ _)
   | (with_reducible exact calendar_Later.mono _ _ _)
   | (with_reducible exact LeO.refl _)
   | (with_reducible exact LeO.none _)
   | (with_reducible refine LeO.ite ?_ ?_)
   | (with_reducible refine LeO.bind ?_ (fun _ => ?_))
   | exact ih0 _ _ _ _ _ _
   | exact ih1 _ _ _ _
   | exact ih2 _ _ _ _ _ _ _
   | exact ih3 _ _ _ _ _ _ _ _ _
   | exact calendar_Date.mono _ _
   | exact calendar_Later.mono _ _ _
   | exact LeO.none _
   | refine LeO.ite ?_ ?_
   | refine LeO.bind ?_ (fun _ => ?_)
  ·intro y0 y1 y2 y3
   unfold spilelaw04_CalendarLater.j1
   repeat' first
   | (with_reducible exact ih0 _ _ _ _ _ _)
   | (with_reducible exact ih1 _ _ _ _)
   | (with_reducible exact ih2 _ _ _ _ _ _ _)
   | (with_reducible exact ih3 _ _ _ _ _ _ _ _ _)
   | (with_reducible exact calendar_Date.mono _ _)
   | (with_reducible exact calendar_Later.mono _ _ _)
   | (with_reducible exact LeO.refl _)
   | (with_reducible exact LeO.none _)
   | (with_reducible refine LeO.ite ?_ ?_)
   | (with_reducible refine LeO.bind ?_ (fun _ => ?_))
   | exact ih0 _ _ _ _ _ _
   | exact ih1 _ _ _ _
   | exact ih2 _ _ _ _ _ _ _
   | exact ih3 _ _ _ _ _ _ _ _ _
   | exact calendar_Date.mono _ _
   | exact calendar_Later.mono _ _ _
   | exact LeO.none _
   | refine LeO.ite ?_ ?_
   | refine LeO.bind ?_ (fun _ => ?_)
  ·intro y0 y1 y2 y3 y4 y5 y6
   unfold spilelaw04_CalendarLater.j2
   repeat' first
   | (with_reducible exact ih0 _ _ _ _ _ _)
   | (with_reducible exact ih1 _ _ _ _)
   | (with_reducible exact ih2 _ _ _ _ _ _ _)
   | (with_reducible exact ih3 _ _ _ _ _ _ _ _ _)
   | (with_reducible exact calendar_Date.mono _ _)
   | (with_reducible exact calendar_Later.mono _ _ _)
   | (with_reducible exact LeO.refl _)
   | (with_reducible exact LeO.none _)
   | (with_reducible refine LeO.ite ?_ ?_)
   | (with_reducible refine LeO.bind ?_ (fun _ => ?_))
   | exact ih0 _ _ _ _ _ _
   | exact ih1 _ _ _ _
   | exact ih2 _ _ _ _ _ _ _
   | exact ih3 _ _ _ _ _ _ _ _ _
   | exact calendar_Date.mono _ _
   | exact calendar_Later.mono _ _ _
   | exact LeO.none _
   | refine LeO.ite ?_ ?_
   | refine LeO.bind ?_ (fun _ => ?_)
  ·intro y0 y1 y2 y3 y4 y5 y6 y7 y8
   unfold spilelaw04_CalendarLater.j3
   repeat' first
   | (with_reducible exact ih0 _ _ _ _ _ _)
   | (with_reducible exact ih1 _ _ _ _)
   | (with_reducible exact ih2 _ _ _ _ _ _ _)
   | (with_reducible exact ih3 _ _ _ _ _ _ _ _ _)
   | (with_reducible exact calendar_Date.mono _ _)
   | (with_reducible exact calendar_Later.mono _ _ _)
   | (with_reducible exact LeO.refl _)
   | (with_reducible exact LeO.none _)
   | (with_reducible refine LeO.ite ?_ ?_)
   | (with_reducible refine LeO.bind ?_ (fun _ => ?_))
   | exact ih0 _ _ _ _ _ _
   | exact ih1 _ _ _ _
   | exact ih2 _ _ _ _ _ _ _
   | exact ih3 _ _ _ _ _ _ _ _ _
   | exact calendar_Date.mono _ _
   | exact calendar_Later.mono _ _ _
   | exact LeO.none _
   | refine LeO.ite ?_ ?_
   | refine LeO.bind ?_ (fun _ => ?_)
theorem spilelaw04_CalendarLater.mono : ∀ a0 a1 a2 a3 k, LeO (spilelaw04_CalendarLater.f k a0 a1 a2 a3) (spilelaw04_CalendarLater.f (k + 1) a0 a1 a2 a3) := by
 intro a0 a1 a2 a3 k
 obtain ⟨ih0, ih1, ih2, ih3⟩ := spilelaw04_CalendarLater.mono_l k
 unfold spilelaw04_CalendarLater.f
 repeat' first
   | (with_reducible exact ih0 _ _ _ _ _ _)
   | (with_reducible exact ih1 _ _ _ _)
   | (with_reducible exact ih2 _ _ _ _ _ _ _)
   | (with_reducible exact ih3 _ _ _ _ _ _ _ _ _)
   | (with_reducible exact calendar_Date.mono _ _)
   | (with_reducible exact calendar_Later.mono _ _ _)
   | (with_reducible exact LeO.refl _)
   | (with_reducible exact LeO.none _)
   | (with_reducible refine LeO.ite ?_ ?_)
   | (with_reducible refine LeO.bind ?_ (fun _ => ?_))
   | exact ih0 _ _ _ _ _ _
   | exact ih1 _ _ _ _
   | exact ih2 _ _ _ _ _ _ _
   | exact ih3 _ _ _ _ _ _ _ _ _
   | exact calendar_Date.mono _ _
   | exact calendar_Later.mono _ _ _
   | exact LeO.none _
   | refine LeO.ite ?_ ?_
   | refine LeO.bind ?_ (fun _ => ?_)
set_option maxHeartbeats 8000000 in
set_option maxRecDepth 100000 in
theorem spilelaw04_CalendarLater.calls (k : Nat) (a0 : Int) (a1 : Int) (a2 : Int) (a3 : Int) (r : Bool) (w : World) (hA_ : Aside0 (∀ w1, Below w.heap.size w w1 → AwakeOK w1)) (hP_ : Aside0 (∀ w1, Below w.heap.size w w1 → PrintOK w1)) (h : spilelaw04_CalendarLater.f k a0 a1 a2 a3 = some r) :
  Calls Tryd.prog 8 #[.int .i64 a0, .int .i64 a1, .int .i64 a2, .int .i64 a3] w fun e w' => e = .returned (.bool r) ∧ Below w.heap.size w w' := by
 have hu23 := Tryd.underlying23
 have HB := Aside0.mk (Below.refl w.heap.size w)
 have H : ((spilelaw04_awake.f).bind fun t274 => (if t274 = true then ((calendar_Later.f k a0 a2).bind fun bt275 => (if bt275.2 = 0 then (if a1 ≥ 0 then (spilelaw04_CalendarLater.j0 k a0 a1 a2 a3 bt275.1 (decide (a1 ≤ 100000))) else (spilelaw04_CalendarLater.j0 k a0 a1 a2 a3 bt275.1 false)) else (some (bt275.1 == 0)))) else (some false))) = some r := h
 clear h
 replace H := Option.bind_eq_some_iff.mp H
 obtain ⟨t274, A50, H⟩ := H
 replace H : (if t274 = true then ((calendar_Later.f k a0 a2).bind fun bt275 => (if bt275.2 = 0 then (if a1 ≥ 0 then (spilelaw04_CalendarLater.j0 k a0 a1 a2 a3 bt275.1 (decide (a1 ≤ 100000))) else (spilelaw04_CalendarLater.j0 k a0 a1 a2 a3 bt275.1 false)) else (some (bt275.1 == 0)))) else (some false)) = some r := H
 have A5 := Aside0.mk A50
 clear A50
 by_cases c6 : t274 = true
 ·subst c6
  have H1 : ((calendar_Later.f k a0 a2).bind fun bt275 => (if bt275.2 = 0 then (if a1 ≥ 0 then (spilelaw04_CalendarLater.j0 k a0 a1 a2 a3 bt275.1 (decide (a1 ≤ 100000))) else (spilelaw04_CalendarLater.j0 k a0 a1 a2 a3 bt275.1 false)) else (some (bt275.1 == 0)))) = some r := by rw [if_pos rfl] at H; exact H
  clear H
  have H := H1
  clear H1
  replace H := Option.bind_eq_some_iff.mp H
  obtain ⟨⟨t275, t276⟩, A70, H⟩ := H
  replace H : (if t276 = 0 then (if a1 ≥ 0 then (spilelaw04_CalendarLater.j0 k a0 a1 a2 a3 t275 (decide (a1 ≤ 100000))) else (spilelaw04_CalendarLater.j0 k a0 a1 a2 a3 t275 false)) else (some (t275 == 0))) = some r := H
  have A7 := Aside0.mk A70
  clear A70
  by_cases c8 : t276 = 0
  ·rw [if_pos c8] at H
   have c8b0 : (t276 == 0) = true := beq_iff_eq.mpr c8
   have c8b1 : (t276 != 0) = false := bne_eq_false_iff_eq.mpr c8
   clear c8
   have HC9 := Aside0.mk H
   clear H
   go_enter Tryd.func8, Tryd.ntmps8
   go_upto_region 6 with (first | ((with_reducible refine gate_callee (f := 10) rfl ?_); refine goesL_ (some 23) rfl rfl Tryd.func10 (by kernel_rfl) rfl #[] rfl (by (try simp only [List.map_toArray, List.map_cons, List.map_nil]); first | done | rfl | (simp only [List.length_drop, List.length_take]; rfl)) ?_; (with_reducible refine (spilelaw04_awake.calls  true _ A5.out).mono ?_); rintro e w10 ⟨rfl, hb⟩; refine ⟨_, rfl, ?_⟩; have n0_ := Aside0.mk (below_step (by repeat (first | (with_reducible first | exact HB.out | apply below_alloc | apply pw_below_drewN | apply below_drew1) | exact HB.out)) hb); clear HB; have HB := n0_; clear n0_; (try clear hb); (try clear hb2); (try clear hk); (try clear hi)) | ((with_reducible refine gate_callee (f := 19) rfl ?_); refine goesL_ (some 28) rfl rfl Tryd.func19 (by kernel_rfl) rfl #[.int .i64 a0, .int .i64 a2] rfl (by (try simp only [List.map_toArray, List.map_cons, List.map_nil]); first | done | rfl | (simp only [List.length_drop, List.length_take]; rfl)) ?_; (with_reducible refine (calendar_Later.calls k a0 a2 t275 t276 _ A7.out).mono ?_); rintro e w11 ⟨rfl, hb⟩; refine ⟨_, rfl, ?_⟩; have n0_ := Aside0.mk (below_step (by repeat (first | (with_reducible first | exact HB.out | apply below_alloc | apply pw_below_drewN | apply below_drew1) | exact HB.out)) hb); clear HB; have HB := n0_; clear n0_; (try clear hb); (try clear hb2); (try clear hk); (try clear hi)))
   (try simp only [Act.put, List.setIfInBounds_toArray, List.set_cons_zero, List.set_cons_succ])
   go_cut [40] (fun v40 wc => ∃ (kq : Nat) (x40_8 : Bool), v40 = .bool x40_8 ∧ Aside0 (spilelaw04_CalendarLater.j0 kq a0 a1 a2 a3 t275 x40_8 = some r) ∧ Aside0 (kq ≤ k) ∧ Aside0 (Below w.heap.size w wc))
   case first =>
    have H := HC9.out
    clear HC9
    by_cases c12 : a1 ≥ 0
    ·rw [if_pos c12] at H
     have c12b0 : decide (0 ≤ a1) = true := decide_eq_true c12
     clear c12
     (first | rw [c12b0] | (simp only [i64_w, i32_w]; rw [c12b0]) | skip)
     have H' := Aside0.mk H
     clear H
     go_wp2
     go_meet
     case rel => exact ⟨_, (decide (a1 ≤ 100000)), (by first | rfl | (simp; done) | (simp [*]; done)), H', ⟨by first | omega | exact Nat.le_refl _⟩, ⟨by repeat (first | (with_reducible first | exact HB.out | apply below_alloc | apply pw_below_drewN | apply below_drew1) | exact HB.out)⟩⟩
    ·rw [if_neg c12] at H
     have c12b0 : decide (0 ≤ a1) = false := decide_eq_false c12
     clear c12
     (first | rw [c12b0] | (simp only [i64_w, i32_w]; rw [c12b0]) | skip)
     have H' := Aside0.mk H
     clear H
     go_wp2
     go_meet
     case rel => exact ⟨_, (false), (by first | rfl | (simp; done) | (simp [*]; done)), H', ⟨by first | omega | exact Nat.le_refl _⟩, ⟨by repeat (first | (with_reducible first | exact HB.out | apply below_alloc | apply pw_below_drewN | apply below_drew1) | exact HB.out)⟩⟩
   case rest =>
    clear HC9
    try clear c1
    try clear p2
    try clear c6
    try clear c8
    try clear c8b0
    try clear c8b1
    try clear c10
    try clear c12
    try clear c12b0
    obtain ⟨kq, x40_8, rfl, HA, HJ8, HB⟩ := hcut
    cases kq with
    | zero => exact absurd HA.out (by simp [spilelaw04_CalendarLater.j0])
    | succ kj8 =>
     have H := HA.out
     clear HA
     simp only [spilelaw04_CalendarLater.j0] at H
     have HC13 := Aside0.mk H
     clear H
     go_upto_if 40 with (fail)
     go_cut [] (fun wc => ∃ (kq : Nat), Aside0 (spilelaw04_CalendarLater.j1 kq a0 a2 a3 t275 = some r) ∧ Aside0 (kq ≤ kj8) ∧ Aside0 (Below w.heap.size w wc))
     case first =>
      have H := HC13.out
      clear HC13
      by_cases c14 : x40_8 = true
      ·subst c14
       have H1 : ((calendar_Later.f kj8 (wrap64 (a0 + a1)) a2).bind fun bt277 => (if bt277.2 = 0 then (if bt277.1 < t275 then (some false) else (spilelaw04_CalendarLater.j1 kj8 a0 a2 a3 t275)) else (spilelaw04_CalendarLater.j1 kj8 a0 a2 a3 t275))) = some r := by rw [if_pos rfl] at H; exact H
       clear H
       have H := H1
       clear H1
       replace H := Option.bind_eq_some_iff.mp H
       obtain ⟨⟨t277, t278⟩, A150, H⟩ := H
       replace H : (if t278 = 0 then (if t277 < t275 then (some false) else (spilelaw04_CalendarLater.j1 kj8 a0 a2 a3 t275)) else (spilelaw04_CalendarLater.j1 kj8 a0 a2 a3 t275)) = some r := H
       have A15 := Aside0.mk A150
       clear A150
       by_cases c16 : t278 = 0
       ·rw [if_pos c16] at H
        have c16b0 : (t278 == 0) = true := beq_iff_eq.mpr c16
        have c16b1 : (t278 != 0) = false := bne_eq_false_iff_eq.mpr c16
        clear c16
        (first | rw [c16b0] | (simp only [i64_w, i32_w]; rw [c16b0]) | skip)
        by_cases c17 : t277 < t275
        ·rw [if_pos c17] at H
         have c17b0 : decide (t277 < t275) = true := decide_eq_true c17
         clear c17
         obtain rfl := Option.some.inj H
         go_wp2_with (first | ((with_reducible refine gate_callee (f := 19) rfl ?_); refine goesL_ (some 46) rfl rfl Tryd.func19 (by kernel_rfl) rfl #[.int .i64 (wrap64 (a0 + a1)), .int .i64 a2] rfl (by (try simp only [List.map_toArray, List.map_cons, List.map_nil]); first | done | rfl | (simp only [List.length_drop, List.length_take]; rfl)) ?_; (with_reducible refine (calendar_Later.calls kj8 (wrap64 (a0 + a1)) a2 t277 t278 _ A15.out).mono ?_); rintro e w18 ⟨rfl, hb⟩; refine ⟨_, rfl, ?_⟩; have n0_ := Aside0.mk (below_step (by repeat (first | (with_reducible first | exact HB.out | apply below_alloc | apply pw_below_drewN | apply below_drew1) | exact HB.out)) hb); clear HB; have HB := n0_; clear n0_; (try clear hb); (try clear hb2); (try clear hk); (try clear hi)))
         go_ret
         exact ⟨by first | rfl | (simp [errW_none, errW_some] <;> rfl) | (simp [*, errW_none, errW_some] <;> rfl), by repeat (first | (with_reducible first | exact HB.out | apply below_alloc | apply pw_below_drewN | apply below_drew1) | exact HB.out)⟩
        ·rw [if_neg c17] at H
         have c17b0 : decide (t277 < t275) = false := decide_eq_false c17
         clear c17
         have H' := Aside0.mk H
         clear H
         go_wp2_with (first | ((with_reducible refine gate_callee (f := 19) rfl ?_); refine goesL_ (some 46) rfl rfl Tryd.func19 (by kernel_rfl) rfl #[.int .i64 (wrap64 (a0 + a1)), .int .i64 a2] rfl (by (try simp only [List.map_toArray, List.map_cons, List.map_nil]); first | done | rfl | (simp only [List.length_drop, List.length_take]; rfl)) ?_; (with_reducible refine (calendar_Later.calls kj8 (wrap64 (a0 + a1)) a2 t277 t278 _ A15.out).mono ?_); rintro e w19 ⟨rfl, hb⟩; refine ⟨_, rfl, ?_⟩; have n0_ := Aside0.mk (below_step (by repeat (first | (with_reducible first | exact HB.out | apply below_alloc | apply pw_below_drewN | apply below_drew1) | exact HB.out)) hb); clear HB; have HB := n0_; clear n0_; (try clear hb); (try clear hb2); (try clear hk); (try clear hi)))
         go_meet
         case rel => exact ⟨_, H', ⟨by have := HJ8.out; first | omega | exact Nat.le_refl _⟩, ⟨by repeat (first | (with_reducible first | exact HB.out | apply below_alloc | apply pw_below_drewN | apply below_drew1) | exact HB.out)⟩⟩
       ·rw [if_neg c16] at H
        have c16b0 : (t278 == 0) = false := beq_eq_false_iff_ne.mpr c16
        have c16b1 : (t278 != 0) = true := bne_iff_ne.mpr c16
        (first | rw [c16b0] | (simp only [i64_w, i32_w]; rw [c16b0]) | skip)
        have H' := Aside0.mk H
        clear H
        go_wp2_with (first | ((with_reducible refine gate_callee (f := 19) rfl ?_); refine goesL_ (some 46) rfl rfl Tryd.func19 (by kernel_rfl) rfl #[.int .i64 (wrap64 (a0 + a1)), .int .i64 a2] rfl (by (try simp only [List.map_toArray, List.map_cons, List.map_nil]); first | done | rfl | (simp only [List.length_drop, List.length_take]; rfl)) ?_; (with_reducible refine (calendar_Later.calls kj8 (wrap64 (a0 + a1)) a2 t277 t278 _ A15.out).mono ?_); rintro e w20 ⟨rfl, hb⟩; refine ⟨_, rfl, ?_⟩; have n0_ := Aside0.mk (below_step (by repeat (first | (with_reducible first | exact HB.out | apply below_alloc | apply pw_below_drewN | apply below_drew1) | exact HB.out)) hb); clear HB; have HB := n0_; clear n0_; (try clear hb); (try clear hb2); (try clear hk); (try clear hi)))
        go_meet
        case rel => exact ⟨_, H', ⟨by have := HJ8.out; first | omega | exact Nat.le_refl _⟩, ⟨by repeat (first | (with_reducible first | exact HB.out | apply below_alloc | apply pw_below_drewN | apply below_drew1) | exact HB.out)⟩⟩
      ·replace c14 := Bool.eq_false_iff.mpr c14
       subst c14
       have H1 : (spilelaw04_CalendarLater.j1 kj8 a0 a2 a3 t275) = some r := by rw [if_neg (show ¬ (false = true) by decide)] at H; exact H
       clear H
       have H := H1
       clear H1
       have H' := Aside0.mk H
       clear H
       go_wp2
       go_meet
       case rel => exact ⟨_, H', ⟨by have := HJ8.out; first | omega | exact Nat.le_refl _⟩, ⟨by repeat (first | (with_reducible first | exact HB.out | apply below_alloc | apply pw_below_drewN | apply below_drew1) | exact HB.out)⟩⟩
     case rest =>
      clear HC13
      try clear c1
      try clear p2
      try clear c6
      try clear p6
      try clear c8
      try clear c8b0
      try clear c8b1
      try clear c10
      try clear c12
      try clear c12b0
      try clear c14
      try clear c16
      try clear c16b0
      try clear c16b1
      try clear c17
      try clear c17b0
      try clear c19
      try clear p2
      obtain ⟨kq, HA, HJ12, HB⟩ := hcut
      cases kq with
      | zero => exact absurd HA.out (by simp [spilelaw04_CalendarLater.j1])
      | succ kj12 =>
       have H := HA.out
       clear HA
       simp only [spilelaw04_CalendarLater.j1] at H
       replace H := Option.bind_eq_some_iff.mp H
       obtain ⟨⟨t279, t280, t281, t282⟩, A210, H⟩ := H
       replace H : ((calendar_Date.f kj12 t275).bind fun bt284 => (if t282 = 0 then (if bt284.2.2.2 = 0 then (if (wrap64 ((wrap64 (12 * bt284.1)) + bt284.2.1)) = (wrap64 ((wrap64 ((wrap64 (12 * t279)) + t280)) + a2)) then (spilelaw04_CalendarLater.j2 kj12 a0 a2 a3 (decide (bt284.2.2.1 > t281)) t279 t280 t281) else (spilelaw04_CalendarLater.j2 kj12 a0 a2 a3 true t279 t280 t281)) else (spilelaw04_CalendarLater.j2 kj12 a0 a2 a3 true t279 t280 t281)) else (spilelaw04_CalendarLater.j2 kj12 a0 a2 a3 true t279 t280 t281))) = some r := H
       have A21 := Aside0.mk A210
       clear A210
       replace H := Option.bind_eq_some_iff.mp H
       obtain ⟨⟨t284, t285, t286, t287⟩, A220, H⟩ := H
       replace H : (if t282 = 0 then (if t287 = 0 then (if (wrap64 ((wrap64 (12 * t284)) + t285)) = (wrap64 ((wrap64 ((wrap64 (12 * t279)) + t280)) + a2)) then (spilelaw04_CalendarLater.j2 kj12 a0 a2 a3 (decide (t286 > t281)) t279 t280 t281) else (spilelaw04_CalendarLater.j2 kj12 a0 a2 a3 true t279 t280 t281)) else (spilelaw04_CalendarLater.j2 kj12 a0 a2 a3 true t279 t280 t281)) else (spilelaw04_CalendarLater.j2 kj12 a0 a2 a3 true t279 t280 t281)) = some r := H
       have A22 := Aside0.mk A220
       clear A220
       have HC23 := Aside0.mk H
       clear H
       go_upto_region 12 with (first | ((with_reducible refine gate_callee (f := 11) rfl ?_); refine goesL_ (some 58) rfl rfl Tryd.func11 (by kernel_rfl) rfl #[.int .i64 a0] rfl (by (try simp only [List.map_toArray, List.map_cons, List.map_nil]); first | done | rfl | (simp only [List.length_drop, List.length_take]; rfl)) ?_; (with_reducible refine (calendar_Date.calls kj12 a0 t279 t280 t281 t282 _ A21.out).mono ?_); rintro e w24 ⟨rfl, hb⟩; refine ⟨_, rfl, ?_⟩; have n0_ := Aside0.mk (below_step (by repeat (first | (with_reducible first | exact HB.out | apply below_alloc | apply pw_below_drewN | apply below_drew1) | exact HB.out)) hb); clear HB; have HB := n0_; clear n0_; (try clear hb); (try clear hb2); (try clear hk); (try clear hi)) | ((with_reducible refine gate_dst (N := 13) rfl ?_); refine box_event ?hg (N := 13) ?hd (cs := #[.int .i64 0, .int .i64 0, .int .i64 0]) (t := 23) ?hr ?_; (case hd => rfl); (case hg => rfl); (case hr => first | (go_simp; done) | (go_simp; rfl)); intro gb283 hg w25 hbox hb; have n0_ := Aside0.mk (below_step (by repeat (first | (with_reducible first | exact HB.out | apply below_alloc | apply pw_below_drewN | apply below_drew1) | exact HB.out)) hb); have n1_ := Aside0.mk (hbox); have n2_ := Aside0.mk ((by rw [hg]; exact (below_size (by repeat (first | (with_reducible first | exact HB.out | apply below_alloc | apply pw_below_drewN | apply below_drew1) | exact HB.out))) : w.heap.size ≤ gb283)); have n3_ := Aside0.mk ((by rw [hg]; exact (below_size (by repeat (first | (with_reducible first | exact HB.out | apply below_alloc | apply pw_below_drewN | apply below_drew1) | exact HB.out))) : w.heap.size ≤ gb283)); clear HB; have HB := n0_; have BK283 := n1_; have GW283 := n2_; have GE283 := n3_; clear n0_ n1_ n2_ n3_; clear hb hbox hg; have hcz26_0 : w25.cell? ⟨gb283, 0, none⟩ = some (.int .i64 0) := (blk_cell BK283.out 0).trans rfl; have hcz26_1 : w25.cell? ⟨gb283, 1, none⟩ = some (.int .i64 0) := (blk_cell BK283.out 1).trans rfl; have hcz26_2 : w25.cell? ⟨gb283, 2, none⟩ = some (.int .i64 0) := (blk_cell BK283.out 2).trans rfl; have hfz26_0 := blk_frozen BK283.out 0; have hfz26_1 := blk_frozen BK283.out 1; have hfz26_2 := blk_frozen BK283.out 2) | ((with_reducible refine gate_callee (f := 11) rfl ?_); refine goesL_ (some 63) rfl rfl Tryd.func11 (by kernel_rfl) rfl #[.int .i64 t275] rfl (by (try simp only [List.map_toArray, List.map_cons, List.map_nil]); first | done | rfl | (simp only [List.length_drop, List.length_take]; rfl)) ?_; (with_reducible refine (calendar_Date.calls kj12 t275 t284 t285 t286 t287 _ A22.out).mono ?_); rintro e w27 ⟨rfl, hb⟩; refine ⟨_, rfl, ?_⟩; have n0_ := Aside0.mk (blk_below (g := gb283) (o := .cells #[.int .i64 t279, .int .i64 t280, .int .i64 t281] 23 (0, 0)) (by (with_reducible repeat (first | refine blk_drewN ?_ _ | refine blk_drew ?_ | refine blk_alloc ?_ _)); refine blk_put (cs := #[.int .i64 t279, .int .i64 t280, .int .i64 0]) ?_ 2 _ rfl; (with_reducible repeat (first | refine blk_drewN ?_ _ | refine blk_drew ?_ | refine blk_alloc ?_ _)); refine blk_put (cs := #[.int .i64 t279, .int .i64 0, .int .i64 0]) ?_ 1 _ rfl; (with_reducible repeat (first | refine blk_drewN ?_ _ | refine blk_drew ?_ | refine blk_alloc ?_ _)); refine blk_put (cs := #[.int .i64 0, .int .i64 0, .int .i64 0]) ?_ 0 _ rfl; (with_reducible repeat (first | refine blk_drewN ?_ _ | refine blk_drew ?_ | refine blk_alloc ?_ _)); exact BK283.out) hb); have n1_ := Aside0.mk (below_step (by repeat (first | (with_reducible first | exact HB.out | apply below_alloc | apply pw_below_drewN | apply below_drew1 | refine below_set ?_ GE283.out) | exact HB.out)) hb); clear BK283; clear HB; have BK283 := n0_; have HB := n1_; clear n0_ n1_; (try clear hb); (try clear hb2); (try clear hk); (try clear hi)) | ((with_reducible refine gate_dst (N := 15) rfl ?_); refine box_event ?hg (N := 15) ?hd (cs := #[.int .i64 0, .int .i64 0, .int .i64 0]) (t := 23) ?hr ?_; (case hd => rfl); (case hg => rfl); (case hr => first | (go_simp; done) | (go_simp; rfl)); intro gb288 hg w28 hbox hb; have n0_ := Aside0.mk (blk_below (g := gb283) (o := .cells #[.int .i64 t279, .int .i64 t280, .int .i64 t281] 23 (0, 0)) (by (with_reducible repeat (first | refine blk_drewN ?_ _ | refine blk_drew ?_ | refine blk_alloc ?_ _)); exact BK283.out) hb); have n1_ := Aside0.mk (below_step (by repeat (first | (with_reducible first | exact HB.out | apply below_alloc | apply pw_below_drewN | apply below_drew1 | refine below_set ?_ GE283.out) | exact HB.out)) hb); have n2_ := Aside0.mk (hbox); have n3_ := Aside0.mk ((by rw [hg]; exact (below_size (by repeat (first | (with_reducible first | exact HB.out | apply below_alloc | apply pw_below_drewN | apply below_drew1 | refine below_set ?_ GE283.out) | exact HB.out))) : w.heap.size ≤ gb288)); have n4_ := Aside0.mk ((by rw [hg]; exact (below_size (by repeat (first | (with_reducible first | exact HB.out | apply below_alloc | apply pw_below_drewN | apply below_drew1 | refine below_set ?_ GE283.out) | exact HB.out))) : w.heap.size ≤ gb288)); have n5_ := Aside0.mk ((by rw [hg]; exact Nat.ne_of_lt (blk_lt (g := gb283) (o := .cells #[.int .i64 t279, .int .i64 t280, .int .i64 t281] 23 (0, 0)) (by (with_reducible repeat (first | refine blk_drewN ?_ _ | refine blk_drew ?_ | refine blk_alloc ?_ _)); exact BK283.out)) : gb283 ≠ gb288)); have n6_ := Aside0.mk ((by rw [hg]; exact Nat.ne_of_gt (blk_lt (g := gb283) (o := .cells #[.int .i64 t279, .int .i64 t280, .int .i64 t281] 23 (0, 0)) (by (with_reducible repeat (first | refine blk_drewN ?_ _ | refine blk_drew ?_ | refine blk_alloc ?_ _)); exact BK283.out)) : gb288 ≠ gb283)); clear BK283; clear HB; have BK283 := n0_; have HB := n1_; have BK288 := n2_; have GW288 := n3_; have GE288 := n4_; have NB283_288 := n5_; have NB288_283 := n6_; clear n0_ n1_ n2_ n3_ n4_ n5_ n6_; clear hb hbox hg; have hnb29 := NB288_283.out; have hnc29 := NB283_288.out; have hcz30_0 : w28.cell? ⟨gb288, 0, none⟩ = some (.int .i64 0) := (blk_cell BK288.out 0).trans rfl; have hcz30_1 : w28.cell? ⟨gb288, 1, none⟩ = some (.int .i64 0) := (blk_cell BK288.out 1).trans rfl; have hcz30_2 : w28.cell? ⟨gb288, 2, none⟩ = some (.int .i64 0) := (blk_cell BK288.out 2).trans rfl; have hfz30_0 := blk_frozen BK288.out 0; have hfz30_1 := blk_frozen BK288.out 1; have hfz30_2 := blk_frozen BK288.out 2))
       (try simp only [Act.put, List.setIfInBounds_toArray, List.set_cons_zero, List.set_cons_succ])
       go_cut [95] (fun v95 wc => ∃ (kq : Nat) (x95_22 : Bool), v95 = .bool x95_22 ∧ Aside0 (spilelaw04_CalendarLater.j2 kq a0 a2 a3 x95_22 t279 t280 t281 = some r) ∧ Aside0 (kq ≤ kj12) ∧ Aside0 (wc.heap[gb283]? = some (.cells #[.int .i64 t279, .int .i64 t280, .int .i64 t281] 23 (0, 0))) ∧ Aside0 (wc.heap[gb288]? = some (.cells #[.int .i64 t284, .int .i64 t285, .int .i64 t286] 23 (0, 0))) ∧ Aside0 (Below w.heap.size w wc))
       case first =>
        have H := HC23.out
        clear HC23
        by_cases c31 : t282 = 0
        ·rw [if_pos c31] at H
         have c31b0 : (t282 == 0) = true := beq_iff_eq.mpr c31
         have c31b1 : (t282 != 0) = false := bne_eq_false_iff_eq.mpr c31
         clear c31
         (first | rw [c31b0] | (simp only [i64_w, i32_w]; rw [c31b0]) | skip)
         by_cases c32 : t287 = 0
         ·rw [if_pos c32] at H
          have c32b0 : (t287 == 0) = true := beq_iff_eq.mpr c32
          have c32b1 : (t287 != 0) = false := bne_eq_false_iff_eq.mpr c32
          clear c32
          by_cases c33 : (wrap64 ((wrap64 (12 * t284)) + t285)) = (wrap64 ((wrap64 ((wrap64 (12 * t279)) + t280)) + a2))
          ·rw [if_pos c33] at H
           have c33b0 : ((wrap64 ((wrap64 (12 * t284)) + t285)) == (wrap64 ((wrap64 ((wrap64 (12 * t279)) + t280)) + a2))) = true := beq_iff_eq.mpr c33
           have c33b1 : ((wrap64 ((wrap64 (12 * t284)) + t285)) != (wrap64 ((wrap64 ((wrap64 (12 * t279)) + t280)) + a2))) = false := bne_eq_false_iff_eq.mpr c33
           clear c33
           have H' := Aside0.mk H
           clear H
           have hnb34 := NB288_283.out
           have hnc34 := NB283_288.out
           have hcz35_0 : w28.cell? ⟨gb288, 0, none⟩ = some (.int .i64 0) := (blk_cell BK288.out 0).trans rfl
           have hcz35_1 : w28.cell? ⟨gb288, 1, none⟩ = some (.int .i64 0) := (blk_cell BK288.out 1).trans rfl
           have hcz35_2 : w28.cell? ⟨gb288, 2, none⟩ = some (.int .i64 0) := (blk_cell BK288.out 2).trans rfl
           have hfz35_0 := blk_frozen BK288.out 0
           have hfz35_1 := blk_frozen BK288.out 1
           have hfz35_2 := blk_frozen BK288.out 2
           have hcz36_0 : w28.cell? ⟨gb283, 0, none⟩ = some (.int .i64 t279) := (blk_cell BK283.out 0).trans rfl
           have hcz36_1 : w28.cell? ⟨gb283, 1, none⟩ = some (.int .i64 t280) := (blk_cell BK283.out 1).trans rfl
           have hcz36_2 : w28.cell? ⟨gb283, 2, none⟩ = some (.int .i64 t281) := (blk_cell BK283.out 2).trans rfl
           have hfz36_0 := blk_frozen BK283.out 0
           have hfz36_1 := blk_frozen BK283.out 1
           have hfz36_2 := blk_frozen BK283.out 2
           go_wp2
           go_meet
           case rel => exact ⟨_, (decide (t286 > t281)), (by first | rfl | (simp; done) | (simp [*]; done)), H', ⟨by have := HJ8.out; have := HJ12.out; first | omega | exact Nat.le_refl _⟩, ⟨by (with_reducible repeat (first | refine blk_drewN ?_ _ | refine blk_drew ?_ | refine blk_alloc ?_ _)); refine blk_far ?_ NB283_288.out _; (with_reducible repeat (first | refine blk_drewN ?_ _ | refine blk_drew ?_ | refine blk_alloc ?_ _)); refine blk_far ?_ NB283_288.out _; (with_reducible repeat (first | refine blk_drewN ?_ _ | refine blk_drew ?_ | refine blk_alloc ?_ _)); refine blk_far ?_ NB283_288.out _; (with_reducible repeat (first | refine blk_drewN ?_ _ | refine blk_drew ?_ | refine blk_alloc ?_ _)); exact BK283.out⟩, ⟨by (with_reducible repeat (first | refine blk_drewN ?_ _ | refine blk_drew ?_ | refine blk_alloc ?_ _)); refine blk_put (cs := #[.int .i64 t284, .int .i64 t285, .int .i64 0]) ?_ 2 _ rfl; (with_reducible repeat (first | refine blk_drewN ?_ _ | refine blk_drew ?_ | refine blk_alloc ?_ _)); refine blk_put (cs := #[.int .i64 t284, .int .i64 0, .int .i64 0]) ?_ 1 _ rfl; (with_reducible repeat (first | refine blk_drewN ?_ _ | refine blk_drew ?_ | refine blk_alloc ?_ _)); refine blk_put (cs := #[.int .i64 0, .int .i64 0, .int .i64 0]) ?_ 0 _ rfl; (with_reducible repeat (first | refine blk_drewN ?_ _ | refine blk_drew ?_ | refine blk_alloc ?_ _)); exact BK288.out⟩, ⟨by repeat (first | (with_reducible first | exact HB.out | apply below_alloc | apply pw_below_drewN | apply below_drew1 | refine below_set ?_ GE283.out | refine below_set ?_ GE288.out) | exact HB.out)⟩⟩
          ·rw [if_neg c33] at H
           have c33b0 : ((wrap64 ((wrap64 (12 * t284)) + t285)) == (wrap64 ((wrap64 ((wrap64 (12 * t279)) + t280)) + a2))) = false := beq_eq_false_iff_ne.mpr c33
           have c33b1 : ((wrap64 ((wrap64 (12 * t284)) + t285)) != (wrap64 ((wrap64 ((wrap64 (12 * t279)) + t280)) + a2))) = true := bne_iff_ne.mpr c33
           have H' := Aside0.mk H
           clear H
           have hnb37 := NB288_283.out
           have hnc37 := NB283_288.out
           have hcz38_0 : w28.cell? ⟨gb288, 0, none⟩ = some (.int .i64 0) := (blk_cell BK288.out 0).trans rfl
           have hcz38_1 : w28.cell? ⟨gb288, 1, none⟩ = some (.int .i64 0) := (blk_cell BK288.out 1).trans rfl
           have hcz38_2 : w28.cell? ⟨gb288, 2, none⟩ = some (.int .i64 0) := (blk_cell BK288.out 2).trans rfl
           have hfz38_0 := blk_frozen BK288.out 0
           have hfz38_1 := blk_frozen BK288.out 1
           have hfz38_2 := blk_frozen BK288.out 2
           have hcz39_0 : w28.cell? ⟨gb283, 0, none⟩ = some (.int .i64 t279) := (blk_cell BK283.out 0).trans rfl
           have hcz39_1 : w28.cell? ⟨gb283, 1, none⟩ = some (.int .i64 t280) := (blk_cell BK283.out 1).trans rfl
           have hcz39_2 : w28.cell? ⟨gb283, 2, none⟩ = some (.int .i64 t281) := (blk_cell BK283.out 2).trans rfl
           have hfz39_0 := blk_frozen BK283.out 0
           have hfz39_1 := blk_frozen BK283.out 1
           have hfz39_2 := blk_frozen BK283.out 2
           go_wp2
           go_meet
           case rel => exact ⟨_, (true), (by first | rfl | (simp; done) | (simp [*]; done)), H', ⟨by have := HJ8.out; have := HJ12.out; first | omega | exact Nat.le_refl _⟩, ⟨by (with_reducible repeat (first | refine blk_drewN ?_ _ | refine blk_drew ?_ | refine blk_alloc ?_ _)); refine blk_far ?_ NB283_288.out _; (with_reducible repeat (first | refine blk_drewN ?_ _ | refine blk_drew ?_ | refine blk_alloc ?_ _)); refine blk_far ?_ NB283_288.out _; (with_reducible repeat (first | refine blk_drewN ?_ _ | refine blk_drew ?_ | refine blk_alloc ?_ _)); refine blk_far ?_ NB283_288.out _; (with_reducible repeat (first | refine blk_drewN ?_ _ | refine blk_drew ?_ | refine blk_alloc ?_ _)); exact BK283.out⟩, ⟨by (with_reducible repeat (first | refine blk_drewN ?_ _ | refine blk_drew ?_ | refine blk_alloc ?_ _)); refine blk_put (cs := #[.int .i64 t284, .int .i64 t285, .int .i64 0]) ?_ 2 _ rfl; (with_reducible repeat (first | refine blk_drewN ?_ _ | refine blk_drew ?_ | refine blk_alloc ?_ _)); refine blk_put (cs := #[.int .i64 t284, .int .i64 0, .int .i64 0]) ?_ 1 _ rfl; (with_reducible repeat (first | refine blk_drewN ?_ _ | refine blk_drew ?_ | refine blk_alloc ?_ _)); refine blk_put (cs := #[.int .i64 0, .int .i64 0, .int .i64 0]) ?_ 0 _ rfl; (with_reducible repeat (first | refine blk_drewN ?_ _ | refine blk_drew ?_ | refine blk_alloc ?_ _)); exact BK288.out⟩, ⟨by repeat (first | (with_reducible first | exact HB.out | apply below_alloc | apply pw_below_drewN | apply below_drew1 | refine below_set ?_ GE283.out | refine below_set ?_ GE288.out) | exact HB.out)⟩⟩
         ·rw [if_neg c32] at H
          have c32b0 : (t287 == 0) = false := beq_eq_false_iff_ne.mpr c32
          have c32b1 : (t287 != 0) = true := bne_iff_ne.mpr c32
          have H' := Aside0.mk H
          clear H
          go_wp2
          go_meet
          case rel => exact ⟨_, (true), (by first | rfl | (simp; done) | (simp [*]; done)), H', ⟨by have := HJ8.out; have := HJ12.out; first | omega | exact Nat.le_refl _⟩, ⟨by (with_reducible repeat (first | refine blk_drewN ?_ _ | refine blk_drew ?_ | refine blk_alloc ?_ _)); refine blk_far ?_ NB283_288.out _; (with_reducible repeat (first | refine blk_drewN ?_ _ | refine blk_drew ?_ | refine blk_alloc ?_ _)); refine blk_far ?_ NB283_288.out _; (with_reducible repeat (first | refine blk_drewN ?_ _ | refine blk_drew ?_ | refine blk_alloc ?_ _)); refine blk_far ?_ NB283_288.out _; (with_reducible repeat (first | refine blk_drewN ?_ _ | refine blk_drew ?_ | refine blk_alloc ?_ _)); exact BK283.out⟩, ⟨by (with_reducible repeat (first | refine blk_drewN ?_ _ | refine blk_drew ?_ | refine blk_alloc ?_ _)); refine blk_put (cs := #[.int .i64 t284, .int .i64 t285, .int .i64 0]) ?_ 2 _ rfl; (with_reducible repeat (first | refine blk_drewN ?_ _ | refine blk_drew ?_ | refine blk_alloc ?_ _)); refine blk_put (cs := #[.int .i64 t284, .int .i64 0, .int .i64 0]) ?_ 1 _ rfl; (with_reducible repeat (first | refine blk_drewN ?_ _ | refine blk_drew ?_ | refine blk_alloc ?_ _)); refine blk_put (cs := #[.int .i64 0, .int .i64 0, .int .i64 0]) ?_ 0 _ rfl; (with_reducible repeat (first | refine blk_drewN ?_ _ | refine blk_drew ?_ | refine blk_alloc ?_ _)); exact BK288.out⟩, ⟨by repeat (first | (with_reducible first | exact HB.out | apply below_alloc | apply pw_below_drewN | apply below_drew1 | refine below_set ?_ GE283.out | refine below_set ?_ GE288.out) | exact HB.out)⟩⟩
        ·rw [if_neg c31] at H
         have c31b0 : (t282 == 0) = false := beq_eq_false_iff_ne.mpr c31
         have c31b1 : (t282 != 0) = true := bne_iff_ne.mpr c31
         (first | rw [c31b0] | (simp only [i64_w, i32_w]; rw [c31b0]) | skip)
         have H' := Aside0.mk H
         clear H
         go_wp2
         go_meet
         case rel => exact ⟨_, (true), (by first | rfl | (simp; done) | (simp [*]; done)), H', ⟨by have := HJ8.out; have := HJ12.out; first | omega | exact Nat.le_refl _⟩, ⟨by (with_reducible repeat (first | refine blk_drewN ?_ _ | refine blk_drew ?_ | refine blk_alloc ?_ _)); refine blk_far ?_ NB283_288.out _; (with_reducible repeat (first | refine blk_drewN ?_ _ | refine blk_drew ?_ | refine blk_alloc ?_ _)); refine blk_far ?_ NB283_288.out _; (with_reducible repeat (first | refine blk_drewN ?_ _ | refine blk_drew ?_ | refine blk_alloc ?_ _)); refine blk_far ?_ NB283_288.out _; (with_reducible repeat (first | refine blk_drewN ?_ _ | refine blk_drew ?_ | refine blk_alloc ?_ _)); exact BK283.out⟩, ⟨by (with_reducible repeat (first | refine blk_drewN ?_ _ | refine blk_drew ?_ | refine blk_alloc ?_ _)); refine blk_put (cs := #[.int .i64 t284, .int .i64 t285, .int .i64 0]) ?_ 2 _ rfl; (with_reducible repeat (first | refine blk_drewN ?_ _ | refine blk_drew ?_ | refine blk_alloc ?_ _)); refine blk_put (cs := #[.int .i64 t284, .int .i64 0, .int .i64 0]) ?_ 1 _ rfl; (with_reducible repeat (first | refine blk_drewN ?_ _ | refine blk_drew ?_ | refine blk_alloc ?_ _)); refine blk_put (cs := #[.int .i64 0, .int .i64 0, .int .i64 0]) ?_ 0 _ rfl; (with_reducible repeat (first | refine blk_drewN ?_ _ | refine blk_drew ?_ | refine blk_alloc ?_ _)); exact BK288.out⟩, ⟨by repeat (first | (with_reducible first | exact HB.out | apply below_alloc | apply pw_below_drewN | apply below_drew1 | refine below_set ?_ GE283.out | refine below_set ?_ GE288.out) | exact HB.out)⟩⟩
       case rest =>
        clear HC23
        try clear c1
        try clear c2
        try clear p2
        try clear c3
        try clear c6
        try clear p6
        try clear c8
        try clear c8b0
        try clear c8b1
        try clear c10
        try clear c11
        try clear c12
        try clear c12b0
        try clear c14
        try clear c16
        try clear c16b0
        try clear c16b1
        try clear c17
        try clear c17b0
        try clear c19
        try clear c29
        try clear c31
        try clear c31b0
        try clear c31b1
        try clear c32
        try clear c32b0
        try clear c32b1
        try clear c33
        try clear c33b0
        try clear c33b1
        try clear c34
        try clear c37
        try clear hcz26_0
        try clear hcz26_1
        try clear hcz26_2
        try clear hcz30_0
        try clear hcz30_1
        try clear hcz30_2
        try clear hcz35_0
        try clear hcz35_1
        try clear hcz35_2
        try clear hcz36_0
        try clear hcz36_1
        try clear hcz36_2
        try clear hcz38_0
        try clear hcz38_1
        try clear hcz38_2
        try clear hcz39_0
        try clear hcz39_1
        try clear hcz39_2
        try clear hfz26_0
        try clear hfz26_1
        try clear hfz26_2
        try clear hfz30_0
        try clear hfz30_1
        try clear hfz30_2
        try clear hfz35_0
        try clear hfz35_1
        try clear hfz35_2
        try clear hfz36_0
        try clear hfz36_1
        try clear hfz36_2
        try clear hfz38_0
        try clear hfz38_1
        try clear hfz38_2
        try clear hfz39_0
        try clear hfz39_1
        try clear hfz39_2
        try clear p2
        try clear p6
        obtain ⟨kq, x95_22, rfl, HA, HJ22, BK283, BK288, HB⟩ := hcut
        cases kq with
        | zero => exact absurd HA.out (by simp [spilelaw04_CalendarLater.j2])
        | succ kj22 =>
         have H := HA.out
         clear HA
         simp only [spilelaw04_CalendarLater.j2] at H
         by_cases c40 : x95_22 = true
         ·subst c40
          have H1 : (some false) = some r := by rw [if_pos rfl] at H; exact H
          clear H
          have H := H1
          clear H1
          obtain rfl := Option.some.inj H
          go_wp2
          go_ret
          exact ⟨by first | rfl | (simp [errW_none, errW_some] <;> rfl) | (simp [*, errW_none, errW_some] <;> rfl), by repeat (first | (with_reducible first | exact HB.out | apply below_alloc | apply pw_below_drewN | apply below_drew1 | refine below_set ?_ GE283.out | refine below_set ?_ GE288.out) | exact HB.out)⟩
         ·replace c40 := Bool.eq_false_iff.mpr c40
          subst c40
          have H1 : ((calendar_Later.f kj22 (wrap64 ((wrap64 (a0 - t281)) + 1)) a2).bind fun bt289 => (if bt289.2 = 0 then (if a3 < (-3600) then (spilelaw04_CalendarLater.j3 kj22 a0 a2 a3 bt289.1 bt289.2 true t279 t280 t281) else (if a3 > 3600 then (spilelaw04_CalendarLater.j3 kj22 a0 a2 a3 bt289.1 bt289.2 true t279 t280 t281) else (if (wrap64 (a2 + a3)) < (-3600) then (spilelaw04_CalendarLater.j3 kj22 a0 a2 a3 bt289.1 bt289.2 true t279 t280 t281) else (spilelaw04_CalendarLater.j3 kj22 a0 a2 a3 bt289.1 bt289.2 (decide ((wrap64 (a2 + a3)) > 3600)) t279 t280 t281)))) else (spilelaw04_CalendarLater.j3 kj22 a0 a2 a3 bt289.1 bt289.2 true t279 t280 t281))) = some r := by rw [if_neg (show ¬ (false = true) by decide)] at H; exact H
          clear H
          have H := H1
          clear H1
          replace H := Option.bind_eq_some_iff.mp H
          obtain ⟨⟨t289, t290⟩, A410, H⟩ := H
          replace H : (if t290 = 0 then (if a3 < (-3600) then (spilelaw04_CalendarLater.j3 kj22 a0 a2 a3 t289 t290 true t279 t280 t281) else (if a3 > 3600 then (spilelaw04_CalendarLater.j3 kj22 a0 a2 a3 t289 t290 true t279 t280 t281) else (if (wrap64 (a2 + a3)) < (-3600) then (spilelaw04_CalendarLater.j3 kj22 a0 a2 a3 t289 t290 true t279 t280 t281) else (spilelaw04_CalendarLater.j3 kj22 a0 a2 a3 t289 t290 (decide ((wrap64 (a2 + a3)) > 3600)) t279 t280 t281)))) else (spilelaw04_CalendarLater.j3 kj22 a0 a2 a3 t289 t290 true t279 t280 t281)) = some r := H
          have A41 := Aside0.mk A410
          clear A410
          have HC42 := Aside0.mk H
          clear H
          have hnb43 := NB283_288.out
          have hnc43 := NB288_283.out
          have hcz44_0 : wc.cell? ⟨gb283, 0, none⟩ = some (.int .i64 t279) := (blk_cell BK283.out 0).trans rfl
          have hcz44_1 : wc.cell? ⟨gb283, 1, none⟩ = some (.int .i64 t280) := (blk_cell BK283.out 1).trans rfl
          have hcz44_2 : wc.cell? ⟨gb283, 2, none⟩ = some (.int .i64 t281) := (blk_cell BK283.out 2).trans rfl
          have hfz44_0 := blk_frozen BK283.out 0
          have hfz44_1 := blk_frozen BK283.out 1
          have hfz44_2 := blk_frozen BK283.out 2
          go_upto_region 15 with (first | ((with_reducible refine gate_callee (f := 19) rfl ?_); refine goesL_ (some 103) rfl rfl Tryd.func19 (by kernel_rfl) rfl #[.int .i64 (wrap64 ((wrap64 (a0 - t281)) + 1)), .int .i64 a2] rfl (by (try simp only [List.map_toArray, List.map_cons, List.map_nil]); first | done | rfl | (simp only [List.length_drop, List.length_take]; rfl)) ?_; (with_reducible refine (calendar_Later.calls kj22 (wrap64 ((wrap64 (a0 - t281)) + 1)) a2 t289 t290 _ A41.out).mono ?_); rintro e w45 ⟨rfl, hb⟩; refine ⟨_, rfl, ?_⟩; have n0_ := Aside0.mk (blk_below (g := gb283) (o := .cells #[.int .i64 t279, .int .i64 t280, .int .i64 t281] 23 (0, 0)) (by (with_reducible repeat (first | refine blk_drewN ?_ _ | refine blk_drew ?_ | refine blk_alloc ?_ _)); exact BK283.out) hb); have n1_ := Aside0.mk (blk_below (g := gb288) (o := .cells #[.int .i64 t284, .int .i64 t285, .int .i64 t286] 23 (0, 0)) (by (with_reducible repeat (first | refine blk_drewN ?_ _ | refine blk_drew ?_ | refine blk_alloc ?_ _)); exact BK288.out) hb); have n2_ := Aside0.mk (below_step (by repeat (first | (with_reducible first | exact HB.out | apply below_alloc | apply pw_below_drewN | apply below_drew1 | refine below_set ?_ GE283.out | refine below_set ?_ GE288.out) | exact HB.out)) hb); clear BK283; clear BK288; clear HB; have BK283 := n0_; have BK288 := n1_; have HB := n2_; clear n0_ n1_ n2_; (try clear hb); (try clear hb2); (try clear hk); (try clear hi)))
          (try simp only [Act.put, List.setIfInBounds_toArray, List.set_cons_zero, List.set_cons_succ])
          go_cut [127] (fun v127 wc => ∃ (kq : Nat) (x127_41 : Bool), v127 = .bool x127_41 ∧ Aside0 (spilelaw04_CalendarLater.j3 kq a0 a2 a3 t289 t290 x127_41 t279 t280 t281 = some r) ∧ Aside0 (kq ≤ kj22) ∧ Aside0 (wc.heap[gb283]? = some (.cells #[.int .i64 t279, .int .i64 t280, .int .i64 t281] 23 (0, 0))) ∧ Aside0 (wc.heap[gb288]? = some (.cells #[.int .i64 t284, .int .i64 t285, .int .i64 t286] 23 (0, 0))) ∧ Aside0 (Below w.heap.size w wc))
          case first =>
           have H := HC42.out
           clear HC42
           by_cases c46 : t290 = 0
           ·rw [if_pos c46] at H
            have c46b0 : (t290 == 0) = true := beq_iff_eq.mpr c46
            have c46b1 : (t290 != 0) = false := bne_eq_false_iff_eq.mpr c46
            clear c46
            (first | rw [c46b0] | (simp only [i64_w, i32_w]; rw [c46b0]) | skip)
            by_cases c47 : a3 < (-3600)
            ·rw [if_pos c47] at H
             have c47b0 : decide (a3 < (-3600)) = true := decide_eq_true c47
             clear c47
             have H' := Aside0.mk H
             clear H
             go_wp2
             go_meet
             case rel => exact ⟨_, (true), (by first | rfl | (simp; done) | (simp [*]; done)), H', ⟨by have := HJ8.out; have := HJ12.out; have := HJ22.out; first | omega | exact Nat.le_refl _⟩, ⟨by (with_reducible repeat (first | refine blk_drewN ?_ _ | refine blk_drew ?_ | refine blk_alloc ?_ _)); exact BK283.out⟩, ⟨by (with_reducible repeat (first | refine blk_drewN ?_ _ | refine blk_drew ?_ | refine blk_alloc ?_ _)); exact BK288.out⟩, ⟨by repeat (first | (with_reducible first | exact HB.out | apply below_alloc | apply pw_below_drewN | apply below_drew1 | refine below_set ?_ GE283.out | refine below_set ?_ GE288.out) | exact HB.out)⟩⟩
            ·rw [if_neg c47] at H
             have c47b0 : decide (a3 < (-3600)) = false := decide_eq_false c47
             clear c47
             by_cases c48 : a3 > 3600
             ·rw [if_pos c48] at H
              have c48b0 : decide (3600 < a3) = true := decide_eq_true c48
              clear c48
              have H' := Aside0.mk H
              clear H
              go_wp2
              go_meet
              case rel => exact ⟨_, (true), (by first | rfl | (simp; done) | (simp [*]; done)), H', ⟨by have := HJ8.out; have := HJ12.out; have := HJ22.out; first | omega | exact Nat.le_refl _⟩, ⟨by (with_reducible repeat (first | refine blk_drewN ?_ _ | refine blk_drew ?_ | refine blk_alloc ?_ _)); exact BK283.out⟩, ⟨by (with_reducible repeat (first | refine blk_drewN ?_ _ | refine blk_drew ?_ | refine blk_alloc ?_ _)); exact BK288.out⟩, ⟨by repeat (first | (with_reducible first | exact HB.out | apply below_alloc | apply pw_below_drewN | apply below_drew1 | refine below_set ?_ GE283.out | refine below_set ?_ GE288.out) | exact HB.out)⟩⟩
             ·rw [if_neg c48] at H
              have c48b0 : decide (3600 < a3) = false := decide_eq_false c48
              clear c48
              by_cases c49 : (wrap64 (a2 + a3)) < (-3600)
              ·rw [if_pos c49] at H
               have c49b0 : decide ((wrap64 (a2 + a3)) < (-3600)) = true := decide_eq_true c49
               clear c49
               have H' := Aside0.mk H
               clear H
               go_wp2
               go_meet
               case rel => exact ⟨_, (true), (by first | rfl | (simp; done) | (simp [*]; done)), H', ⟨by have := HJ8.out; have := HJ12.out; have := HJ22.out; first | omega | exact Nat.le_refl _⟩, ⟨by (with_reducible repeat (first | refine blk_drewN ?_ _ | refine blk_drew ?_ | refine blk_alloc ?_ _)); exact BK283.out⟩, ⟨by (with_reducible repeat (first | refine blk_drewN ?_ _ | refine blk_drew ?_ | refine blk_alloc ?_ _)); exact BK288.out⟩, ⟨by repeat (first | (with_reducible first | exact HB.out | apply below_alloc | apply pw_below_drewN | apply below_drew1 | refine below_set ?_ GE283.out | refine below_set ?_ GE288.out) | exact HB.out)⟩⟩
              ·rw [if_neg c49] at H
               have c49b0 : decide ((wrap64 (a2 + a3)) < (-3600)) = false := decide_eq_false c49
               clear c49
               have H' := Aside0.mk H
               clear H
               go_wp2
               go_meet
               case rel => exact ⟨_, (decide ((wrap64 (a2 + a3)) > 3600)), (by first | rfl | (simp; done) | (simp [*]; done)), H', ⟨by have := HJ8.out; have := HJ12.out; have := HJ22.out; first | omega | exact Nat.le_refl _⟩, ⟨by (with_reducible repeat (first | refine blk_drewN ?_ _ | refine blk_drew ?_ | refine blk_alloc ?_ _)); exact BK283.out⟩, ⟨by (with_reducible repeat (first | refine blk_drewN ?_ _ | refine blk_drew ?_ | refine blk_alloc ?_ _)); exact BK288.out⟩, ⟨by repeat (first | (with_reducible first | exact HB.out | apply below_alloc | apply pw_below_drewN | apply below_drew1 | refine below_set ?_ GE283.out | refine below_set ?_ GE288.out) | exact HB.out)⟩⟩
           ·rw [if_neg c46] at H
            have c46b0 : (t290 == 0) = false := beq_eq_false_iff_ne.mpr c46
            have c46b1 : (t290 != 0) = true := bne_iff_ne.mpr c46
            (first | rw [c46b0] | (simp only [i64_w, i32_w]; rw [c46b0]) | skip)
            have H' := Aside0.mk H
            clear H
            go_wp2
            go_meet
            case rel => exact ⟨_, (true), (by first | rfl | (simp; done) | (simp [*]; done)), H', ⟨by have := HJ8.out; have := HJ12.out; have := HJ22.out; first | omega | exact Nat.le_refl _⟩, ⟨by (with_reducible repeat (first | refine blk_drewN ?_ _ | refine blk_drew ?_ | refine blk_alloc ?_ _)); exact BK283.out⟩, ⟨by (with_reducible repeat (first | refine blk_drewN ?_ _ | refine blk_drew ?_ | refine blk_alloc ?_ _)); exact BK288.out⟩, ⟨by repeat (first | (with_reducible first | exact HB.out | apply below_alloc | apply pw_below_drewN | apply below_drew1 | refine below_set ?_ GE283.out | refine below_set ?_ GE288.out) | exact HB.out)⟩⟩
          case rest =>
           clear HC42
           try clear c1
           try clear c2
           try clear p2
           try clear c3
           try clear c4
           try clear c6
           try clear p6
           try clear c8
           try clear c8b0
           try clear c8b1
           try clear c10
           try clear c11
           try clear c12
           try clear c12b0
           try clear c14
           try clear c16
           try clear c16b0
           try clear c16b1
           try clear c17
           try clear c17b0
           try clear c19
           try clear c29
           try clear c31
           try clear c31b0
           try clear c31b1
           try clear c32
           try clear c32b0
           try clear c32b1
           try clear c33
           try clear c33b0
           try clear c33b1
           try clear c34
           try clear c37
           try clear c40
           try clear c43
           try clear c46
           try clear c46b0
           try clear c46b1
           try clear c47
           try clear c47b0
           try clear c48
           try clear c48b0
           try clear c49
           try clear c49b0
           try clear hcz26_0
           try clear hcz26_1
           try clear hcz26_2
           try clear hcz30_0
           try clear hcz30_1
           try clear hcz30_2
           try clear hcz35_0
           try clear hcz35_1
           try clear hcz35_2
           try clear hcz36_0
           try clear hcz36_1
           try clear hcz36_2
           try clear hcz38_0
           try clear hcz38_1
           try clear hcz38_2
           try clear hcz39_0
           try clear hcz39_1
           try clear hcz39_2
           try clear hcz44_0
           try clear hcz44_1
           try clear hcz44_2
           try clear hfz26_0
           try clear hfz26_1
           try clear hfz26_2
           try clear hfz30_0
           try clear hfz30_1
           try clear hfz30_2
           try clear hfz35_0
           try clear hfz35_1
           try clear hfz35_2
           try clear hfz36_0
           try clear hfz36_1
           try clear hfz36_2
           try clear hfz38_0
           try clear hfz38_1
           try clear hfz38_2
           try clear hfz39_0
           try clear hfz39_1
           try clear hfz39_2
           try clear hfz44_0
           try clear hfz44_1
           try clear hfz44_2
           try clear p2
           try clear p6
           obtain ⟨kq, x127_41, rfl, HA, HJ41, BK283, BK288, HB⟩ := hcut
           cases kq with
           | zero => exact absurd HA.out (by simp [spilelaw04_CalendarLater.j3])
           | succ kj41 =>
            have H := HA.out
            clear HA
            simp only [spilelaw04_CalendarLater.j3] at H
            by_cases c50 : x127_41 = true
            ·subst c50
             have H1 : (if t290 = 0 then (some true) else (some (t290 == 15))) = some r := by rw [if_pos rfl] at H; exact H
             clear H
             have H := H1
             clear H1
             by_cases c51 : t290 = 0
             ·rw [if_pos c51] at H
              have c51b0 : (t290 == 0) = true := beq_iff_eq.mpr c51
              have c51b1 : (t290 != 0) = false := bne_eq_false_iff_eq.mpr c51
              clear c51
              obtain rfl := Option.some.inj H
              go_wp2
              go_ret
              exact ⟨by first | rfl | (simp [errW_none, errW_some] <;> rfl) | (simp [*, errW_none, errW_some] <;> rfl), by repeat (first | (with_reducible first | exact HB.out | apply below_alloc | apply pw_below_drewN | apply below_drew1 | refine below_set ?_ GE283.out | refine below_set ?_ GE288.out) | exact HB.out)⟩
             ·rw [if_neg c51] at H
              have c51b0 : (t290 == 0) = false := beq_eq_false_iff_ne.mpr c51
              have c51b1 : (t290 != 0) = true := bne_iff_ne.mpr c51
              obtain rfl := Option.some.inj H
              go_wp2
              go_ret
              exact ⟨by first | rfl | (simp [errW_none, errW_some] <;> rfl) | (simp [*, errW_none, errW_some] <;> rfl), by repeat (first | (with_reducible first | exact HB.out | apply below_alloc | apply pw_below_drewN | apply below_drew1 | refine below_set ?_ GE283.out | refine below_set ?_ GE288.out) | exact HB.out)⟩
            ·replace c50 := Bool.eq_false_iff.mpr c50
             subst c50
             have H1 : ((calendar_Later.f kj41 (wrap64 ((wrap64 (a0 - t281)) + 1)) (wrap64 (a2 + a3))).bind fun bt291 => ((calendar_Later.f kj41 t289 a3).bind fun bt293 => (if bt291.1 = bt293.1 then (some (bt291.2 == bt293.2)) else (some false)))) = some r := by rw [if_neg (show ¬ (false = true) by decide)] at H; exact H
             clear H
             have H := H1
             clear H1
             replace H := Option.bind_eq_some_iff.mp H
             obtain ⟨⟨t291, t292⟩, A520, H⟩ := H
             replace H : ((calendar_Later.f kj41 t289 a3).bind fun bt293 => (if t291 = bt293.1 then (some (t292 == bt293.2)) else (some false))) = some r := H
             have A52 := Aside0.mk A520
             clear A520
             replace H := Option.bind_eq_some_iff.mp H
             obtain ⟨⟨t293, t294⟩, A530, H⟩ := H
             replace H : (if t291 = t293 then (some (t292 == t294)) else (some false)) = some r := H
             have A53 := Aside0.mk A530
             clear A530
             by_cases c54 : t291 = t293
             ·rw [if_pos c54] at H
              have c54b0 : (t291 == t293) = true := beq_iff_eq.mpr c54
              have c54b1 : (t291 != t293) = false := bne_eq_false_iff_eq.mpr c54
              clear c54
              obtain rfl := Option.some.inj H
              have hnb55 := NB283_288.out
              have hnc55 := NB288_283.out
              have hcz56_0 : wc.cell? ⟨gb283, 0, none⟩ = some (.int .i64 t279) := (blk_cell BK283.out 0).trans rfl
              have hcz56_1 : wc.cell? ⟨gb283, 1, none⟩ = some (.int .i64 t280) := (blk_cell BK283.out 1).trans rfl
              have hcz56_2 : wc.cell? ⟨gb283, 2, none⟩ = some (.int .i64 t281) := (blk_cell BK283.out 2).trans rfl
              have hfz56_0 := blk_frozen BK283.out 0
              have hfz56_1 := blk_frozen BK283.out 1
              have hfz56_2 := blk_frozen BK283.out 2
              go_wp2_with (first | ((with_reducible refine gate_callee (f := 19) rfl ?_); refine goesL_ (some 143) rfl rfl Tryd.func19 (by kernel_rfl) rfl #[.int .i64 (wrap64 ((wrap64 (a0 - t281)) + 1)), .int .i64 (wrap64 (a2 + a3))] rfl (by (try simp only [List.map_toArray, List.map_cons, List.map_nil]); first | done | rfl | (simp only [List.length_drop, List.length_take]; rfl)) ?_; (with_reducible refine (calendar_Later.calls kj41 (wrap64 ((wrap64 (a0 - t281)) + 1)) (wrap64 (a2 + a3)) t291 t292 _ A52.out).mono ?_); rintro e w57 ⟨rfl, hb⟩; refine ⟨_, rfl, ?_⟩; have n0_ := Aside0.mk (blk_below (g := gb283) (o := .cells #[.int .i64 t279, .int .i64 t280, .int .i64 t281] 23 (0, 0)) (by (with_reducible repeat (first | refine blk_drewN ?_ _ | refine blk_drew ?_ | refine blk_alloc ?_ _)); exact BK283.out) hb); have n1_ := Aside0.mk (blk_below (g := gb288) (o := .cells #[.int .i64 t284, .int .i64 t285, .int .i64 t286] 23 (0, 0)) (by (with_reducible repeat (first | refine blk_drewN ?_ _ | refine blk_drew ?_ | refine blk_alloc ?_ _)); exact BK288.out) hb); have n2_ := Aside0.mk (below_step (by repeat (first | (with_reducible first | exact HB.out | apply below_alloc | apply pw_below_drewN | apply below_drew1 | refine below_set ?_ GE283.out | refine below_set ?_ GE288.out) | exact HB.out)) hb); clear BK283; clear BK288; clear HB; have BK283 := n0_; have BK288 := n1_; have HB := n2_; clear n0_ n1_ n2_; (try clear hb); (try clear hb2); (try clear hk); (try clear hi)) | ((with_reducible refine gate_callee (f := 19) rfl ?_); refine goesL_ (some 149) rfl rfl Tryd.func19 (by kernel_rfl) rfl #[.int .i64 t289, .int .i64 a3] rfl (by (try simp only [List.map_toArray, List.map_cons, List.map_nil]); first | done | rfl | (simp only [List.length_drop, List.length_take]; rfl)) ?_; (with_reducible refine (calendar_Later.calls kj41 t289 a3 t293 t294 _ A53.out).mono ?_); rintro e w58 ⟨rfl, hb⟩; refine ⟨_, rfl, ?_⟩; have n0_ := Aside0.mk (blk_below (g := gb283) (o := .cells #[.int .i64 t279, .int .i64 t280, .int .i64 t281] 23 (0, 0)) (by (with_reducible repeat (first | refine blk_drewN ?_ _ | refine blk_drew ?_ | refine blk_alloc ?_ _)); exact BK283.out) hb); have n1_ := Aside0.mk (blk_below (g := gb288) (o := .cells #[.int .i64 t284, .int .i64 t285, .int .i64 t286] 23 (0, 0)) (by (with_reducible repeat (first | refine blk_drewN ?_ _ | refine blk_drew ?_ | refine blk_alloc ?_ _)); exact BK288.out) hb); have n2_ := Aside0.mk (below_step (by repeat (first | (with_reducible first | exact HB.out | apply below_alloc | apply pw_below_drewN | apply below_drew1 | refine below_set ?_ GE283.out | refine below_set ?_ GE288.out) | exact HB.out)) hb); clear BK283; clear BK288; clear HB; have BK283 := n0_; have BK288 := n1_; have HB := n2_; clear n0_ n1_ n2_; (try clear hb); (try clear hb2); (try clear hk); (try clear hi)))
              go_ret
              exact ⟨by first | rfl | (simp [errW_none, errW_some] <;> rfl) | (simp [*, errW_none, errW_some] <;> rfl), by repeat (first | (with_reducible first | exact HB.out | apply below_alloc | apply pw_below_drewN | apply below_drew1 | refine below_set ?_ GE283.out | refine below_set ?_ GE288.out) | exact HB.out)⟩
             ·rw [if_neg c54] at H
              have c54b0 : (t291 == t293) = false := beq_eq_false_iff_ne.mpr c54
              have c54b1 : (t291 != t293) = true := bne_iff_ne.mpr c54
              obtain rfl := Option.some.inj H
              have hnb59 := NB283_288.out
              have hnc59 := NB288_283.out
              have hcz60_0 : wc.cell? ⟨gb283, 0, none⟩ = some (.int .i64 t279) := (blk_cell BK283.out 0).trans rfl
              have hcz60_1 : wc.cell? ⟨gb283, 1, none⟩ = some (.int .i64 t280) := (blk_cell BK283.out 1).trans rfl
              have hcz60_2 : wc.cell? ⟨gb283, 2, none⟩ = some (.int .i64 t281) := (blk_cell BK283.out 2).trans rfl
              have hfz60_0 := blk_frozen BK283.out 0
              have hfz60_1 := blk_frozen BK283.out 1
              have hfz60_2 := blk_frozen BK283.out 2
              go_wp2_with (first | ((with_reducible refine gate_callee (f := 19) rfl ?_); refine goesL_ (some 143) rfl rfl Tryd.func19 (by kernel_rfl) rfl #[.int .i64 (wrap64 ((wrap64 (a0 - t281)) + 1)), .int .i64 (wrap64 (a2 + a3))] rfl (by (try simp only [List.map_toArray, List.map_cons, List.map_nil]); first | done | rfl | (simp only [List.length_drop, List.length_take]; rfl)) ?_; (with_reducible refine (calendar_Later.calls kj41 (wrap64 ((wrap64 (a0 - t281)) + 1)) (wrap64 (a2 + a3)) t291 t292 _ A52.out).mono ?_); rintro e w61 ⟨rfl, hb⟩; refine ⟨_, rfl, ?_⟩; have n0_ := Aside0.mk (blk_below (g := gb283) (o := .cells #[.int .i64 t279, .int .i64 t280, .int .i64 t281] 23 (0, 0)) (by (with_reducible repeat (first | refine blk_drewN ?_ _ | refine blk_drew ?_ | refine blk_alloc ?_ _)); exact BK283.out) hb); have n1_ := Aside0.mk (blk_below (g := gb288) (o := .cells #[.int .i64 t284, .int .i64 t285, .int .i64 t286] 23 (0, 0)) (by (with_reducible repeat (first | refine blk_drewN ?_ _ | refine blk_drew ?_ | refine blk_alloc ?_ _)); exact BK288.out) hb); have n2_ := Aside0.mk (below_step (by repeat (first | (with_reducible first | exact HB.out | apply below_alloc | apply pw_below_drewN | apply below_drew1 | refine below_set ?_ GE283.out | refine below_set ?_ GE288.out) | exact HB.out)) hb); clear BK283; clear BK288; clear HB; have BK283 := n0_; have BK288 := n1_; have HB := n2_; clear n0_ n1_ n2_; (try clear hb); (try clear hb2); (try clear hk); (try clear hi)) | ((with_reducible refine gate_callee (f := 19) rfl ?_); refine goesL_ (some 149) rfl rfl Tryd.func19 (by kernel_rfl) rfl #[.int .i64 t289, .int .i64 a3] rfl (by (try simp only [List.map_toArray, List.map_cons, List.map_nil]); first | done | rfl | (simp only [List.length_drop, List.length_take]; rfl)) ?_; (with_reducible refine (calendar_Later.calls kj41 t289 a3 t293 t294 _ A53.out).mono ?_); rintro e w62 ⟨rfl, hb⟩; refine ⟨_, rfl, ?_⟩; have n0_ := Aside0.mk (blk_below (g := gb283) (o := .cells #[.int .i64 t279, .int .i64 t280, .int .i64 t281] 23 (0, 0)) (by (with_reducible repeat (first | refine blk_drewN ?_ _ | refine blk_drew ?_ | refine blk_alloc ?_ _)); exact BK283.out) hb); have n1_ := Aside0.mk (blk_below (g := gb288) (o := .cells #[.int .i64 t284, .int .i64 t285, .int .i64 t286] 23 (0, 0)) (by (with_reducible repeat (first | refine blk_drewN ?_ _ | refine blk_drew ?_ | refine blk_alloc ?_ _)); exact BK288.out) hb); have n2_ := Aside0.mk (below_step (by repeat (first | (with_reducible first | exact HB.out | apply below_alloc | apply pw_below_drewN | apply below_drew1 | refine below_set ?_ GE283.out | refine below_set ?_ GE288.out) | exact HB.out)) hb); clear BK283; clear BK288; clear HB; have BK283 := n0_; have BK288 := n1_; have HB := n2_; clear n0_ n1_ n2_; (try clear hb); (try clear hb2); (try clear hk); (try clear hi)))
              go_ret
              exact ⟨by first | rfl | (simp [errW_none, errW_some] <;> rfl) | (simp [*, errW_none, errW_some] <;> rfl), by repeat (first | (with_reducible first | exact HB.out | apply below_alloc | apply pw_below_drewN | apply below_drew1 | refine below_set ?_ GE283.out | refine below_set ?_ GE288.out) | exact HB.out)⟩
  ·rw [if_neg c8] at H
   have c8b0 : (t276 == 0) = false := beq_eq_false_iff_ne.mpr c8
   have c8b1 : (t276 != 0) = true := bne_iff_ne.mpr c8
   obtain rfl := Option.some.inj H
   go_enter Tryd.func8, Tryd.ntmps8
   go_wp2_with (first | ((with_reducible refine gate_callee (f := 10) rfl ?_); refine goesL_ (some 23) rfl rfl Tryd.func10 (by kernel_rfl) rfl #[] rfl (by (try simp only [List.map_toArray, List.map_cons, List.map_nil]); first | done | rfl | (simp only [List.length_drop, List.length_take]; rfl)) ?_; (with_reducible refine (spilelaw04_awake.calls  true _ A5.out).mono ?_); rintro e w63 ⟨rfl, hb⟩; refine ⟨_, rfl, ?_⟩; have n0_ := Aside0.mk (below_step (by repeat (first | (with_reducible first | exact HB.out | apply below_alloc | apply pw_below_drewN | apply below_drew1) | exact HB.out)) hb); clear HB; have HB := n0_; clear n0_; (try clear hb); (try clear hb2); (try clear hk); (try clear hi)) | ((with_reducible refine gate_callee (f := 19) rfl ?_); refine goesL_ (some 28) rfl rfl Tryd.func19 (by kernel_rfl) rfl #[.int .i64 a0, .int .i64 a2] rfl (by (try simp only [List.map_toArray, List.map_cons, List.map_nil]); first | done | rfl | (simp only [List.length_drop, List.length_take]; rfl)) ?_; (with_reducible refine (calendar_Later.calls k a0 a2 t275 t276 _ A7.out).mono ?_); rintro e w64 ⟨rfl, hb⟩; refine ⟨_, rfl, ?_⟩; have n0_ := Aside0.mk (below_step (by repeat (first | (with_reducible first | exact HB.out | apply below_alloc | apply pw_below_drewN | apply below_drew1) | exact HB.out)) hb); clear HB; have HB := n0_; clear n0_; (try clear hb); (try clear hb2); (try clear hk); (try clear hi)))
   go_ret
   exact ⟨by first | rfl | (simp [errW_none, errW_some] <;> rfl) | (simp [*, errW_none, errW_some] <;> rfl), by repeat (first | (with_reducible first | exact HB.out | apply below_alloc | apply pw_below_drewN | apply below_drew1) | exact HB.out)⟩
 ·replace c6 := Bool.eq_false_iff.mpr c6
  subst c6
  have H1 : (some false) = some r := by rw [if_neg (show ¬ (false = true) by decide)] at H; exact H
  clear H
  have H := H1
  clear H1
  obtain rfl := Option.some.inj H
  go_enter Tryd.func8, Tryd.ntmps8
  go_wp2_with (first | ((with_reducible refine gate_callee (f := 10) rfl ?_); refine goesL_ (some 23) rfl rfl Tryd.func10 (by kernel_rfl) rfl #[] rfl (by (try simp only [List.map_toArray, List.map_cons, List.map_nil]); first | done | rfl | (simp only [List.length_drop, List.length_take]; rfl)) ?_; (with_reducible refine (spilelaw04_awake.calls  false _ A5.out).mono ?_); rintro e w65 ⟨rfl, hb⟩; refine ⟨_, rfl, ?_⟩; have n0_ := Aside0.mk (below_step (by repeat (first | (with_reducible first | exact HB.out | apply below_alloc | apply pw_below_drewN | apply below_drew1) | exact HB.out)) hb); clear HB; have HB := n0_; clear n0_; (try clear hb); (try clear hb2); (try clear hk); (try clear hi)))
  go_ret
  exact ⟨by first | rfl | (simp [errW_none, errW_some] <;> rfl) | (simp [*, errW_none, errW_some] <;> rfl), by repeat (first | (with_reducible first | exact HB.out | apply below_alloc | apply pw_below_drewN | apply below_drew1) | exact HB.out)⟩

/-- THE ONE PURE STATEMENT of spilelaw04_CalendarLater: yours. -/
def spilelaw04_CalendarLater.Pure : Prop := ∀ (a0 : Int) (a1 : Int) (a2 : Int) (a3 : Int), (Lit.int .i64 a0).wf = true → (Lit.int .i64 a1).wf = true → (Lit.int .i64 a2).wf = true → (Lit.int .i64 a3).wf = true → ∃ k, spilelaw04_CalendarLater.f k a0 a1 a2 a3 = some true
theorem spilelaw04_CalendarLater.walk : True := trivial

end Go.Proofs.YtlhdkajflmpnbaaDoor.PF
