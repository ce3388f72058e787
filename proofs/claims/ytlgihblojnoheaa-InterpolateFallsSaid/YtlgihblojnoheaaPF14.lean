-- Written by a program of this session (wip/pr.py) out of Lean's print of the translation; Lean checks it.
import Derived.Test.YtlgihblojnoheaaPF0
import Derived.Test.YtlgihblojnoheaaPF6
import Derived.Test.YtlgihblojnoheaaPF8
import Derived.Test.YtlgihblojnoheaaPF13
namespace Go.Proofs.Ytlgihblojnoheaa.PF
open Go.RowKit Go.Proofs.YtlgihblojnoheaaW.PrintWords Go.Proofs.YtlgihblojnoheaaW.PrintLast Go.Proofs.YtlgihblojnoheaaW.PrintMore
attribute [local go_sem] max2_int min2_int max_two min_two max_three min_three max_four min_four   -- for this text's walks alone
set_option linter.unusedVariables false
set_option linter.unusedSimpArgs false

/-! ### spilelaw18_InterpolateFalls: function 4 -/
mutual
def spilelaw18_InterpolateFalls.j0 : Nat → List (S34) → Int → Int → Int → Int → Int → Int → Bool → Option (Bool)
 | 0, _, _, _, _, _, _, _, _ => none
 | k + 1, x0, x1, x2, x7, x8, x9, x10, x39 => if x39 = true then (if x8 = 0 then (if x10 = 0 then (some true) else (some (x9 == 0))) else (if x7 = 0 then (if x10 = 0 then (some true) else (some (x9 == 0))) else (some false))) else ((density_Find.f x0 x1).bind fun bt210 => (if bt210.2 = 0 then (if bt210.1 < 0 then (spilelaw18_InterpolateFalls.j1 k x0 true) else (if bt210.1 ≥ (x0.length : Int) then (spilelaw18_InterpolateFalls.j1 k x0 true) else (if x1 ≤ x2 then (if x7 < x9 then (spilelaw18_InterpolateFalls.j1 k x0 true) else (if x1 ≥ x2 then (if x7 > x9 then (spilelaw18_InterpolateFalls.j1 k x0 true) else (if 0 ≤ bt210.1 then (if bt210.1 < (x0.length : Int) then (if x7 > ((rd_T34 x0 bt210.1).f1) then (spilelaw18_InterpolateFalls.j1 k x0 true) else (if (wrap64 (bt210.1 + 1)) < (x0.length : Int) then (if 0 ≤ (wrap64 (bt210.1 + 1)) then (spilelaw18_InterpolateFalls.j1 k x0 (decide (x7 < ((rd_T34 x0 (wrap64 (bt210.1 + 1))).f1)))) else (none)) else (spilelaw18_InterpolateFalls.j1 k x0 false))) else (none)) else (none))) else (if 0 ≤ bt210.1 then (if bt210.1 < (x0.length : Int) then (if x7 > ((rd_T34 x0 bt210.1).f1) then (spilelaw18_InterpolateFalls.j1 k x0 true) else (if (wrap64 (bt210.1 + 1)) < (x0.length : Int) then (if 0 ≤ (wrap64 (bt210.1 + 1)) then (spilelaw18_InterpolateFalls.j1 k x0 (decide (x7 < ((rd_T34 x0 (wrap64 (bt210.1 + 1))).f1)))) else (none)) else (spilelaw18_InterpolateFalls.j1 k x0 false))) else (none)) else (none)))) else (if x1 ≥ x2 then (if x7 > x9 then (spilelaw18_InterpolateFalls.j1 k x0 true) else (if 0 ≤ bt210.1 then (if bt210.1 < (x0.length : Int) then (if x7 > ((rd_T34 x0 bt210.1).f1) then (spilelaw18_InterpolateFalls.j1 k x0 true) else (if (wrap64 (bt210.1 + 1)) < (x0.length : Int) then (if 0 ≤ (wrap64 (bt210.1 + 1)) then (spilelaw18_InterpolateFalls.j1 k x0 (decide (x7 < ((rd_T34 x0 (wrap64 (bt210.1 + 1))).f1)))) else (none)) else (spilelaw18_InterpolateFalls.j1 k x0 false))) else (none)) else (none))) else (if 0 ≤ bt210.1 then (if bt210.1 < (x0.length : Int) then (if x7 > ((rd_T34 x0 bt210.1).f1) then (spilelaw18_InterpolateFalls.j1 k x0 true) else (if (wrap64 (bt210.1 + 1)) < (x0.length : Int) then (if 0 ≤ (wrap64 (bt210.1 + 1)) then (spilelaw18_InterpolateFalls.j1 k x0 (decide (x7 < ((rd_T34 x0 (wrap64 (bt210.1 + 1))).f1)))) else (none)) else (spilelaw18_InterpolateFalls.j1 k x0 false))) else (none)) else (none)))))) else (spilelaw18_InterpolateFalls.j1 k x0 true)))
def spilelaw18_InterpolateFalls.j1 : Nat → List (S34) → Bool → Option (Bool)
 | 0, _, _ => none
 | k + 1, x0, x117 => if x117 = true then (some false) else (spilelaw18_InterpolateFalls.l0 k x0 x0 (x0.length : Int) 0)
def spilelaw18_InterpolateFalls.l0 : Nat → List (S34) → List (S34) → Int → Int → Option (Bool)
 | 0, _, _, _, _ => none
 | k + 1, x0, x118, x119, x120 => if x120 < x119 then (if 0 ≤ x120 then (if x120 < (x118.length : Int) then ((interpolate_Density.f x0 ((rd_T34 x118 x120).f0)).bind fun bt222 => (if bt222.2 = 0 then (if bt222.1 = ((rd_T34 x118 x120).f1) then (spilelaw18_InterpolateFalls.l0 k x0 x118 x119 (wrap64 (x120 + 1))) else (some false)) else (some false))) else (none)) else (none)) else (some true)
end
def spilelaw18_InterpolateFalls.f (k : Nat) (l0 : List (S34)) (a1 : Int) (a2 : Int) : Option (Bool) := (spilelaw18_awake.f).bind fun t204 => (if t204 = true then ((spileref16_Few.f l0).bind fun t205 => (if t205 = true then ((interpolate_Density.f l0 a1).bind fun bt206 => ((interpolate_Density.f l0 a2).bind fun bt208 => (if bt206.2 = 0 then (spilelaw18_InterpolateFalls.j0 k l0 a1 a2 bt206.1 bt206.2 bt208.1 bt208.2 (bt208.2 != 0)) else (spilelaw18_InterpolateFalls.j0 k l0 a1 a2 bt206.1 bt206.2 bt208.1 bt208.2 true)))) else (some true))) else (some false))
theorem spilelaw18_InterpolateFalls.mono_l : ∀ k, (∀ y0 y1 y2 y3 y4 y5 y6 y7, LeO (spilelaw18_InterpolateFalls.j0 k y0 y1 y2 y3 y4 y5 y6 y7) (spilelaw18_InterpolateFalls.j0 (k + 1) y0 y1 y2 y3 y4 y5 y6 y7)) ∧ (∀ y0 y1, LeO (spilelaw18_InterpolateFalls.j1 k y0 y1) (spilelaw18_InterpolateFalls.j1 (k + 1) y0 y1)) ∧ (∀ y0 y1 y2 y3, LeO (spilelaw18_InterpolateFalls.l0 k y0 y1 y2 y3) (spilelaw18_InterpolateFalls.l0 (k + 1) y0 y1 y2 y3))
 | 0 => ⟨fun _ _ _ _ _ _ _ _ r h => by simp [spilelaw18_InterpolateFalls.j0] at h, fun _ _ r h => by simp [spilelaw18_InterpolateFalls.j1] at h, fun _ _ _ _ r h => by simp [spilelaw18_InterpolateFalls.l0] at h⟩
 | k + 1 => by
  obtain ⟨ih0, ih1, ih2⟩ := spilelaw18_InterpolateFalls.mono_l k
  refine ⟨?_, ?_, ?_⟩
  ·intro y0 y1 y2 y3 y4 y5 y6 y7
   unfold spilelaw18_InterpolateFalls.j0
   repeat' first
   | (with_reducible exact ih0 _ _ _ _ _ _ _ _)
   | (with_reducible exact ih1 _ _)
   | (with_reducible exact ih2 _ _ _ _)
   | (with_reducible exact LeO.refl _)
   | (with_reducible exact LeO.none _)
   | (with_reducible refine LeO.ite ?_ ?_)
   | (with_reducible refine LeO.bind ?_ (fun _ => ?_))
   | exact ih0 _ _ _ _ _ _ _ _
   | exact ih1 _ _
   | exact ih2 _ _ _ _
   | exact LeO.none _
   | refine LeO.ite ?_ ?_
   | refine LeO.bind ?_ (fun _ => ?_)
  ·intro y0 y1
   unfold spilelaw18_InterpolateFalls.j1
   repeat' first
   | (with_reducible exact ih0 _ _ _ _ _ _ _ _)
   | (with_reducible exact ih1 _ _)
   | (with_reducible exact ih2 _ _ _ _)
   | (with_reducible exact LeO.refl _)
   | (with_reducible exact LeO.none _)
   | (with_reducible refine LeO.ite ?_ ?_)
   | (with_reducible refine LeO.bind ?_ (fun _ => ?_))
   | exact ih0 _ _ _ _ _ _ _ _
   | exact ih1 _ _
   | exact ih2 _ _ _ _
   | exact LeO.none _
   | refine LeO.ite ?_ ?_
   | refine LeO.bind ?_ (fun _ => ?_)
  ·intro y0 y1 y2 y3
   unfold spilelaw18_InterpolateFalls.l0
   repeat' first
   | (with_reducible exact ih0 _ _ _ _ _ _ _ _)
   | (with_reducible exact ih1 _ _)
   | (with_reducible exact ih2 _ _ _ _)
   | (with_reducible exact LeO.refl _)
   | (with_reducible exact LeO.none _)
   | (with_reducible refine LeO.ite ?_ ?_)
   | (with_reducible refine LeO.bind ?_ (fun _ => ?_))
   | exact ih0 _ _ _ _ _ _ _ _
   | exact ih1 _ _
   | exact ih2 _ _ _ _
   | exact LeO.none _
   | refine LeO.ite ?_ ?_
   | refine LeO.bind ?_ (fun _ => ?_)
theorem spilelaw18_InterpolateFalls.mono : ∀ a0 a1 a2 k, LeO (spilelaw18_InterpolateFalls.f k a0 a1 a2) (spilelaw18_InterpolateFalls.f (k + 1) a0 a1 a2) := by
 intro a0 a1 a2 k
 obtain ⟨ih0, ih1, ih2⟩ := spilelaw18_InterpolateFalls.mono_l k
 unfold spilelaw18_InterpolateFalls.f
 repeat' first
   | (with_reducible exact ih0 _ _ _ _ _ _ _ _)
   | (with_reducible exact ih1 _ _)
   | (with_reducible exact ih2 _ _ _ _)
   | (with_reducible exact LeO.refl _)
   | (with_reducible exact LeO.none _)
   | (with_reducible refine LeO.ite ?_ ?_)
   | (with_reducible refine LeO.bind ?_ (fun _ => ?_))
   | exact ih0 _ _ _ _ _ _ _ _
   | exact ih1 _ _
   | exact ih2 _ _ _ _
   | exact LeO.none _
   | refine LeO.ite ?_ ?_
   | refine LeO.bind ?_ (fun _ => ?_)
set_option maxHeartbeats 8000000 in
set_option maxRecDepth 100000 in
theorem spilelaw18_InterpolateFalls.calls (k : Nat) (A0 : Option Addr) (c0 : Nat) (l0 : List (S34)) (a1 : Int) (a2 : Int) (r : Bool) (w : World) (hr0 : Kd.C k34 w A0 l0.length l0) (hc0 : l0.length ≤ c0) (h : spilelaw18_InterpolateFalls.f k l0 a1 a2 = some r) :
  Calls Try.prog 4 #[.slice A0 l0.length c0, .int .i64 a1, .int .i64 a2] w fun e w' => e = .returned (.bool r) ∧ Below w.heap.size w w' := by
 have hu34 := Try.underlying34
 have HR0 := Aside0.mk hr0
 have HC0 := Aside0.mk hc0
 clear hr0 hc0
 have HB := Aside0.mk (Below.refl w.heap.size w)
 have H : ((spilelaw18_awake.f).bind fun t204 => (if t204 = true then ((spileref16_Few.f l0).bind fun t205 => (if t205 = true then ((interpolate_Density.f l0 a1).bind fun bt206 => ((interpolate_Density.f l0 a2).bind fun bt208 => (if bt206.2 = 0 then (spilelaw18_InterpolateFalls.j0 k l0 a1 a2 bt206.1 bt206.2 bt208.1 bt208.2 (bt208.2 != 0)) else (spilelaw18_InterpolateFalls.j0 k l0 a1 a2 bt206.1 bt206.2 bt208.1 bt208.2 true)))) else (some true))) else (some false))) = some r := h
 clear h
 replace H := Option.bind_eq_some_iff.mp H
 obtain ⟨t204, A40, H⟩ := H
 replace H : (if t204 = true then ((spileref16_Few.f l0).bind fun t205 => (if t205 = true then ((interpolate_Density.f l0 a1).bind fun bt206 => ((interpolate_Density.f l0 a2).bind fun bt208 => (if bt206.2 = 0 then (spilelaw18_InterpolateFalls.j0 k l0 a1 a2 bt206.1 bt206.2 bt208.1 bt208.2 (bt208.2 != 0)) else (spilelaw18_InterpolateFalls.j0 k l0 a1 a2 bt206.1 bt206.2 bt208.1 bt208.2 true)))) else (some true))) else (some false)) = some r := H
 have A4 := Aside0.mk A40
 clear A40
 by_cases c5 : t204 = true
 ·subst c5
  have H1 : ((spileref16_Few.f l0).bind fun t205 => (if t205 = true then ((interpolate_Density.f l0 a1).bind fun bt206 => ((interpolate_Density.f l0 a2).bind fun bt208 => (if bt206.2 = 0 then (spilelaw18_InterpolateFalls.j0 k l0 a1 a2 bt206.1 bt206.2 bt208.1 bt208.2 (bt208.2 != 0)) else (spilelaw18_InterpolateFalls.j0 k l0 a1 a2 bt206.1 bt206.2 bt208.1 bt208.2 true)))) else (some true))) = some r := by rw [if_pos rfl] at H; exact H
  clear H
  have H := H1
  clear H1
  replace H := Option.bind_eq_some_iff.mp H
  obtain ⟨t205, A60, H⟩ := H
  replace H : (if t205 = true then ((interpolate_Density.f l0 a1).bind fun bt206 => ((interpolate_Density.f l0 a2).bind fun bt208 => (if bt206.2 = 0 then (spilelaw18_InterpolateFalls.j0 k l0 a1 a2 bt206.1 bt206.2 bt208.1 bt208.2 (bt208.2 != 0)) else (spilelaw18_InterpolateFalls.j0 k l0 a1 a2 bt206.1 bt206.2 bt208.1 bt208.2 true)))) else (some true)) = some r := H
  have A6 := Aside0.mk A60
  clear A60
  by_cases c7 : t205 = true
  ·subst c7
   have H1 : ((interpolate_Density.f l0 a1).bind fun bt206 => ((interpolate_Density.f l0 a2).bind fun bt208 => (if bt206.2 = 0 then (spilelaw18_InterpolateFalls.j0 k l0 a1 a2 bt206.1 bt206.2 bt208.1 bt208.2 (bt208.2 != 0)) else (spilelaw18_InterpolateFalls.j0 k l0 a1 a2 bt206.1 bt206.2 bt208.1 bt208.2 true)))) = some r := by rw [if_pos rfl] at H; exact H
   clear H
   have H := H1
   clear H1
   replace H := Option.bind_eq_some_iff.mp H
   obtain ⟨⟨t206, t207⟩, A80, H⟩ := H
   replace H : ((interpolate_Density.f l0 a2).bind fun bt208 => (if t207 = 0 then (spilelaw18_InterpolateFalls.j0 k l0 a1 a2 t206 t207 bt208.1 bt208.2 (bt208.2 != 0)) else (spilelaw18_InterpolateFalls.j0 k l0 a1 a2 t206 t207 bt208.1 bt208.2 true))) = some r := H
   have A8 := Aside0.mk A80
   clear A80
   replace H := Option.bind_eq_some_iff.mp H
   obtain ⟨⟨t208, t209⟩, A90, H⟩ := H
   replace H : (if t207 = 0 then (spilelaw18_InterpolateFalls.j0 k l0 a1 a2 t206 t207 t208 t209 (t209 != 0)) else (spilelaw18_InterpolateFalls.j0 k l0 a1 a2 t206 t207 t208 t209 true)) = some r := H
   have A9 := Aside0.mk A90
   clear A90
   have HC10 := Aside0.mk H
   clear H
   go_enter Try.func4, Try.ntmps4
   go_upto_region 7 with (first | ((with_reducible refine gate_callee (f := 9) rfl ?_); refine goesL_ (some 17) rfl rfl Try.func9 (by kernel_rfl) rfl #[] rfl (by (try simp only [List.map_toArray, List.map_cons, List.map_nil]); first | done | rfl | (simp only [List.length_drop, List.length_take]; rfl)) ?_; (with_reducible refine (spilelaw18_awake.calls  true _ A4.out).mono ?_); rintro e w11 ⟨rfl, hb⟩; refine ⟨_, rfl, ?_⟩; have n0_ := Aside0.mk (below_step (by repeat (first | (with_reducible first | exact HB.out | apply below_alloc | apply pw_below_drewN | apply below_drew1) | exact HB.out)) hb); clear HB; have HB := n0_; clear n0_; (try clear hb); (try clear hb2); (try clear hk); (try clear hi)) | ((with_reducible refine gate_callee (f := 10) rfl ?_); refine goesL_ (some 20) rfl rfl Try.func10 (by kernel_rfl) rfl #[.slice A0 l0.length c0] rfl (by (try simp only [List.map_toArray, List.map_cons, List.map_nil]); first | done | rfl | (simp only [List.length_drop, List.length_take]; rfl)) ?_; (with_reducible refine (spileref16_Few.calls _ _ l0 true _ ?side1 ?side2 A6.out).mono ?_); (case side1 => repeat (first | exact (Kd.C_below HR0.out HB.out) | (with_reducible refine Kd.C_alloc ?_ _) | (with_reducible refine Kd.C_drewN ?_ _) | (with_reducible refine Kd.C_drew ?_))); (case side2 => exact HC0.out); rintro e w' ⟨rfl, ⟨nd, rfl⟩⟩; refine ⟨_, rfl, ?_⟩) | ((with_reducible refine gate_callee (f := 11) rfl ?_); refine goesL_ (some 25) rfl rfl Try.func11 (by kernel_rfl) rfl #[.slice A0 l0.length c0, .int .i64 a1] rfl (by (try simp only [List.map_toArray, List.map_cons, List.map_nil]); first | done | rfl | (simp only [List.length_drop, List.length_take]; rfl)) ?_; (with_reducible refine (interpolate_Density.calls _ _ l0 a1 t206 t207 _ ?side1 ?side2 A8.out).mono ?_); (case side1 => repeat (first | exact (Kd.C_below HR0.out (by repeat (first | (with_reducible first | exact HB.out | apply below_alloc | apply pw_below_drewN | apply below_drew1) | exact HB.out))) | (with_reducible refine Kd.C_alloc ?_ _) | (with_reducible refine Kd.C_drewN ?_ _) | (with_reducible refine Kd.C_drew ?_))); (case side2 => exact HC0.out); rintro e w12 ⟨rfl, hb⟩; refine ⟨_, rfl, ?_⟩; have n0_ := Aside0.mk (below_step (by repeat (first | (with_reducible first | exact HB.out | apply below_alloc | apply pw_below_drewN | apply below_drew1) | exact HB.out)) hb); clear HB; have HB := n0_; clear n0_; (try clear hb); (try clear hb2); (try clear hk); (try clear hi)) | ((with_reducible refine gate_callee (f := 11) rfl ?_); refine goesL_ (some 31) rfl rfl Try.func11 (by kernel_rfl) rfl #[.slice A0 l0.length c0, .int .i64 a2] rfl (by (try simp only [List.map_toArray, List.map_cons, List.map_nil]); first | done | rfl | (simp only [List.length_drop, List.length_take]; rfl)) ?_; (with_reducible refine (interpolate_Density.calls _ _ l0 a2 t208 t209 _ ?side1 ?side2 A9.out).mono ?_); (case side1 => repeat (first | exact (Kd.C_below HR0.out HB.out) | (with_reducible refine Kd.C_alloc ?_ _) | (with_reducible refine Kd.C_drewN ?_ _) | (with_reducible refine Kd.C_drew ?_))); (case side2 => exact HC0.out); rintro e w13 ⟨rfl, hb⟩; refine ⟨_, rfl, ?_⟩; have n0_ := Aside0.mk (below_step (by repeat (first | (with_reducible first | exact HB.out | apply below_alloc | apply pw_below_drewN | apply below_drew1) | exact HB.out)) hb); clear HB; have HB := n0_; clear n0_; (try clear hb); (try clear hb2); (try clear hk); (try clear hi)))
   (try simp only [Act.put, List.setIfInBounds_toArray, List.set_cons_zero, List.set_cons_succ])
   go_cut [39] (fun v39 wc => ∃ (kq : Nat) (x39_9 : Bool), v39 = .bool x39_9 ∧ Aside0 (spilelaw18_InterpolateFalls.j0 kq l0 a1 a2 t206 t207 t208 t209 x39_9 = some r) ∧ Aside0 (kq ≤ k) ∧ Aside0 (Below w.heap.size w wc))
   case first =>
    have H := HC10.out
    clear HC10
    by_cases c14 : t207 = 0
    ·rw [if_pos c14] at H
     have c14b0 : (t207 == 0) = true := beq_iff_eq.mpr c14
     have c14b1 : (t207 != 0) = false := bne_eq_false_iff_eq.mpr c14
     clear c14
     (first | rw [c14b0] | (simp only [i64_w, i32_w]; rw [c14b0]) | skip)
     have H' := Aside0.mk H
     clear H
     go_wp2
     go_meet
     case rel => exact ⟨_, ((t209 != 0)), (by first | rfl | (simp; done) | (simp [*]; done)), H', ⟨by first | omega | exact Nat.le_refl _⟩, ⟨by repeat (first | (with_reducible first | exact HB.out | apply below_alloc | apply pw_below_drewN | apply below_drew1) | exact HB.out)⟩⟩
    ·rw [if_neg c14] at H
     have c14b0 : (t207 == 0) = false := beq_eq_false_iff_ne.mpr c14
     have c14b1 : (t207 != 0) = true := bne_iff_ne.mpr c14
     (first | rw [c14b0] | (simp only [i64_w, i32_w]; rw [c14b0]) | skip)
     have H' := Aside0.mk H
     clear H
     go_wp2
     go_meet
     case rel => exact ⟨_, (true), (by first | rfl | (simp; done) | (simp [*]; done)), H', ⟨by first | omega | exact Nat.le_refl _⟩, ⟨by repeat (first | (with_reducible first | exact HB.out | apply below_alloc | apply pw_below_drewN | apply below_drew1) | exact HB.out)⟩⟩
   case rest =>
    clear HC10
    try clear c1
    try clear p2
    try clear c4
    try clear c5
    try clear c7
    try clear c9
    try clear c10
    try clear c11
    try clear c14
    try clear c14b0
    try clear c14b1
    obtain ⟨kq, x39_9, rfl, HA, HJ9, HB⟩ := hcut
    cases kq with
    | zero => exact absurd HA.out (by simp [spilelaw18_InterpolateFalls.j0])
    | succ kj9 =>
     have H := HA.out
     clear HA
     simp only [spilelaw18_InterpolateFalls.j0] at H
     by_cases c15 : x39_9 = true
     ·subst c15
      have H1 : (if t207 = 0 then (if t209 = 0 then (some true) else (some (t208 == 0))) else (if t206 = 0 then (if t209 = 0 then (some true) else (some (t208 == 0))) else (some false))) = some r := by rw [if_pos rfl] at H; exact H
      clear H
      have H := H1
      clear H1
      by_cases c16 : t207 = 0
      ·rw [if_pos c16] at H
       have c16b0 : (t207 == 0) = true := beq_iff_eq.mpr c16
       have c16b1 : (t207 != 0) = false := bne_eq_false_iff_eq.mpr c16
       clear c16
       by_cases c17 : t209 = 0
       ·rw [if_pos c17] at H
        have c17b0 : (t209 == 0) = true := beq_iff_eq.mpr c17
        have c17b1 : (t209 != 0) = false := bne_eq_false_iff_eq.mpr c17
        clear c17
        obtain rfl := Option.some.inj H
        go_wp2
        go_ret
        exact ⟨by first | rfl | (simp [errW_none, errW_some] <;> rfl) | (simp [*, errW_none, errW_some] <;> rfl), by repeat (first | (with_reducible first | exact HB.out | apply below_alloc | apply pw_below_drewN | apply below_drew1) | exact HB.out)⟩
       ·rw [if_neg c17] at H
        have c17b0 : (t209 == 0) = false := beq_eq_false_iff_ne.mpr c17
        have c17b1 : (t209 != 0) = true := bne_iff_ne.mpr c17
        obtain rfl := Option.some.inj H
        go_wp2
        go_ret
        exact ⟨by first | rfl | (simp [errW_none, errW_some] <;> rfl) | (simp [*, errW_none, errW_some] <;> rfl), by repeat (first | (with_reducible first | exact HB.out | apply below_alloc | apply pw_below_drewN | apply below_drew1) | exact HB.out)⟩
      ·rw [if_neg c16] at H
       have c16b0 : (t207 == 0) = false := beq_eq_false_iff_ne.mpr c16
       have c16b1 : (t207 != 0) = true := bne_iff_ne.mpr c16
       by_cases c18 : t206 = 0
       ·rw [if_pos c18] at H
        have c18b0 : (t206 == 0) = true := beq_iff_eq.mpr c18
        have c18b1 : (t206 != 0) = false := bne_eq_false_iff_eq.mpr c18
        clear c18
        by_cases c19 : t209 = 0
        ·rw [if_pos c19] at H
         have c19b0 : (t209 == 0) = true := beq_iff_eq.mpr c19
         have c19b1 : (t209 != 0) = false := bne_eq_false_iff_eq.mpr c19
         clear c19
         obtain rfl := Option.some.inj H
         go_wp2
         go_ret
         exact ⟨by first | rfl | (simp [errW_none, errW_some] <;> rfl) | (simp [*, errW_none, errW_some] <;> rfl), by repeat (first | (with_reducible first | exact HB.out | apply below_alloc | apply pw_below_drewN | apply below_drew1) | exact HB.out)⟩
        ·rw [if_neg c19] at H
         have c19b0 : (t209 == 0) = false := beq_eq_false_iff_ne.mpr c19
         have c19b1 : (t209 != 0) = true := bne_iff_ne.mpr c19
         obtain rfl := Option.some.inj H
         go_wp2
         go_ret
         exact ⟨by first | rfl | (simp [errW_none, errW_some] <;> rfl) | (simp [*, errW_none, errW_some] <;> rfl), by repeat (first | (with_reducible first | exact HB.out | apply below_alloc | apply pw_below_drewN | apply below_drew1) | exact HB.out)⟩
       ·rw [if_neg c18] at H
        have c18b0 : (t206 == 0) = false := beq_eq_false_iff_ne.mpr c18
        have c18b1 : (t206 != 0) = true := bne_iff_ne.mpr c18
        obtain rfl := Option.some.inj H
        go_wp2
        go_ret
        exact ⟨by first | rfl | (simp [errW_none, errW_some] <;> rfl) | (simp [*, errW_none, errW_some] <;> rfl), by repeat (first | (with_reducible first | exact HB.out | apply below_alloc | apply pw_below_drewN | apply below_drew1) | exact HB.out)⟩
     ·replace c15 := Bool.eq_false_iff.mpr c15
      subst c15
      have H1 : ((density_Find.f l0 a1).bind fun bt210 => (if bt210.2 = 0 then (if bt210.1 < 0 then (spilelaw18_InterpolateFalls.j1 kj9 l0 true) else (if bt210.1 ≥ (l0.length : Int) then (spilelaw18_InterpolateFalls.j1 kj9 l0 true) else (if a1 ≤ a2 then (if t206 < t208 then (spilelaw18_InterpolateFalls.j1 kj9 l0 true) else (if a1 ≥ a2 then (if t206 > t208 then (spilelaw18_InterpolateFalls.j1 kj9 l0 true) else (if 0 ≤ bt210.1 then (if bt210.1 < (l0.length : Int) then (if t206 > ((rd_T34 l0 bt210.1).f1) then (spilelaw18_InterpolateFalls.j1 kj9 l0 true) else (if (wrap64 (bt210.1 + 1)) < (l0.length : Int) then (if 0 ≤ (wrap64 (bt210.1 + 1)) then (spilelaw18_InterpolateFalls.j1 kj9 l0 (decide (t206 < ((rd_T34 l0 (wrap64 (bt210.1 + 1))).f1)))) else (none)) else (spilelaw18_InterpolateFalls.j1 kj9 l0 false))) else (none)) else (none))) else (if 0 ≤ bt210.1 then (if bt210.1 < (l0.length : Int) then (if t206 > ((rd_T34 l0 bt210.1).f1) then (spilelaw18_InterpolateFalls.j1 kj9 l0 true) else (if (wrap64 (bt210.1 + 1)) < (l0.length : Int) then (if 0 ≤ (wrap64 (bt210.1 + 1)) then (spilelaw18_InterpolateFalls.j1 kj9 l0 (decide (t206 < ((rd_T34 l0 (wrap64 (bt210.1 + 1))).f1)))) else (none)) else (spilelaw18_InterpolateFalls.j1 kj9 l0 false))) else (none)) else (none)))) else (if a1 ≥ a2 then (if t206 > t208 then (spilelaw18_InterpolateFalls.j1 kj9 l0 true) else (if 0 ≤ bt210.1 then (if bt210.1 < (l0.length : Int) then (if t206 > ((rd_T34 l0 bt210.1).f1) then (spilelaw18_InterpolateFalls.j1 kj9 l0 true) else (if (wrap64 (bt210.1 + 1)) < (l0.length : Int) then (if 0 ≤ (wrap64 (bt210.1 + 1)) then (spilelaw18_InterpolateFalls.j1 kj9 l0 (decide (t206 < ((rd_T34 l0 (wrap64 (bt210.1 + 1))).f1)))) else (none)) else (spilelaw18_InterpolateFalls.j1 kj9 l0 false))) else (none)) else (none))) else (if 0 ≤ bt210.1 then (if bt210.1 < (l0.length : Int) then (if t206 > ((rd_T34 l0 bt210.1).f1) then (spilelaw18_InterpolateFalls.j1 kj9 l0 true) else (if (wrap64 (bt210.1 + 1)) < (l0.length : Int) then (if 0 ≤ (wrap64 (bt210.1 + 1)) then (spilelaw18_InterpolateFalls.j1 kj9 l0 (decide (t206 < ((rd_T34 l0 (wrap64 (bt210.1 + 1))).f1)))) else (none)) else (spilelaw18_InterpolateFalls.j1 kj9 l0 false))) else (none)) else (none)))))) else (spilelaw18_InterpolateFalls.j1 kj9 l0 true))) = some r := by rw [if_neg (show ¬ (false = true) by decide)] at H; exact H
      clear H
      have H := H1
      clear H1
      replace H := Option.bind_eq_some_iff.mp H
      obtain ⟨⟨t210, t211⟩, A200, H⟩ := H
      replace H : (if t211 = 0 then (if t210 < 0 then (spilelaw18_InterpolateFalls.j1 kj9 l0 true) else (if t210 ≥ (l0.length : Int) then (spilelaw18_InterpolateFalls.j1 kj9 l0 true) else (if a1 ≤ a2 then (if t206 < t208 then (spilelaw18_InterpolateFalls.j1 kj9 l0 true) else (if a1 ≥ a2 then (if t206 > t208 then (spilelaw18_InterpolateFalls.j1 kj9 l0 true) else (if 0 ≤ t210 then (if t210 < (l0.length : Int) then (if t206 > ((rd_T34 l0 t210).f1) then (spilelaw18_InterpolateFalls.j1 kj9 l0 true) else (if (wrap64 (t210 + 1)) < (l0.length : Int) then (if 0 ≤ (wrap64 (t210 + 1)) then (spilelaw18_InterpolateFalls.j1 kj9 l0 (decide (t206 < ((rd_T34 l0 (wrap64 (t210 + 1))).f1)))) else (none)) else (spilelaw18_InterpolateFalls.j1 kj9 l0 false))) else (none)) else (none))) else (if 0 ≤ t210 then (if t210 < (l0.length : Int) then (if t206 > ((rd_T34 l0 t210).f1) then (spilelaw18_InterpolateFalls.j1 kj9 l0 true) else (if (wrap64 (t210 + 1)) < (l0.length : Int) then (if 0 ≤ (wrap64 (t210 + 1)) then (spilelaw18_InterpolateFalls.j1 kj9 l0 (decide (t206 < ((rd_T34 l0 (wrap64 (t210 + 1))).f1)))) else (none)) else (spilelaw18_InterpolateFalls.j1 kj9 l0 false))) else (none)) else (none)))) else (if a1 ≥ a2 then (if t206 > t208 then (spilelaw18_InterpolateFalls.j1 kj9 l0 true) else (if 0 ≤ t210 then (if t210 < (l0.length : Int) then (if t206 > ((rd_T34 l0 t210).f1) then (spilelaw18_InterpolateFalls.j1 kj9 l0 true) else (if (wrap64 (t210 + 1)) < (l0.length : Int) then (if 0 ≤ (wrap64 (t210 + 1)) then (spilelaw18_InterpolateFalls.j1 kj9 l0 (decide (t206 < ((rd_T34 l0 (wrap64 (t210 + 1))).f1)))) else (none)) else (spilelaw18_InterpolateFalls.j1 kj9 l0 false))) else (none)) else (none))) else (if 0 ≤ t210 then (if t210 < (l0.length : Int) then (if t206 > ((rd_T34 l0 t210).f1) then (spilelaw18_InterpolateFalls.j1 kj9 l0 true) else (if (wrap64 (t210 + 1)) < (l0.length : Int) then (if 0 ≤ (wrap64 (t210 + 1)) then (spilelaw18_InterpolateFalls.j1 kj9 l0 (decide (t206 < ((rd_T34 l0 (wrap64 (t210 + 1))).f1)))) else (none)) else (spilelaw18_InterpolateFalls.j1 kj9 l0 false))) else (none)) else (none)))))) else (spilelaw18_InterpolateFalls.j1 kj9 l0 true)) = some r := H
      have A20 := Aside0.mk A200
      clear A200
      have HC21 := Aside0.mk H
      clear H
      go_upto_region 10 with (first | ((with_reducible refine gate_callee (f := 17) rfl ?_); refine goesL_ (some 57) rfl rfl Try.func17 (by kernel_rfl) rfl #[.slice A0 l0.length c0, .int .i64 a1] rfl (by (try simp only [List.map_toArray, List.map_cons, List.map_nil]); first | done | rfl | (simp only [List.length_drop, List.length_take]; rfl)) ?_; (with_reducible refine (density_Find.calls _ _ l0 a1 t210 t211 _ ?side1 ?side2 A20.out).mono ?_); (case side1 => repeat (first | exact (Kd.C_below HR0.out HB.out) | (with_reducible refine Kd.C_alloc ?_ _) | (with_reducible refine Kd.C_drewN ?_ _) | (with_reducible refine Kd.C_drew ?_))); (case side2 => exact HC0.out); rintro e w22 ⟨rfl, hb⟩; refine ⟨_, rfl, ?_⟩; have n0_ := Aside0.mk (below_step (by repeat (first | (with_reducible first | exact HB.out | apply below_alloc | apply pw_below_drewN | apply below_drew1) | exact HB.out)) hb); clear HB; have HB := n0_; clear n0_; (try clear hb); (try clear hb2); (try clear hk); (try clear hi)))
      (try simp only [Act.put, List.setIfInBounds_toArray, List.set_cons_zero, List.set_cons_succ])
      go_cut [117] (fun v117 wc => ∃ (kq : Nat) (x117_20 : Bool), v117 = .bool x117_20 ∧ Aside0 (spilelaw18_InterpolateFalls.j1 kq l0 x117_20 = some r) ∧ Aside0 (kq ≤ kj9) ∧ Aside0 (Below w.heap.size w wc))
      case first =>
       have H := HC21.out
       clear HC21
       by_cases c23 : t211 = 0
       ·rw [if_pos c23] at H
        have c23b0 : (t211 == 0) = true := beq_iff_eq.mpr c23
        have c23b1 : (t211 != 0) = false := bne_eq_false_iff_eq.mpr c23
        clear c23
        (first | rw [c23b0] | (simp only [i64_w, i32_w]; rw [c23b0]) | skip)
        by_cases c24 : t210 < 0
        ·rw [if_pos c24] at H
         have c24b0 : decide (t210 < 0) = true := decide_eq_true c24
         clear c24
         have H' := Aside0.mk H
         clear H
         go_wp2
         go_meet
         case rel => exact ⟨_, (true), (by first | rfl | (simp; done) | (simp [*]; done)), H', ⟨by have := HJ9.out; first | omega | exact Nat.le_refl _⟩, ⟨by repeat (first | (with_reducible first | exact HB.out | apply below_alloc | apply pw_below_drewN | apply below_drew1) | exact HB.out)⟩⟩
        ·rw [if_neg c24] at H
         have c24b0 : decide (t210 < 0) = false := decide_eq_false c24
         clear c24
         by_cases c25 : t210 ≥ (l0.length : Int)
         ·rw [if_pos c25] at H
          have c25b0 : decide ((l0.length : Int) ≤ t210) = true := decide_eq_true c25
          clear c25
          have H' := Aside0.mk H
          clear H
          go_wp2
          go_meet
          case rel => exact ⟨_, (true), (by first | rfl | (simp; done) | (simp [*]; done)), H', ⟨by have := HJ9.out; first | omega | exact Nat.le_refl _⟩, ⟨by repeat (first | (with_reducible first | exact HB.out | apply below_alloc | apply pw_below_drewN | apply below_drew1) | exact HB.out)⟩⟩
         ·rw [if_neg c25] at H
          have c25b0 : decide ((l0.length : Int) ≤ t210) = false := decide_eq_false c25
          clear c25
          by_cases c26 : a1 ≤ a2
          ·rw [if_pos c26] at H
           have c26b0 : decide (a1 ≤ a2) = true := decide_eq_true c26
           clear c26
           by_cases c27 : t206 < t208
           ·rw [if_pos c27] at H
            have c27b0 : decide (t206 < t208) = true := decide_eq_true c27
            clear c27
            have H' := Aside0.mk H
            clear H
            go_wp2
            go_meet
            case rel => exact ⟨_, (true), (by first | rfl | (simp; done) | (simp [*]; done)), H', ⟨by have := HJ9.out; first | omega | exact Nat.le_refl _⟩, ⟨by repeat (first | (with_reducible first | exact HB.out | apply below_alloc | apply pw_below_drewN | apply below_drew1) | exact HB.out)⟩⟩
           ·rw [if_neg c27] at H
            have c27b0 : decide (t206 < t208) = false := decide_eq_false c27
            clear c27
            by_cases c28 : a1 ≥ a2
            ·rw [if_pos c28] at H
             have c28b0 : decide (a2 ≤ a1) = true := decide_eq_true c28
             clear c28
             by_cases c29 : t206 > t208
             ·rw [if_pos c29] at H
              have c29b0 : decide (t208 < t206) = true := decide_eq_true c29
              clear c29
              have H' := Aside0.mk H
              clear H
              go_wp2
              go_meet
              case rel => exact ⟨_, (true), (by first | rfl | (simp; done) | (simp [*]; done)), H', ⟨by have := HJ9.out; first | omega | exact Nat.le_refl _⟩, ⟨by repeat (first | (with_reducible first | exact HB.out | apply below_alloc | apply pw_below_drewN | apply below_drew1) | exact HB.out)⟩⟩
             ·rw [if_neg c29] at H
              have c29b0 : decide (t208 < t206) = false := decide_eq_false c29
              clear c29
              by_cases c30 : 0 ≤ t210
              ·rw [if_pos c30] at H
               have c30b0 : decide (0 ≤ t210) = true := decide_eq_true c30
               clear c30
               by_cases c31 : t210 < (l0.length : Int)
               ·rw [if_pos c31] at H
                have c31b0 : decide (t210 < (l0.length : Int)) = true := decide_eq_true c31
                clear c31
                by_cases c32 : t206 > ((rd_T34 l0 t210).f1)
                ·rw [if_pos c32] at H
                 have c32b0 : decide (((rd_T34 l0 t210).f1) < t206) = true := decide_eq_true c32
                 clear c32
                 have H' := Aside0.mk H
                 clear H
                 have p212 : 0 ≤ (t210 : Int) := of_decide_eq_true (by first | (with_reducible assumption) | assumption)
                 have q212 : t210 < (l0.length : Int) := of_decide_eq_true (by first | (with_reducible assumption) | assumption)
                 obtain ⟨ad212, e212, hx212_0, hx212_1⟩ := at_T34 HR0.out t210 p212 q212
                 cases e212
                 replace hx212_0 := (HB.out.cell (World.block_lt_of_cell? w _ hx212_0)).trans hx212_0
                 replace hx212_1 := (HB.out.cell (World.block_lt_of_cell? w _ hx212_1)).trans hx212_1
                 replace p212 := eq_true p212
                 replace q212 := eq_true q212
                 go_wp2
                 go_meet
                 case rel => exact ⟨_, (true), (by first | rfl | (simp; done) | (simp [*]; done)), H', ⟨by have := HJ9.out; first | omega | exact Nat.le_refl _⟩, ⟨by repeat (first | (with_reducible first | exact HB.out | apply below_alloc | apply pw_below_drewN | apply below_drew1) | exact HB.out)⟩⟩
                ·rw [if_neg c32] at H
                 have c32b0 : decide (((rd_T34 l0 t210).f1) < t206) = false := decide_eq_false c32
                 clear c32
                 by_cases c33 : (wrap64 (t210 + 1)) < (l0.length : Int)
                 ·rw [if_pos c33] at H
                  have c33b0 : decide ((wrap64 (t210 + 1)) < (l0.length : Int)) = true := decide_eq_true c33
                  clear c33
                  obtain ⟨ji34, hji34⟩ : ∃ j_ : Int, (wrap64 (t210 + 1)) = j_ := ⟨_, rfl⟩
                  replace H : (if 0 ≤ (ji34) then (spilelaw18_InterpolateFalls.j1 kj9 l0 (decide (t206 < ((rd_T34 l0 (ji34)).f1)))) else (none)) = some r := by first | (rw [hji34] at H; exact H) | (simp only [hji34] at H ⊢; exact H)
                  (try rw [hji34] at c33b0)
                  have hji34w : (IntKind.i64.wrap (t210 + 1)) = ji34 := (i64_w _).trans hji34
                  by_cases c35 : 0 ≤ (ji34)
                  ·rw [if_pos c35] at H
                   have c35b0 : decide (0 ≤ (ji34)) = true := decide_eq_true c35
                   clear c35
                   have H' := Aside0.mk H
                   clear H
                   have p212 : 0 ≤ (t210 : Int) := of_decide_eq_true (by first | (with_reducible assumption) | assumption)
                   have q212 : t210 < (l0.length : Int) := of_decide_eq_true (by first | (with_reducible assumption) | assumption)
                   obtain ⟨ad212, e212, hx212_0, hx212_1⟩ := at_T34 HR0.out t210 p212 q212
                   cases e212
                   replace hx212_0 := (HB.out.cell (World.block_lt_of_cell? w _ hx212_0)).trans hx212_0
                   replace hx212_1 := (HB.out.cell (World.block_lt_of_cell? w _ hx212_1)).trans hx212_1
                   replace p212 := eq_true p212
                   replace q212 := eq_true q212
                   have p213 : 0 ≤ ((ji34) : Int) := of_decide_eq_true (by first | (with_reducible assumption) | assumption)
                   have q213 : (ji34) < (l0.length : Int) := of_decide_eq_true (by first | (with_reducible assumption) | assumption)
                   obtain ⟨ad213, e213, hx213_0, hx213_1⟩ := at_T34 HR0.out (ji34) p213 q213
                   obtain rfl : ad212 = ad213 := (by injection e213)
                   replace hx213_0 := (HB.out.cell (World.block_lt_of_cell? w _ hx213_0)).trans hx213_0
                   replace hx213_1 := (HB.out.cell (World.block_lt_of_cell? w _ hx213_1)).trans hx213_1
                   replace p213 := eq_true p213
                   replace q213 := eq_true q213
                   go_wp2
                   go_meet
                   case rel => exact ⟨_, (decide (t206 < ((rd_T34 l0 (ji34)).f1))), (by first | rfl | (simp; done) | (simp only [← hji34] <;> (first | rfl | simp)) | (simp [*]; done)), H', ⟨by have := HJ9.out; first | omega | exact Nat.le_refl _⟩, ⟨by repeat (first | (with_reducible first | exact HB.out | apply below_alloc | apply pw_below_drewN | apply below_drew1) | exact HB.out)⟩⟩
                  ·rw [if_neg c35] at H
                   exact absurd H (by simp)
                 ·rw [if_neg c33] at H
                  have c33b0 : decide ((wrap64 (t210 + 1)) < (l0.length : Int)) = false := decide_eq_false c33
                  clear c33
                  have H' := Aside0.mk H
                  clear H
                  have p212 : 0 ≤ (t210 : Int) := of_decide_eq_true (by first | (with_reducible assumption) | assumption)
                  have q212 : t210 < (l0.length : Int) := of_decide_eq_true (by first | (with_reducible assumption) | assumption)
                  obtain ⟨ad212, e212, hx212_0, hx212_1⟩ := at_T34 HR0.out t210 p212 q212
                  cases e212
                  replace hx212_0 := (HB.out.cell (World.block_lt_of_cell? w _ hx212_0)).trans hx212_0
                  replace hx212_1 := (HB.out.cell (World.block_lt_of_cell? w _ hx212_1)).trans hx212_1
                  replace p212 := eq_true p212
                  replace q212 := eq_true q212
                  go_wp2
                  go_meet
                  case rel => exact ⟨_, (false), (by first | rfl | (simp; done) | (simp [*]; done)), H', ⟨by have := HJ9.out; first | omega | exact Nat.le_refl _⟩, ⟨by repeat (first | (with_reducible first | exact HB.out | apply below_alloc | apply pw_below_drewN | apply below_drew1) | exact HB.out)⟩⟩
               ·rw [if_neg c31] at H
                exact absurd H (by simp)
              ·rw [if_neg c30] at H
               exact absurd H (by simp)
            ·rw [if_neg c28] at H
             have c28b0 : decide (a2 ≤ a1) = false := decide_eq_false c28
             clear c28
             by_cases c36 : 0 ≤ t210
             ·rw [if_pos c36] at H
              have c36b0 : decide (0 ≤ t210) = true := decide_eq_true c36
              clear c36
              by_cases c37 : t210 < (l0.length : Int)
              ·rw [if_pos c37] at H
               have c37b0 : decide (t210 < (l0.length : Int)) = true := decide_eq_true c37
               clear c37
               by_cases c38 : t206 > ((rd_T34 l0 t210).f1)
               ·rw [if_pos c38] at H
                have c38b0 : decide (((rd_T34 l0 t210).f1) < t206) = true := decide_eq_true c38
                clear c38
                have H' := Aside0.mk H
                clear H
                have p214 : 0 ≤ (t210 : Int) := of_decide_eq_true (by first | (with_reducible assumption) | assumption)
                have q214 : t210 < (l0.length : Int) := of_decide_eq_true (by first | (with_reducible assumption) | assumption)
                obtain ⟨ad214, e214, hx214_0, hx214_1⟩ := at_T34 HR0.out t210 p214 q214
                cases e214
                replace hx214_0 := (HB.out.cell (World.block_lt_of_cell? w _ hx214_0)).trans hx214_0
                replace hx214_1 := (HB.out.cell (World.block_lt_of_cell? w _ hx214_1)).trans hx214_1
                replace p214 := eq_true p214
                replace q214 := eq_true q214
                go_wp2
                go_meet
                case rel => exact ⟨_, (true), (by first | rfl | (simp; done) | (simp [*]; done)), H', ⟨by have := HJ9.out; first | omega | exact Nat.le_refl _⟩, ⟨by repeat (first | (with_reducible first | exact HB.out | apply below_alloc | apply pw_below_drewN | apply below_drew1) | exact HB.out)⟩⟩
               ·rw [if_neg c38] at H
                have c38b0 : decide (((rd_T34 l0 t210).f1) < t206) = false := decide_eq_false c38
                clear c38
                by_cases c39 : (wrap64 (t210 + 1)) < (l0.length : Int)
                ·rw [if_pos c39] at H
                 have c39b0 : decide ((wrap64 (t210 + 1)) < (l0.length : Int)) = true := decide_eq_true c39
                 clear c39
                 obtain ⟨ji40, hji40⟩ : ∃ j_ : Int, (wrap64 (t210 + 1)) = j_ := ⟨_, rfl⟩
                 replace H : (if 0 ≤ (ji40) then (spilelaw18_InterpolateFalls.j1 kj9 l0 (decide (t206 < ((rd_T34 l0 (ji40)).f1)))) else (none)) = some r := by first | (rw [hji40] at H; exact H) | (simp only [hji40] at H ⊢; exact H)
                 (try rw [hji40] at c39b0)
                 have hji40w : (IntKind.i64.wrap (t210 + 1)) = ji40 := (i64_w _).trans hji40
                 by_cases c41 : 0 ≤ (ji40)
                 ·rw [if_pos c41] at H
                  have c41b0 : decide (0 ≤ (ji40)) = true := decide_eq_true c41
                  clear c41
                  have H' := Aside0.mk H
                  clear H
                  have p214 : 0 ≤ (t210 : Int) := of_decide_eq_true (by first | (with_reducible assumption) | assumption)
                  have q214 : t210 < (l0.length : Int) := of_decide_eq_true (by first | (with_reducible assumption) | assumption)
                  obtain ⟨ad214, e214, hx214_0, hx214_1⟩ := at_T34 HR0.out t210 p214 q214
                  cases e214
                  replace hx214_0 := (HB.out.cell (World.block_lt_of_cell? w _ hx214_0)).trans hx214_0
                  replace hx214_1 := (HB.out.cell (World.block_lt_of_cell? w _ hx214_1)).trans hx214_1
                  replace p214 := eq_true p214
                  replace q214 := eq_true q214
                  have p215 : 0 ≤ ((ji40) : Int) := of_decide_eq_true (by first | (with_reducible assumption) | assumption)
                  have q215 : (ji40) < (l0.length : Int) := of_decide_eq_true (by first | (with_reducible assumption) | assumption)
                  obtain ⟨ad215, e215, hx215_0, hx215_1⟩ := at_T34 HR0.out (ji40) p215 q215
                  obtain rfl : ad214 = ad215 := (by injection e215)
                  replace hx215_0 := (HB.out.cell (World.block_lt_of_cell? w _ hx215_0)).trans hx215_0
                  replace hx215_1 := (HB.out.cell (World.block_lt_of_cell? w _ hx215_1)).trans hx215_1
                  replace p215 := eq_true p215
                  replace q215 := eq_true q215
                  go_wp2
                  go_meet
                  case rel => exact ⟨_, (decide (t206 < ((rd_T34 l0 (ji40)).f1))), (by first | rfl | (simp; done) | (simp only [← hji40] <;> (first | rfl | simp)) | (simp [*]; done)), H', ⟨by have := HJ9.out; first | omega | exact Nat.le_refl _⟩, ⟨by repeat (first | (with_reducible first | exact HB.out | apply below_alloc | apply pw_below_drewN | apply below_drew1) | exact HB.out)⟩⟩
                 ·rw [if_neg c41] at H
                  exact absurd H (by simp)
                ·rw [if_neg c39] at H
                 have c39b0 : decide ((wrap64 (t210 + 1)) < (l0.length : Int)) = false := decide_eq_false c39
                 clear c39
                 have H' := Aside0.mk H
                 clear H
                 have p214 : 0 ≤ (t210 : Int) := of_decide_eq_true (by first | (with_reducible assumption) | assumption)
                 have q214 : t210 < (l0.length : Int) := of_decide_eq_true (by first | (with_reducible assumption) | assumption)
                 obtain ⟨ad214, e214, hx214_0, hx214_1⟩ := at_T34 HR0.out t210 p214 q214
                 cases e214
                 replace hx214_0 := (HB.out.cell (World.block_lt_of_cell? w _ hx214_0)).trans hx214_0
                 replace hx214_1 := (HB.out.cell (World.block_lt_of_cell? w _ hx214_1)).trans hx214_1
                 replace p214 := eq_true p214
                 replace q214 := eq_true q214
                 go_wp2
                 go_meet
                 case rel => exact ⟨_, (false), (by first | rfl | (simp; done) | (simp [*]; done)), H', ⟨by have := HJ9.out; first | omega | exact Nat.le_refl _⟩, ⟨by repeat (first | (with_reducible first | exact HB.out | apply below_alloc | apply pw_below_drewN | apply below_drew1) | exact HB.out)⟩⟩
              ·rw [if_neg c37] at H
               exact absurd H (by simp)
             ·rw [if_neg c36] at H
              exact absurd H (by simp)
          ·rw [if_neg c26] at H
           have c26b0 : decide (a1 ≤ a2) = false := decide_eq_false c26
           clear c26
           by_cases c42 : a1 ≥ a2
           ·rw [if_pos c42] at H
            have c42b0 : decide (a2 ≤ a1) = true := decide_eq_true c42
            clear c42
            by_cases c43 : t206 > t208
            ·rw [if_pos c43] at H
             have c43b0 : decide (t208 < t206) = true := decide_eq_true c43
             clear c43
             have H' := Aside0.mk H
             clear H
             go_wp2
             go_meet
             case rel => exact ⟨_, (true), (by first | rfl | (simp; done) | (simp [*]; done)), H', ⟨by have := HJ9.out; first | omega | exact Nat.le_refl _⟩, ⟨by repeat (first | (with_reducible first | exact HB.out | apply below_alloc | apply pw_below_drewN | apply below_drew1) | exact HB.out)⟩⟩
            ·rw [if_neg c43] at H
             have c43b0 : decide (t208 < t206) = false := decide_eq_false c43
             clear c43
             by_cases c44 : 0 ≤ t210
             ·rw [if_pos c44] at H
              have c44b0 : decide (0 ≤ t210) = true := decide_eq_true c44
              clear c44
              by_cases c45 : t210 < (l0.length : Int)
              ·rw [if_pos c45] at H
               have c45b0 : decide (t210 < (l0.length : Int)) = true := decide_eq_true c45
               clear c45
               by_cases c46 : t206 > ((rd_T34 l0 t210).f1)
               ·rw [if_pos c46] at H
                have c46b0 : decide (((rd_T34 l0 t210).f1) < t206) = true := decide_eq_true c46
                clear c46
                have H' := Aside0.mk H
                clear H
                have p216 : 0 ≤ (t210 : Int) := of_decide_eq_true (by first | (with_reducible assumption) | assumption)
                have q216 : t210 < (l0.length : Int) := of_decide_eq_true (by first | (with_reducible assumption) | assumption)
                obtain ⟨ad216, e216, hx216_0, hx216_1⟩ := at_T34 HR0.out t210 p216 q216
                cases e216
                replace hx216_0 := (HB.out.cell (World.block_lt_of_cell? w _ hx216_0)).trans hx216_0
                replace hx216_1 := (HB.out.cell (World.block_lt_of_cell? w _ hx216_1)).trans hx216_1
                replace p216 := eq_true p216
                replace q216 := eq_true q216
                go_wp2
                go_meet
                case rel => exact ⟨_, (true), (by first | rfl | (simp; done) | (simp [*]; done)), H', ⟨by have := HJ9.out; first | omega | exact Nat.le_refl _⟩, ⟨by repeat (first | (with_reducible first | exact HB.out | apply below_alloc | apply pw_below_drewN | apply below_drew1) | exact HB.out)⟩⟩
               ·rw [if_neg c46] at H
                have c46b0 : decide (((rd_T34 l0 t210).f1) < t206) = false := decide_eq_false c46
                clear c46
                by_cases c47 : (wrap64 (t210 + 1)) < (l0.length : Int)
                ·rw [if_pos c47] at H
                 have c47b0 : decide ((wrap64 (t210 + 1)) < (l0.length : Int)) = true := decide_eq_true c47
                 clear c47
                 obtain ⟨ji48, hji48⟩ : ∃ j_ : Int, (wrap64 (t210 + 1)) = j_ := ⟨_, rfl⟩
                 replace H : (if 0 ≤ (ji48) then (spilelaw18_InterpolateFalls.j1 kj9 l0 (decide (t206 < ((rd_T34 l0 (ji48)).f1)))) else (none)) = some r := by first | (rw [hji48] at H; exact H) | (simp only [hji48] at H ⊢; exact H)
                 (try rw [hji48] at c47b0)
                 have hji48w : (IntKind.i64.wrap (t210 + 1)) = ji48 := (i64_w _).trans hji48
                 by_cases c49 : 0 ≤ (ji48)
                 ·rw [if_pos c49] at H
                  have c49b0 : decide (0 ≤ (ji48)) = true := decide_eq_true c49
                  clear c49
                  have H' := Aside0.mk H
                  clear H
                  have p216 : 0 ≤ (t210 : Int) := of_decide_eq_true (by first | (with_reducible assumption) | assumption)
                  have q216 : t210 < (l0.length : Int) := of_decide_eq_true (by first | (with_reducible assumption) | assumption)
                  obtain ⟨ad216, e216, hx216_0, hx216_1⟩ := at_T34 HR0.out t210 p216 q216
                  cases e216
                  replace hx216_0 := (HB.out.cell (World.block_lt_of_cell? w _ hx216_0)).trans hx216_0
                  replace hx216_1 := (HB.out.cell (World.block_lt_of_cell? w _ hx216_1)).trans hx216_1
                  replace p216 := eq_true p216
                  replace q216 := eq_true q216
                  have p217 : 0 ≤ ((ji48) : Int) := of_decide_eq_true (by first | (with_reducible assumption) | assumption)
                  have q217 : (ji48) < (l0.length : Int) := of_decide_eq_true (by first | (with_reducible assumption) | assumption)
                  obtain ⟨ad217, e217, hx217_0, hx217_1⟩ := at_T34 HR0.out (ji48) p217 q217
                  obtain rfl : ad216 = ad217 := (by injection e217)
                  replace hx217_0 := (HB.out.cell (World.block_lt_of_cell? w _ hx217_0)).trans hx217_0
                  replace hx217_1 := (HB.out.cell (World.block_lt_of_cell? w _ hx217_1)).trans hx217_1
                  replace p217 := eq_true p217
                  replace q217 := eq_true q217
                  go_wp2
                  go_meet
                  case rel => exact ⟨_, (decide (t206 < ((rd_T34 l0 (ji48)).f1))), (by first | rfl | (simp; done) | (simp only [← hji48] <;> (first | rfl | simp)) | (simp [*]; done)), H', ⟨by have := HJ9.out; first | omega | exact Nat.le_refl _⟩, ⟨by repeat (first | (with_reducible first | exact HB.out | apply below_alloc | apply pw_below_drewN | apply below_drew1) | exact HB.out)⟩⟩
                 ·rw [if_neg c49] at H
                  exact absurd H (by simp)
                ·rw [if_neg c47] at H
                 have c47b0 : decide ((wrap64 (t210 + 1)) < (l0.length : Int)) = false := decide_eq_false c47
                 clear c47
                 have H' := Aside0.mk H
                 clear H
                 have p216 : 0 ≤ (t210 : Int) := of_decide_eq_true (by first | (with_reducible assumption) | assumption)
                 have q216 : t210 < (l0.length : Int) := of_decide_eq_true (by first | (with_reducible assumption) | assumption)
                 obtain ⟨ad216, e216, hx216_0, hx216_1⟩ := at_T34 HR0.out t210 p216 q216
                 cases e216
                 replace hx216_0 := (HB.out.cell (World.block_lt_of_cell? w _ hx216_0)).trans hx216_0
                 replace hx216_1 := (HB.out.cell (World.block_lt_of_cell? w _ hx216_1)).trans hx216_1
                 replace p216 := eq_true p216
                 replace q216 := eq_true q216
                 go_wp2
                 go_meet
                 case rel => exact ⟨_, (false), (by first | rfl | (simp; done) | (simp [*]; done)), H', ⟨by have := HJ9.out; first | omega | exact Nat.le_refl _⟩, ⟨by repeat (first | (with_reducible first | exact HB.out | apply below_alloc | apply pw_below_drewN | apply below_drew1) | exact HB.out)⟩⟩
              ·rw [if_neg c45] at H
               exact absurd H (by simp)
             ·rw [if_neg c44] at H
              exact absurd H (by simp)
           ·rw [if_neg c42] at H
            have c42b0 : decide (a2 ≤ a1) = false := decide_eq_false c42
            clear c42
            by_cases c50 : 0 ≤ t210
            ·rw [if_pos c50] at H
             have c50b0 : decide (0 ≤ t210) = true := decide_eq_true c50
             clear c50
             by_cases c51 : t210 < (l0.length : Int)
             ·rw [if_pos c51] at H
              have c51b0 : decide (t210 < (l0.length : Int)) = true := decide_eq_true c51
              clear c51
              by_cases c52 : t206 > ((rd_T34 l0 t210).f1)
              ·rw [if_pos c52] at H
               have c52b0 : decide (((rd_T34 l0 t210).f1) < t206) = true := decide_eq_true c52
               clear c52
               have H' := Aside0.mk H
               clear H
               have p218 : 0 ≤ (t210 : Int) := of_decide_eq_true (by first | (with_reducible assumption) | assumption)
               have q218 : t210 < (l0.length : Int) := of_decide_eq_true (by first | (with_reducible assumption) | assumption)
               obtain ⟨ad218, e218, hx218_0, hx218_1⟩ := at_T34 HR0.out t210 p218 q218
               cases e218
               replace hx218_0 := (HB.out.cell (World.block_lt_of_cell? w _ hx218_0)).trans hx218_0
               replace hx218_1 := (HB.out.cell (World.block_lt_of_cell? w _ hx218_1)).trans hx218_1
               replace p218 := eq_true p218
               replace q218 := eq_true q218
               go_wp2
               go_meet
               case rel => exact ⟨_, (true), (by first | rfl | (simp; done) | (simp [*]; done)), H', ⟨by have := HJ9.out; first | omega | exact Nat.le_refl _⟩, ⟨by repeat (first | (with_reducible first | exact HB.out | apply below_alloc | apply pw_below_drewN | apply below_drew1) | exact HB.out)⟩⟩
              ·rw [if_neg c52] at H
               have c52b0 : decide (((rd_T34 l0 t210).f1) < t206) = false := decide_eq_false c52
               clear c52
               by_cases c53 : (wrap64 (t210 + 1)) < (l0.length : Int)
               ·rw [if_pos c53] at H
                have c53b0 : decide ((wrap64 (t210 + 1)) < (l0.length : Int)) = true := decide_eq_true c53
                clear c53
                obtain ⟨ji54, hji54⟩ : ∃ j_ : Int, (wrap64 (t210 + 1)) = j_ := ⟨_, rfl⟩
                replace H : (if 0 ≤ (ji54) then (spilelaw18_InterpolateFalls.j1 kj9 l0 (decide (t206 < ((rd_T34 l0 (ji54)).f1)))) else (none)) = some r := by first | (rw [hji54] at H; exact H) | (simp only [hji54] at H ⊢; exact H)
                (try rw [hji54] at c53b0)
                have hji54w : (IntKind.i64.wrap (t210 + 1)) = ji54 := (i64_w _).trans hji54
                by_cases c55 : 0 ≤ (ji54)
                ·rw [if_pos c55] at H
                 have c55b0 : decide (0 ≤ (ji54)) = true := decide_eq_true c55
                 clear c55
                 have H' := Aside0.mk H
                 clear H
                 have p218 : 0 ≤ (t210 : Int) := of_decide_eq_true (by first | (with_reducible assumption) | assumption)
                 have q218 : t210 < (l0.length : Int) := of_decide_eq_true (by first | (with_reducible assumption) | assumption)
                 obtain ⟨ad218, e218, hx218_0, hx218_1⟩ := at_T34 HR0.out t210 p218 q218
                 cases e218
                 replace hx218_0 := (HB.out.cell (World.block_lt_of_cell? w _ hx218_0)).trans hx218_0
                 replace hx218_1 := (HB.out.cell (World.block_lt_of_cell? w _ hx218_1)).trans hx218_1
                 replace p218 := eq_true p218
                 replace q218 := eq_true q218
                 have p219 : 0 ≤ ((ji54) : Int) := of_decide_eq_true (by first | (with_reducible assumption) | assumption)
                 have q219 : (ji54) < (l0.length : Int) := of_decide_eq_true (by first | (with_reducible assumption) | assumption)
                 obtain ⟨ad219, e219, hx219_0, hx219_1⟩ := at_T34 HR0.out (ji54) p219 q219
                 obtain rfl : ad218 = ad219 := (by injection e219)
                 replace hx219_0 := (HB.out.cell (World.block_lt_of_cell? w _ hx219_0)).trans hx219_0
                 replace hx219_1 := (HB.out.cell (World.block_lt_of_cell? w _ hx219_1)).trans hx219_1
                 replace p219 := eq_true p219
                 replace q219 := eq_true q219
                 go_wp2
                 go_meet
                 case rel => exact ⟨_, (decide (t206 < ((rd_T34 l0 (ji54)).f1))), (by first | rfl | (simp; done) | (simp only [← hji54] <;> (first | rfl | simp)) | (simp [*]; done)), H', ⟨by have := HJ9.out; first | omega | exact Nat.le_refl _⟩, ⟨by repeat (first | (with_reducible first | exact HB.out | apply below_alloc | apply pw_below_drewN | apply below_drew1) | exact HB.out)⟩⟩
                ·rw [if_neg c55] at H
                 exact absurd H (by simp)
               ·rw [if_neg c53] at H
                have c53b0 : decide ((wrap64 (t210 + 1)) < (l0.length : Int)) = false := decide_eq_false c53
                clear c53
                have H' := Aside0.mk H
                clear H
                have p218 : 0 ≤ (t210 : Int) := of_decide_eq_true (by first | (with_reducible assumption) | assumption)
                have q218 : t210 < (l0.length : Int) := of_decide_eq_true (by first | (with_reducible assumption) | assumption)
                obtain ⟨ad218, e218, hx218_0, hx218_1⟩ := at_T34 HR0.out t210 p218 q218
                cases e218
                replace hx218_0 := (HB.out.cell (World.block_lt_of_cell? w _ hx218_0)).trans hx218_0
                replace hx218_1 := (HB.out.cell (World.block_lt_of_cell? w _ hx218_1)).trans hx218_1
                replace p218 := eq_true p218
                replace q218 := eq_true q218
                go_wp2
                go_meet
                case rel => exact ⟨_, (false), (by first | rfl | (simp; done) | (simp [*]; done)), H', ⟨by have := HJ9.out; first | omega | exact Nat.le_refl _⟩, ⟨by repeat (first | (with_reducible first | exact HB.out | apply below_alloc | apply pw_below_drewN | apply below_drew1) | exact HB.out)⟩⟩
             ·rw [if_neg c51] at H
              exact absurd H (by simp)
            ·rw [if_neg c50] at H
             exact absurd H (by simp)
       ·rw [if_neg c23] at H
        have c23b0 : (t211 == 0) = false := beq_eq_false_iff_ne.mpr c23
        have c23b1 : (t211 != 0) = true := bne_iff_ne.mpr c23
        (first | rw [c23b0] | (simp only [i64_w, i32_w]; rw [c23b0]) | skip)
        have H' := Aside0.mk H
        clear H
        go_wp2
        go_meet
        case rel => exact ⟨_, (true), (by first | rfl | (simp; done) | (simp [*]; done)), H', ⟨by have := HJ9.out; first | omega | exact Nat.le_refl _⟩, ⟨by repeat (first | (with_reducible first | exact HB.out | apply below_alloc | apply pw_below_drewN | apply below_drew1) | exact HB.out)⟩⟩
      case rest =>
       clear HC21
       try clear c1
       try clear c2
       try clear p2
       try clear q2
       try clear hx2
       try clear c3
       try clear c4
       try clear c5
       try clear p6
       try clear c7
       try clear c9
       try clear c10
       try clear c11
       try clear c14
       try clear c14b0
       try clear c14b1
       try clear c15
       try clear c16
       try clear c16b0
       try clear c16b1
       try clear c17
       try clear c17b0
       try clear c17b1
       try clear c18
       try clear c18b0
       try clear c18b1
       try clear c19
       try clear c19b0
       try clear c19b1
       try clear p21
       try clear q21
       try clear hx21
       try clear c23
       try clear c23b0
       try clear c23b1
       try clear c24
       try clear c24b0
       try clear c25
       try clear c25b0
       try clear c26
       try clear c26b0
       try clear c27
       try clear c27b0
       try clear c28
       try clear c28b0
       try clear c29
       try clear c29b0
       try clear c30
       try clear c30b0
       try clear c31
       try clear c31b0
       try clear c32
       try clear c32b0
       try clear c33
       try clear c33b0
       try clear c35
       try clear c35b0
       try clear c36
       try clear c36b0
       try clear c37
       try clear c37b0
       try clear c38
       try clear c38b0
       try clear c39
       try clear c39b0
       try clear c41
       try clear c41b0
       try clear c42
       try clear c42b0
       try clear c43
       try clear c43b0
       try clear c44
       try clear c44b0
       try clear c45
       try clear c45b0
       try clear c46
       try clear c46b0
       try clear c47
       try clear c47b0
       try clear c49
       try clear c49b0
       try clear c50
       try clear c50b0
       try clear c51
       try clear c51b0
       try clear c52
       try clear c52b0
       try clear c53
       try clear c53b0
       try clear c55
       try clear c55b0
       try clear hx212_0
       try clear hx212_1
       try clear hx213_0
       try clear hx213_1
       try clear hx214_0
       try clear hx214_1
       try clear hx215_0
       try clear hx215_1
       try clear hx216_0
       try clear hx216_1
       try clear hx217_0
       try clear hx217_1
       try clear hx218_0
       try clear hx218_1
       try clear hx219_0
       try clear hx219_1
       try clear p2
       try clear p212
       try clear p213
       try clear p214
       try clear p215
       try clear p216
       try clear p217
       try clear p218
       try clear p219
       try clear q212
       try clear q213
       try clear q214
       try clear q215
       try clear q216
       try clear q217
       try clear q218
       try clear q219
       obtain ⟨kq, x117_20, rfl, HA, HJ20, HB⟩ := hcut
       cases kq with
       | zero => exact absurd HA.out (by simp [spilelaw18_InterpolateFalls.j1])
       | succ kj20 =>
        have H := HA.out
        clear HA
        simp only [spilelaw18_InterpolateFalls.j1] at H
        by_cases c56 : x117_20 = true
        ·subst c56
         have H1 : (some false) = some r := by rw [if_pos rfl] at H; exact H
         clear H
         have H := H1
         clear H1
         obtain rfl := Option.some.inj H
         go_wp2
         go_ret
         exact ⟨by first | rfl | (simp [errW_none, errW_some] <;> rfl) | (simp [*, errW_none, errW_some] <;> rfl), by repeat (first | (with_reducible first | exact HB.out | apply below_alloc | apply pw_below_drewN | apply below_drew1) | exact HB.out)⟩
        ·replace c56 := Bool.eq_false_iff.mpr c56
         subst c56
         have H1 : (spilelaw18_InterpolateFalls.l0 kj20 l0 l0 (l0.length : Int) 0) = some r := by rw [if_neg (show ¬ (false = true) by decide)] at H; exact H
         clear H
         have H := H1
         clear H1
         have H' := Aside0.mk H
         clear H
         go_wp2
         go_loopg [120] kj20 (fun kq v120 w' => ∃ (x120_3 : Int), v120 = .int .i64 x120_3 ∧ Aside0 (spilelaw18_InterpolateFalls.l0 kq l0 l0 (l0.length : Int) x120_3 = some r) ∧ Aside0 (kq ≤ kj20) ∧ Aside0 (Below w.heap.size w w'))
         case atStart => exact ⟨(0), (by first | rfl | (simp; done) | (simp [*]; done)), H', ⟨Nat.le_refl _⟩, ⟨by repeat (first | (with_reducible first | exact HB.out | apply below_alloc | apply pw_below_drewN | apply below_drew1) | exact HB.out)⟩⟩
         case round =>
          clear H'
          try clear c1
          try clear c2
          try clear p2
          try clear q2
          try clear hx2
          try clear c3
          try clear c4
          try clear c5
          try clear p6
          try clear c7
          try clear c9
          try clear c10
          try clear c11
          try clear c14
          try clear c14b0
          try clear c14b1
          try clear c15
          try clear c16
          try clear c16b0
          try clear c16b1
          try clear c17
          try clear c17b0
          try clear c17b1
          try clear c18
          try clear c18b0
          try clear c18b1
          try clear c19
          try clear c19b0
          try clear c19b1
          try clear p21
          try clear q21
          try clear hx21
          try clear c23
          try clear c23b0
          try clear c23b1
          try clear c24
          try clear c24b0
          try clear c25
          try clear c25b0
          try clear c26
          try clear c26b0
          try clear c27
          try clear c27b0
          try clear c28
          try clear c28b0
          try clear c29
          try clear c29b0
          try clear c30
          try clear c30b0
          try clear c31
          try clear c31b0
          try clear c32
          try clear c32b0
          try clear c33
          try clear c33b0
          try clear c35
          try clear c35b0
          try clear c36
          try clear c36b0
          try clear c37
          try clear c37b0
          try clear c38
          try clear c38b0
          try clear c39
          try clear c39b0
          try clear c41
          try clear c41b0
          try clear c42
          try clear c42b0
          try clear c43
          try clear c43b0
          try clear c44
          try clear c44b0
          try clear c45
          try clear c45b0
          try clear c46
          try clear c46b0
          try clear c47
          try clear c47b0
          try clear c49
          try clear c49b0
          try clear c50
          try clear c50b0
          try clear c51
          try clear c51b0
          try clear c52
          try clear c52b0
          try clear c53
          try clear c53b0
          try clear c55
          try clear c55b0
          try clear c56
          try clear hx212_0
          try clear hx212_1
          try clear hx213_0
          try clear hx213_1
          try clear hx214_0
          try clear hx214_1
          try clear hx215_0
          try clear hx215_1
          try clear hx216_0
          try clear hx216_1
          try clear hx217_0
          try clear hx217_1
          try clear hx218_0
          try clear hx218_1
          try clear hx219_0
          try clear hx219_1
          try clear p2
          try clear p21
          try clear p212
          try clear p213
          try clear p214
          try clear p215
          try clear p216
          try clear p217
          try clear p218
          try clear p219
          try clear p6
          try clear q2
          try clear q21
          try clear q212
          try clear q213
          try clear q214
          try clear q215
          try clear q216
          try clear q217
          try clear q218
          try clear q219
          obtain ⟨x120_3, rfl, HA, HK3, HB⟩ := hrel
          cases gk with
          | zero => exact absurd HA.out (by simp [spilelaw18_InterpolateFalls.l0])
          | succ k3 =>
           have H := HA.out
           clear HA
           simp only [spilelaw18_InterpolateFalls.l0] at H
           by_cases c57 : x120_3 < (l0.length : Int)
           ·rw [if_pos c57] at H
            have c57b0 : decide (x120_3 < (l0.length : Int)) = true := decide_eq_true c57
            clear c57
            by_cases c58 : 0 ≤ x120_3
            ·rw [if_pos c58] at H
             have c58b0 : decide (0 ≤ x120_3) = true := decide_eq_true c58
             clear c58
             by_cases c59 : x120_3 < (l0.length : Int)
             ·rw [if_pos c59] at H
              have c59b0 : decide (x120_3 < (l0.length : Int)) = true := decide_eq_true c59
              clear c59
              replace H := Option.bind_eq_some_iff.mp H
              obtain ⟨⟨t222, t223⟩, A600, H⟩ := H
              replace H : (if t223 = 0 then (if t222 = ((rd_T34 l0 x120_3).f1) then (spilelaw18_InterpolateFalls.l0 k3 l0 l0 (l0.length : Int) (wrap64 (x120_3 + 1))) else (some false)) else (some false)) = some r := H
              have A60 := Aside0.mk A600
              clear A600
              by_cases c61 : t223 = 0
              ·rw [if_pos c61] at H
               have c61b0 : (t223 == 0) = true := beq_iff_eq.mpr c61
               have c61b1 : (t223 != 0) = false := bne_eq_false_iff_eq.mpr c61
               clear c61
               by_cases c62 : t222 = ((rd_T34 l0 x120_3).f1)
               ·rw [if_pos c62] at H
                have c62b0 : (t222 == ((rd_T34 l0 x120_3).f1)) = true := beq_iff_eq.mpr c62
                have c62b1 : (t222 != ((rd_T34 l0 x120_3).f1)) = false := bne_eq_false_iff_eq.mpr c62
                clear c62
                have H' := Aside0.mk H
                clear H
                have p220 : 0 ≤ (x120_3 : Int) := of_decide_eq_true (by first | (with_reducible assumption) | assumption)
                have q220 : x120_3 < (l0.length : Int) := of_decide_eq_true (by first | (with_reducible assumption) | assumption)
                obtain ⟨ad220, e220, hx220_0, hx220_1⟩ := at_T34 HR0.out x120_3 p220 q220
                cases e220
                replace hx220_0 := (HB.out.cell (World.block_lt_of_cell? w _ hx220_0)).trans hx220_0
                replace hx220_1 := (HB.out.cell (World.block_lt_of_cell? w _ hx220_1)).trans hx220_1
                replace p220 := eq_true p220
                replace q220 := eq_true q220
                go_wp2_with (first | ((with_reducible refine gate_dst (N := 14) rfl ?_); (try (refine gate_guard (by rfl) ?_; dsimp only)); refine box_event ?hg (N := 14) ?hd (cs := #[.int .i64 0, .int .i64 0]) (t := 34) ?hr ?_; (case hd => rfl); (case hg => rfl); (case hr => first | (go_simp; done) | (go_simp; rfl)); intro gb221 hg w63 hbox hb; have n0_ := Aside0.mk (below_step (by repeat (first | (with_reducible first | exact HB.out | apply below_alloc | apply pw_below_drewN | apply below_drew1) | exact HB.out)) hb); have n1_ := Aside0.mk (hbox); have n2_ := Aside0.mk ((by rw [hg]; exact (below_size (by repeat (first | (with_reducible first | exact HB.out | apply below_alloc | apply pw_below_drewN | apply below_drew1) | exact HB.out))) : w.heap.size ≤ gb221)); have n3_ := Aside0.mk ((by rw [hg]; exact (below_size (by repeat (first | (with_reducible first | exact HB.out | apply below_alloc | apply pw_below_drewN | apply below_drew1) | exact HB.out))) : w.heap.size ≤ gb221)); clear HB; have HB := n0_; have BK221 := n1_; have GW221 := n2_; have GE221 := n3_; clear n0_ n1_ n2_ n3_; clear hb hbox hg; have hcz64_0 : w63.cell? ⟨gb221, 0, none⟩ = some (.int .i64 0) := (blk_cell BK221.out 0).trans rfl; have hcz64_1 : w63.cell? ⟨gb221, 1, none⟩ = some (.int .i64 0) := (blk_cell BK221.out 1).trans rfl; have hfz64_0 := blk_frozen BK221.out 0; have hfz64_1 := blk_frozen BK221.out 1) | ((with_reducible refine gate_callee (f := 11) rfl ?_); refine goesL_ (some 128) rfl rfl Try.func11 (by kernel_rfl) rfl #[.slice (some ad220) l0.length c0, .int .i64 ((rd_T34 l0 x120_3).f0)] rfl (by (try simp only [List.map_toArray, List.map_cons, List.map_nil]); first | done | rfl | (simp only [List.length_drop, List.length_take]; rfl)) ?_; (with_reducible refine (interpolate_Density.calls _ _ l0 ((rd_T34 l0 x120_3).f0) t222 t223 _ ?side1 ?side2 A60.out).mono ?_); (case side1 => exact Kd.C_below HR0.out (by repeat (first | (with_reducible first | exact HB.out | apply below_alloc | apply pw_below_drewN | apply below_drew1 | refine below_set ?_ GE221.out) | exact HB.out))); (case side2 => exact HC0.out); rintro e w65 ⟨rfl, hb⟩; refine ⟨_, rfl, ?_⟩; have n0_ := Aside0.mk (blk_below (g := gb221) (o := .cells #[.int .i64 ((rd_T34 l0 x120_3).f0), .int .i64 ((rd_T34 l0 x120_3).f1)] 34 (0, 0)) (by (with_reducible repeat (first | refine blk_drewN ?_ _ | refine blk_drew ?_ | refine blk_alloc ?_ _)); refine blk_put (cs := #[.int .i64 ((rd_T34 l0 x120_3).f0), .int .i64 0]) ?_ 1 _ rfl; (with_reducible repeat (first | refine blk_drewN ?_ _ | refine blk_drew ?_ | refine blk_alloc ?_ _)); refine blk_put (cs := #[.int .i64 0, .int .i64 0]) ?_ 0 _ rfl; (with_reducible repeat (first | refine blk_drewN ?_ _ | refine blk_drew ?_ | refine blk_alloc ?_ _)); exact BK221.out) hb); have n1_ := Aside0.mk (below_step (by repeat (first | (with_reducible first | exact HB.out | apply below_alloc | apply pw_below_drewN | apply below_drew1 | refine below_set ?_ GE221.out) | exact HB.out)) hb); clear BK221; clear HB; have BK221 := n0_; have HB := n1_; clear n0_ n1_; (try clear hb); (try clear hb2); (try clear hk); (try clear hi); have hcz66_0 : w65.cell? ⟨gb221, 0, none⟩ = some (.int .i64 ((rd_T34 l0 x120_3).f0)) := (blk_cell BK221.out 0).trans rfl; have hcz66_1 : w65.cell? ⟨gb221, 1, none⟩ = some (.int .i64 ((rd_T34 l0 x120_3).f1)) := (blk_cell BK221.out 1).trans rfl; have hfz66_0 := blk_frozen BK221.out 0; have hfz66_1 := blk_frozen BK221.out 1))
                go_roundg k3
                case measure => have := HJ9.out; have := HJ20.out; have := HK3.out; omega
                case rel => exact ⟨(wrap64 (x120_3 + 1)), (by first | rfl | (simp; done) | (simp [*]; done)), H', ⟨by have := HJ9.out; have := HJ20.out; have := HK3.out; omega⟩, ⟨by repeat (first | (with_reducible first | exact HB.out | apply below_alloc | apply pw_below_drewN | apply below_drew1 | refine below_set ?_ GE221.out) | exact HB.out)⟩⟩
               ·rw [if_neg c62] at H
                have c62b0 : (t222 == ((rd_T34 l0 x120_3).f1)) = false := beq_eq_false_iff_ne.mpr c62
                have c62b1 : (t222 != ((rd_T34 l0 x120_3).f1)) = true := bne_iff_ne.mpr c62
                obtain rfl := Option.some.inj H
                have p220 : 0 ≤ (x120_3 : Int) := of_decide_eq_true (by first | (with_reducible assumption) | assumption)
                have q220 : x120_3 < (l0.length : Int) := of_decide_eq_true (by first | (with_reducible assumption) | assumption)
                obtain ⟨ad220, e220, hx220_0, hx220_1⟩ := at_T34 HR0.out x120_3 p220 q220
                cases e220
                replace hx220_0 := (HB.out.cell (World.block_lt_of_cell? w _ hx220_0)).trans hx220_0
                replace hx220_1 := (HB.out.cell (World.block_lt_of_cell? w _ hx220_1)).trans hx220_1
                replace p220 := eq_true p220
                replace q220 := eq_true q220
                go_wp2_with (first | ((with_reducible refine gate_dst (N := 14) rfl ?_); (try (refine gate_guard (by rfl) ?_; dsimp only)); refine box_event ?hg (N := 14) ?hd (cs := #[.int .i64 0, .int .i64 0]) (t := 34) ?hr ?_; (case hd => rfl); (case hg => rfl); (case hr => first | (go_simp; done) | (go_simp; rfl)); intro gb221 hg w67 hbox hb; have n0_ := Aside0.mk (below_step (by repeat (first | (with_reducible first | exact HB.out | apply below_alloc | apply pw_below_drewN | apply below_drew1) | exact HB.out)) hb); have n1_ := Aside0.mk (hbox); have n2_ := Aside0.mk ((by rw [hg]; exact (below_size (by repeat (first | (with_reducible first | exact HB.out | apply below_alloc | apply pw_below_drewN | apply below_drew1) | exact HB.out))) : w.heap.size ≤ gb221)); have n3_ := Aside0.mk ((by rw [hg]; exact (below_size (by repeat (first | (with_reducible first | exact HB.out | apply below_alloc | apply pw_below_drewN | apply below_drew1) | exact HB.out))) : w.heap.size ≤ gb221)); clear HB; have HB := n0_; have BK221 := n1_; have GW221 := n2_; have GE221 := n3_; clear n0_ n1_ n2_ n3_; clear hb hbox hg; have hcz68_0 : w67.cell? ⟨gb221, 0, none⟩ = some (.int .i64 0) := (blk_cell BK221.out 0).trans rfl; have hcz68_1 : w67.cell? ⟨gb221, 1, none⟩ = some (.int .i64 0) := (blk_cell BK221.out 1).trans rfl; have hfz68_0 := blk_frozen BK221.out 0; have hfz68_1 := blk_frozen BK221.out 1) | ((with_reducible refine gate_callee (f := 11) rfl ?_); refine goesL_ (some 128) rfl rfl Try.func11 (by kernel_rfl) rfl #[.slice (some ad220) l0.length c0, .int .i64 ((rd_T34 l0 x120_3).f0)] rfl (by (try simp only [List.map_toArray, List.map_cons, List.map_nil]); first | done | rfl | (simp only [List.length_drop, List.length_take]; rfl)) ?_; (with_reducible refine (interpolate_Density.calls _ _ l0 ((rd_T34 l0 x120_3).f0) t222 t223 _ ?side1 ?side2 A60.out).mono ?_); (case side1 => exact Kd.C_below HR0.out (by repeat (first | (with_reducible first | exact HB.out | apply below_alloc | apply pw_below_drewN | apply below_drew1 | refine below_set ?_ GE221.out) | exact HB.out))); (case side2 => exact HC0.out); rintro e w69 ⟨rfl, hb⟩; refine ⟨_, rfl, ?_⟩; have n0_ := Aside0.mk (blk_below (g := gb221) (o := .cells #[.int .i64 ((rd_T34 l0 x120_3).f0), .int .i64 ((rd_T34 l0 x120_3).f1)] 34 (0, 0)) (by (with_reducible repeat (first | refine blk_drewN ?_ _ | refine blk_drew ?_ | refine blk_alloc ?_ _)); refine blk_put (cs := #[.int .i64 ((rd_T34 l0 x120_3).f0), .int .i64 0]) ?_ 1 _ rfl; (with_reducible repeat (first | refine blk_drewN ?_ _ | refine blk_drew ?_ | refine blk_alloc ?_ _)); refine blk_put (cs := #[.int .i64 0, .int .i64 0]) ?_ 0 _ rfl; (with_reducible repeat (first | refine blk_drewN ?_ _ | refine blk_drew ?_ | refine blk_alloc ?_ _)); exact BK221.out) hb); have n1_ := Aside0.mk (below_step (by repeat (first | (with_reducible first | exact HB.out | apply below_alloc | apply pw_below_drewN | apply below_drew1 | refine below_set ?_ GE221.out) | exact HB.out)) hb); clear BK221; clear HB; have BK221 := n0_; have HB := n1_; clear n0_ n1_; (try clear hb); (try clear hb2); (try clear hk); (try clear hi); have hcz70_0 : w69.cell? ⟨gb221, 0, none⟩ = some (.int .i64 ((rd_T34 l0 x120_3).f0)) := (blk_cell BK221.out 0).trans rfl; have hcz70_1 : w69.cell? ⟨gb221, 1, none⟩ = some (.int .i64 ((rd_T34 l0 x120_3).f1)) := (blk_cell BK221.out 1).trans rfl; have hfz70_0 := blk_frozen BK221.out 0; have hfz70_1 := blk_frozen BK221.out 1))
                go_ret
                exact ⟨by first | rfl | (simp [errW_none, errW_some] <;> rfl) | (simp [*, errW_none, errW_some] <;> rfl), by repeat (first | (with_reducible first | exact HB.out | apply below_alloc | apply pw_below_drewN | apply below_drew1 | refine below_set ?_ GE221.out) | exact HB.out)⟩
              ·rw [if_neg c61] at H
               have c61b0 : (t223 == 0) = false := beq_eq_false_iff_ne.mpr c61
               have c61b1 : (t223 != 0) = true := bne_iff_ne.mpr c61
               obtain rfl := Option.some.inj H
               have p220 : 0 ≤ (x120_3 : Int) := of_decide_eq_true (by first | (with_reducible assumption) | assumption)
               have q220 : x120_3 < (l0.length : Int) := of_decide_eq_true (by first | (with_reducible assumption) | assumption)
               obtain ⟨ad220, e220, hx220_0, hx220_1⟩ := at_T34 HR0.out x120_3 p220 q220
               cases e220
               replace hx220_0 := (HB.out.cell (World.block_lt_of_cell? w _ hx220_0)).trans hx220_0
               replace hx220_1 := (HB.out.cell (World.block_lt_of_cell? w _ hx220_1)).trans hx220_1
               replace p220 := eq_true p220
               replace q220 := eq_true q220
               go_wp2_with (first | ((with_reducible refine gate_dst (N := 14) rfl ?_); (try (refine gate_guard (by rfl) ?_; dsimp only)); refine box_event ?hg (N := 14) ?hd (cs := #[.int .i64 0, .int .i64 0]) (t := 34) ?hr ?_; (case hd => rfl); (case hg => rfl); (case hr => first | (go_simp; done) | (go_simp; rfl)); intro gb221 hg w71 hbox hb; have n0_ := Aside0.mk (below_step (by repeat (first | (with_reducible first | exact HB.out | apply below_alloc | apply pw_below_drewN | apply below_drew1) | exact HB.out)) hb); have n1_ := Aside0.mk (hbox); have n2_ := Aside0.mk ((by rw [hg]; exact (below_size (by repeat (first | (with_reducible first | exact HB.out | apply below_alloc | apply pw_below_drewN | apply below_drew1) | exact HB.out))) : w.heap.size ≤ gb221)); have n3_ := Aside0.mk ((by rw [hg]; exact (below_size (by repeat (first | (with_reducible first | exact HB.out | apply below_alloc | apply pw_below_drewN | apply below_drew1) | exact HB.out))) : w.heap.size ≤ gb221)); clear HB; have HB := n0_; have BK221 := n1_; have GW221 := n2_; have GE221 := n3_; clear n0_ n1_ n2_ n3_; clear hb hbox hg; have hcz72_0 : w71.cell? ⟨gb221, 0, none⟩ = some (.int .i64 0) := (blk_cell BK221.out 0).trans rfl; have hcz72_1 : w71.cell? ⟨gb221, 1, none⟩ = some (.int .i64 0) := (blk_cell BK221.out 1).trans rfl; have hfz72_0 := blk_frozen BK221.out 0; have hfz72_1 := blk_frozen BK221.out 1) | ((with_reducible refine gate_callee (f := 11) rfl ?_); refine goesL_ (some 128) rfl rfl Try.func11 (by kernel_rfl) rfl #[.slice (some ad220) l0.length c0, .int .i64 ((rd_T34 l0 x120_3).f0)] rfl (by (try simp only [List.map_toArray, List.map_cons, List.map_nil]); first | done | rfl | (simp only [List.length_drop, List.length_take]; rfl)) ?_; (with_reducible refine (interpolate_Density.calls _ _ l0 ((rd_T34 l0 x120_3).f0) t222 t223 _ ?side1 ?side2 A60.out).mono ?_); (case side1 => exact Kd.C_below HR0.out (by repeat (first | (with_reducible first | exact HB.out | apply below_alloc | apply pw_below_drewN | apply below_drew1 | refine below_set ?_ GE221.out) | exact HB.out))); (case side2 => exact HC0.out); rintro e w73 ⟨rfl, hb⟩; refine ⟨_, rfl, ?_⟩; have n0_ := Aside0.mk (blk_below (g := gb221) (o := .cells #[.int .i64 ((rd_T34 l0 x120_3).f0), .int .i64 ((rd_T34 l0 x120_3).f1)] 34 (0, 0)) (by (with_reducible repeat (first | refine blk_drewN ?_ _ | refine blk_drew ?_ | refine blk_alloc ?_ _)); refine blk_put (cs := #[.int .i64 ((rd_T34 l0 x120_3).f0), .int .i64 0]) ?_ 1 _ rfl; (with_reducible repeat (first | refine blk_drewN ?_ _ | refine blk_drew ?_ | refine blk_alloc ?_ _)); refine blk_put (cs := #[.int .i64 0, .int .i64 0]) ?_ 0 _ rfl; (with_reducible repeat (first | refine blk_drewN ?_ _ | refine blk_drew ?_ | refine blk_alloc ?_ _)); exact BK221.out) hb); have n1_ := Aside0.mk (below_step (by repeat (first | (with_reducible first | exact HB.out | apply below_alloc | apply pw_below_drewN | apply below_drew1 | refine below_set ?_ GE221.out) | exact HB.out)) hb); clear BK221; clear HB; have BK221 := n0_; have HB := n1_; clear n0_ n1_; (try clear hb); (try clear hb2); (try clear hk); (try clear hi)))
               go_ret
               exact ⟨by first | rfl | (simp [errW_none, errW_some] <;> rfl) | (simp [*, errW_none, errW_some] <;> rfl), by repeat (first | (with_reducible first | exact HB.out | apply below_alloc | apply pw_below_drewN | apply below_drew1 | refine below_set ?_ GE221.out) | exact HB.out)⟩
             ·rw [if_neg c59] at H
              exact absurd H (by simp)
            ·rw [if_neg c58] at H
             exact absurd H (by simp)
           ·rw [if_neg c57] at H
            have c57b0 : decide (x120_3 < (l0.length : Int)) = false := decide_eq_false c57
            clear c57
            obtain rfl := Option.some.inj H
            go_wp2
            go_ret
            exact ⟨by first | rfl | (simp [errW_none, errW_some] <;> rfl) | (simp [*, errW_none, errW_some] <;> rfl), by repeat (first | (with_reducible first | exact HB.out | apply below_alloc | apply pw_below_drewN | apply below_drew1) | exact HB.out)⟩
  ·replace c7 := Bool.eq_false_iff.mpr c7
   subst c7
   have H1 : (some true) = some r := by rw [if_neg (show ¬ (false = true) by decide)] at H; exact H
   clear H
   have H := H1
   clear H1
   obtain rfl := Option.some.inj H
   go_enter Try.func4, Try.ntmps4
   go_wp2_with (first | ((with_reducible refine gate_callee (f := 9) rfl ?_); refine goesL_ (some 17) rfl rfl Try.func9 (by kernel_rfl) rfl #[] rfl (by (try simp only [List.map_toArray, List.map_cons, List.map_nil]); first | done | rfl | (simp only [List.length_drop, List.length_take]; rfl)) ?_; (with_reducible refine (spilelaw18_awake.calls  true _ A4.out).mono ?_); rintro e w74 ⟨rfl, hb⟩; refine ⟨_, rfl, ?_⟩; have n0_ := Aside0.mk (below_step (by repeat (first | (with_reducible first | exact HB.out | apply below_alloc | apply pw_below_drewN | apply below_drew1) | exact HB.out)) hb); clear HB; have HB := n0_; clear n0_; (try clear hb); (try clear hb2); (try clear hk); (try clear hi)) | ((with_reducible refine gate_callee (f := 10) rfl ?_); refine goesL_ (some 20) rfl rfl Try.func10 (by kernel_rfl) rfl #[.slice A0 l0.length c0] rfl (by (try simp only [List.map_toArray, List.map_cons, List.map_nil]); first | done | rfl | (simp only [List.length_drop, List.length_take]; rfl)) ?_; (with_reducible refine (spileref16_Few.calls _ _ l0 false _ ?side1 ?side2 A6.out).mono ?_); (case side1 => repeat (first | exact (Kd.C_below HR0.out HB.out) | (with_reducible refine Kd.C_alloc ?_ _) | (with_reducible refine Kd.C_drewN ?_ _) | (with_reducible refine Kd.C_drew ?_))); (case side2 => exact HC0.out); rintro e w' ⟨rfl, ⟨nd, rfl⟩⟩; refine ⟨_, rfl, ?_⟩))
   go_ret
   exact ⟨by first | rfl | (simp [errW_none, errW_some] <;> rfl) | (simp [*, errW_none, errW_some] <;> rfl), by repeat (first | (with_reducible first | exact HB.out | apply below_alloc | apply pw_below_drewN | apply below_drew1) | exact HB.out)⟩
 ·replace c5 := Bool.eq_false_iff.mpr c5
  subst c5
  have H1 : (some false) = some r := by rw [if_neg (show ¬ (false = true) by decide)] at H; exact H
  clear H
  have H := H1
  clear H1
  obtain rfl := Option.some.inj H
  go_enter Try.func4, Try.ntmps4
  go_wp2_with (first | ((with_reducible refine gate_callee (f := 9) rfl ?_); refine goesL_ (some 17) rfl rfl Try.func9 (by kernel_rfl) rfl #[] rfl (by (try simp only [List.map_toArray, List.map_cons, List.map_nil]); first | done | rfl | (simp only [List.length_drop, List.length_take]; rfl)) ?_; (with_reducible refine (spilelaw18_awake.calls  false _ A4.out).mono ?_); rintro e w75 ⟨rfl, hb⟩; refine ⟨_, rfl, ?_⟩; have n0_ := Aside0.mk (below_step (by repeat (first | (with_reducible first | exact HB.out | apply below_alloc | apply pw_below_drewN | apply below_drew1) | exact HB.out)) hb); clear HB; have HB := n0_; clear n0_; (try clear hb); (try clear hb2); (try clear hk); (try clear hi)))
  go_ret
  exact ⟨by first | rfl | (simp [errW_none, errW_some] <;> rfl) | (simp [*, errW_none, errW_some] <;> rfl), by repeat (first | (with_reducible first | exact HB.out | apply below_alloc | apply pw_below_drewN | apply below_drew1) | exact HB.out)⟩

end Go.Proofs.Ytlgihblojnoheaa.PF
