-- Written by a program of this session (wip/pr.py) out of Lean's print of the translation; Lean checks it.
import Derived.Test.YtcapbigknimgnaaPF0
import Derived.Test.YtcapbigknimgnaaPF1
import Derived.Test.YtcapbigknimgnaaPF20
namespace Go.Proofs.Ytcapbigknimgnaa.PF
open Go.RowKit Go.Proofs.YtcapbigknimgnaaW.PrintWords Go.Proofs.YtcapbigknimgnaaW.PrintLast Go.Proofs.YtcapbigknimgnaaW.PrintMore
attribute [local go_sem] max2_int min2_int max_two min_two max_three min_three max_four min_four   -- for this text's walks alone
set_option linter.unusedVariables false
set_option linter.unusedSimpArgs false

/-! ### density_Check: function 38 -/
def density_Check.l0 : Nat → List (S44) → Int → Int → Option (Int × Int)
 | 0, _, _, _ => none
 | k + 1, x0, x16, x17 => if x17 < x16 then ((density_fault.f k x0 x17).bind fun t347 => (if t347 = 0 then (density_Check.l0 k x0 x16 (wrap64 (x17 + 1))) else (some (x17, t347)))) else (if 0 < (x0.length : Int) then (if ((rd_T44 x0 0).f0) = 0 then (if 0 ≤ (wrap64 ((x0.length : Int) - 1)) then (if (wrap64 ((x0.length : Int) - 1)) < (x0.length : Int) then (if ((rd_T44 x0 (wrap64 ((x0.length : Int) - 1))).f0) = 10000 then (some ((-1), 0)) else (some (wrap64 ((x0.length : Int) - 1), 10))) else (none)) else (none)) else (some (0, 10))) else (none))
def density_Check.f (k : Nat) (l0 : List (S44)) : Option (Int × Int) := if (l0.length : Int) > 128 then (some ((-1), 8)) else (if (l0.length : Int) < 2 then (some ((-1), 9)) else (density_Check.l0 k l0 (l0.length : Int) 0))
theorem density_Check.mono_l : ∀ k, (∀ y0 y1 y2, LeO (density_Check.l0 k y0 y1 y2) (density_Check.l0 (k + 1) y0 y1 y2))
 | 0 => fun _ _ _ r h => by simp [density_Check.l0] at h
 | k + 1 => by
  have ih0 := density_Check.mono_l k
  ·intro y0 y1 y2
   unfold density_Check.l0
   repeat' first
   | (with_reducible exact ih0 _ _ _)
   | (with_reducible exact density_fault.mono _ _ _)
   | (with_reducible exact LeO.refl _)
   | (with_reducible exact LeO.none _)
   | (with_reducible refine LeO.ite ?_ ?_)
   | (with_reducible refine LeO.bind ?_ (fun _ => ?_))
   | exact ih0 _ _ _
   | exact density_fault.mono _ _ _
   | exact LeO.none _
   | refine LeO.ite ?_ ?_
   | refine LeO.bind ?_ (fun _ => ?_)
theorem density_Check.mono : ∀ a0 k, LeO (density_Check.f k a0) (density_Check.f (k + 1) a0) := by
 intro a0 k
 have ih0 := density_Check.mono_l k
 unfold density_Check.f
 repeat' first
   | (with_reducible exact ih0 _ _ _)
   | (with_reducible exact density_fault.mono _ _ _)
   | (with_reducible exact LeO.refl _)
   | (with_reducible exact LeO.none _)
   | (with_reducible refine LeO.ite ?_ ?_)
   | (with_reducible refine LeO.bind ?_ (fun _ => ?_))
   | exact ih0 _ _ _
   | exact density_fault.mono _ _ _
   | exact LeO.none _
   | refine LeO.ite ?_ ?_
   | refine LeO.bind ?_ (fun _ => ?_)
set_option maxHeartbeats 8000000 in
set_option maxRecDepth 100000 in
theorem density_Check.calls (k : Nat) (A0 : Option Addr) (c0 : Nat) (l0 : List (S44)) (r1 : Int) (r2 : Int) (w : World) (hr0 : Kd.C k44 w A0 l0.length l0) (hc0 : l0.length ≤ c0) (h : density_Check.f k l0 = some (r1, r2)) :
  Calls Try.prog 38 #[.slice A0 l0.length c0] w fun e w' => e = .returned (.tuple #[.int .i64 r1, .int .i64 r2]) ∧ Below w.heap.size w w' := by
 have HR0 := Aside0.mk hr0
 have HC0 := Aside0.mk hc0
 clear hr0 hc0
 have HB := Aside0.mk (Below.refl w.heap.size w)
 have H : (if (l0.length : Int) > 128 then (some ((-1), 8)) else (if (l0.length : Int) < 2 then (some ((-1), 9)) else (density_Check.l0 k l0 (l0.length : Int) 0))) = some (r1, r2) := h
 clear h
 by_cases c2 : (l0.length : Int) > 128
 ·rw [if_pos c2] at H
  have c2b0 : decide (128 < (l0.length : Int)) = true := decide_eq_true c2
  have c2b1 : decide (128 < l0.length) = true := decide_eq_true (by omega)
  clear c2
  simp only [Option.some.injEq, Prod.mk.injEq] at H
  obtain ⟨rfl, rfl⟩ := H
  go_enter Try.func38, Try.ntmps38
  go_wp2
  go_ret2
  exact ⟨by first | rfl | (simp [errW_none, errW_some] <;> rfl) | (simp [*, errW_none, errW_some] <;> rfl), by repeat (first | (with_reducible first | exact HB.out | apply below_alloc | apply pw_below_drewN | apply below_drew1) | exact HB.out)⟩
 ·rw [if_neg c2] at H
  have c2b0 : decide (128 < (l0.length : Int)) = false := decide_eq_false c2
  have c2b1 : decide (128 < l0.length) = false := decide_eq_false (by omega)
  clear c2
  by_cases c3 : (l0.length : Int) < 2
  ·rw [if_pos c3] at H
   have c3b0 : decide ((l0.length : Int) < 2) = true := decide_eq_true c3
   have c3b1 : decide (l0.length < 2) = true := decide_eq_true (by omega)
   clear c3
   simp only [Option.some.injEq, Prod.mk.injEq] at H
   obtain ⟨rfl, rfl⟩ := H
   go_enter Try.func38, Try.ntmps38
   go_wp2
   go_ret2
   exact ⟨by first | rfl | (simp [errW_none, errW_some] <;> rfl) | (simp [*, errW_none, errW_some] <;> rfl), by repeat (first | (with_reducible first | exact HB.out | apply below_alloc | apply pw_below_drewN | apply below_drew1) | exact HB.out)⟩
  ·rw [if_neg c3] at H
   have c3b0 : decide ((l0.length : Int) < 2) = false := decide_eq_false c3
   have c3b1 : decide (l0.length < 2) = false := decide_eq_false (by omega)
   clear c3
   have H' := Aside0.mk H
   clear H
   go_enter Try.func38, Try.ntmps38
   go_wp2
   go_loopg [17] k (fun kq v17 w' => ∃ (x17_1 : Int), v17 = .int .i64 x17_1 ∧ Aside0 (density_Check.l0 kq l0 (l0.length : Int) x17_1 = some (r1, r2)) ∧ Aside0 (kq ≤ k) ∧ Aside0 (Below w.heap.size w w'))
   case atStart => exact ⟨(0), (by first | rfl | (simp; done) | (simp [*]; done)), H', ⟨Nat.le_refl _⟩, ⟨by repeat (first | (with_reducible first | exact HB.out | apply below_alloc | apply pw_below_drewN | apply below_drew1) | exact HB.out)⟩⟩
   case round =>
    clear H'
    try clear c2
    try clear c2b0
    try clear c2b1
    try clear p2
    try clear c3
    try clear c3b0
    try clear c3b1
    obtain ⟨x17_1, rfl, HA, HK1, HB⟩ := hrel
    cases gk with
    | zero => exact absurd HA.out (by simp [density_Check.l0])
    | succ k1 =>
     have H := HA.out
     clear HA
     simp only [density_Check.l0] at H
     by_cases c4 : x17_1 < (l0.length : Int)
     ·rw [if_pos c4] at H
      have c4b0 : decide (x17_1 < (l0.length : Int)) = true := decide_eq_true c4
      clear c4
      replace H := Option.bind_eq_some_iff.mp H
      obtain ⟨t347, A50, H⟩ := H
      replace H : (if t347 = 0 then (density_Check.l0 k1 l0 (l0.length : Int) (wrap64 (x17_1 + 1))) else (some (x17_1, t347))) = some (r1, r2) := H
      have A5 := Aside0.mk A50
      clear A50
      by_cases c6 : t347 = 0
      ·rw [if_pos c6] at H
       have c6b0 : (t347 == 0) = true := beq_iff_eq.mpr c6
       have c6b1 : (t347 != 0) = false := bne_eq_false_iff_eq.mpr c6
       clear c6
       have H' := Aside0.mk H
       clear H
       go_wp2_with (first | ((with_reducible refine gate_callee (f := 57) rfl ?_); refine goesL_ (some 22) rfl rfl Try.func57 (by kernel_rfl) rfl #[.slice A0 l0.length c0, .int .i64 x17_1] rfl (by (try simp only [List.map_toArray, List.map_cons, List.map_nil]); first | done | rfl | (simp only [List.length_drop, List.length_take]; rfl)) ?_; (with_reducible refine (density_fault.calls k1 _ _ l0 x17_1 t347 _ ?side1 ?side2 A5.out).mono ?_); (case side1 => repeat (first | exact (Kd.C_below HR0.out HB.out) | (with_reducible refine Kd.C_alloc ?_ _) | (with_reducible refine Kd.C_drewN ?_ _) | (with_reducible refine Kd.C_drew ?_))); (case side2 => exact HC0.out); rintro e w7 ⟨rfl, hb⟩; refine ⟨_, rfl, ?_⟩; have n0_ := Aside0.mk (below_step (by repeat (first | (with_reducible first | exact HB.out | apply below_alloc | apply pw_below_drewN | apply below_drew1) | exact HB.out)) hb); clear HB; have HB := n0_; clear n0_; (try clear hb); (try clear hb2); (try clear hk); (try clear hi)))
       go_roundg k1
       case measure => have := HK1.out; omega
       case rel => exact ⟨(wrap64 (x17_1 + 1)), (by first | rfl | (simp; done) | (simp [*]; done)), H', ⟨by have := HK1.out; omega⟩, ⟨by repeat (first | (with_reducible first | exact HB.out | apply below_alloc | apply pw_below_drewN | apply below_drew1) | exact HB.out)⟩⟩
      ·rw [if_neg c6] at H
       have c6b0 : (t347 == 0) = false := beq_eq_false_iff_ne.mpr c6
       have c6b1 : (t347 != 0) = true := bne_iff_ne.mpr c6
       simp only [Option.some.injEq, Prod.mk.injEq] at H
       obtain ⟨rfl, rfl⟩ := H
       go_wp2_with (first | ((with_reducible refine gate_callee (f := 57) rfl ?_); refine goesL_ (some 22) rfl rfl Try.func57 (by kernel_rfl) rfl #[.slice A0 l0.length c0, .int .i64 x17_1] rfl (by (try simp only [List.map_toArray, List.map_cons, List.map_nil]); first | done | rfl | (simp only [List.length_drop, List.length_take]; rfl)) ?_; (with_reducible refine (density_fault.calls k1 _ _ l0 x17_1 t347 _ ?side1 ?side2 A5.out).mono ?_); (case side1 => repeat (first | exact (Kd.C_below HR0.out HB.out) | (with_reducible refine Kd.C_alloc ?_ _) | (with_reducible refine Kd.C_drewN ?_ _) | (with_reducible refine Kd.C_drew ?_))); (case side2 => exact HC0.out); rintro e w8 ⟨rfl, hb⟩; refine ⟨_, rfl, ?_⟩; have n0_ := Aside0.mk (below_step (by repeat (first | (with_reducible first | exact HB.out | apply below_alloc | apply pw_below_drewN | apply below_drew1) | exact HB.out)) hb); clear HB; have HB := n0_; clear n0_; (try clear hb); (try clear hb2); (try clear hk); (try clear hi)))
       go_ret2
       exact ⟨by first | rfl | (simp [errW_none, errW_some] <;> rfl) | (simp [*, errW_none, errW_some] <;> rfl), by repeat (first | (with_reducible first | exact HB.out | apply below_alloc | apply pw_below_drewN | apply below_drew1) | exact HB.out)⟩
     ·rw [if_neg c4] at H
      have c4b0 : decide (x17_1 < (l0.length : Int)) = false := decide_eq_false c4
      clear c4
      by_cases c9 : 0 < (l0.length : Int)
      ·rw [if_pos c9] at H
       have c9b0 : decide (0 < (l0.length : Int)) = true := decide_eq_true c9
       have c9b1 : decide (0 < l0.length) = true := decide_eq_true (by omega)
       clear c9
       by_cases c10 : ((rd_T44 l0 0).f0) = 0
       ·rw [if_pos c10] at H
        have c10b0 : (((rd_T44 l0 0).f0) == 0) = true := beq_iff_eq.mpr c10
        have c10b1 : (((rd_T44 l0 0).f0) != 0) = false := bne_eq_false_iff_eq.mpr c10
        clear c10
        obtain ⟨ji11, hji11⟩ : ∃ j_ : Int, (wrap64 ((l0.length : Int) - 1)) = j_ := ⟨_, rfl⟩
        replace H : (if 0 ≤ (ji11) then (if (ji11) < (l0.length : Int) then (if ((rd_T44 l0 (ji11)).f0) = 10000 then (some ((-1), 0)) else (some (ji11, 10))) else (none)) else (none)) = some (r1, r2) := by first | (rw [hji11] at H; exact H) | (simp only [hji11] at H ⊢; exact H)
        have hji11w : (IntKind.i64.wrap ((l0.length : Int) - 1)) = ji11 := (i64_w _).trans hji11
        by_cases c12 : 0 ≤ (ji11)
        ·rw [if_pos c12] at H
         have c12b0 : decide (0 ≤ (ji11)) = true := decide_eq_true c12
         clear c12
         by_cases c13 : (ji11) < (l0.length : Int)
         ·rw [if_pos c13] at H
          have c13b0 : decide ((ji11) < (l0.length : Int)) = true := decide_eq_true c13
          clear c13
          by_cases c14 : ((rd_T44 l0 (ji11)).f0) = 10000
          ·rw [if_pos c14] at H
           have c14b0 : (((rd_T44 l0 (ji11)).f0) == 10000) = true := beq_iff_eq.mpr c14
           have c14b1 : (((rd_T44 l0 (ji11)).f0) != 10000) = false := bne_eq_false_iff_eq.mpr c14
           clear c14
           simp only [Option.some.injEq, Prod.mk.injEq] at H
           obtain ⟨rfl, rfl⟩ := H
           have p348 : 0 ≤ (0 : Int) := (by omega)
           have q348 : 0 < (l0.length : Int) := of_decide_eq_true (by first | (with_reducible assumption) | assumption)
           obtain ⟨ad348, e348, hx348_0, hx348_1⟩ := at_T44 HR0.out 0 p348 q348
           cases e348
           have qi348 : (0 < l0.length) = True := eq_true (by omega)
           (try rw [show ((0 : Int)).toNat = 0 from rfl] at hx348_0)
           (try rw [show 0 * 2 = 0 from rfl] at hx348_0)
           (try rw [Addr.add_zero'] at hx348_0)
           (try rw [show ((0 : Int)).toNat = 0 from rfl] at hx348_1)
           (try rw [show 0 * 2 = 0 from rfl] at hx348_1)
           (try rw [Addr.add_zero'] at hx348_1)
           replace hx348_0 := (HB.out.cell (World.block_lt_of_cell? w _ hx348_0)).trans hx348_0
           replace hx348_1 := (HB.out.cell (World.block_lt_of_cell? w _ hx348_1)).trans hx348_1
           replace p348 := eq_true p348
           replace q348 := eq_true q348
           have p349 : 0 ≤ ((ji11) : Int) := of_decide_eq_true (by first | (with_reducible assumption) | assumption)
           have q349 : (ji11) < (l0.length : Int) := of_decide_eq_true (by first | (with_reducible assumption) | assumption)
           obtain ⟨ad349, e349, hx349_0, hx349_1⟩ := at_T44 HR0.out (ji11) p349 q349
           obtain rfl : ad348 = ad349 := (by injection e349)
           replace hx349_0 := (HB.out.cell (World.block_lt_of_cell? w _ hx349_0)).trans hx349_0
           replace hx349_1 := (HB.out.cell (World.block_lt_of_cell? w _ hx349_1)).trans hx349_1
           replace p349 := eq_true p349
           replace q349 := eq_true q349
           go_wp2
           go_ret2
           exact ⟨by first | rfl | (simp [errW_none, errW_some] <;> rfl) | (simp only [← hji11]; first | rfl | (simp [errW_none, errW_some] <;> rfl)) | (simp [*, errW_none, errW_some] <;> rfl), by repeat (first | (with_reducible first | exact HB.out | apply below_alloc | apply pw_below_drewN | apply below_drew1) | exact HB.out)⟩
          ·rw [if_neg c14] at H
           have c14b0 : (((rd_T44 l0 (ji11)).f0) == 10000) = false := beq_eq_false_iff_ne.mpr c14
           have c14b1 : (((rd_T44 l0 (ji11)).f0) != 10000) = true := bne_iff_ne.mpr c14
           simp only [Option.some.injEq, Prod.mk.injEq] at H
           obtain ⟨rfl, rfl⟩ := H
           have p348 : 0 ≤ (0 : Int) := (by omega)
           have q348 : 0 < (l0.length : Int) := of_decide_eq_true (by first | (with_reducible assumption) | assumption)
           obtain ⟨ad348, e348, hx348_0, hx348_1⟩ := at_T44 HR0.out 0 p348 q348
           cases e348
           have qi348 : (0 < l0.length) = True := eq_true (by omega)
           (try rw [show ((0 : Int)).toNat = 0 from rfl] at hx348_0)
           (try rw [show 0 * 2 = 0 from rfl] at hx348_0)
           (try rw [Addr.add_zero'] at hx348_0)
           (try rw [show ((0 : Int)).toNat = 0 from rfl] at hx348_1)
           (try rw [show 0 * 2 = 0 from rfl] at hx348_1)
           (try rw [Addr.add_zero'] at hx348_1)
           replace hx348_0 := (HB.out.cell (World.block_lt_of_cell? w _ hx348_0)).trans hx348_0
           replace hx348_1 := (HB.out.cell (World.block_lt_of_cell? w _ hx348_1)).trans hx348_1
           replace p348 := eq_true p348
           replace q348 := eq_true q348
           have p349 : 0 ≤ ((ji11) : Int) := of_decide_eq_true (by first | (with_reducible assumption) | assumption)
           have q349 : (ji11) < (l0.length : Int) := of_decide_eq_true (by first | (with_reducible assumption) | assumption)
           obtain ⟨ad349, e349, hx349_0, hx349_1⟩ := at_T44 HR0.out (ji11) p349 q349
           obtain rfl : ad348 = ad349 := (by injection e349)
           replace hx349_0 := (HB.out.cell (World.block_lt_of_cell? w _ hx349_0)).trans hx349_0
           replace hx349_1 := (HB.out.cell (World.block_lt_of_cell? w _ hx349_1)).trans hx349_1
           replace p349 := eq_true p349
           replace q349 := eq_true q349
           go_wp2
           go_ret2
           exact ⟨by first | rfl | (simp [errW_none, errW_some] <;> rfl) | (simp only [← hji11]; first | rfl | (simp [errW_none, errW_some] <;> rfl)) | (simp [*, errW_none, errW_some] <;> rfl), by repeat (first | (with_reducible first | exact HB.out | apply below_alloc | apply pw_below_drewN | apply below_drew1) | exact HB.out)⟩
         ·rw [if_neg c13] at H
          exact absurd H (by simp)
        ·rw [if_neg c12] at H
         exact absurd H (by simp)
       ·rw [if_neg c10] at H
        have c10b0 : (((rd_T44 l0 0).f0) == 0) = false := beq_eq_false_iff_ne.mpr c10
        have c10b1 : (((rd_T44 l0 0).f0) != 0) = true := bne_iff_ne.mpr c10
        simp only [Option.some.injEq, Prod.mk.injEq] at H
        obtain ⟨rfl, rfl⟩ := H
        have p348 : 0 ≤ (0 : Int) := (by omega)
        have q348 : 0 < (l0.length : Int) := of_decide_eq_true (by first | (with_reducible assumption) | assumption)
        obtain ⟨ad348, e348, hx348_0, hx348_1⟩ := at_T44 HR0.out 0 p348 q348
        cases e348
        have qi348 : (0 < l0.length) = True := eq_true (by omega)
        (try rw [show ((0 : Int)).toNat = 0 from rfl] at hx348_0)
        (try rw [show 0 * 2 = 0 from rfl] at hx348_0)
        (try rw [Addr.add_zero'] at hx348_0)
        (try rw [show ((0 : Int)).toNat = 0 from rfl] at hx348_1)
        (try rw [show 0 * 2 = 0 from rfl] at hx348_1)
        (try rw [Addr.add_zero'] at hx348_1)
        replace hx348_0 := (HB.out.cell (World.block_lt_of_cell? w _ hx348_0)).trans hx348_0
        replace hx348_1 := (HB.out.cell (World.block_lt_of_cell? w _ hx348_1)).trans hx348_1
        replace p348 := eq_true p348
        replace q348 := eq_true q348
        go_wp2
        go_ret2
        exact ⟨by first | rfl | (simp [errW_none, errW_some] <;> rfl) | (simp [*, errW_none, errW_some] <;> rfl), by repeat (first | (with_reducible first | exact HB.out | apply below_alloc | apply pw_below_drewN | apply below_drew1) | exact HB.out)⟩
      ·rw [if_neg c9] at H
       exact absurd H (by simp)
/-! The faults of a table, plainly. -/
def dfault (l : List S44) (i : Nat) : Int :=
  if (rd_T44 l i).f0 < 0 ∨ (rd_T44 l i).f0 > 10000 ∨ (rd_T44 l i).f1 < 50000 ∨ (rd_T44 l i).f1 > 120000 then 2
  else if 0 < i ∧ (rd_T44 l i).f0 ≤ (rd_T44 l ((i : Int) - 1)).f0 then 5
  else if 0 < i ∧ (rd_T44 l i).f1 > (rd_T44 l ((i : Int) - 1)).f1 then 18
  else 0
def dtail (l : List S44) : Int × Int :=
  if (rd_T44 l 0).f0 = 0 then (if (rd_T44 l ((l.length : Int) - 1)).f0 = 10000 then (-1, 0) else ((l.length : Int) - 1, 10)) else (0, 10)
def dfrom (l : List S44) : Nat → Nat → Int × Int
  | 0, _ => dtail l
  | d + 1, i => if dfault l i = 0 then dfrom l d (i + 1) else ((i : Int), dfault l i)
def dchk (l : List S44) : Int × Int := if 128 < l.length then (-1, 8) else if l.length < 2 then (-1, 9) else dfrom l l.length 0

theorem density_fault.plain (l : List S44) (i : Nat) (h : i < l.length) (hl : l.length ≤ 128) (k : Nat) : density_fault.f (k + 2) l i = some (dfault l i) := by
  have e1 : wrap64 ((i : Int) - 1) = (i : Int) - 1 := w64_ (by omega) (by omega)
  have c0 : (0 : Int) ≤ i := by omega
  have c1 : (i : Int) < (l.length : Int) := by omega
  simp only [density_fault.f, density_fault.j0, density_fault.j1, if_pos c0, if_pos c1, e1, dfault]
  have c3 : (i : Int) - 1 < (l.length : Int) := by omega
  have c5 : ((0 : Int) < (i : Int)) ↔ 0 < i := by omega
  generalize (rd_T44 l i).f0 = a
  generalize (rd_T44 l i).f1 = b
  generalize (rd_T44 l ((i : Int) - 1)).f0 = a'
  generalize (rd_T44 l ((i : Int) - 1)).f1 = b'
  by_cases h0 : a < 0
  · simp [h0]
  by_cases h1 : a > 10000
  · simp [h0, h1]
  by_cases h2 : b < 50000
  · simp [h0, h1, h2]
  by_cases h3 : b > 120000
  · simp [h0, h1, h2, h3]
  by_cases h4 : 0 < i
  · have c2 : (0 : Int) ≤ (i : Int) - 1 := by omega
    have c4 : (i : Int) > 0 := by omega
    by_cases h5 : a ≤ a'
    · simp [h0, h1, h2, h3, h4, h5, c2, c3, c4]; omega
    by_cases h6 : b > b'
    · simp [h0, h1, h2, h3, h4, h5, h6, c2, c3, c4]; omega
    · simp [h0, h1, h2, h3, h4, h5, h6, c2, c3, c4]; omega
  · have c4 : ¬ ((i : Int) > 0) := by omega
    simp [h0, h1, h2, h3, h4, c4]

theorem density_Check.tail_plain (l : List S44) (h2 : 2 ≤ l.length) (hl : l.length ≤ 128) :
    (if 0 < (l.length : Int) then (if ((rd_T44 l 0).f0) = 0 then (if 0 ≤ (wrap64 ((l.length : Int) - 1)) then (if (wrap64 ((l.length : Int) - 1)) < (l.length : Int) then (if ((rd_T44 l (wrap64 ((l.length : Int) - 1))).f0) = 10000 then (some ((-1 : Int), (0 : Int))) else (some (wrap64 ((l.length : Int) - 1), 10))) else (none)) else (none)) else (some (0, 10))) else (none)) = some (dtail l) := by
  have e1 : wrap64 ((l.length : Int) - 1) = (l.length : Int) - 1 := w64_ (by omega) (by omega)
  rw [e1, if_pos (by omega), if_pos (show (0 : Int) ≤ (l.length : Int) - 1 by omega), if_pos (show (l.length : Int) - 1 < (l.length : Int) by omega)]
  unfold dtail
  split
  · split <;> rfl
  · rfl

theorem density_Check.loop_plain (l : List S44) (h2 : 2 ≤ l.length) (hl : l.length ≤ 128) (d : Nat) : ∀ (i k : Nat), i + d = l.length → d + 3 ≤ k → density_Check.l0 k l (l.length : Int) i = some (dfrom l d i) := by
  induction d with
  | zero =>
    intro i k hi hk
    obtain ⟨k, rfl⟩ : ∃ m, k = m + 1 := ⟨k - 1, by omega⟩
    simp only [density_Check.l0]
    rw [if_neg (by omega), density_Check.tail_plain l h2 hl]
    rfl
  | succ d ih =>
    intro i k hi hk
    obtain ⟨k, rfl⟩ : ∃ m, k = m + 1 := ⟨k - 1, by omega⟩
    simp only [density_Check.l0]
    obtain ⟨q, rfl⟩ : ∃ q, k = q + 2 := ⟨k - 2, by omega⟩
    rw [if_pos (by omega), density_fault.plain l i (by omega) hl]
    simp only [Option.bind_some, dfrom]
    have e1 : wrap64 ((i : Int) + 1) = ((i + 1 : Nat) : Int) := by rw [w64_ (by omega) (by omega)]; omega
    split
    · rw [e1]; exact ih (i + 1) (q + 2) (by omega) (by omega)
    · rfl

theorem density_Check.plain (l : List S44) : density_Check.f 200 l = some (dchk l) := by
  unfold density_Check.f dchk
  by_cases h1 : 128 < l.length
  · rw [if_pos (by omega), if_pos h1]
  · rw [if_neg (by omega), if_neg h1]
    by_cases h2 : l.length < 2
    · rw [if_pos (by omega), if_pos h2]
    · rw [if_neg (by omega), if_neg h2]
      exact density_Check.loop_plain l (by omega) (by omega) l.length 0 200 (by omega) (by omega)

def density_Check_s.f (l0 : List S44) : Option (Int × Int) := some (dchk l0)
theorem density_Check_s.calls (A0 : Option Addr) (c0 : Nat) (l0 : List S44) (r1 r2 : Int) (w : World) (hr0 : Kd.C k44 w A0 l0.length l0) (hc0 : l0.length ≤ c0) (h : density_Check_s.f l0 = some (r1, r2)) :
    Calls Try.prog 38 #[.slice A0 l0.length c0] w fun e w' => e = .returned (.tuple #[.int .i64 r1, .int .i64 r2]) ∧ Below w.heap.size w w' :=
  density_Check.calls 200 A0 c0 l0 r1 r2 w hr0 hc0 ((density_Check.plain l0).trans h)

/-! ### Right tables -/
structure RightT (l : List S44) : Prop where
  lo : 2 ≤ l.length
  hi : l.length ≤ 128
  rng : ∀ i : Nat, i < l.length → 0 ≤ (rd_T44 l i).f0 ∧ (rd_T44 l i).f0 ≤ 10000 ∧ 50000 ≤ (rd_T44 l i).f1 ∧ (rd_T44 l i).f1 ≤ 120000
  inc : ∀ i : Nat, i + 1 < l.length → (rd_T44 l i).f0 < (rd_T44 l ((i : Int) + 1)).f0
  dec : ∀ i : Nat, i + 1 < l.length → (rd_T44 l ((i : Int) + 1)).f1 ≤ (rd_T44 l i).f1
  first : (rd_T44 l 0).f0 = 0
  last : (rd_T44 l ((l.length : Int) - 1)).f0 = 10000

theorem dfault_zero (l : List S44) (i : Nat) : dfault l i = 0 ↔
    (0 ≤ (rd_T44 l i).f0 ∧ (rd_T44 l i).f0 ≤ 10000 ∧ 50000 ≤ (rd_T44 l i).f1 ∧ (rd_T44 l i).f1 ≤ 120000) ∧
    (0 < i → (rd_T44 l ((i : Int) - 1)).f0 < (rd_T44 l i).f0 ∧ (rd_T44 l i).f1 ≤ (rd_T44 l ((i : Int) - 1)).f1) := by
  unfold dfault
  generalize (rd_T44 l i).f0 = a
  generalize (rd_T44 l i).f1 = b
  generalize (rd_T44 l ((i : Int) - 1)).f0 = a'
  generalize (rd_T44 l ((i : Int) - 1)).f1 = b'
  split
  · constructor
    · intro h; exact absurd h (by decide)
    · rintro ⟨h, _⟩; omega
  split
  · constructor
    · intro h; exact absurd h (by decide)
    · rintro ⟨_, h⟩; omega
  split
  · constructor
    · intro h; exact absurd h (by decide)
    · rintro ⟨_, h⟩; omega
  · constructor
    · intro _; omega
    · intro _; rfl
theorem dfault_pos (l : List S44) (i : Nat) : dfault l i = 0 ∨ dfault l i = 2 ∨ dfault l i = 5 ∨ dfault l i = 18 := by
  unfold dfault
  split
  · simp
  split
  · simp
  split <;> simp
theorem dfrom_zero (l : List S44) (d : Nat) : ∀ i, (dfrom l d i).2 = 0 ↔ (∀ j, i ≤ j → j < i + d → dfault l j = 0) ∧ (dtail l).2 = 0 := by
  induction d with
  | zero => intro i; simp only [dfrom]; exact ⟨fun h => ⟨fun j h1 h2 => by omega, h⟩, fun h => h.2⟩
  | succ d ih =>
    intro i
    simp only [dfrom]
    by_cases h : dfault l i = 0
    · rw [if_pos h, ih (i + 1)]
      constructor
      · rintro ⟨h1, h2⟩
        refine ⟨fun j h3 h4 => ?_, h2⟩
        rcases Nat.eq_or_lt_of_le h3 with rfl | h5
        · exact h
        · exact h1 j (by omega) (by omega)
      · rintro ⟨h1, h2⟩
        exact ⟨fun j h3 h4 => h1 j (by omega) (by omega), h2⟩
    · rw [if_neg h]
      constructor
      · intro h1; exact absurd h1 h
      · rintro ⟨h1, _⟩; exact absurd (h1 i (Nat.le_refl _) (by omega)) h
theorem dtail_zero (l : List S44) : (dtail l).2 = 0 ↔ (rd_T44 l 0).f0 = 0 ∧ (rd_T44 l ((l.length : Int) - 1)).f0 = 10000 := by
  unfold dtail
  split
  · split <;> simp_all
  · simp_all
theorem right_iff (l : List S44) : (dchk l).2 = 0 ↔ RightT l := by
  unfold dchk
  by_cases h1 : 128 < l.length
  · rw [if_pos h1]
    exact ⟨fun h => absurd h (by decide), fun h => absurd h.hi (by omega)⟩
  rw [if_neg h1]
  by_cases h2 : l.length < 2
  · rw [if_pos h2]
    exact ⟨fun h => absurd h (by decide), fun h => absurd h.lo (by omega)⟩
  rw [if_neg h2, dfrom_zero, dtail_zero]
  constructor
  · rintro ⟨h, h3, h4⟩
    refine ⟨by omega, by omega, fun i hi => ((dfault_zero l i).1 (h i (Nat.zero_le _) (by omega))).1, fun i hi => ?_, fun i hi => ?_, h3, h4⟩
    · have := (((dfault_zero l (i + 1)).1 (h (i + 1) (Nat.zero_le _) (by omega))).2 (by omega)).1
      rw [show ((i + 1 : Nat) : Int) - 1 = (i : Int) by omega, show ((i + 1 : Nat) : Int) = (i : Int) + 1 by omega] at this
      exact this
    · have := (((dfault_zero l (i + 1)).1 (h (i + 1) (Nat.zero_le _) (by omega))).2 (by omega)).2
      rw [show ((i + 1 : Nat) : Int) - 1 = (i : Int) by omega, show ((i + 1 : Nat) : Int) = (i : Int) + 1 by omega] at this
      exact this
  · intro h
    refine ⟨fun j _ hj => (dfault_zero l j).2 ⟨h.rng j (by omega), fun h0 => ?_⟩, h.first, h.last⟩
    obtain ⟨i, rfl⟩ : ∃ i, j = i + 1 := ⟨j - 1, by omega⟩
    rw [show ((i + 1 : Nat) : Int) - 1 = (i : Int) by omega, show ((i + 1 : Nat) : Int) = (i : Int) + 1 by omega]
    exact ⟨h.inc i (by omega), h.dec i (by omega)⟩

section
variable {l : List S44}
theorem RightT.lt (h : RightT l) {a b : Nat} (hab : a < b) (hb : b < l.length) : (rd_T44 l a).f0 < (rd_T44 l b).f0 := by
  induction b with
  | zero => omega
  | succ b ih =>
    have h1 := h.inc b hb
    rw [show ((b + 1 : Nat) : Int) = (b : Int) + 1 by omega]
    rcases Nat.lt_or_ge a b with h2 | h2
    · have := ih h2 (by omega); omega
    · obtain rfl : a = b := by omega
      exact h1
theorem RightT.le (h : RightT l) {a b : Nat} (hab : a ≤ b) (hb : b < l.length) : (rd_T44 l a).f0 ≤ (rd_T44 l b).f0 := by
  rcases Nat.eq_or_lt_of_le hab with rfl | h1
  · exact Int.le_refl _
  · exact Int.le_of_lt (h.lt h1 hb)
theorem RightT.ge (h : RightT l) {a b : Nat} (hab : a ≤ b) (hb : b < l.length) : (rd_T44 l b).f1 ≤ (rd_T44 l a).f1 := by
  induction b with
  | zero => obtain rfl : a = 0 := by omega
            exact Int.le_refl _
  | succ b ih =>
    rcases Nat.eq_or_lt_of_le hab with rfl | h1
    · exact Int.le_refl _
    · have h2 := h.dec b hb
      have h3 := ih (by omega) (by omega)
      rw [show ((b + 1 : Nat) : Int) = (b : Int) + 1 by omega]
      omega
end

/-! ### The density at a strength -/
def segF (a b a' b' s : Int) : Int := (2 * (b * (a' - s) + b' * (s - a)) + (a' - a)) / (2 * (a' - a))
theorem segF_left {a b a' b' : Int} (h : a < a') : segF a b a' b' a = b := by
  unfold segF
  rw [Int.sub_self, Int.mul_zero, Int.add_zero]
  have e : 2 * (b * (a' - a)) + (a' - a) = (a' - a) + (2 * (a' - a)) * b := by rw [Int.mul_comm b, ← Int.mul_assoc, Int.add_comm]
  rw [e, Int.add_mul_ediv_left _ _ (by omega)]
  have : (a' - a) / (2 * (a' - a)) = 0 := Int.ediv_eq_zero_of_lt (by omega) (by omega)
  omega
theorem segF_right {a b a' b' : Int} (h : a < a') : segF a b a' b' a' = b' := by
  unfold segF
  rw [Int.sub_self, Int.mul_zero, Int.zero_add]
  have e : 2 * (b' * (a' - a)) + (a' - a) = (a' - a) + (2 * (a' - a)) * b' := by rw [Int.mul_comm b', ← Int.mul_assoc, Int.add_comm]
  rw [e, Int.add_mul_ediv_left _ _ (by omega)]
  have : (a' - a) / (2 * (a' - a)) = 0 := Int.ediv_eq_zero_of_lt (by omega) (by omega)
  omega
theorem segF_anti {a b a' b' s s' : Int} (h : a < a') (hb : b' ≤ b) (hs : s ≤ s') : segF a b a' b' s' ≤ segF a b a' b' s := by
  unfold segF
  refine Int.ediv_le_ediv (by omega) ?_
  have e1 : b * (a' - s) - b * (a' - s') = b * (s' - s) := by rw [← Int.mul_sub]; congr 1; omega
  have e2 : b' * (s' - a) - b' * (s - a) = b' * (s' - s) := by rw [← Int.mul_sub]; congr 1; omega
  have e3 : b' * (s' - s) ≤ b * (s' - s) := Int.mul_le_mul_of_nonneg_right hb (by omega)
  omega
theorem segF_le {a b a' b' s : Int} (h : a < a') (hb : b' ≤ b) (hs : a ≤ s) : segF a b a' b' s ≤ b := by
  have := segF_anti (s := a) (s' := s) h hb hs
  rwa [segF_left h] at this
theorem segF_ge {a b a' b' s : Int} (h : a < a') (hb : b' ≤ b) (hs : s ≤ a') : b' ≤ segF a b a' b' s := by
  have := segF_anti (s := s) (s' := a') h hb hs
  rwa [segF_right h] at this

def segL (l : List S44) (i : Nat) (s : Int) : Int := segF (rd_T44 l i).f0 (rd_T44 l i).f1 (rd_T44 l ((i : Int) + 1)).f0 (rd_T44 l ((i : Int) + 1)).f1 s
def InSeg (l : List S44) (s : Int) (i : Nat) : Prop := i + 1 < l.length ∧ (rd_T44 l i).f0 ≤ s ∧ s ≤ (rd_T44 l ((i : Int) + 1)).f0
def densGo (l : List S44) (s : Int) : Nat → Nat → Int
  | 0, _ => 0
  | d + 1, i => if s ≤ (rd_T44 l ((i : Int) + 1)).f0 then segL l i s else densGo l s d (i + 1)
def dens (l : List S44) (s : Int) : Int := densGo l s (l.length - 1) 0
theorem RightT.seg_eq {l : List S44} (h : RightT l) {s : Int} {i j : Nat} (hi : InSeg l s i) (hj : InSeg l s j) (hij : i < j) : segL l i s = segL l j s := by
  obtain ⟨i1, i2, i3⟩ := hi
  obtain ⟨j1, j2, j3⟩ := hj
  have h1 := h.le (a := i + 1) (b := j) (by omega) (by omega)
  rw [show ((i + 1 : Nat) : Int) = (i : Int) + 1 by omega] at h1
  have e : j = i + 1 := by
    rcases Nat.eq_or_lt_of_le (show i + 1 ≤ j by omega) with e | e
    · exact e.symm
    · have := h.lt e (by omega)
      rw [show ((i + 1 : Nat) : Int) = (i : Int) + 1 by omega] at this
      omega
  subst e
  rw [show ((i + 1 : Nat) : Int) = (i : Int) + 1 by omega] at j2
  have es : s = (rd_T44 l ((i : Int) + 1)).f0 := by omega
  have l1 := h.inc i i1
  have l2 := h.inc (i + 1) j1
  unfold segL
  rw [show ((i + 1 : Nat) : Int) = (i : Int) + 1 by omega] at l2 ⊢
  rw [es, segF_right l1, segF_left l2]
theorem RightT.dens_some {l : List S44} (h : RightT l) {s : Int} (h0 : 0 ≤ s) (h1 : s ≤ 10000) : ∃ i, InSeg l s i ∧ dens l s = segL l i s := by
  have key : ∀ d i, i + d + 1 = l.length → 0 < d → (rd_T44 l (i : Nat)).f0 ≤ s → ∃ j, InSeg l s j ∧ densGo l s d i = segL l j s := by
    intro d
    induction d with
    | zero => intro i _ h0; omega
    | succ d ih =>
      intro i hi _ hs
      simp only [densGo]
      by_cases h2 : s ≤ (rd_T44 l ((i : Int) + 1)).f0
      · rw [if_pos h2]
        exact ⟨i, ⟨by omega, hs, h2⟩, rfl⟩
      · rw [if_neg h2]
        rcases Nat.eq_zero_or_pos d with rfl | hd
        · have := h.last
          rw [show (l.length : Int) - 1 = (i : Int) + 1 by omega] at this
          omega
        · exact ih (i + 1) (by omega) hd (by rw [show ((i + 1 : Nat) : Int) = (i : Int) + 1 by omega]; omega)
  exact key (l.length - 1) 0 (by have := h.lo; omega) (by have := h.lo; omega) (by have := h.first; simp only [Int.ofNat_zero, Int.natCast_zero] at *; omega)
theorem RightT.seg {l : List S44} (h : RightT l) {s : Int} (h0 : 0 ≤ s) (h1 : s ≤ 10000) : ∃ i, InSeg l s i := by
  obtain ⟨i, hi, _⟩ := h.dens_some h0 h1
  exact ⟨i, hi⟩
theorem RightT.dens_seg {l : List S44} (h : RightT l) {s : Int} {i : Nat} (hi : InSeg l s i) : dens l s = segL l i s := by
  have r1 := h.rng i (by have := hi.1; omega)
  have r2 := h.rng (i + 1) hi.1
  rw [show ((i + 1 : Nat) : Int) = (i : Int) + 1 by omega] at r2
  have i2 := hi.2.1
  have i3 := hi.2.2
  obtain ⟨j, hj, e⟩ := h.dens_some (s := s) (by omega) (by omega)
  rw [e]
  rcases Nat.lt_trichotomy j i with h1 | h1 | h1
  · exact h.seg_eq hj hi h1
  · rw [h1]
  · exact (h.seg_eq hi hj h1).symm
theorem RightT.dens_row {l : List S44} (h : RightT l) {i : Nat} (hi : i < l.length) : dens l (rd_T44 l i).f0 = (rd_T44 l i).f1 := by
  by_cases h1 : i + 1 < l.length
  · have l1 := h.inc i h1
    rw [h.dens_seg (i := i) ⟨h1, Int.le_refl _, by omega⟩]
    exact segF_left l1
  · obtain ⟨j, rfl⟩ : ∃ j, i = j + 1 := ⟨i - 1, by have := h.lo; omega⟩
    have l1 := h.inc j hi
    rw [show ((j + 1 : Nat) : Int) = (j : Int) + 1 by omega] at *
    rw [h.dens_seg (i := j) ⟨hi, by omega, Int.le_refl _⟩]
    exact segF_right l1
theorem RightT.dens_anti {l : List S44} (h : RightT l) {s s' : Int} (h0 : 0 ≤ s) (hs : s ≤ s') (h1 : s' ≤ 10000) : dens l s' ≤ dens l s := by
  obtain ⟨i, hi⟩ := h.seg h0 (by omega)
  obtain ⟨j, hj⟩ := h.seg (by omega) h1
  rcases Nat.lt_trichotomy i j with hij | hij | hij
  · rw [h.dens_seg hi, h.dens_seg hj]
    have a1 := segF_ge (s := s) (h.inc i hi.1) (h.dec i hi.1) hi.2.2
    have a2 := segF_le (s := s') (h.inc j hj.1) (h.dec j hj.1) hj.2.1
    have a3 := h.ge (a := i + 1) (b := j) (by omega) (by have := hj.1; omega)
    rw [show ((i + 1 : Nat) : Int) = (i : Int) + 1 by omega] at a3
    unfold segL
    omega
  · subst hij
    rw [h.dens_seg hi, h.dens_seg hj]
    exact segF_anti (h.inc i hi.1) (h.dec i hi.1) hs
  · have a1 := h.le (a := j + 1) (b := i) (by omega) (by have := hi.1; omega)
    rw [show ((j + 1 : Nat) : Int) = (j : Int) + 1 by omega] at a1
    have e : s = s' := by have := hi.2.1; have := hj.2.2; omega
    rw [e]
    exact Int.le_refl _
theorem RightT.dens_rng {l : List S44} (h : RightT l) {s : Int} (h0 : 0 ≤ s) (h1 : s ≤ 10000) : 50000 ≤ dens l s ∧ dens l s ≤ 120000 := by
  obtain ⟨i, hi⟩ := h.seg h0 h1
  rw [h.dens_seg hi]
  have a1 := segF_ge (s := s) (h.inc i hi.1) (h.dec i hi.1) hi.2.2
  have a2 := segF_le (s := s) (h.inc i hi.1) (h.dec i hi.1) hi.2.1
  have b1 := h.rng i (by have := hi.1; omega)
  have b2 := h.rng (i + 1) hi.1
  rw [show ((i + 1 : Nat) : Int) = (i : Int) + 1 by omega] at b2
  unfold segL
  omega

-- NOT PRINTED: function 54 (api_Grade_54)

-- NOT PRINTED: function 36 (audit_Table)

end Go.Proofs.Ytcapbigknimgnaa.PF
