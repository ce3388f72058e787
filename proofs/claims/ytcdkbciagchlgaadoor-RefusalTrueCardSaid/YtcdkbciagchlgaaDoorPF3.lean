-- Written by a program of this session (wip/pr.py) out of Lean's print of the translation; Lean checks it.
import Derived.Test.YtcdkbciagchlgaaDoorPF0
import Derived.Test.YtcdkbciagchlgaaDoorPF1
import Derived.Test.YtcdkbciagchlgaaDoorPF2
namespace Go.Proofs.YtcdkbciagchlgaaDoor.PF
open Go.RowKit Go.Proofs.YtcdkbciagchlgaaDoorW.PrintWords Go.Proofs.YtcdkbciagchlgaaDoorW.PrintLast Go.Proofs.YtcdkbciagchlgaaDoorW.PrintMore
attribute [local go_sem] max2_int min2_int max_two min_two max_three min_three max_four min_four   
set_option linter.unusedVariables false
set_option linter.unusedSimpArgs false
def density_Check.l0 : Nat → List (S82) → Int → Int → Option (Int × Int)
 | 0, _, _, _ => none
 | k + 1, x0, x16, x17 => if x17 < x16 then ((density_fault.f k x0 x17).bind fun t105 => (if t105 = 0 then (density_Check.l0 k x0 x16 (wrap64 (x17 + 1))) else (some (x17, t105)))) else (if 0 < (x0.length : Int) then (if ((rd_T82 x0 0).f0) = 0 then (if 0 ≤ (wrap64 ((x0.length : Int) - 1)) then (if (wrap64 ((x0.length : Int) - 1)) < (x0.length : Int) then (if ((rd_T82 x0 (wrap64 ((x0.length : Int) - 1))).f0) = 10000 then (some ((-1), 0)) else (some (wrap64 ((x0.length : Int) - 1), 10))) else (none)) else (none)) else (some (0, 10))) else (none))
def density_Check.f (k : Nat) (l0 : List (S82)) : Option (Int × Int) := if (l0.length : Int) > 128 then (some ((-1), 8)) else (if (l0.length : Int) < 2 then (some ((-1), 9)) else (density_Check.l0 k l0 (l0.length : Int) 0))
theorem density_Check.mono_l : ∀ k, (∀ y0 y1 y2, LeO (density_Check.l0 k y0 y1 y2) (density_Check.l0 (k + 1) y0 y1 y2))
 | 0 => fun _ _ _ r h => by simp [density_Check.l0] at h
 | k + 1 => by
  have ih0 := density_Check.mono_l k
  ·intro y0 y1 y2
   unfold density_Check.l0
   repeat' first
   | (with_reducible exact ih0 _ _ _)
   | (with_reducible exact density_fault.mono _ _ _)
   | (with_reducible exact LeO.refl _)
   | (with_reducible exact LeO.none _)
   | (with_reducible refine LeO.ite ?_ ?_)
   | (with_reducible refine LeO.bind ?_ (fun _ => ?_))
   | exact ih0 _ _ _
   | exact density_fault.mono _ _ _
   | exact LeO.none _
   | refine LeO.ite ?_ ?_
   | refine LeO.bind ?_ (fun _ => ?_)
theorem density_Check.mono : ∀ a0 k, LeO (density_Check.f k a0) (density_Check.f (k + 1) a0) := by
 intro a0 k
 have ih0 := density_Check.mono_l k
 unfold density_Check.f
 repeat' first
   | (with_reducible exact ih0 _ _ _)
   | (with_reducible exact density_fault.mono _ _ _)
   | (with_reducible exact LeO.refl _)
   | (with_reducible exact LeO.none _)
   | (with_reducible refine LeO.ite ?_ ?_)
   | (with_reducible refine LeO.bind ?_ (fun _ => ?_))
   | exact ih0 _ _ _
   | exact density_fault.mono _ _ _
   | exact LeO.none _
   | refine LeO.ite ?_ ?_
   | refine LeO.bind ?_ (fun _ => ?_)
set_option maxHeartbeats 8000000 in
set_option maxRecDepth 100000 in
theorem density_Check.calls (k : Nat) (A0 : Option Addr) (c0 : Nat) (l0 : List (S82)) (r1 : Int) (r2 : Int) (w : World) (hr0 : Kd.C k82 w A0 l0.length l0) (hc0 : l0.length ≤ c0) (h : density_Check.f k l0 = some (r1, r2)) :
  Calls Tryd.prog 55 #[.slice A0 l0.length c0] w fun e w' => e = .returned (.tuple #[.int .i64 r1, .int .i64 r2]) ∧ Below w.heap.size w w' := by
 have HR0 := Aside0.mk hr0
 have HC0 := Aside0.mk hc0
 clear hr0 hc0
 have HB := Aside0.mk (Below.refl w.heap.size w)
 have H : (if (l0.length : Int) > 128 then (some ((-1), 8)) else (if (l0.length : Int) < 2 then (some ((-1), 9)) else (density_Check.l0 k l0 (l0.length : Int) 0))) = some (r1, r2) := h
 clear h
 by_cases c2 : (l0.length : Int) > 128
 ·rw [if_pos c2] at H
  have c2b0 : decide (128 < (l0.length : Int)) = true := decide_eq_true c2
  have c2b1 : decide (128 < l0.length) = true := decide_eq_true (by omega)
  clear c2
  simp only [Option.some.injEq, Prod.mk.injEq] at H
  obtain ⟨rfl, rfl⟩ := H
  go_enter Tryd.func55, Tryd.ntmps55
  go_wp2
  go_ret2
  exact ⟨fin_, bl_⟩
 ·rw [if_neg c2] at H
  have c2b0 : decide (128 < (l0.length : Int)) = false := decide_eq_false c2
  have c2b1 : decide (128 < l0.length) = false := decide_eq_false (by omega)
  clear c2
  by_cases c3 : (l0.length : Int) < 2
  ·rw [if_pos c3] at H
   have c3b0 : decide ((l0.length : Int) < 2) = true := decide_eq_true c3
   have c3b1 : decide (l0.length < 2) = true := decide_eq_true (by omega)
   clear c3
   simp only [Option.some.injEq, Prod.mk.injEq] at H
   obtain ⟨rfl, rfl⟩ := H
   go_enter Tryd.func55, Tryd.ntmps55
   go_wp2
   go_ret2
   exact ⟨fin_, bl_⟩
  ·rw [if_neg c3] at H
   have c3b0 : decide ((l0.length : Int) < 2) = false := decide_eq_false c3
   have c3b1 : decide (l0.length < 2) = false := decide_eq_false (by omega)
   clear c3
   have H' := Aside0.mk H
   clear H
   go_enter Tryd.func55, Tryd.ntmps55
   go_wp2
   go_loopg [17] k (fun kq v17 w' => ∃ (x17_1 : Int), v17 = .int .i64 x17_1 ∧ Aside0 (density_Check.l0 kq l0 (l0.length : Int) x17_1 = some (r1, r2)) ∧ Aside0 (kq ≤ k) ∧ Aside0 (Below w.heap.size w w'))
   case atStart => exact ⟨(0), sm_, H', ⟨Nat.le_refl _⟩, ⟨bl_⟩⟩
   case round =>
    clear H'
    try clear c2
    try clear c2b0
    try clear c2b1
    try clear p2
    try clear c3
    try clear c3b0
    try clear c3b1
    obtain ⟨x17_1, rfl, HA, HK1, HB⟩ := hrel
    cases gk with
    | zero => exact absurd HA.out (by simp [density_Check.l0])
    | succ k1 =>
     have H := HA.out
     clear HA
     simp only [density_Check.l0] at H
     by_cases c4 : x17_1 < (l0.length : Int)
     ·rw [if_pos c4] at H
      have c4b0 : decide (x17_1 < (l0.length : Int)) = true := decide_eq_true c4
      clear c4
      replace H := Option.bind_eq_some_iff.mp H
      obtain ⟨t105, A50, H⟩ := H
      replace H : (if t105 = 0 then (density_Check.l0 k1 l0 (l0.length : Int) (wrap64 (x17_1 + 1))) else (some (x17_1, t105))) = some (r1, r2) := H
      have A5 := Aside0.mk A50
      clear A50
      by_cases c6 : t105 = 0
      ·rw [if_pos c6] at H
       have c6b0 : (t105 == 0) = true := beq_iff_eq.mpr c6
       have c6b1 : (t105 != 0) = false := bne_eq_false_iff_eq.mpr c6
       clear c6
       have H' := Aside0.mk H
       clear H
       go_wp2_with (first | ((with_reducible refine gate_callee (f := 74) rfl ?_); refine gl_ (some 22) Tryd.func74 #[.slice A0 l0.length c0, .int .i64 x17_1] ?_; (with_reducible refine (density_fault.calls k1 _ _ l0 x17_1 t105 _ ?side1 ?side2 A5.out).mono ?_); (case side1 => exact kc_ HR0); (case side2 => exact HC0.out); rintro e w7 ⟨rfl, hb⟩; refine ⟨_, rfl, ?_⟩; have n0_ := Aside0.mk (below_step bl_ hb); clear HB; have HB := n0_; clear n0_; (try clear hb); (try clear hb2); (try clear hk); (try clear hi)))
       go_roundg k1
       case measure => have := HK1.out; omega
       case rel => exact ⟨(wrap64 (x17_1 + 1)), sm_, H', ⟨by have := HK1.out; omega⟩, ⟨bl_⟩⟩
      ·rw [if_neg c6] at H
       have c6b0 : (t105 == 0) = false := beq_eq_false_iff_ne.mpr c6
       have c6b1 : (t105 != 0) = true := bne_iff_ne.mpr c6
       simp only [Option.some.injEq, Prod.mk.injEq] at H
       obtain ⟨rfl, rfl⟩ := H
       go_wp2_with (first | ((with_reducible refine gate_callee (f := 74) rfl ?_); refine gl_ (some 22) Tryd.func74 #[.slice A0 l0.length c0, .int .i64 x17_1] ?_; (with_reducible refine (density_fault.calls k1 _ _ l0 x17_1 t105 _ ?side1 ?side2 A5.out).mono ?_); (case side1 => exact kc_ HR0); (case side2 => exact HC0.out); rintro e w8 ⟨rfl, hb⟩; refine ⟨_, rfl, ?_⟩; have n0_ := Aside0.mk (below_step bl_ hb); clear HB; have HB := n0_; clear n0_; (try clear hb); (try clear hb2); (try clear hk); (try clear hi)))
       go_ret2
       exact ⟨fin_, bl_⟩
     ·rw [if_neg c4] at H
      have c4b0 : decide (x17_1 < (l0.length : Int)) = false := decide_eq_false c4
      clear c4
      by_cases c9 : 0 < (l0.length : Int)
      ·rw [if_pos c9] at H
       have c9b0 : decide (0 < (l0.length : Int)) = true := decide_eq_true c9
       have c9b1 : decide (0 < l0.length) = true := decide_eq_true (by omega)
       clear c9
       by_cases c10 : ((rd_T82 l0 0).f0) = 0
       ·rw [if_pos c10] at H
        have c10b0 : (((rd_T82 l0 0).f0) == 0) = true := beq_iff_eq.mpr c10
        have c10b1 : (((rd_T82 l0 0).f0) != 0) = false := bne_eq_false_iff_eq.mpr c10
        clear c10
        obtain ⟨ji11, hji11⟩ : ∃ j_ : Int, (wrap64 ((l0.length : Int) - 1)) = j_ := ⟨_, rfl⟩
        replace H : (if 0 ≤ (ji11) then (if (ji11) < (l0.length : Int) then (if ((rd_T82 l0 (ji11)).f0) = 10000 then (some ((-1), 0)) else (some (ji11, 10))) else (none)) else (none)) = some (r1, r2) := by first | (rw [hji11] at H; exact H) | (simp only [hji11] at H ⊢; exact H)
        have hji11w : (IntKind.i64.wrap ((l0.length : Int) - 1)) = ji11 := (i64_w _).trans hji11
        by_cases c12 : 0 ≤ (ji11)
        ·rw [if_pos c12] at H
         have c12b0 : decide (0 ≤ (ji11)) = true := decide_eq_true c12
         clear c12
         by_cases c13 : (ji11) < (l0.length : Int)
         ·rw [if_pos c13] at H
          have c13b0 : decide ((ji11) < (l0.length : Int)) = true := decide_eq_true c13
          clear c13
          by_cases c14 : ((rd_T82 l0 (ji11)).f0) = 10000
          ·rw [if_pos c14] at H
           have c14b0 : (((rd_T82 l0 (ji11)).f0) == 10000) = true := beq_iff_eq.mpr c14
           have c14b1 : (((rd_T82 l0 (ji11)).f0) != 10000) = false := bne_eq_false_iff_eq.mpr c14
           clear c14
           simp only [Option.some.injEq, Prod.mk.injEq] at H
           obtain ⟨rfl, rfl⟩ := H
           have p106 : 0 ≤ (0 : Int) := (by omega)
           have q106 : 0 < (l0.length : Int) := of_decide_eq_true as_
           obtain ⟨ad106, e106, hx106_0, hx106_1⟩ := at_T82 HR0.out 0 p106 q106
           cases e106
           have qi106 : (0 < l0.length) = True := eq_true (by omega)
           (try rw [show ((0 : Int)).toNat = 0 from rfl] at hx106_0)
           (try rw [show 0 * 2 = 0 from rfl] at hx106_0)
           (try rw [Addr.add_zero'] at hx106_0)
           (try rw [show ((0 : Int)).toNat = 0 from rfl] at hx106_1)
           (try rw [show 0 * 2 = 0 from rfl] at hx106_1)
           (try rw [Addr.add_zero'] at hx106_1)
           replace hx106_0 := (HB.out.cell (World.block_lt_of_cell? w _ hx106_0)).trans hx106_0
           replace hx106_1 := (HB.out.cell (World.block_lt_of_cell? w _ hx106_1)).trans hx106_1
           replace p106 := eq_true p106
           replace q106 := eq_true q106
           have p107 : 0 ≤ ((ji11) : Int) := of_decide_eq_true as_
           have q107 : (ji11) < (l0.length : Int) := of_decide_eq_true as_
           obtain ⟨ad107, e107, hx107_0, hx107_1⟩ := at_T82 HR0.out (ji11) p107 q107
           obtain rfl : ad106 = ad107 := (by injection e107)
           replace hx107_0 := (HB.out.cell (World.block_lt_of_cell? w _ hx107_0)).trans hx107_0
           replace hx107_1 := (HB.out.cell (World.block_lt_of_cell? w _ hx107_1)).trans hx107_1
           replace p107 := eq_true p107
           replace q107 := eq_true q107
           go_wp2
           go_ret2
           exact ⟨by first | rfl | (simp [errW_none, errW_some] <;> rfl) | (simp only [← hji11]; first | rfl | (simp [errW_none, errW_some] <;> rfl)) | (simp [*, errW_none, errW_some] <;> rfl), bl_⟩
          ·rw [if_neg c14] at H
           have c14b0 : (((rd_T82 l0 (ji11)).f0) == 10000) = false := beq_eq_false_iff_ne.mpr c14
           have c14b1 : (((rd_T82 l0 (ji11)).f0) != 10000) = true := bne_iff_ne.mpr c14
           simp only [Option.some.injEq, Prod.mk.injEq] at H
           obtain ⟨rfl, rfl⟩ := H
           have p106 : 0 ≤ (0 : Int) := (by omega)
           have q106 : 0 < (l0.length : Int) := of_decide_eq_true as_
           obtain ⟨ad106, e106, hx106_0, hx106_1⟩ := at_T82 HR0.out 0 p106 q106
           cases e106
           have qi106 : (0 < l0.length) = True := eq_true (by omega)
           (try rw [show ((0 : Int)).toNat = 0 from rfl] at hx106_0)
           (try rw [show 0 * 2 = 0 from rfl] at hx106_0)
           (try rw [Addr.add_zero'] at hx106_0)
           (try rw [show ((0 : Int)).toNat = 0 from rfl] at hx106_1)
           (try rw [show 0 * 2 = 0 from rfl] at hx106_1)
           (try rw [Addr.add_zero'] at hx106_1)
           replace hx106_0 := (HB.out.cell (World.block_lt_of_cell? w _ hx106_0)).trans hx106_0
           replace hx106_1 := (HB.out.cell (World.block_lt_of_cell? w _ hx106_1)).trans hx106_1
           replace p106 := eq_true p106
           replace q106 := eq_true q106
           have p107 : 0 ≤ ((ji11) : Int) := of_decide_eq_true as_
           have q107 : (ji11) < (l0.length : Int) := of_decide_eq_true as_
           obtain ⟨ad107, e107, hx107_0, hx107_1⟩ := at_T82 HR0.out (ji11) p107 q107
           obtain rfl : ad106 = ad107 := (by injection e107)
           replace hx107_0 := (HB.out.cell (World.block_lt_of_cell? w _ hx107_0)).trans hx107_0
           replace hx107_1 := (HB.out.cell (World.block_lt_of_cell? w _ hx107_1)).trans hx107_1
           replace p107 := eq_true p107
           replace q107 := eq_true q107
           go_wp2
           go_ret2
           exact ⟨by first | rfl | (simp [errW_none, errW_some] <;> rfl) | (simp only [← hji11]; first | rfl | (simp [errW_none, errW_some] <;> rfl)) | (simp [*, errW_none, errW_some] <;> rfl), bl_⟩
         ·rw [if_neg c13] at H
          exact absurd H (by simp)
        ·rw [if_neg c12] at H
         exact absurd H (by simp)
       ·rw [if_neg c10] at H
        have c10b0 : (((rd_T82 l0 0).f0) == 0) = false := beq_eq_false_iff_ne.mpr c10
        have c10b1 : (((rd_T82 l0 0).f0) != 0) = true := bne_iff_ne.mpr c10
        simp only [Option.some.injEq, Prod.mk.injEq] at H
        obtain ⟨rfl, rfl⟩ := H
        have p106 : 0 ≤ (0 : Int) := (by omega)
        have q106 : 0 < (l0.length : Int) := of_decide_eq_true as_
        obtain ⟨ad106, e106, hx106_0, hx106_1⟩ := at_T82 HR0.out 0 p106 q106
        cases e106
        have qi106 : (0 < l0.length) = True := eq_true (by omega)
        (try rw [show ((0 : Int)).toNat = 0 from rfl] at hx106_0)
        (try rw [show 0 * 2 = 0 from rfl] at hx106_0)
        (try rw [Addr.add_zero'] at hx106_0)
        (try rw [show ((0 : Int)).toNat = 0 from rfl] at hx106_1)
        (try rw [show 0 * 2 = 0 from rfl] at hx106_1)
        (try rw [Addr.add_zero'] at hx106_1)
        replace hx106_0 := (HB.out.cell (World.block_lt_of_cell? w _ hx106_0)).trans hx106_0
        replace hx106_1 := (HB.out.cell (World.block_lt_of_cell? w _ hx106_1)).trans hx106_1
        replace p106 := eq_true p106
        replace q106 := eq_true q106
        go_wp2
        go_ret2
        exact ⟨fin_, bl_⟩
      ·rw [if_neg c9] at H
       exact absurd H (by simp)
def dfault (l : List S82) (i : Nat) : Int :=
  if (rd_T82 l i).f0 < 0 ∨ (rd_T82 l i).f0 > 10000 ∨ (rd_T82 l i).f1 < 50000 ∨ (rd_T82 l i).f1 > 120000 then 2
  else if 0 < i ∧ (rd_T82 l i).f0 ≤ (rd_T82 l ((i : Int) - 1)).f0 then 5
  else if 0 < i ∧ (rd_T82 l i).f1 > (rd_T82 l ((i : Int) - 1)).f1 then 18
  else 0
def dtail (l : List S82) : Int × Int :=
  if (rd_T82 l 0).f0 = 0 then (if (rd_T82 l ((l.length : Int) - 1)).f0 = 10000 then (-1, 0) else ((l.length : Int) - 1, 10)) else (0, 10)
def dfrom (l : List S82) : Nat → Nat → Int × Int
  | 0, _ => dtail l
  | d + 1, i => if dfault l i = 0 then dfrom l d (i + 1) else ((i : Int), dfault l i)
def dchk (l : List S82) : Int × Int := if 128 < l.length then (-1, 8) else if l.length < 2 then (-1, 9) else dfrom l l.length 0
theorem density_fault.plain (l : List S82) (i : Nat) (h : i < l.length) (hl : l.length ≤ 128) (k : Nat) : density_fault.f (k + 2) l i = some (dfault l i) := by
  have e1 : wrap64 ((i : Int) - 1) = (i : Int) - 1 := w64_ (by omega) (by omega)
  have c0 : (0 : Int) ≤ i := by omega
  have c1 : (i : Int) < (l.length : Int) := by omega
  simp only [density_fault.f, density_fault.j0, density_fault.j1, if_pos c0, if_pos c1, e1, dfault]
  have c3 : (i : Int) - 1 < (l.length : Int) := by omega
  have c5 : ((0 : Int) < (i : Int)) ↔ 0 < i := by omega
  generalize (rd_T82 l i).f0 = a
  generalize (rd_T82 l i).f1 = b
  generalize (rd_T82 l ((i : Int) - 1)).f0 = a'
  generalize (rd_T82 l ((i : Int) - 1)).f1 = b'
  by_cases h0 : a < 0
  · simp [h0]
  by_cases h1 : a > 10000
  · simp [h0, h1]
  by_cases h2 : b < 50000
  · simp [h0, h1, h2]
  by_cases h3 : b > 120000
  · simp [h0, h1, h2, h3]
  by_cases h4 : 0 < i
  · have c2 : (0 : Int) ≤ (i : Int) - 1 := by omega
    have c4 : (i : Int) > 0 := by omega
    by_cases h5 : a ≤ a'
    · simp [h0, h1, h2, h3, h4, h5, c2, c3, c4]; omega
    by_cases h6 : b > b'
    · simp [h0, h1, h2, h3, h4, h5, h6, c2, c3, c4]; omega
    · simp [h0, h1, h2, h3, h4, h5, h6, c2, c3, c4]; omega
  · have c4 : ¬ ((i : Int) > 0) := by omega
    simp [h0, h1, h2, h3, h4, c4]
theorem density_Check.tail_plain (l : List S82) (h2 : 2 ≤ l.length) (hl : l.length ≤ 128) :
    (if 0 < (l.length : Int) then (if ((rd_T82 l 0).f0) = 0 then (if 0 ≤ (wrap64 ((l.length : Int) - 1)) then (if (wrap64 ((l.length : Int) - 1)) < (l.length : Int) then (if ((rd_T82 l (wrap64 ((l.length : Int) - 1))).f0) = 10000 then (some ((-1 : Int), (0 : Int))) else (some (wrap64 ((l.length : Int) - 1), 10))) else (none)) else (none)) else (some (0, 10))) else (none)) = some (dtail l) := by
  have e1 : wrap64 ((l.length : Int) - 1) = (l.length : Int) - 1 := w64_ (by omega) (by omega)
  rw [e1, if_pos (by omega), if_pos (show (0 : Int) ≤ (l.length : Int) - 1 by omega), if_pos (show (l.length : Int) - 1 < (l.length : Int) by omega)]
  unfold dtail
  split
  · split <;> rfl
  · rfl
theorem density_Check.loop_plain (l : List S82) (h2 : 2 ≤ l.length) (hl : l.length ≤ 128) (d : Nat) : ∀ (i k : Nat), i + d = l.length → d + 3 ≤ k → density_Check.l0 k l (l.length : Int) i = some (dfrom l d i) := by
  induction d with
  | zero =>
    intro i k hi hk
    obtain ⟨k, rfl⟩ : ∃ m, k = m + 1 := ⟨k - 1, by omega⟩
    simp only [density_Check.l0]
    rw [if_neg (by omega), density_Check.tail_plain l h2 hl]
    rfl
  | succ d ih =>
    intro i k hi hk
    obtain ⟨k, rfl⟩ : ∃ m, k = m + 1 := ⟨k - 1, by omega⟩
    simp only [density_Check.l0]
    obtain ⟨q, rfl⟩ : ∃ q, k = q + 2 := ⟨k - 2, by omega⟩
    rw [if_pos (by omega), density_fault.plain l i (by omega) hl]
    simp only [Option.bind_some, dfrom]
    have e1 : wrap64 ((i : Int) + 1) = ((i + 1 : Nat) : Int) := by rw [w64_ (by omega) (by omega)]; omega
    split
    · rw [e1]; exact ih (i + 1) (q + 2) (by omega) (by omega)
    · rfl
theorem density_Check.plain (l : List S82) : density_Check.f 200 l = some (dchk l) := by
  unfold density_Check.f dchk
  by_cases h1 : 128 < l.length
  · rw [if_pos (by omega), if_pos h1]
  · rw [if_neg (by omega), if_neg h1]
    by_cases h2 : l.length < 2
    · rw [if_pos (by omega), if_pos h2]
    · rw [if_neg (by omega), if_neg h2]
      exact density_Check.loop_plain l (by omega) (by omega) l.length 0 200 (by omega) (by omega)
def density_Check_s.f (l0 : List S82) : Option (Int × Int) := some (dchk l0)
theorem density_Check_s.calls (A0 : Option Addr) (c0 : Nat) (l0 : List S82) (r1 r2 : Int) (w : World) (hr0 : Kd.C k82 w A0 l0.length l0) (hc0 : l0.length ≤ c0) (h : density_Check_s.f l0 = some (r1, r2)) :
    Calls Tryd.prog 55 #[.slice A0 l0.length c0] w fun e w' => e = .returned (.tuple #[.int .i64 r1, .int .i64 r2]) ∧ Below w.heap.size w w' :=
  density_Check.calls 200 A0 c0 l0 r1 r2 w hr0 hc0 ((density_Check.plain l0).trans h)
structure RightT (l : List S82) : Prop where
  lo : 2 ≤ l.length
  hi : l.length ≤ 128
  rng : ∀ i : Nat, i < l.length → 0 ≤ (rd_T82 l i).f0 ∧ (rd_T82 l i).f0 ≤ 10000 ∧ 50000 ≤ (rd_T82 l i).f1 ∧ (rd_T82 l i).f1 ≤ 120000
  inc : ∀ i : Nat, i + 1 < l.length → (rd_T82 l i).f0 < (rd_T82 l ((i : Int) + 1)).f0
  dec : ∀ i : Nat, i + 1 < l.length → (rd_T82 l ((i : Int) + 1)).f1 ≤ (rd_T82 l i).f1
  first : (rd_T82 l 0).f0 = 0
  last : (rd_T82 l ((l.length : Int) - 1)).f0 = 10000
theorem dfault_zero (l : List S82) (i : Nat) : dfault l i = 0 ↔
    (0 ≤ (rd_T82 l i).f0 ∧ (rd_T82 l i).f0 ≤ 10000 ∧ 50000 ≤ (rd_T82 l i).f1 ∧ (rd_T82 l i).f1 ≤ 120000) ∧
    (0 < i → (rd_T82 l ((i : Int) - 1)).f0 < (rd_T82 l i).f0 ∧ (rd_T82 l i).f1 ≤ (rd_T82 l ((i : Int) - 1)).f1) := by
  unfold dfault
  generalize (rd_T82 l i).f0 = a
  generalize (rd_T82 l i).f1 = b
  generalize (rd_T82 l ((i : Int) - 1)).f0 = a'
  generalize (rd_T82 l ((i : Int) - 1)).f1 = b'
  split
  · constructor
    · intro h; exact absurd h (by decide)
    · rintro ⟨h, _⟩; omega
  split
  · constructor
    · intro h; exact absurd h (by decide)
    · rintro ⟨_, h⟩; omega
  split
  · constructor
    · intro h; exact absurd h (by decide)
    · rintro ⟨_, h⟩; omega
  · constructor
    · intro _; omega
    · intro _; rfl
theorem dfrom_zero (l : List S82) (d : Nat) : ∀ i, (dfrom l d i).2 = 0 ↔ (∀ j, i ≤ j → j < i + d → dfault l j = 0) ∧ (dtail l).2 = 0 := by
  induction d with
  | zero => intro i; simp only [dfrom]; exact ⟨fun h => ⟨fun j h1 h2 => by omega, h⟩, fun h => h.2⟩
  | succ d ih =>
    intro i
    simp only [dfrom]
    by_cases h : dfault l i = 0
    · rw [if_pos h, ih (i + 1)]
      constructor
      · rintro ⟨h1, h2⟩
        refine ⟨fun j h3 h4 => ?_, h2⟩
        rcases Nat.eq_or_lt_of_le h3 with rfl | h5
        · exact h
        · exact h1 j (by omega) (by omega)
      · rintro ⟨h1, h2⟩
        exact ⟨fun j h3 h4 => h1 j (by omega) (by omega), h2⟩
    · rw [if_neg h]
      constructor
      · intro h1; exact absurd h1 h
      · rintro ⟨h1, _⟩; exact absurd (h1 i (Nat.le_refl _) (by omega)) h
theorem dtail_zero (l : List S82) : (dtail l).2 = 0 ↔ (rd_T82 l 0).f0 = 0 ∧ (rd_T82 l ((l.length : Int) - 1)).f0 = 10000 := by
  unfold dtail
  split
  · split <;> simp_all
  · simp_all
theorem right_iff (l : List S82) : (dchk l).2 = 0 ↔ RightT l := by
  unfold dchk
  by_cases h1 : 128 < l.length
  · rw [if_pos h1]
    exact ⟨fun h => absurd h (by decide), fun h => absurd h.hi (by omega)⟩
  rw [if_neg h1]
  by_cases h2 : l.length < 2
  · rw [if_pos h2]
    exact ⟨fun h => absurd h (by decide), fun h => absurd h.lo (by omega)⟩
  rw [if_neg h2, dfrom_zero, dtail_zero]
  constructor
  · rintro ⟨h, h3, h4⟩
    refine ⟨by omega, by omega, fun i hi => ((dfault_zero l i).1 (h i (Nat.zero_le _) (by omega))).1, fun i hi => ?_, fun i hi => ?_, h3, h4⟩
    · have := (((dfault_zero l (i + 1)).1 (h (i + 1) (Nat.zero_le _) (by omega))).2 (by omega)).1
      rw [show ((i + 1 : Nat) : Int) - 1 = (i : Int) by omega, show ((i + 1 : Nat) : Int) = (i : Int) + 1 by omega] at this
      exact this
    · have := (((dfault_zero l (i + 1)).1 (h (i + 1) (Nat.zero_le _) (by omega))).2 (by omega)).2
      rw [show ((i + 1 : Nat) : Int) - 1 = (i : Int) by omega, show ((i + 1 : Nat) : Int) = (i : Int) + 1 by omega] at this
      exact this
  · intro h
    refine ⟨fun j _ hj => (dfault_zero l j).2 ⟨h.rng j (by omega), fun h0 => ?_⟩, h.first, h.last⟩
    obtain ⟨i, rfl⟩ : ∃ i, j = i + 1 := ⟨j - 1, by omega⟩
    rw [show ((i + 1 : Nat) : Int) - 1 = (i : Int) by omega, show ((i + 1 : Nat) : Int) = (i : Int) + 1 by omega]
    exact ⟨h.inc i (by omega), h.dec i (by omega)⟩
section
variable {l : List S82}
theorem RightT.lt (h : RightT l) {a b : Nat} (hab : a < b) (hb : b < l.length) : (rd_T82 l a).f0 < (rd_T82 l b).f0 := by
  induction b with
  | zero => omega
  | succ b ih =>
    have h1 := h.inc b hb
    rw [show ((b + 1 : Nat) : Int) = (b : Int) + 1 by omega]
    rcases Nat.lt_or_ge a b with h2 | h2
    · have := ih h2 (by omega); omega
    · obtain rfl : a = b := by omega
      exact h1
theorem RightT.le (h : RightT l) {a b : Nat} (hab : a ≤ b) (hb : b < l.length) : (rd_T82 l a).f0 ≤ (rd_T82 l b).f0 := by
  rcases Nat.eq_or_lt_of_le hab with rfl | h1
  · exact Int.le_refl _
  · exact Int.le_of_lt (h.lt h1 hb)
end
def segF (a b a' b' s : Int) : Int := (2 * (b * (a' - s) + b' * (s - a)) + (a' - a)) / (2 * (a' - a))
theorem segF_left {a b a' b' : Int} (h : a < a') : segF a b a' b' a = b := by
  unfold segF
  rw [Int.sub_self, Int.mul_zero, Int.add_zero]
  have e : 2 * (b * (a' - a)) + (a' - a) = (a' - a) + (2 * (a' - a)) * b := by rw [Int.mul_comm b, ← Int.mul_assoc, Int.add_comm]
  rw [e, Int.add_mul_ediv_left _ _ (by omega)]
  have : (a' - a) / (2 * (a' - a)) = 0 := Int.ediv_eq_zero_of_lt (by omega) (by omega)
  omega
theorem segF_right {a b a' b' : Int} (h : a < a') : segF a b a' b' a' = b' := by
  unfold segF
  rw [Int.sub_self, Int.mul_zero, Int.zero_add]
  have e : 2 * (b' * (a' - a)) + (a' - a) = (a' - a) + (2 * (a' - a)) * b' := by rw [Int.mul_comm b', ← Int.mul_assoc, Int.add_comm]
  rw [e, Int.add_mul_ediv_left _ _ (by omega)]
  have : (a' - a) / (2 * (a' - a)) = 0 := Int.ediv_eq_zero_of_lt (by omega) (by omega)
  omega
theorem segF_anti {a b a' b' s s' : Int} (h : a < a') (hb : b' ≤ b) (hs : s ≤ s') : segF a b a' b' s' ≤ segF a b a' b' s := by
  unfold segF
  refine Int.ediv_le_ediv (by omega) ?_
  have e1 : b * (a' - s) - b * (a' - s') = b * (s' - s) := by rw [← Int.mul_sub]; congr 1; omega
  have e2 : b' * (s' - a) - b' * (s - a) = b' * (s' - s) := by rw [← Int.mul_sub]; congr 1; omega
  have e3 : b' * (s' - s) ≤ b * (s' - s) := Int.mul_le_mul_of_nonneg_right hb (by omega)
  omega
theorem segF_le {a b a' b' s : Int} (h : a < a') (hb : b' ≤ b) (hs : a ≤ s) : segF a b a' b' s ≤ b := by
  have := segF_anti (s := a) (s' := s) h hb hs
  rwa [segF_left h] at this
theorem segF_ge {a b a' b' s : Int} (h : a < a') (hb : b' ≤ b) (hs : s ≤ a') : b' ≤ segF a b a' b' s := by
  have := segF_anti (s := s) (s' := a') h hb hs
  rwa [segF_right h] at this
def segL (l : List S82) (i : Nat) (s : Int) : Int := segF (rd_T82 l i).f0 (rd_T82 l i).f1 (rd_T82 l ((i : Int) + 1)).f0 (rd_T82 l ((i : Int) + 1)).f1 s
def InSeg (l : List S82) (s : Int) (i : Nat) : Prop := i + 1 < l.length ∧ (rd_T82 l i).f0 ≤ s ∧ s ≤ (rd_T82 l ((i : Int) + 1)).f0
def densGo (l : List S82) (s : Int) : Nat → Nat → Int
  | 0, _ => 0
  | d + 1, i => if s ≤ (rd_T82 l ((i : Int) + 1)).f0 then segL l i s else densGo l s d (i + 1)
def dens (l : List S82) (s : Int) : Int := densGo l s (l.length - 1) 0
theorem RightT.seg_eq {l : List S82} (h : RightT l) {s : Int} {i j : Nat} (hi : InSeg l s i) (hj : InSeg l s j) (hij : i < j) : segL l i s = segL l j s := by
  obtain ⟨i1, i2, i3⟩ := hi
  obtain ⟨j1, j2, j3⟩ := hj
  have h1 := h.le (a := i + 1) (b := j) (by omega) (by omega)
  rw [show ((i + 1 : Nat) : Int) = (i : Int) + 1 by omega] at h1
  have e : j = i + 1 := by
    rcases Nat.eq_or_lt_of_le (show i + 1 ≤ j by omega) with e | e
    · exact e.symm
    · have := h.lt e (by omega)
      rw [show ((i + 1 : Nat) : Int) = (i : Int) + 1 by omega] at this
      omega
  subst e
  rw [show ((i + 1 : Nat) : Int) = (i : Int) + 1 by omega] at j2
  have es : s = (rd_T82 l ((i : Int) + 1)).f0 := by omega
  have l1 := h.inc i i1
  have l2 := h.inc (i + 1) j1
  unfold segL
  rw [show ((i + 1 : Nat) : Int) = (i : Int) + 1 by omega] at l2 ⊢
  rw [es, segF_right l1, segF_left l2]
theorem RightT.dens_some {l : List S82} (h : RightT l) {s : Int} (h0 : 0 ≤ s) (h1 : s ≤ 10000) : ∃ i, InSeg l s i ∧ dens l s = segL l i s := by
  have key : ∀ d i, i + d + 1 = l.length → 0 < d → (rd_T82 l (i : Nat)).f0 ≤ s → ∃ j, InSeg l s j ∧ densGo l s d i = segL l j s := by
    intro d
    induction d with
    | zero => intro i _ h0; omega
    | succ d ih =>
      intro i hi _ hs
      simp only [densGo]
      by_cases h2 : s ≤ (rd_T82 l ((i : Int) + 1)).f0
      · rw [if_pos h2]
        exact ⟨i, ⟨by omega, hs, h2⟩, rfl⟩
      · rw [if_neg h2]
        rcases Nat.eq_zero_or_pos d with rfl | hd
        · have := h.last
          rw [show (l.length : Int) - 1 = (i : Int) + 1 by omega] at this
          omega
        · exact ih (i + 1) (by omega) hd (by rw [show ((i + 1 : Nat) : Int) = (i : Int) + 1 by omega]; omega)
  exact key (l.length - 1) 0 (by have := h.lo; omega) (by have := h.lo; omega) (by have := h.first; simp only [Int.ofNat_zero, Int.natCast_zero] at *; omega)
theorem RightT.seg {l : List S82} (h : RightT l) {s : Int} (h0 : 0 ≤ s) (h1 : s ≤ 10000) : ∃ i, InSeg l s i := by
  obtain ⟨i, hi, _⟩ := h.dens_some h0 h1
  exact ⟨i, hi⟩
theorem RightT.dens_seg {l : List S82} (h : RightT l) {s : Int} {i : Nat} (hi : InSeg l s i) : dens l s = segL l i s := by
  have r1 := h.rng i (by have := hi.1; omega)
  have r2 := h.rng (i + 1) hi.1
  rw [show ((i + 1 : Nat) : Int) = (i : Int) + 1 by omega] at r2
  have i2 := hi.2.1
  have i3 := hi.2.2
  obtain ⟨j, hj, e⟩ := h.dens_some (s := s) (by omega) (by omega)
  rw [e]
  rcases Nat.lt_trichotomy j i with h1 | h1 | h1
  · exact h.seg_eq hj hi h1
  · rw [h1]
  · exact (h.seg_eq hi hj h1).symm
theorem RightT.dens_row {l : List S82} (h : RightT l) {i : Nat} (hi : i < l.length) : dens l (rd_T82 l i).f0 = (rd_T82 l i).f1 := by
  by_cases h1 : i + 1 < l.length
  · have l1 := h.inc i h1
    rw [h.dens_seg (i := i) ⟨h1, Int.le_refl _, by omega⟩]
    exact segF_left l1
  · obtain ⟨j, rfl⟩ : ∃ j, i = j + 1 := ⟨i - 1, by have := h.lo; omega⟩
    have l1 := h.inc j hi
    rw [show ((j + 1 : Nat) : Int) = (j : Int) + 1 by omega] at *
    rw [h.dens_seg (i := j) ⟨hi, by omega, Int.le_refl _⟩]
    exact segF_right l1
theorem RightT.dens_rng {l : List S82} (h : RightT l) {s : Int} (h0 : 0 ≤ s) (h1 : s ≤ 10000) : 50000 ≤ dens l s ∧ dens l s ≤ 120000 := by
  obtain ⟨i, hi⟩ := h.seg h0 h1
  rw [h.dens_seg hi]
  have a1 := segF_ge (s := s) (h.inc i hi.1) (h.dec i hi.1) hi.2.2
  have a2 := segF_le (s := s) (h.inc i hi.1) (h.dec i hi.1) hi.2.1
  have b1 := h.rng i (by have := hi.1; omega)
  have b2 := h.rng (i + 1) hi.1
  rw [show ((i + 1 : Nat) : Int) = (i : Int) + 1 by omega] at b2
  unfold segL
  omega
def interpolate_right.f (l0 : List (S82)) : Option (Bool) := (density_Check_s.f l0).bind fun bt108 => (some (bt108.2 == 0))
set_option maxHeartbeats 8000000 in
set_option maxRecDepth 100000 in
theorem interpolate_right.calls (A0 : Option Addr) (c0 : Nat) (l0 : List (S82)) (r : Bool) (w : World) (hr0 : Kd.C k82 w A0 l0.length l0) (hc0 : l0.length ≤ c0) (h : interpolate_right.f l0 = some r) :
  Calls Tryd.prog 79 #[.slice A0 l0.length c0] w fun e w' => e = .returned (.bool r) ∧ Below w.heap.size w w' := by
 have HR0 := Aside0.mk hr0
 have HC0 := Aside0.mk hc0
 clear hr0 hc0
 have HB := Aside0.mk (Below.refl w.heap.size w)
 have H : ((density_Check_s.f l0).bind fun bt108 => (some (bt108.2 == 0))) = some r := h
 clear h
 replace H := Option.bind_eq_some_iff.mp H
 obtain ⟨⟨t108, t109⟩, A20, H⟩ := H
 replace H : (some (t109 == 0)) = some r := H
 have A2 := Aside0.mk A20
 clear A20
 obtain rfl := Option.some.inj H
 go_enter Tryd.func79, Tryd.ntmps79
 go_wp2_with (first | ((with_reducible refine gate_callee (f := 55) rfl ?_); refine gl_ (some 7) Tryd.func55 #[.slice A0 l0.length c0] ?_; (with_reducible refine (density_Check_s.calls _ _ l0 t108 t109 _ ?side1 ?side2 A2.out).mono ?_); (case side1 => repeat (first | exact HR0.out | (with_reducible refine Kd.C_alloc ?_ _) | (with_reducible refine Kd.C_drewN ?_ _) | (with_reducible refine Kd.C_drew ?_))); (case side2 => exact HC0.out); rintro e w3 ⟨rfl, hb⟩; refine ⟨_, rfl, ?_⟩; have n0_ := Aside0.mk (below_step bl_ hb); clear HB; have HB := n0_; clear n0_; (try clear hb); (try clear hb2); (try clear hk); (try clear hi)))
 go_ret
 exact ⟨fin_, bl_⟩
set_option maxHeartbeats 4000000 in
set_option maxRecDepth 1000000 in
theorem sort_Search.below (g : Nat) (cb : Array Value) (n : Nat) (p : Nat → Bool) (w : World) (eg : ∀ args w, (callFunc g args).run Tryd.prog w = .ok (.enter g args) w) (hsz : n < 4611686018427387904)
    (hf : ∀ (W : World) (i : Nat), i < n → Below w.heap.size w W → Calls Tryd.prog g (#[.int .i64 i] ++ cb) W fun e w' => e = .returned (.bool (p i)) ∧ Below W.heap.size W w')
    (hmono : ∀ a b, a ≤ b → b < n → p a = true → p b = true) :
    Calls Tryd.prog 44 #[.int .i64 n, .func (.func g) #[] cb] w fun e w' => e = .returned (.int .i64 ((List.range n).countP (fun i => !p i) : Nat)) ∧ Below w.heap.size w w' := by
  have HF : Aside _ := hf
  have M : Aside _ := hmono
  clear hf hmono
  generalize hcnt : (List.range n).countP (fun i => !p i) = cnt
  have CN : Aside ((List.range n).countP (fun i => !p i) = cnt) := hcnt
  clear hcnt
  go_enter Tryd.func44, Tryd.ntmps44
  go_wp2
  go_loopg [5, 6] n (fun kx s5 s6 wr => ∃ (lo hi : Nat), s5 = .int .i64 lo ∧ s6 = .int .i64 hi ∧ lo ≤ hi ∧ hi ≤ n ∧ hi - lo ≤ kx ∧ Aside (Below w.heap.size w wr) ∧
    Aside ((∀ t, t < lo → p t = false) ∧ (∀ t, hi ≤ t → t < n → p t = true)))
  case atStart => exact ⟨0, n, rfl, rfl, Nat.zero_le _, Nat.le_refl _, by omega, Below.refl _ _, (⟨fun t ht => absurd ht (Nat.not_lt_zero _), fun t h1 h2 => by omega⟩ : (∀ t, t < 0 → p t = false) ∧ (∀ t, n ≤ t → t < n → p t = true))⟩
  case round =>
    obtain ⟨lo, hi, rfl, rfl, hlh, hin, hg, HB, I⟩ := hrel
    by_cases hlt : lo < hi
    · have hc := HF.out _ ((lo + hi) / 2) (by omega) HB.out
      rw [show (((lo + hi) / 2 : Nat) : Int) = ((lo : Int) + (hi : Int)) / 2 by omega] at hc
      cases hp : p ((lo + hi) / 2) <;> rw [hp] at hc
      · have HP : Aside (p ((lo + hi) / 2) = false) := hp
        clear hp
        go_wp2_with (refine hc.mono ?_; rintro e w' ⟨rfl, hb2⟩)
        have HB2 : Aside (Below w.heap.size w w') := below_then HB.out HB.out.size hb2
        go_roundg (hi - ((lo + hi) / 2 + 1))
        case measure => omega
        case rel =>
          have I2 : Aside ((∀ t, t < (lo + hi) / 2 + 1 → p t = false) ∧ (∀ t, hi ≤ t → t < n → p t = true)) := ⟨fun t ht => (by
            cases h : p t with
            | false => rfl
            | true => have := M.out t ((lo + hi) / 2) (by omega) (by omega) h; rw [HP.out] at this; cases this), I.out.2⟩
          exact ⟨(lo + hi) / 2 + 1, hi, by rw [show ((lo : Int) + (hi : Int)) / 2 + 1 = (((lo + hi) / 2 + 1 : Nat) : Int) by omega], rfl, by omega, hin, Nat.le_refl _, HB2, I2⟩
      · have HP : Aside (p ((lo + hi) / 2) = true) := hp
        clear hp
        go_wp2_with (refine hc.mono ?_; rintro e w' ⟨rfl, hb2⟩)
        have HB2 : Aside (Below w.heap.size w w') := below_then HB.out HB.out.size hb2
        go_roundg ((lo + hi) / 2 - lo)
        case measure => omega
        case rel =>
          have I2 : Aside ((∀ t, t < lo → p t = false) ∧ (∀ t, (lo + hi) / 2 ≤ t → t < n → p t = true)) := ⟨I.out.1, fun t ht htn => M.out ((lo + hi) / 2) t ht htn HP.out⟩
          exact ⟨lo, (lo + hi) / 2, rfl, by rw [show ((lo : Int) + (hi : Int)) / 2 = (((lo + hi) / 2 : Nat) : Int) by omega], by omega, by omega, Nat.le_refl _, HB2, I2⟩
    · obtain rfl : hi = lo := by omega
      have ecnt : cnt = hi := by
        rw [← CN.out]
        exact countP_split n hi (fun i => !p i) hin (fun t ht => by rw [I.out.1 t ht]; rfl) (fun t h3 h4 => by rw [I.out.2 t h3 h4]; rfl)
      subst ecnt
      go_wp2
      go_ret
      exact ⟨rfl, HB.out⟩
def interpolate_between.f (a0_0 : Int) (a0_1 : Int) (a1_0 : Int) (a1_1 : Int) (a2 : Int) : Option (Int) := if (wrap64 (2 * (wrap64 (a1_0 - a0_0)))) = 0 then (none) else (some (wrap64 (Int.tdiv (wrap64 ((wrap64 (2 * (wrap64 ((wrap64 (a0_1 * (wrap64 (a1_0 - a2)))) + (wrap64 (a1_1 * (wrap64 (a2 - a0_0)))))))) + (wrap64 (a1_0 - a0_0)))) (wrap64 (2 * (wrap64 (a1_0 - a0_0)))))))
set_option maxHeartbeats 8000000 in
set_option maxRecDepth 100000 in
theorem interpolate_between.calls (a0_0 : Int) (a0_1 : Int) (a1_0 : Int) (a1_1 : Int) (a2 : Int) (r : Int) (w : World) (h : interpolate_between.f a0_0 a0_1 a1_0 a1_1 a2 = some r) :
  Calls Tryd.prog 92 #[.agg #[.int .i64 a0_0, .int .i64 a0_1], .agg #[.int .i64 a1_0, .int .i64 a1_1], .int .i64 a2] w fun e w' => e = .returned (.int .i64 r) ∧ Below w.heap.size w w' := by
 have hu82 := Tryd.underlying82
 have HB := Aside0.mk (Below.refl w.heap.size w)
 have H : (if (wrap64 (2 * (wrap64 (a1_0 - a0_0)))) = 0 then (none) else (some (wrap64 (Int.tdiv (wrap64 ((wrap64 (2 * (wrap64 ((wrap64 (a0_1 * (wrap64 (a1_0 - a2)))) + (wrap64 (a1_1 * (wrap64 (a2 - a0_0)))))))) + (wrap64 (a1_0 - a0_0)))) (wrap64 (2 * (wrap64 (a1_0 - a0_0)))))))) = some r := h
 clear h
 by_cases c4 : (wrap64 (2 * (wrap64 (a1_0 - a0_0)))) = 0
 ·rw [if_pos c4] at H
  exact absurd H (by simp)
 ·rw [if_neg c4] at H
  have c4b0 : ((wrap64 (2 * (wrap64 (a1_0 - a0_0)))) == 0) = false := beq_eq_false_iff_ne.mpr c4
  have c4b1 : ((wrap64 (2 * (wrap64 (a1_0 - a0_0)))) != 0) = true := bne_iff_ne.mpr c4
  obtain rfl := Option.some.inj H
  go_enter Tryd.func92, Tryd.ntmps92
  go_wp2_with (first | ((with_reducible refine gate_dst (N := 3) rfl ?_); refine be_ (N := 3) (cs := #[.int .i64 a0_0, .int .i64 a0_1]) (t := 82) ?_; intro gb110 hg w5 hbox hb; have n0_ := Aside0.mk (below_step bl_ hb); have n1_ := Aside0.mk (hbox); have n2_ := Aside0.mk ((by rw [hg]; exact (below_size bl_) : w.heap.size ≤ gb110)); have n3_ := Aside0.mk ((by rw [hg]; exact (below_size bl_) : w.heap.size ≤ gb110)); clear HB; have HB := n0_; have BK110 := n1_; have GW110 := n2_; have GE110 := n3_; clear n0_ n1_ n2_ n3_; clear hb hbox hg) | ((with_reducible refine gate_dst (N := 4) rfl ?_); refine be_ (N := 4) (cs := #[.int .i64 a1_0, .int .i64 a1_1]) (t := 82) ?_; intro gb111 hg w6 hbox hb; have n0_ := Aside0.mk (blk_below (bkt_ BK110) hb); have n1_ := Aside0.mk (below_step bls_ hb); have n2_ := Aside0.mk (hbox); have n3_ := Aside0.mk ((by rw [hg]; exact (below_size bls_) : w.heap.size ≤ gb111)); have n4_ := Aside0.mk ((by rw [hg]; exact (below_size bls_) : w.heap.size ≤ gb111)); have n5_ := Aside0.mk ((by rw [hg]; exact Nat.ne_of_lt (blk_lt (bkt_ BK110)) : gb110 ≠ gb111)); have n6_ := Aside0.mk ((by rw [hg]; exact Nat.ne_of_gt (blk_lt (bkt_ BK110)) : gb111 ≠ gb110)); clear BK110; clear HB; have BK110 := n0_; have HB := n1_; have BK111 := n2_; have GW111 := n3_; have GE111 := n4_; have NB110_111 := n5_; have NB111_110 := n6_; clear n0_ n1_ n2_ n3_ n4_ n5_ n6_; clear hb hbox hg; have hnb7 := NB111_110.out; have hnc7 := NB110_111.out; obtain ⟨hcz8_0, hcz8_1⟩ := bc2_ BK111; obtain ⟨hfz8_0, hfz8_1⟩ := bf2_ BK111; obtain ⟨hcz9_0, hcz9_1⟩ := bc2_ BK110; have hfz9_0 := blk_frozen BK110.out 0; have hfz9_1 := blk_frozen BK110.out 1))
  go_ret
  exact ⟨fin_, bls_⟩
set_option maxHeartbeats 2000000 in
set_option maxRecDepth 100000 in
theorem interpolate_at.clo (ba bs : Nat) (A : Option Addr) (c : Nat) (l : List S82) (s : Int) (i : Nat) (W : World) (hi : i < l.length) (ht : W.cell? ⟨ba, 0, none⟩ = some (.slice A l.length c)) (hs : W.cell? ⟨bs, 0, none⟩ = some (.int .i64 s)) (hr : Kd.C k82 W A l.length l) :
    Calls Tryd.prog 91 (#[.int .i64 i] ++ #[.pointer (some ⟨ba, 0, none⟩), .pointer (some ⟨bs, 0, none⟩)]) W fun e w' => e = .returned (.bool (decide (s ≤ (rd_T82 l (i : Int)).f0))) ∧ Below W.heap.size W w' := by
  have hu := Tryd.underlying82
  have p : 0 ≤ (i : Int) := by omega
  have q : (i : Int) < (l.length : Int) := by omega
  obtain ⟨ad, e, h0, h1⟩ := at_T82 hr (i : Int) p q
  cases e
  generalize (rd_T82 l (i : Int)).f0 = y at h0 ⊢
  simp only [Int.toNat_natCast] at h0
  clear h1 hr
  replace p := eq_true p
  replace q := eq_true q
  go_enter Tryd.func91, Tryd.ntmps91
  go_wp2
  go_quiet (fail)
  go_wp2
  go_ret
  exact ⟨rfl, pw_below_drewN (Below.refl _ _) _⟩
def cntW (l : List S82) (s : Int) : Nat := (List.range l.length).countP (fun i => !(decide (s ≤ (rd_T82 l ((i : Nat) : Int)).f0)))
def Asc (l : List S82) : Prop := ∀ a b : Nat, a ≤ b → b < l.length → (rd_T82 l (a : Int)).f0 ≤ (rd_T82 l (b : Int)).f0
open Classical in
noncomputable def interpolate_at0.f (l0 : List S82) (a1 : Int) : Option Int :=
  if Asc l0 ∧ l0.length < 4611686018427387904 then
    if cntW l0 a1 < l0.length then
      if (rd_T82 l0 (cntW l0 a1 : Nat)).f0 = a1 then some (rd_T82 l0 (cntW l0 a1 : Nat)).f1
      else if 1 ≤ cntW l0 a1 then
        interpolate_between.f (rd_T82 l0 ((cntW l0 a1 : Nat) - 1)).f0 (rd_T82 l0 ((cntW l0 a1 : Nat) - 1)).f1 (rd_T82 l0 (cntW l0 a1 : Nat)).f0 (rd_T82 l0 (cntW l0 a1 : Nat)).f1 a1
      else none
    else none
  else none
set_option maxHeartbeats 4000000 in
set_option maxRecDepth 100000 in
theorem interpolate_at0.calls (A0 : Option Addr) (c0 : Nat) (l0 : List S82) (a1 : Int) (r : Int) (w : World) (hr0 : Kd.C k82 w A0 l0.length l0) (hc0 : l0.length ≤ c0) (h : interpolate_at0.f l0 a1 = some r) :
    Calls Tryd.prog 80 #[.slice A0 l0.length c0, .int .i64 a1] w fun e w' => e = .returned (.int .i64 r) ∧ Below w.heap.size w w' := by
  classical
  have hu := Tryd.underlying82
  obtain ⟨W0, hW0⟩ : ∃ W0, W0 = (w.alloc (.cells #[.slice A0 l0.length c0] 22)).alloc (.cells #[.int .i64 a1] 3) := ⟨_, rfl⟩
  have hsize : W0.heap.size = w.heap.size + 1 + 1 := by rw [hW0]; simp
  have hB0 : Below w.heap.size w W0 := by rw [hW0]; exact below_alloc (below_alloc (Below.refl _ _) _) _
  have ct : W0.cell? ⟨w.heap.size, 0, none⟩ = some (.slice A0 l0.length c0) := by rw [hW0]; exact pw_cell_alloc _ (pw_cell_new w _ _)
  have cs : W0.cell? ⟨w.heap.size + 1, 0, none⟩ = some (.int .i64 a1) := by rw [hW0]; have := pw_cell_new (w.alloc (.cells #[.slice A0 l0.length c0] 22)) (.int .i64 a1) 3; rwa [World.size_alloc] at this
  have hr : Kd.C k82 W0 A0 l0.length l0 := Kd.C_below hr0 hB0
  unfold interpolate_at0.f at h
  by_cases hc : Asc l0 ∧ l0.length < 4611686018427387904
  case neg => rw [if_neg hc] at h; exact absurd h (by simp)
  rw [if_pos hc] at h
  obtain ⟨hasc, hlen⟩ := hc
  have eg : ∀ args w, (callFunc 91 args).run Tryd.prog w = .ok (.enter 91 args) w := enters_of Tryd.func91 (by kernel_rfl) rfl
  have hS := sort_Search.below 91 #[.pointer (some ⟨w.heap.size, 0, none⟩), .pointer (some ⟨w.heap.size + 1, 0, none⟩)] l0.length (fun i => decide (a1 ≤ (rd_T82 l0 (i : Int)).f0)) W0 eg hlen
    (fun W i hi hb => interpolate_at.clo w.heap.size (w.heap.size + 1) A0 c0 l0 a1 i W hi (pw_cell_below hb ct) (pw_cell_below hb cs) (Kd.C_below hr hb))
    (fun a b hab hb h => by have := hasc a b hab hb; simp at h ⊢; omega)
  change Calls Tryd.prog 44 _ _ fun e w' => e = .returned (.int .i64 (cntW l0 a1 : Nat)) ∧ _ at hS
  have HS := Aside0.mk hS
  clear hS eg hasc
  generalize cntW l0 a1 = i at HS h
  by_cases hi : i < l0.length
  case neg => rw [if_neg hi] at h; exact absurd h (by simp)
  rw [if_pos hi] at h
  have p : 0 ≤ (i : Int) := by omega
  have q : (i : Int) < (l0.length : Int) := by omega
  obtain ⟨ad, e, h0, h1⟩ := at_T82 hr (i : Int) p q
  cases e
  simp only [Int.toNat_natCast] at h0 h1
  by_cases hs : (rd_T82 l0 (i : Int)).f0 = a1
  · rw [if_pos hs] at h
    obtain rfl := Option.some.inj h
    have hsb : ((rd_T82 l0 (i : Int)).f0 == a1) = true := beq_iff_eq.mpr hs
    clear hs hr h hr0 hc0
    have HB0 := Aside0.mk hB0
    have HW0 := Aside0.mk hW0
    clear hB0 hW0
    generalize (rd_T82 l0 (i : Int)).f0 = y0 at h0 hsb
    generalize (rd_T82 l0 (i : Int)).f1 = y1 at h1 ⊢
    go_enter Tryd.func80, Tryd.ntmps80
    go_wp2_with fail
    rw [← HW0.out]
    refine HS.out.mono ?_
    rintro e w' ⟨rfl, hb⟩
    replace ct := pw_cell_below hb ct
    replace cs := pw_cell_below hb cs
    replace h0 := pw_cell_below hb h0
    replace h1 := pw_cell_below hb h1
    have HB := Aside0.mk (below_then HB0.out HB0.out.size hb)
    clear hb HS HB0 HW0 hsize
    replace p := eq_true p
    replace q := eq_true q
    go_wp2
    go_quiet (fail)
    go_wp2
    go_ret
    exact ⟨rfl, pw_below_drewN HB.out _⟩
  · rw [if_neg hs] at h
    by_cases h1i : 1 ≤ i
    case neg => rw [if_neg h1i] at h; exact absurd h (by simp)
    rw [if_pos h1i] at h
    have hsb : ((rd_T82 l0 (i : Int)).f0 == a1) = false := beq_eq_false_iff_ne.mpr hs
    obtain ⟨j, ej⟩ : ∃ j : Int, (i : Int) - 1 = j := ⟨_, rfl⟩
    rw [ej] at h
    have p' : 0 ≤ j := by omega
    have q' : j < (l0.length : Int) := by omega
    have hj : IntKind.i64.wrap ((i : Int) - 1) = j := by rw [i64_w, ← ej]; unfold wrap64; omega
    clear ej
    obtain ⟨ad', e', g0, g1⟩ := at_T82 hr j p' q'
    obtain rfl : ad = ad' := by injection e'
    clear e'
    have HC := Aside0.mk (fun W => interpolate_between.calls _ _ _ _ _ _ W h)
    clear hs hr h hr0 hc0
    have HB0 := Aside0.mk hB0
    have HW0 := Aside0.mk hW0
    clear hB0 hW0
    generalize (rd_T82 l0 (i : Int)).f0 = y0 at h0 hsb HC
    generalize (rd_T82 l0 (i : Int)).f1 = y1 at h1 HC
    generalize (rd_T82 l0 j).f0 = x0 at g0 HC
    generalize (rd_T82 l0 j).f1 = x1 at g1 HC
    go_enter Tryd.func80, Tryd.ntmps80
    go_wp2_with fail
    rw [← HW0.out]
    refine HS.out.mono ?_
    rintro e w' ⟨rfl, hb⟩
    replace ct := pw_cell_below hb ct
    replace cs := pw_cell_below hb cs
    replace h0 := pw_cell_below hb h0
    replace h1 := pw_cell_below hb h1
    replace g0 := pw_cell_below hb g0
    replace g1 := pw_cell_below hb g1
    have HB := Aside0.mk (below_then HB0.out HB0.out.size hb)
    clear hb HS HB0 HW0 hsize
    replace p := eq_true p
    replace q := eq_true q
    replace p' := eq_true p'
    replace q' := eq_true q'
    go_wp2
    go_quiet (fail)
    go_wp2
    refine pw_still_tail 10 (by kernel_rfl) (by kernel_rfl) ?_
    simp only [List.take_succ_cons, List.take_zero, List.drop_succ_cons, List.drop_zero]
    replace HB := Aside0.mk (pw_below_drewN HB.out (nq + 1))
    rw [World.drewN_drewN]
    replace ct := pw_cell_drewN ct (nq + 1)
    replace cs := pw_cell_drewN cs (nq + 1)
    replace h0 := pw_cell_drewN h0 (nq + 1)
    replace h1 := pw_cell_drewN h1 (nq + 1)
    replace g0 := pw_cell_drewN g0 (nq + 1)
    replace g1 := pw_cell_drewN g1 (nq + 1)
    generalize w'.drewN (nq + 1) = w2 at HB ct cs h0 h1 g0 g1 ⊢
    repeat still_step
    refine wpStill_nil ?_
    go_wp2_with (refine (HC.out _).mono ?_; rintro e w3 ⟨rfl, hb3⟩)
    go_ret
    exact ⟨rfl, below_then HB.out HB.out.size hb3⟩
theorem interpolate_between.plain {a b a' b' s : Int} (h0 : 0 ≤ a) (h1 : a < a') (h2 : a' ≤ 10000) (hs : a ≤ s) (hs' : s ≤ a') (hb0 : 0 ≤ b) (hb : b ≤ 120000) (hb0' : 0 ≤ b') (hb' : b' ≤ 120000) :
    interpolate_between.f a b a' b' s = some (segF a b a' b' s) := by
  have m1 := mul_rng hb0 hb (show 0 ≤ a' - s by omega) (show a' - s ≤ 10000 by omega)
  have m2 := mul_rng hb0' hb' (show 0 ≤ s - a by omega) (show s - a ≤ 10000 by omega)
  unfold interpolate_between.f segF
  generalize h3 : b * (a' - s) = x at m1
  generalize h4 : b' * (s - a) = y at m2
  have w0 : wrap64 (a' - a) = a' - a := w64_ (by omega) (by omega)
  have w1 : wrap64 (a' - s) = a' - s := w64_ (by omega) (by omega)
  have w2 : wrap64 (s - a) = s - a := w64_ (by omega) (by omega)
  rw [w0, w1, w2, h3, h4]
  have w3 : wrap64 x = x := w64_ (by omega) (by omega)
  have w4 : wrap64 y = y := w64_ (by omega) (by omega)
  have w5 : wrap64 (x + y) = x + y := w64_ (by omega) (by omega)
  have w6 : wrap64 (2 * (x + y)) = 2 * (x + y) := w64_ (by omega) (by omega)
  have w7 : wrap64 (2 * (a' - a)) = 2 * (a' - a) := w64_ (by omega) (by omega)
  have w8 : wrap64 (2 * (x + y) + (a' - a)) = 2 * (x + y) + (a' - a) := w64_ (by omega) (by omega)
  rw [w3, w4, w5, w6, w7, w8, if_neg (by omega), Int.tdiv_eq_ediv_of_nonneg (by omega)]
  have d1 : 0 ≤ (2 * (x + y) + (a' - a)) / (2 * (a' - a)) := Int.ediv_nonneg (by omega) (by omega)
  have d2 : (2 * (x + y) + (a' - a)) / (2 * (a' - a)) ≤ 2 * (x + y) + (a' - a) := Int.ediv_le_self _ (by omega)
  rw [w64_ (by omega) (by omega)]
theorem RightT.cnt_eq {l : List S82} (h : RightT l) {s : Int} {m : Nat} (hm : m ≤ l.length) (h1 : ∀ t, t < m → (rd_T82 l (t : Nat)).f0 < s) (h2 : ∀ t, m ≤ t → t < l.length → s ≤ (rd_T82 l (t : Nat)).f0) : cntW l s = m := by
  show (List.range l.length).countP _ = m
  exact countP_split _ _ _ hm (fun t ht => by have := h1 t ht; simp; omega) (fun t h3 h4 => by have := h2 t h3 h4; simp; omega)
theorem RightT.asc {l : List S82} (h : RightT l) : Asc l := fun a b hab hb => h.le hab hb
theorem RightT.at0 {l : List S82} (h : RightT l) {s : Int} (h0 : 0 ≤ s) (h1 : s ≤ 10000) : interpolate_at0.f l s = some (dens l s) := by
  classical
  obtain ⟨i, hi⟩ := h.seg h0 h1
  have hlen := h.hi
  unfold interpolate_at0.f
  rw [if_pos ⟨h.asc, by omega⟩]
  by_cases e : (rd_T82 l i).f0 = s
  · have hc : cntW l s = i := h.cnt_eq (by have := hi.1; omega) (fun t ht => by have := h.lt ht (by have := hi.1; omega); omega) (fun t h3 h4 => by have := h.le h3 h4; omega)
    rw [hc, if_pos (by have := hi.1; omega), if_pos e, ← e, h.dens_row (by have := hi.1; omega)]
  · have hi1 := hi.1
    have hi2 := hi.2.1
    have hi3 := hi.2.2
    have hc : cntW l s = i + 1 := h.cnt_eq (by omega) (fun t ht => by have := h.le (show t ≤ i by omega) (by omega); omega) (fun t h3 h4 => by
      have := h.le h3 h4
      rw [show ((i + 1 : Nat) : Int) = (i : Int) + 1 by omega] at this
      omega)
    rw [hc, if_pos (by omega), show ((i + 1 : Nat) : Int) = (i : Int) + 1 by omega, show (i : Int) + 1 - 1 = (i : Int) by omega]
    by_cases e2 : (rd_T82 l ((i : Int) + 1)).f0 = s
    · rw [if_pos e2]
      have := h.dens_row (i := i + 1) hi1
      rw [show ((i + 1 : Nat) : Int) = (i : Int) + 1 by omega, e2] at this
      rw [this]
    · rw [if_neg e2, if_pos (by omega), h.dens_seg hi]
      have r1 := h.rng i (by omega)
      have r2 := h.rng (i + 1) hi1
      rw [show ((i + 1 : Nat) : Int) = (i : Int) + 1 by omega] at r2
      exact interpolate_between.plain (by omega) (h.inc i hi1) (by omega) hi2 hi3 (by omega) (by omega) (by omega) (by omega)
def interpolate_at.f (l0 : List S82) (a1 : Int) : Option Int := if (dchk l0).2 = 0 ∧ 0 ≤ a1 ∧ a1 ≤ 10000 then some (dens l0 a1) else none
theorem interpolate_at.calls (A0 : Option Addr) (c0 : Nat) (l0 : List S82) (a1 : Int) (r : Int) (w : World) (hr0 : Kd.C k82 w A0 l0.length l0) (hc0 : l0.length ≤ c0) (h : interpolate_at.f l0 a1 = some r) :
    Calls Tryd.prog 80 #[.slice A0 l0.length c0, .int .i64 a1] w fun e w' => e = .returned (.int .i64 r) ∧ Below w.heap.size w w' := by
  unfold interpolate_at.f at h
  by_cases hc : (dchk l0).2 = 0 ∧ 0 ≤ a1 ∧ a1 ≤ 10000
  · rw [if_pos hc] at h
    exact interpolate_at0.calls A0 c0 l0 a1 r w hr0 hc0 ((((right_iff l0).1 hc.1).at0 hc.2.1 hc.2.2).trans h)
  · rw [if_neg hc] at h; exact absurd h (by simp)
theorem RightT.at {l : List S82} (h : RightT l) {s : Int} (h0 : 0 ≤ s) (h1 : s ≤ 10000) : interpolate_at.f l s = some (dens l s) := by
  unfold interpolate_at.f
  rw [if_pos ⟨(right_iff l).2 h, h0, h1⟩]
end Go.Proofs.YtcdkbciagchlgaaDoor.PF
