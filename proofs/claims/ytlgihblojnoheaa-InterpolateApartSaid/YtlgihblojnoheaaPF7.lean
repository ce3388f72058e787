-- Written by a program of this session (wip/pr.py) out of Lean's print of the translation; Lean checks it.
import Derived.Test.YtlgihblojnoheaaPF0
import Derived.Test.YtlgihblojnoheaaPF5
import Derived.Test.YtlgihblojnoheaaPF6
namespace Go.Proofs.Ytlgihblojnoheaa.PF
open Go.RowKit Go.Proofs.YtlgihblojnoheaaW.PrintWords Go.Proofs.YtlgihblojnoheaaW.PrintLast Go.Proofs.YtlgihblojnoheaaW.PrintMore
attribute [local go_sem] max2_int min2_int max_two min_two max_three min_three max_four min_four   -- for this text's walks alone
set_option linter.unusedVariables false
set_option linter.unusedSimpArgs false

/-! ### interpolate_Thin: function 19 -/
def interpolate_Thin.l0 : Nat → List (S34) → List (S34) → Int → Option ((List (S34)) × Int)
 | 0, _, _, _ => none
 | k + 1, x0, x4, x5 => if x5 < (wrap64 ((x0.length : Int) - 1)) then (if 0 ≤ (wrap64 ((x4.length : Int) - 1)) then (if (wrap64 ((x4.length : Int) - 1)) < (x4.length : Int) then (if 0 ≤ (wrap64 (x5 + 1)) then (if (wrap64 (x5 + 1)) < (x0.length : Int) then ((interpolate_same.f k x0 ((rd_T34 x4 (wrap64 ((x4.length : Int) - 1))).f0) ((rd_T34 x4 (wrap64 ((x4.length : Int) - 1))).f1) ((rd_T34 x0 (wrap64 (x5 + 1))).f0) ((rd_T34 x0 (wrap64 (x5 + 1))).f1)).bind fun t129 => (if t129 = true then (interpolate_Thin.l0 k x0 x4 (wrap64 (x5 + 1))) else (if 0 ≤ x5 then (if x5 < (x0.length : Int) then (if x4.length < 8796093022208 then (interpolate_Thin.l0 k x0 (x4 ++ [(⟨(rd_T34 x0 x5).f0, (rd_T34 x0 x5).f1⟩ : S34)]) (wrap64 (x5 + 1))) else (none)) else (none)) else (none)))) else (none)) else (none)) else (none)) else (none)) else (if 0 ≤ (wrap64 ((x0.length : Int) - 1)) then (if (wrap64 ((x0.length : Int) - 1)) < (x0.length : Int) then (if x4.length < 8796093022208 then (some ((x4 ++ [(⟨(rd_T34 x0 (wrap64 ((x0.length : Int) - 1))).f0, (rd_T34 x0 (wrap64 ((x0.length : Int) - 1))).f1⟩ : S34)]), 0)) else (none)) else (none)) else (none))
def interpolate_Thin.f (k : Nat) (l0 : List (S34)) : Option ((List (S34)) × Int) := (interpolate_right.f l0).bind fun t122 => (if t122 = true then (if 0 < (l0.length : Int) then (interpolate_Thin.l0 k l0 (([(⟨(rd_T34 l0 0).f0, (rd_T34 l0 0).f1⟩ : S34)] : List (S34))) 1) else (none)) else (some (([] : List (S34)), 1)))
theorem interpolate_Thin.mono_l : ∀ k, (∀ y0 y1 y2, LeO (interpolate_Thin.l0 k y0 y1 y2) (interpolate_Thin.l0 (k + 1) y0 y1 y2))
 | 0 => fun _ _ _ r h => by simp [interpolate_Thin.l0] at h
 | k + 1 => by
  have ih0 := interpolate_Thin.mono_l k
  ·intro y0 y1 y2
   unfold interpolate_Thin.l0
   repeat' first
   | (with_reducible exact ih0 _ _ _)
   | (with_reducible exact interpolate_same.mono _ _ _ _ _ _)
   | (with_reducible exact LeO.refl _)
   | (with_reducible exact LeO.none _)
   | (with_reducible refine LeO.ite ?_ ?_)
   | (with_reducible refine LeO.bind ?_ (fun _ => ?_))
   | exact ih0 _ _ _
   | exact interpolate_same.mono _ _ _ _ _ _
   | exact LeO.none _
   | refine LeO.ite ?_ ?_
   | refine LeO.bind ?_ (fun _ => ?_)
theorem interpolate_Thin.mono : ∀ a0 k, LeO (interpolate_Thin.f k a0) (interpolate_Thin.f (k + 1) a0) := by
 intro a0 k
 have ih0 := interpolate_Thin.mono_l k
 unfold interpolate_Thin.f
 repeat' first
   | (with_reducible exact ih0 _ _ _)
   | (with_reducible exact interpolate_same.mono _ _ _ _ _ _)
   | (with_reducible exact LeO.refl _)
   | (with_reducible exact LeO.none _)
   | (with_reducible refine LeO.ite ?_ ?_)
   | (with_reducible refine LeO.bind ?_ (fun _ => ?_))
   | exact ih0 _ _ _
   | exact interpolate_same.mono _ _ _ _ _ _
   | exact LeO.none _
   | refine LeO.ite ?_ ?_
   | refine LeO.bind ?_ (fun _ => ?_)
def interpolate_Thin.T7 : Bool × List (List Nat × List Nat) := (true, [([], []), ([], []), ([], []), ([2], [2]), ([3], [3]), ([1, 4], [1, 4]), ([5], [5]), ([], []), ([], []), ([8], [8]), ([7, 9], [7, 9]), ([10], [10]), ([0, 6, 11], [0, 6, 11]), ([12], [12])])
def interpolate_Thin.B7 : List Nat := [0, 0, 0, 4, 12, 30, 62, 0, 0, 256, 896, 1920, 4095, 8191]
theorem interpolate_Thin.tab7 : rtab .any (opsOf Try.f19 7) = interpolate_Thin.T7 := by kernel_rfl
theorem interpolate_Thin.bits7 : waitsOk interpolate_Thin.T7.2 interpolate_Thin.B7 = true := by kernel_rfl
set_option maxHeartbeats 8000000 in
set_option maxRecDepth 100000 in
theorem interpolate_Thin.calls (k : Nat) (A0 : Option Addr) (c0 : Nat) (l0 : List (S34)) (r1 : List (S34)) (r2 : Int) (w : World) (hr0 : Kd.C k34 w A0 l0.length l0) (hc0 : l0.length ≤ c0) (h : interpolate_Thin.f k l0 = some (r1, r2)) :
  Calls Try.prog 19 #[.slice A0 l0.length c0] w fun e w' => ∃ v0_ : Value, e = .returned (.tuple #[v0_, .int .i64 r2]) ∧ Kd.R k34 34 w' w.heap.size (fun _ => True) v0_ r1 ∧ Below w.heap.size w w' := by
 have hu34 := Try.underlying34
 have HR0 := Aside0.mk hr0
 have HC0 := Aside0.mk hc0
 clear hr0 hc0
 have HB := Aside0.mk (Below.refl w.heap.size w)
 have H : ((interpolate_right.f l0).bind fun t122 => (if t122 = true then (if 0 < (l0.length : Int) then (interpolate_Thin.l0 k l0 (([(⟨(rd_T34 l0 0).f0, (rd_T34 l0 0).f1⟩ : S34)] : List (S34))) 1) else (none)) else (some (([] : List (S34)), 1)))) = some (r1, r2) := h
 clear h
 replace H := Option.bind_eq_some_iff.mp H
 obtain ⟨t122, A20, H⟩ := H
 replace H : (if t122 = true then (if 0 < (l0.length : Int) then (interpolate_Thin.l0 k l0 (([(⟨(rd_T34 l0 0).f0, (rd_T34 l0 0).f1⟩ : S34)] : List (S34))) 1) else (none)) else (some (([] : List (S34)), 1))) = some (r1, r2) := H
 have A2 := Aside0.mk A20
 clear A20
 by_cases c3 : t122 = true
 ·subst c3
  have H1 : (if 0 < (l0.length : Int) then (interpolate_Thin.l0 k l0 (([(⟨(rd_T34 l0 0).f0, (rd_T34 l0 0).f1⟩ : S34)] : List (S34))) 1) else (none)) = some (r1, r2) := by rw [if_pos rfl] at H; exact H
  clear H
  have H := H1
  clear H1
  by_cases c4 : 0 < (l0.length : Int)
  ·rw [if_pos c4] at H
   have c4b0 : decide (0 < (l0.length : Int)) = true := decide_eq_true c4
   have c4b1 : decide (0 < l0.length) = true := decide_eq_true (by omega)
   clear c4
   obtain ⟨y124, hy124⟩ : ∃ y_ : List (S34), y_ = (([(⟨(rd_T34 l0 0).f0, (rd_T34 l0 0).f1⟩ : S34)] : List (S34))) := ⟨_, rfl⟩
   replace H : (interpolate_Thin.l0 k l0 y124 1) = some (r1, r2) := by first | (rw [hy124]; with_reducible exact H) | (have H2_ := (Option.bind_some _ _).symm.trans H; rw [hy124]; with_reducible exact H2_) | (have H2_ := (Option.bind_some _ _).symm.trans H; with_reducible exact H2_) | with_reducible exact H | (rw [hy124]; exact H) | exact H
   have Ny124 := Aside0.mk hy124
   clear hy124
   have H' := Aside0.mk H
   clear H
   go_enter Try.func19, Try.ntmps19
   go_wp2_with (first | ((with_reducible refine gate_callee (f := 30) rfl ?_); refine goesL_ (some 7) rfl rfl Try.func30 (by kernel_rfl) rfl #[.slice A0 l0.length c0] rfl (by (try simp only [List.map_toArray, List.map_cons, List.map_nil]); first | done | rfl | (simp only [List.length_drop, List.length_take]; rfl)) ?_; (with_reducible refine (interpolate_right.calls _ _ l0 true _ ?side1 ?side2 A2.out).mono ?_); (case side1 => repeat (first | exact HR0.out | (with_reducible refine Kd.C_alloc ?_ _) | (with_reducible refine Kd.C_drewN ?_ _) | (with_reducible refine Kd.C_drew ?_))); (case side2 => exact HC0.out); rintro e w5 ⟨rfl, hb⟩; refine ⟨_, rfl, ?_⟩; have n0_ := Aside0.mk (below_step (by repeat (first | (with_reducible first | exact HB.out | apply below_alloc | apply pw_below_drewN | apply below_drew1) | exact HB.out)) hb); clear HB; have HB := n0_; clear n0_; (try clear hb); (try clear hb2); (try clear hk); (try clear hi); have p123 : 0 ≤ (0 : Int) := (by omega); have q123 : 0 < (l0.length : Int) := of_decide_eq_true (by first | (with_reducible assumption) | assumption); obtain ⟨ad123, e123, hx123_0, hx123_1⟩ := at_T34 HR0.out 0 p123 q123; cases e123; have qi123 : (0 < l0.length) = True := eq_true (by omega); (try rw [show ((0 : Int)).toNat = 0 from rfl] at hx123_0); (try rw [show 0 * 2 = 0 from rfl] at hx123_0); (try rw [Addr.add_zero'] at hx123_0); (try rw [show ((0 : Int)).toNat = 0 from rfl] at hx123_1); (try rw [show 0 * 2 = 0 from rfl] at hx123_1); (try rw [Addr.add_zero'] at hx123_1); replace hx123_0 := (HB.out.cell (World.block_lt_of_cell? w _ hx123_0)).trans hx123_0; replace hx123_1 := (HB.out.cell (World.block_lt_of_cell? w _ hx123_1)).trans hx123_1; replace p123 := eq_true p123; replace q123 := eq_true q123) | ((with_reducible refine gate_dst (N := 12) rfl ?_); refine Kd.R_lit k34 _ 34 ?hg (N := 12) ?hd (xs := ([(⟨(rd_T34 l0 0).f0, (rd_T34 l0 0).f1⟩ : S34)] : List (S34))) (inner := [.int .i64 ((rd_T34 l0 0).f0), .int .i64 ((rd_T34 l0 0).f1)]) (ok := fun _ => True) (okp := fun _ => True) ?hr ?hp (fun _ hk => hk) trivial (Below.refl _ _) (Nat.le_refl _) (by simp) ?_; (case hd => rfl); (case hg => rfl); (case hr => first | (go_simp; done) | (go_simp; rfl)); (case hp => exact (Reps.c2 (show Kd.M k34 _ _ _ (⟨(rd_T34 l0 0).f0, (rd_T34 l0 0).f1⟩ : S34) [.int .i64 ((rd_T34 l0 0).f0), .int .i64 ((rd_T34 l0 0).f1)] from (k34_mkM _ _ _ (⟨(rd_T34 l0 0).f0, (rd_T34 l0 0).f1⟩ : S34) )) (Reps.none _ _))); intro v125 w6 ho7 hb hg_ hnew_; clear hg_ hnew_; (first | rw [← Ny124.out] at ho7 | (simp only [Int.reduceToNat] at ho7; rw [← Ny124.out] at ho7)); have n0_ := Aside0.mk (Kd.R_lower ho7 (below_size (by repeat (first | (with_reducible first | exact HB.out | apply below_alloc | apply pw_below_drewN | apply below_drew1) | exact HB.out)))); have n1_ := Aside0.mk (below_step (by repeat (first | (with_reducible first | exact HB.out | apply below_alloc | apply pw_below_drewN | apply below_drew1) | exact HB.out)) hb); clear HB; have HO126 := n0_; have HB := n1_; clear n0_ n1_; clear hb ho7))
   go_loopg [4, 5] k (fun kq v4 v5 w' => ∃ (x4_1 : List (S34)) (x5_1 : Int), v5 = .int .i64 x5_1 ∧ Aside0 (interpolate_Thin.l0 kq l0 x4_1 x5_1 = some (r1, r2)) ∧ Aside0 (kq ≤ k) ∧ Aside0 (Kd.R k34 34 w' w.heap.size (fun _ => True) v4 x4_1) ∧ Aside0 (Below w.heap.size w w'))
   case atStart => exact ⟨(y124), (1), (by first | rfl | (simp; done) | (simp [*]; done)), H', ⟨Nat.le_refl _⟩, ⟨by (with_reducible repeat (first | apply Kd.R_alloc | apply Kd.R_drewN | apply Kd.R_drew)); exact HO126.out⟩, ⟨by repeat (first | (with_reducible first | exact HB.out | apply below_alloc | apply pw_below_drewN | apply below_drew1) | exact HB.out)⟩⟩
   case round =>
    clear H'
    try clear c1
    try clear p1
    try clear q1
    try clear hx1
    try clear qi1
    try clear c2
    try clear p2
    try clear c3
    try clear c4
    try clear c4b0
    try clear c4b1
    try clear hx123_0
    try clear hx123_1
    try clear p123
    try clear q123
    obtain ⟨x4_1, x5_1, rfl, HA, HK1, HO_4, HB⟩ := hrel
    cases gk with
    | zero => exact absurd HA.out (by simp [interpolate_Thin.l0])
    | succ k1 =>
     have H := HA.out
     clear HA
     simp only [interpolate_Thin.l0] at H
     by_cases c8 : x5_1 < (wrap64 ((l0.length : Int) - 1))
     ·rw [if_pos c8] at H
      have c8b0 : decide (x5_1 < (wrap64 ((l0.length : Int) - 1))) = true := decide_eq_true c8
      clear c8
      obtain ⟨ji9, hji9⟩ : ∃ j_ : Int, (wrap64 ((x4_1.length : Int) - 1)) = j_ := ⟨_, rfl⟩
      replace H : (if 0 ≤ (ji9) then (if (ji9) < (x4_1.length : Int) then (if 0 ≤ (wrap64 (x5_1 + 1)) then (if (wrap64 (x5_1 + 1)) < (l0.length : Int) then ((interpolate_same.f k1 l0 ((rd_T34 x4_1 (ji9)).f0) ((rd_T34 x4_1 (ji9)).f1) ((rd_T34 l0 (wrap64 (x5_1 + 1))).f0) ((rd_T34 l0 (wrap64 (x5_1 + 1))).f1)).bind fun t129 => (if t129 = true then (interpolate_Thin.l0 k1 l0 x4_1 (wrap64 (x5_1 + 1))) else (if 0 ≤ x5_1 then (if x5_1 < (l0.length : Int) then (if x4_1.length < 8796093022208 then (interpolate_Thin.l0 k1 l0 (x4_1 ++ [(⟨(rd_T34 l0 x5_1).f0, (rd_T34 l0 x5_1).f1⟩ : S34)]) (wrap64 (x5_1 + 1))) else (none)) else (none)) else (none)))) else (none)) else (none)) else (none)) else (none)) = some (r1, r2) := by first | (rw [hji9] at H; exact H) | (simp only [hji9] at H ⊢; exact H)
      have hji9w : (IntKind.i64.wrap ((x4_1.length : Int) - 1)) = ji9 := (i64_w _).trans hji9
      by_cases c10 : 0 ≤ (ji9)
      ·rw [if_pos c10] at H
       have c10b0 : decide (0 ≤ (ji9)) = true := decide_eq_true c10
       clear c10
       by_cases c11 : (ji9) < (x4_1.length : Int)
       ·rw [if_pos c11] at H
        have c11b0 : decide ((ji9) < (x4_1.length : Int)) = true := decide_eq_true c11
        clear c11
        obtain ⟨ji12, hji12⟩ : ∃ j_ : Int, (wrap64 (x5_1 + 1)) = j_ := ⟨_, rfl⟩
        replace H : (if 0 ≤ (ji12) then (if (ji12) < (l0.length : Int) then ((interpolate_same.f k1 l0 ((rd_T34 x4_1 (ji9)).f0) ((rd_T34 x4_1 (ji9)).f1) ((rd_T34 l0 (ji12)).f0) ((rd_T34 l0 (ji12)).f1)).bind fun t129 => (if t129 = true then (interpolate_Thin.l0 k1 l0 x4_1 ji12) else (if 0 ≤ x5_1 then (if x5_1 < (l0.length : Int) then (if x4_1.length < 8796093022208 then (interpolate_Thin.l0 k1 l0 (x4_1 ++ [(⟨(rd_T34 l0 x5_1).f0, (rd_T34 l0 x5_1).f1⟩ : S34)]) ji12) else (none)) else (none)) else (none)))) else (none)) else (none)) = some (r1, r2) := by first | (rw [hji12] at H; exact H) | (simp only [hji12] at H ⊢; exact H)
        have hji12w : (IntKind.i64.wrap (x5_1 + 1)) = ji12 := (i64_w _).trans hji12
        by_cases c13 : 0 ≤ (ji12)
        ·rw [if_pos c13] at H
         have c13b0 : decide (0 ≤ (ji12)) = true := decide_eq_true c13
         clear c13
         by_cases c14 : (ji12) < (l0.length : Int)
         ·rw [if_pos c14] at H
          have c14b0 : decide ((ji12) < (l0.length : Int)) = true := decide_eq_true c14
          clear c14
          replace H := Option.bind_eq_some_iff.mp H
          obtain ⟨t129, A150, H⟩ := H
          replace H : (if t129 = true then (interpolate_Thin.l0 k1 l0 x4_1 ji12) else (if 0 ≤ x5_1 then (if x5_1 < (l0.length : Int) then (if x4_1.length < 8796093022208 then (interpolate_Thin.l0 k1 l0 (x4_1 ++ [(⟨(rd_T34 l0 x5_1).f0, (rd_T34 l0 x5_1).f1⟩ : S34)]) ji12) else (none)) else (none)) else (none))) = some (r1, r2) := H
          have A15 := Aside0.mk A150
          clear A150
          by_cases c16 : t129 = true
          ·subst c16
           have H1 : (interpolate_Thin.l0 k1 l0 x4_1 ji12) = some (r1, r2) := by rw [if_pos rfl] at H; exact H
           clear H
           have H := H1
           clear H1
           have H' := Aside0.mk H
           clear H
           try go_wp2
           have n0_ := Aside0.mk (Kd.R_drew HO_4.out)
           have n1_ := Aside0.mk (below_drew1 HB.out)
           clear HO_4
           clear HB
           have HO_4 := n0_
           have HB := n1_
           clear n0_ n1_
           obtain ⟨Ao18, co18, eo18⟩ := Kd.R_slice HO_4.out
           (first | subst eo18 | (injection eo18 with f1_ f2_ f3_; have f4_ := f1_.symm; have f5_ := f3_.symm; clear f1_ f2_ f3_; subst f4_; subst f5_))
           have p127 : 0 ≤ ((ji9) : Int) := of_decide_eq_true (by first | (with_reducible assumption) | assumption)
           have q127 : (ji9) < (x4_1.length : Int) := of_decide_eq_true (by first | (with_reducible assumption) | assumption)
           obtain ⟨ad127, e127, hx127_0, hx127_1⟩ := at_T34 (Kd.R_reads' HO_4.out).2.2 (ji9) p127 q127
           cases e127
           replace p127 := eq_true p127
           replace q127 := eq_true q127
           have p128 : 0 ≤ ((ji12) : Int) := of_decide_eq_true (by first | (with_reducible assumption) | assumption)
           have q128 : (ji12) < (l0.length : Int) := of_decide_eq_true (by first | (with_reducible assumption) | assumption)
           obtain ⟨ad128, e128, hx128_0, hx128_1⟩ := at_T34 HR0.out (ji12) p128 q128
           have hw128_1 := hx128_1
           have hw128_0 := hx128_0
           obtain rfl : ad123 = ad128 := (by injection e128)
           replace hx128_0 := (HB.out.cell (World.block_lt_of_cell? w _ hx128_0)).trans hx128_0
           replace hx128_1 := (HB.out.cell (World.block_lt_of_cell? w _ hx128_1)).trans hx128_1
           replace p128 := eq_true p128
           replace q128 := eq_true q128
           refine start_ (n := 14) (S := fun w' => w'.cell? (ad127.add (((ji9)).toNat * 2)) = some (.int .i64 ((rd_T34 x4_1 (ji9)).f0)) ∧ w'.cell? ⟨(ad127.add (((ji9)).toNat * 2)).block, (ad127.add (((ji9)).toNat * 2)).off + 1, none⟩ = some (.int .i64 ((rd_T34 x4_1 (ji9)).f1)) ∧ w'.cell? (ad123.add (((ji12)).toNat * 2)) = some (.int .i64 ((rd_T34 l0 (ji12)).f0)) ∧ w'.cell? ⟨(ad123.add (((ji12)).toNat * 2)).block, (ad123.add (((ji12)).toNat * 2)).off + 1, none⟩ = some (.int .i64 ((rd_T34 l0 (ji12)).f1))) (ds := []) #[false, false, false, false, false, false, false, false, false, false, false, false, false, false] (by kernel_rfl) rfl rfl ⟨hx127_0, hx127_1, ((HB.out.cell (World.block_lt_of_cell? w _ hw128_0)).trans hw128_0), ((HB.out.cell (World.block_lt_of_cell? w _ hw128_1)).trans hw128_1)⟩ (fun hHeld => ?_); refine with_tabW interpolate_Thin.tab7 interpolate_Thin.bits7 (fun HT_ HW_ => ?_)
           generalize wr.drew = w17 at HO_4 HB hx127_0 hx127_1 hx128_0 hx128_1 hHeld ⊢
           refine pure_ (i := 0) (N := some 20) (v := ?_) (a' := ?_) #[true, false, false, false, false, false, false, false, false, false, false, false, false, false] rfl rfl (any_of HT_.out (by kernel_rfl)) (fun _ _ _ h => h) (Or.inl ⟨by rfl, ?_⟩) ?_ ?_
           rotate_left
           ·intro w'
            go_simp
            with_reducible rfl
           rotate_left
           ·simp only [Act.put, List.setIfInBounds_toArray, List.set_cons_zero, List.set_cons_succ, i64_w, i32_w]
            rfl
           refine pure_ (i := 1) (N := some 21) (v := ?_) (a' := ?_) #[true, true, false, false, false, false, false, false, false, false, false, false, false, false] rfl rfl (any_of HT_.out (by kernel_rfl)) (fun _ _ _ h => h) (Or.inl ⟨by rfl, ?_⟩) ?_ ?_
           rotate_left
           ·intro w'
            go_simp
            with_reducible rfl
           rotate_left
           ·simp only [Act.put, List.setIfInBounds_toArray, List.set_cons_zero, List.set_cons_succ, i64_w, i32_w]
            rfl
           refine pure_ (i := 2) (N := some 22) (v := ?_) (a' := ?_) #[true, true, true, false, false, false, false, false, false, false, false, false, false, false] rfl rfl (any_of HT_.out (by kernel_rfl)) (fun _ _ _ h => h) (Or.inl ⟨by rfl, ?_⟩) ?_ ?_
           rotate_left
           ·intro w'
            go_simp
            with_reducible rfl
           rotate_left
           ·simp only [Act.put, List.setIfInBounds_toArray, List.set_cons_zero, List.set_cons_succ, i64_w, i32_w]
            rfl
           refine pure_ (i := 3) (N := some 23) (v := ?_) (a' := ?_) #[true, true, true, true, false, false, false, false, false, false, false, false, false, false] rfl rfl (any_of HT_.out (by kernel_rfl)) (fun _ _ _ h => h) (Or.inl ⟨by rfl, ?_⟩) ?_ ?_
           rotate_left
           ·intro w'
            go_simp
            with_reducible rfl
           rotate_left
           ·simp only [Act.put, List.setIfInBounds_toArray, List.set_cons_zero, List.set_cons_succ, i64_w, i32_w]
            rfl
           refine pure_ (i := 4) (N := some 24) (v := ?_) (a' := ?_) #[true, true, true, true, true, false, false, false, false, false, false, false, false, false] rfl rfl (any_of HT_.out (by kernel_rfl)) (fun _ _ _ h => h) (Or.inl ⟨by rfl, ?_⟩) ?_ ?_
           rotate_left
           ·intro w'
            go_simp
            with_reducible rfl
           rotate_left
           ·simp only [Act.put, List.setIfInBounds_toArray, List.set_cons_zero, List.set_cons_succ, i64_w, i32_w]
            rfl
           refine pure_ (i := 5) (N := some 25) (v := ?_) (a' := ?_) #[true, true, true, true, true, true, false, false, false, false, false, false, false, false] rfl rfl (any_of HT_.out (by kernel_rfl)) (fun _ _ _ h => h) (Or.inl ⟨by rfl, ?_⟩) ?_ ?_
           rotate_left
           ·intro w'
            go_simp
            with_reducible rfl
           rotate_left
           ·simp only [Act.put, List.setIfInBounds_toArray, List.set_cons_zero, List.set_cons_succ, i64_w, i32_w]
            rfl
           refine pure_ (i := 7) (N := some 27) (v := ?_) (a' := ?_) #[true, true, true, true, true, true, false, true, false, false, false, false, false, false] rfl rfl (any_of HT_.out (by kernel_rfl)) (fun _ _ _ h => h) (Or.inl ⟨by rfl, ?_⟩) ?_ ?_
           rotate_left
           ·intro w'
            go_simp
            with_reducible rfl
           rotate_left
           ·simp only [Act.put, List.setIfInBounds_toArray, List.set_cons_zero, List.set_cons_succ, i64_w, i32_w]
            rfl
           refine pure_ (i := 8) (N := some 28) (v := ?_) (a' := ?_) #[true, true, true, true, true, true, false, true, true, false, false, false, false, false] rfl rfl (any_of HT_.out (by kernel_rfl)) (fun _ _ _ h => h) (Or.inl ⟨by rfl, ?_⟩) ?_ ?_
           rotate_left
           ·intro w'
            go_simp
            with_reducible rfl
           rotate_left
           ·simp only [Act.put, List.setIfInBounds_toArray, List.set_cons_zero, List.set_cons_succ, i64_w, i32_w]
            rfl
           refine pure_ (i := 9) (N := some 29) (v := ?_) (a' := ?_) #[true, true, true, true, true, true, false, true, true, true, false, false, false, false] rfl rfl (any_of HT_.out (by kernel_rfl)) (fun _ _ _ h => h) (Or.inl ⟨by rfl, ?_⟩) ?_ ?_
           rotate_left
           ·intro w'
            go_simp
            with_reducible rfl
           rotate_left
           ·simp only [Act.put, List.setIfInBounds_toArray, List.set_cons_zero, List.set_cons_succ, i64_w, i32_w]
            rfl
           refine pure_ (i := 10) (N := some 30) (v := ?_) (a' := ?_) #[true, true, true, true, true, true, false, true, true, true, true, false, false, false] rfl rfl (any_of HT_.out (by kernel_rfl)) (fun _ _ _ h => h) (Or.inl ⟨by rfl, ?_⟩) ?_ ?_
           rotate_left
           ·intro w'
            go_simp
            with_reducible rfl
           rotate_left
           ·simp only [Act.put, List.setIfInBounds_toArray, List.set_cons_zero, List.set_cons_succ, i64_w, i32_w]
            rfl
           refine take_ (i := 6) (N := some 26) (v := ?_) (a' := ?_) #[true, true, true, true, true, true, true, true, true, true, true, false, false, false] rfl rfl (take_ofW HT_.out HW_.out (by kernel_rfl)) (fun _ _ _ h => h) (Or.inl ⟨by rfl, ?_⟩) hHeld ?_ ?_
           rotate_left
           ·rintro w' ⟨s0, s1, s2, s3⟩
            go_simp
            with_reducible rfl
           rotate_left
           ·simp only [Act.put, List.setIfInBounds_toArray, List.set_cons_zero, List.set_cons_succ, i64_w, i32_w]
            rfl
           refine take_ (i := 11) (N := some 31) (v := ?_) (a' := ?_) #[true, true, true, true, true, true, true, true, true, true, true, true, false, false] rfl rfl (take_ofW HT_.out HW_.out (by kernel_rfl)) (fun _ _ _ h => h) (Or.inl ⟨by rfl, ?_⟩) hHeld ?_ ?_
           rotate_left
           ·rintro w' ⟨s0, s1, s2, s3⟩
            go_simp
            with_reducible rfl
           rotate_left
           ·simp only [Act.put, List.setIfInBounds_toArray, List.set_cons_zero, List.set_cons_succ, i64_w, i32_w]
            rfl
           refine one_ (i := 12) (N := some 32) #[true, true, true, true, true, true, true, true, true, true, true, true, true, false] rfl rfl (one_of HT_.out (by kernel_rfl)) (by decide) (fun K hK => ?_)
           refine goes_ Try.func40 (by kernel_rfl) rfl #[.slice (some ad123) l0.length c0, .agg #[.int .i64 ((rd_T34 x4_1 (ji9)).f0), .int .i64 ((rd_T34 x4_1 (ji9)).f1)], .agg #[.int .i64 ((rd_T34 l0 (ji12)).f0), .int .i64 ((rd_T34 l0 (ji12)).f1)]] (by rfl) rfl rfl (by (try simp only [List.map_toArray, List.map_cons, List.map_nil]); first | done | (simp only [hji12, hji9]; rfl) | rfl | (simp only [List.length_drop, List.length_take]; rfl)) ?_
           with_reducible refine (interpolate_same.calls k1 _ _ l0 ((rd_T34 x4_1 (ji9)).f0) ((rd_T34 x4_1 (ji9)).f1) ((rd_T34 l0 (ji12)).f0) ((rd_T34 l0 (ji12)).f1) true _ ?side1 ?side2 A15.out).mono ?_
           (case side1 => repeat (first | exact (Kd.C_below HR0.out HB.out) | (with_reducible refine Kd.C_alloc ?_ _) | (with_reducible refine Kd.C_drewN ?_ _) | (with_reducible refine Kd.C_drew ?_)))
           (case side2 => exact HC0.out)
           rintro e w19 ⟨rfl, hb⟩
           have HS0_ := (hb.cell (World.block_lt_of_cell? _ _ (hHeld.1))).trans (hHeld.1)
           have HS1_ := (hb.cell (World.block_lt_of_cell? _ _ (hHeld.2.1))).trans (hHeld.2.1)
           refine ⟨_, rfl, ?_⟩
           have n0_ := Aside0.mk (Kd.R_below (by (with_reducible repeat (first | apply Kd.R_alloc | apply Kd.R_drewN | apply Kd.R_drew)); exact HO_4.out) hb)
           have n1_ := Aside0.mk (below_step (by repeat (first | (with_reducible first | exact HB.out | apply below_alloc | apply pw_below_drewN | apply below_drew1) | exact HB.out)) hb)
           clear HO_4
           clear HB
           have HO_4 := n0_
           have HB := n1_
           clear n0_ n1_
           (try clear hb)
           (try clear hb2)
           (try clear hk)
           (try clear hi)
           refine hK.out _ _ ⟨HS0_, HS1_, ((HB.out.cell (World.block_lt_of_cell? w _ hw128_0)).trans hw128_0), ((HB.out.cell (World.block_lt_of_cell? w _ hw128_1)).trans hw128_1)⟩ (fun hHeld => ?_)
           clear hK K
           refine norm_ (a' := ?_) ?_ ?_
           rotate_left
           ·show Act.put _ (some 32) _ = _
            simp only [Act.put, List.setIfInBounds_toArray, List.set_cons_zero, List.set_cons_succ, i64_w, i32_w]
            rfl
           refine pure_ (i := 13) (N := some 33) (v := ?_) (a' := ?_) #[true, true, true, true, true, true, true, true, true, true, true, true, true, true] rfl rfl (any_of HT_.out (by kernel_rfl)) (fun _ _ _ h => h) (Or.inl ⟨by rfl, ?_⟩) ?_ ?_
           rotate_left
           ·intro w'
            go_simp
            with_reducible rfl
           rotate_left
           ·simp only [Act.put, List.setIfInBounds_toArray, List.set_cons_zero, List.set_cons_succ, i64_w, i32_w]
            rfl
           refine done_ (done_of HT_.out (by kernel_rfl)) ?_
           try go_wp2
           go_roundg k1
           case measure => have := HK1.out; omega
           case rel => exact ⟨(x4_1), (ji12), (by first | rfl | (simp; done) | (simp only [← hji12] <;> (first | rfl | simp)) | (simp [*]; done)), H', ⟨by have := HK1.out; omega⟩, ⟨by (with_reducible repeat (first | apply Kd.R_alloc | apply Kd.R_drewN | apply Kd.R_drew)); exact HO_4.out⟩, ⟨by repeat (first | (with_reducible first | exact HB.out | apply below_alloc | apply pw_below_drewN | apply below_drew1) | exact HB.out)⟩⟩
          ·replace c16 := Bool.eq_false_iff.mpr c16
           subst c16
           have H1 : (if 0 ≤ x5_1 then (if x5_1 < (l0.length : Int) then (if x4_1.length < 8796093022208 then (interpolate_Thin.l0 k1 l0 (x4_1 ++ [(⟨(rd_T34 l0 x5_1).f0, (rd_T34 l0 x5_1).f1⟩ : S34)]) ji12) else (none)) else (none)) else (none)) = some (r1, r2) := by rw [if_neg (show ¬ (false = true) by decide)] at H; exact H
           clear H
           have H := H1
           clear H1
           by_cases c20 : 0 ≤ x5_1
           ·rw [if_pos c20] at H
            have c20b0 : decide (0 ≤ x5_1) = true := decide_eq_true c20
            clear c20
            by_cases c21 : x5_1 < (l0.length : Int)
            ·rw [if_pos c21] at H
             have c21b0 : decide (x5_1 < (l0.length : Int)) = true := decide_eq_true c21
             clear c21
             by_cases c22 : x4_1.length < 8796093022208
             ·rw [if_pos c22] at H
              have LMc22 := Aside0.mk c22
              clear c22
              obtain ⟨y131, hy131⟩ : ∃ y_ : List (S34), y_ = (x4_1 ++ [(⟨(rd_T34 l0 x5_1).f0, (rd_T34 l0 x5_1).f1⟩ : S34)]) := ⟨_, rfl⟩
              replace H : (interpolate_Thin.l0 k1 l0 y131 ji12) = some (r1, r2) := by first | (rw [hy131]; with_reducible exact H) | (have H2_ := (Option.bind_some _ _).symm.trans H; rw [hy131]; with_reducible exact H2_) | (have H2_ := (Option.bind_some _ _).symm.trans H; with_reducible exact H2_) | with_reducible exact H | (rw [hy131]; exact H) | exact H
              have Ny131 := Aside0.mk hy131
              clear hy131
              have H' := Aside0.mk H
              clear H
              try go_wp2
              have n0_ := Aside0.mk (Kd.R_drew HO_4.out)
              have n1_ := Aside0.mk (below_drew1 HB.out)
              clear HO_4
              clear HB
              have HO_4 := n0_
              have HB := n1_
              clear n0_ n1_
              obtain ⟨Ao24, co24, eo24⟩ := Kd.R_slice HO_4.out
              (first | subst eo24 | (injection eo24 with f1_ f2_ f3_; have f4_ := f1_.symm; have f5_ := f3_.symm; clear f1_ f2_ f3_; subst f4_; subst f5_))
              have p127 : 0 ≤ ((ji9) : Int) := of_decide_eq_true (by first | (with_reducible assumption) | assumption)
              have q127 : (ji9) < (x4_1.length : Int) := of_decide_eq_true (by first | (with_reducible assumption) | assumption)
              obtain ⟨ad127, e127, hx127_0, hx127_1⟩ := at_T34 (Kd.R_reads' HO_4.out).2.2 (ji9) p127 q127
              cases e127
              replace p127 := eq_true p127
              replace q127 := eq_true q127
              have p128 : 0 ≤ ((ji12) : Int) := of_decide_eq_true (by first | (with_reducible assumption) | assumption)
              have q128 : (ji12) < (l0.length : Int) := of_decide_eq_true (by first | (with_reducible assumption) | assumption)
              obtain ⟨ad128, e128, hx128_0, hx128_1⟩ := at_T34 HR0.out (ji12) p128 q128
              have hw128_1 := hx128_1
              have hw128_0 := hx128_0
              obtain rfl : ad123 = ad128 := (by injection e128)
              replace hx128_0 := (HB.out.cell (World.block_lt_of_cell? w _ hx128_0)).trans hx128_0
              replace hx128_1 := (HB.out.cell (World.block_lt_of_cell? w _ hx128_1)).trans hx128_1
              replace p128 := eq_true p128
              replace q128 := eq_true q128
              refine start_ (n := 14) (S := fun w' => w'.cell? (ad127.add (((ji9)).toNat * 2)) = some (.int .i64 ((rd_T34 x4_1 (ji9)).f0)) ∧ w'.cell? ⟨(ad127.add (((ji9)).toNat * 2)).block, (ad127.add (((ji9)).toNat * 2)).off + 1, none⟩ = some (.int .i64 ((rd_T34 x4_1 (ji9)).f1)) ∧ w'.cell? (ad123.add (((ji12)).toNat * 2)) = some (.int .i64 ((rd_T34 l0 (ji12)).f0)) ∧ w'.cell? ⟨(ad123.add (((ji12)).toNat * 2)).block, (ad123.add (((ji12)).toNat * 2)).off + 1, none⟩ = some (.int .i64 ((rd_T34 l0 (ji12)).f1))) (ds := []) #[false, false, false, false, false, false, false, false, false, false, false, false, false, false] (by kernel_rfl) rfl rfl ⟨hx127_0, hx127_1, ((HB.out.cell (World.block_lt_of_cell? w _ hw128_0)).trans hw128_0), ((HB.out.cell (World.block_lt_of_cell? w _ hw128_1)).trans hw128_1)⟩ (fun hHeld => ?_); refine with_tabW interpolate_Thin.tab7 interpolate_Thin.bits7 (fun HT_ HW_ => ?_)
              generalize wr.drew = w23 at HO_4 HB hx127_0 hx127_1 hx128_0 hx128_1 hHeld ⊢
              refine pure_ (i := 0) (N := some 20) (v := ?_) (a' := ?_) #[true, false, false, false, false, false, false, false, false, false, false, false, false, false] rfl rfl (any_of HT_.out (by kernel_rfl)) (fun _ _ _ h => h) (Or.inl ⟨by rfl, ?_⟩) ?_ ?_
              rotate_left
              ·intro w'
               go_simp
               with_reducible rfl
              rotate_left
              ·simp only [Act.put, List.setIfInBounds_toArray, List.set_cons_zero, List.set_cons_succ, i64_w, i32_w]
               rfl
              refine pure_ (i := 1) (N := some 21) (v := ?_) (a' := ?_) #[true, true, false, false, false, false, false, false, false, false, false, false, false, false] rfl rfl (any_of HT_.out (by kernel_rfl)) (fun _ _ _ h => h) (Or.inl ⟨by rfl, ?_⟩) ?_ ?_
              rotate_left
              ·intro w'
               go_simp
               with_reducible rfl
              rotate_left
              ·simp only [Act.put, List.setIfInBounds_toArray, List.set_cons_zero, List.set_cons_succ, i64_w, i32_w]
               rfl
              refine pure_ (i := 2) (N := some 22) (v := ?_) (a' := ?_) #[true, true, true, false, false, false, false, false, false, false, false, false, false, false] rfl rfl (any_of HT_.out (by kernel_rfl)) (fun _ _ _ h => h) (Or.inl ⟨by rfl, ?_⟩) ?_ ?_
              rotate_left
              ·intro w'
               go_simp
               with_reducible rfl
              rotate_left
              ·simp only [Act.put, List.setIfInBounds_toArray, List.set_cons_zero, List.set_cons_succ, i64_w, i32_w]
               rfl
              refine pure_ (i := 3) (N := some 23) (v := ?_) (a' := ?_) #[true, true, true, true, false, false, false, false, false, false, false, false, false, false] rfl rfl (any_of HT_.out (by kernel_rfl)) (fun _ _ _ h => h) (Or.inl ⟨by rfl, ?_⟩) ?_ ?_
              rotate_left
              ·intro w'
               go_simp
               with_reducible rfl
              rotate_left
              ·simp only [Act.put, List.setIfInBounds_toArray, List.set_cons_zero, List.set_cons_succ, i64_w, i32_w]
               rfl
              refine pure_ (i := 4) (N := some 24) (v := ?_) (a' := ?_) #[true, true, true, true, true, false, false, false, false, false, false, false, false, false] rfl rfl (any_of HT_.out (by kernel_rfl)) (fun _ _ _ h => h) (Or.inl ⟨by rfl, ?_⟩) ?_ ?_
              rotate_left
              ·intro w'
               go_simp
               with_reducible rfl
              rotate_left
              ·simp only [Act.put, List.setIfInBounds_toArray, List.set_cons_zero, List.set_cons_succ, i64_w, i32_w]
               rfl
              refine pure_ (i := 5) (N := some 25) (v := ?_) (a' := ?_) #[true, true, true, true, true, true, false, false, false, false, false, false, false, false] rfl rfl (any_of HT_.out (by kernel_rfl)) (fun _ _ _ h => h) (Or.inl ⟨by rfl, ?_⟩) ?_ ?_
              rotate_left
              ·intro w'
               go_simp
               with_reducible rfl
              rotate_left
              ·simp only [Act.put, List.setIfInBounds_toArray, List.set_cons_zero, List.set_cons_succ, i64_w, i32_w]
               rfl
              refine pure_ (i := 7) (N := some 27) (v := ?_) (a' := ?_) #[true, true, true, true, true, true, false, true, false, false, false, false, false, false] rfl rfl (any_of HT_.out (by kernel_rfl)) (fun _ _ _ h => h) (Or.inl ⟨by rfl, ?_⟩) ?_ ?_
              rotate_left
              ·intro w'
               go_simp
               with_reducible rfl
              rotate_left
              ·simp only [Act.put, List.setIfInBounds_toArray, List.set_cons_zero, List.set_cons_succ, i64_w, i32_w]
               rfl
              refine pure_ (i := 8) (N := some 28) (v := ?_) (a' := ?_) #[true, true, true, true, true, true, false, true, true, false, false, false, false, false] rfl rfl (any_of HT_.out (by kernel_rfl)) (fun _ _ _ h => h) (Or.inl ⟨by rfl, ?_⟩) ?_ ?_
              rotate_left
              ·intro w'
               go_simp
               with_reducible rfl
              rotate_left
              ·simp only [Act.put, List.setIfInBounds_toArray, List.set_cons_zero, List.set_cons_succ, i64_w, i32_w]
               rfl
              refine pure_ (i := 9) (N := some 29) (v := ?_) (a' := ?_) #[true, true, true, true, true, true, false, true, true, true, false, false, false, false] rfl rfl (any_of HT_.out (by kernel_rfl)) (fun _ _ _ h => h) (Or.inl ⟨by rfl, ?_⟩) ?_ ?_
              rotate_left
              ·intro w'
               go_simp
               with_reducible rfl
              rotate_left
              ·simp only [Act.put, List.setIfInBounds_toArray, List.set_cons_zero, List.set_cons_succ, i64_w, i32_w]
               rfl
              refine pure_ (i := 10) (N := some 30) (v := ?_) (a' := ?_) #[true, true, true, true, true, true, false, true, true, true, true, false, false, false] rfl rfl (any_of HT_.out (by kernel_rfl)) (fun _ _ _ h => h) (Or.inl ⟨by rfl, ?_⟩) ?_ ?_
              rotate_left
              ·intro w'
               go_simp
               with_reducible rfl
              rotate_left
              ·simp only [Act.put, List.setIfInBounds_toArray, List.set_cons_zero, List.set_cons_succ, i64_w, i32_w]
               rfl
              refine take_ (i := 6) (N := some 26) (v := ?_) (a' := ?_) #[true, true, true, true, true, true, true, true, true, true, true, false, false, false] rfl rfl (take_ofW HT_.out HW_.out (by kernel_rfl)) (fun _ _ _ h => h) (Or.inl ⟨by rfl, ?_⟩) hHeld ?_ ?_
              rotate_left
              ·rintro w' ⟨s0, s1, s2, s3⟩
               go_simp
               with_reducible rfl
              rotate_left
              ·simp only [Act.put, List.setIfInBounds_toArray, List.set_cons_zero, List.set_cons_succ, i64_w, i32_w]
               rfl
              refine take_ (i := 11) (N := some 31) (v := ?_) (a' := ?_) #[true, true, true, true, true, true, true, true, true, true, true, true, false, false] rfl rfl (take_ofW HT_.out HW_.out (by kernel_rfl)) (fun _ _ _ h => h) (Or.inl ⟨by rfl, ?_⟩) hHeld ?_ ?_
              rotate_left
              ·rintro w' ⟨s0, s1, s2, s3⟩
               go_simp
               with_reducible rfl
              rotate_left
              ·simp only [Act.put, List.setIfInBounds_toArray, List.set_cons_zero, List.set_cons_succ, i64_w, i32_w]
               rfl
              refine one_ (i := 12) (N := some 32) #[true, true, true, true, true, true, true, true, true, true, true, true, true, false] rfl rfl (one_of HT_.out (by kernel_rfl)) (by decide) (fun K hK => ?_)
              refine goes_ Try.func40 (by kernel_rfl) rfl #[.slice (some ad123) l0.length c0, .agg #[.int .i64 ((rd_T34 x4_1 (ji9)).f0), .int .i64 ((rd_T34 x4_1 (ji9)).f1)], .agg #[.int .i64 ((rd_T34 l0 (ji12)).f0), .int .i64 ((rd_T34 l0 (ji12)).f1)]] (by rfl) rfl rfl (by (try simp only [List.map_toArray, List.map_cons, List.map_nil]); first | done | (simp only [hji12, hji9]; rfl) | rfl | (simp only [List.length_drop, List.length_take]; rfl)) ?_
              with_reducible refine (interpolate_same.calls k1 _ _ l0 ((rd_T34 x4_1 (ji9)).f0) ((rd_T34 x4_1 (ji9)).f1) ((rd_T34 l0 (ji12)).f0) ((rd_T34 l0 (ji12)).f1) false _ ?side1 ?side2 A15.out).mono ?_
              (case side1 => repeat (first | exact (Kd.C_below HR0.out HB.out) | (with_reducible refine Kd.C_alloc ?_ _) | (with_reducible refine Kd.C_drewN ?_ _) | (with_reducible refine Kd.C_drew ?_)))
              (case side2 => exact HC0.out)
              rintro e w25 ⟨rfl, hb⟩
              have HS0_ := (hb.cell (World.block_lt_of_cell? _ _ (hHeld.1))).trans (hHeld.1)
              have HS1_ := (hb.cell (World.block_lt_of_cell? _ _ (hHeld.2.1))).trans (hHeld.2.1)
              refine ⟨_, rfl, ?_⟩
              have n0_ := Aside0.mk (Kd.R_below (by (with_reducible repeat (first | apply Kd.R_alloc | apply Kd.R_drewN | apply Kd.R_drew)); exact HO_4.out) hb)
              have n1_ := Aside0.mk (below_step (by repeat (first | (with_reducible first | exact HB.out | apply below_alloc | apply pw_below_drewN | apply below_drew1) | exact HB.out)) hb)
              clear HO_4
              clear HB
              have HO_4 := n0_
              have HB := n1_
              clear n0_ n1_
              (try clear hb)
              (try clear hb2)
              (try clear hk)
              (try clear hi)
              refine hK.out _ _ ⟨HS0_, HS1_, ((HB.out.cell (World.block_lt_of_cell? w _ hw128_0)).trans hw128_0), ((HB.out.cell (World.block_lt_of_cell? w _ hw128_1)).trans hw128_1)⟩ (fun hHeld => ?_)
              clear hK K
              refine norm_ (a' := ?_) ?_ ?_
              rotate_left
              ·show Act.put _ (some 32) _ = _
               simp only [Act.put, List.setIfInBounds_toArray, List.set_cons_zero, List.set_cons_succ, i64_w, i32_w]
               rfl
              refine pure_ (i := 13) (N := some 33) (v := ?_) (a' := ?_) #[true, true, true, true, true, true, true, true, true, true, true, true, true, true] rfl rfl (any_of HT_.out (by kernel_rfl)) (fun _ _ _ h => h) (Or.inl ⟨by rfl, ?_⟩) ?_ ?_
              rotate_left
              ·intro w'
               go_simp
               with_reducible rfl
              rotate_left
              ·simp only [Act.put, List.setIfInBounds_toArray, List.set_cons_zero, List.set_cons_succ, i64_w, i32_w]
               rfl
              refine done_ (done_of HT_.out (by kernel_rfl)) ?_
              have p130 : 0 ≤ (x5_1 : Int) := of_decide_eq_true (by first | (with_reducible assumption) | assumption)
              have q130 : x5_1 < (l0.length : Int) := of_decide_eq_true (by first | (with_reducible assumption) | assumption)
              obtain ⟨ad130, e130, hx130_0, hx130_1⟩ := at_T34 HR0.out x5_1 p130 q130
              obtain rfl : ad123 = ad130 := (by injection e130)
              replace hx130_0 := (HB.out.cell (World.block_lt_of_cell? w _ hx130_0)).trans hx130_0
              replace hx130_1 := (HB.out.cell (World.block_lt_of_cell? w _ hx130_1)).trans hx130_1
              replace p130 := eq_true p130
              replace q130 := eq_true q130
              try go_wp2_with (first | ((with_reducible refine gate_builtin (b := .append) (xs := #[.tmp 34, .tmp 39]) rfl ?_); at_builtin; refine Kd.R_append k34 (w0 := w) w.heap.size rfl (.tmp 34) (.tmp 39) 22 34 (.agg #[(.int .i64 0), (.int .i64 0)]) 16 rfl Try.underlying22 info34 rfl (by decide) (by omega) (.slice (some ad127) x4_1.length co24) x4_1 (⟨(rd_T34 l0 x5_1).f0, (rd_T34 l0 x5_1).f1⟩ : S34) [.int .i64 ((rd_T34 l0 x5_1).f0), .int .i64 ((rd_T34 l0 x5_1).f1)] (fun _ => True) (fun _ => False) rfl rfl ?aP (fun _ hk => hk.elim) ?aF ?aO ?aB ?aS ?aL ?_; (case aP => exact k34_mkM _ _ _ (⟨(rd_T34 l0 x5_1).f0, (rd_T34 l0 x5_1).f1⟩ : S34)); (case aB => exact (by repeat (first | (with_reducible first | exact HB.out | apply below_alloc | apply pw_below_drewN | apply below_drew1) | exact HB.out))); (case aF => exact (fun _ _ => trivial)); (case aO => exact (by (with_reducible repeat (first | apply Kd.R_alloc | apply Kd.R_drewN | apply Kd.R_drew)); exact HO_4.out)); (case aS => exact (below_size (by repeat (first | (with_reducible first | exact HB.out | apply below_alloc | apply pw_below_drewN | apply below_drew1) | exact HB.out)))); (case aL => have := LMc22.out; omega); intro v132 w26 ho hb hg hat; rw [← Ny131.out] at ho; have n0_ := Aside0.mk (hb); have n1_ := Aside0.mk (ho); clear HB; clear HO_4; have HB := n0_; have HO133 := n1_; clear n0_ n1_; clear ho hb hg hat))
              go_roundg k1
              case measure => have := HK1.out; omega
              case rel => exact ⟨(y131), (ji12), (by first | rfl | (simp; done) | (simp only [← hji12] <;> (first | rfl | simp)) | (simp [*]; done)), H', ⟨by have := HK1.out; omega⟩, ⟨by (with_reducible repeat (first | apply Kd.R_alloc | apply Kd.R_drewN | apply Kd.R_drew)); exact HO133.out⟩, ⟨by repeat (first | (with_reducible first | exact HB.out | apply below_alloc | apply pw_below_drewN | apply below_drew1) | exact HB.out)⟩⟩
             ·rw [if_neg c22] at H
              exact absurd H (by simp)
            ·rw [if_neg c21] at H
             exact absurd H (by simp)
           ·rw [if_neg c20] at H
            exact absurd H (by simp)
         ·rw [if_neg c14] at H
          exact absurd H (by simp)
        ·rw [if_neg c13] at H
         exact absurd H (by simp)
       ·rw [if_neg c11] at H
        exact absurd H (by simp)
      ·rw [if_neg c10] at H
       exact absurd H (by simp)
     ·rw [if_neg c8] at H
      have c8b0 : decide (x5_1 < (wrap64 ((l0.length : Int) - 1))) = false := decide_eq_false c8
      clear c8
      obtain ⟨ji27, hji27⟩ : ∃ j_ : Int, (wrap64 ((l0.length : Int) - 1)) = j_ := ⟨_, rfl⟩
      replace H : (if 0 ≤ (ji27) then (if (ji27) < (l0.length : Int) then (if x4_1.length < 8796093022208 then (some ((x4_1 ++ [(⟨(rd_T34 l0 (ji27)).f0, (rd_T34 l0 (ji27)).f1⟩ : S34)]), 0)) else (none)) else (none)) else (none)) = some (r1, r2) := by first | (rw [hji27] at H; exact H) | (simp only [hji27] at H ⊢; exact H)
      (try rw [hji27] at c8b0)
      have hji27w : (IntKind.i64.wrap ((l0.length : Int) - 1)) = ji27 := (i64_w _).trans hji27
      by_cases c28 : 0 ≤ (ji27)
      ·rw [if_pos c28] at H
       have c28b0 : decide (0 ≤ (ji27)) = true := decide_eq_true c28
       clear c28
       by_cases c29 : (ji27) < (l0.length : Int)
       ·rw [if_pos c29] at H
        have c29b0 : decide ((ji27) < (l0.length : Int)) = true := decide_eq_true c29
        clear c29
        by_cases c30 : x4_1.length < 8796093022208
        ·rw [if_pos c30] at H
         have LMc30 := Aside0.mk c30
         clear c30
         obtain ⟨y135, hy135⟩ : ∃ y_ : List (S34), y_ = (x4_1 ++ [(⟨(rd_T34 l0 (ji27)).f0, (rd_T34 l0 (ji27)).f1⟩ : S34)]) := ⟨_, rfl⟩
         replace H : (some (y135, 0)) = some (r1, r2) := by first | (rw [hy135]; with_reducible exact H) | (have H2_ := (Option.bind_some _ _).symm.trans H; rw [hy135]; with_reducible exact H2_) | (have H2_ := (Option.bind_some _ _).symm.trans H; with_reducible exact H2_) | with_reducible exact H | (rw [hy135]; exact H) | exact H
         have Ny135 := Aside0.mk hy135
         clear hy135
         simp only [Option.some.injEq, Prod.mk.injEq] at H
         obtain ⟨rfl, rfl⟩ := H
         have p134 : 0 ≤ ((ji27) : Int) := of_decide_eq_true (by first | (with_reducible assumption) | assumption)
         have q134 : (ji27) < (l0.length : Int) := of_decide_eq_true (by first | (with_reducible assumption) | assumption)
         obtain ⟨ad134, e134, hx134_0, hx134_1⟩ := at_T34 HR0.out (ji27) p134 q134
         obtain rfl : ad123 = ad134 := (by injection e134)
         replace hx134_0 := (HB.out.cell (World.block_lt_of_cell? w _ hx134_0)).trans hx134_0
         replace hx134_1 := (HB.out.cell (World.block_lt_of_cell? w _ hx134_1)).trans hx134_1
         replace p134 := eq_true p134
         replace q134 := eq_true q134
         go_wp2_with (first | ((with_reducible refine gate_builtin (b := .append) (xs := #[.tmp 41, .tmp 48]) rfl ?_); at_builtin; refine Kd.R_append k34 (w0 := w) w.heap.size rfl (.tmp 41) (.tmp 48) 22 34 (.agg #[(.int .i64 0), (.int .i64 0)]) 16 rfl Try.underlying22 info34 rfl (by decide) (by omega) u4 x4_1 (⟨(rd_T34 l0 (ji27)).f0, (rd_T34 l0 (ji27)).f1⟩ : S34) [.int .i64 ((rd_T34 l0 (ji27)).f0), .int .i64 ((rd_T34 l0 (ji27)).f1)] (fun _ => True) (fun _ => False) rfl rfl ?aP (fun _ hk => hk.elim) ?aF ?aO ?aB ?aS ?aL ?_; (case aP => exact k34_mkM _ _ _ (⟨(rd_T34 l0 (ji27)).f0, (rd_T34 l0 (ji27)).f1⟩ : S34)); (case aB => exact (by repeat (first | (with_reducible first | exact HB.out | apply below_alloc | apply pw_below_drewN | apply below_drew1) | exact HB.out))); (case aF => exact (fun _ _ => trivial)); (case aO => exact (by (with_reducible repeat (first | apply Kd.R_alloc | apply Kd.R_drewN | apply Kd.R_drew)); exact HO_4.out)); (case aS => exact (below_size (by repeat (first | (with_reducible first | exact HB.out | apply below_alloc | apply pw_below_drewN | apply below_drew1) | exact HB.out)))); (case aL => have := LMc30.out; omega); intro v136 w31 ho hb hg hat; rw [← Ny135.out] at ho; have n0_ := Aside0.mk (hb); have n1_ := Aside0.mk (ho); clear HB; clear HO_4; have HB := n0_; have HO137 := n1_; clear n0_ n1_; clear ho hb hg hat))
         go_ret2
         exact ⟨_, by first | rfl | (simp [errW_none, errW_some] <;> rfl) | (simp only [← hji27]; first | rfl | (simp [errW_none, errW_some] <;> rfl)) | (simp [*, errW_none, errW_some] <;> rfl), by (with_reducible repeat (first | apply Kd.R_alloc | apply Kd.R_drewN | apply Kd.R_drew)); exact HO137.out, by repeat (first | (with_reducible first | exact HB.out | apply below_alloc | apply pw_below_drewN | apply below_drew1) | exact HB.out)⟩
        ·rw [if_neg c30] at H
         exact absurd H (by simp)
       ·rw [if_neg c29] at H
        exact absurd H (by simp)
      ·rw [if_neg c28] at H
       exact absurd H (by simp)
  ·rw [if_neg c4] at H
   exact absurd H (by simp)
 ·replace c3 := Bool.eq_false_iff.mpr c3
  subst c3
  have H1 : (some (([] : List (S34)), 1)) = some (r1, r2) := by rw [if_neg (show ¬ (false = true) by decide)] at H; exact H
  clear H
  have H := H1
  clear H1
  simp only [Option.some.injEq, Prod.mk.injEq] at H
  obtain ⟨rfl, rfl⟩ := H
  go_enter Try.func19, Try.ntmps19
  go_wp2_with (first | ((with_reducible refine gate_callee (f := 30) rfl ?_); refine goesL_ (some 7) rfl rfl Try.func30 (by kernel_rfl) rfl #[.slice A0 l0.length c0] rfl (by (try simp only [List.map_toArray, List.map_cons, List.map_nil]); first | done | rfl | (simp only [List.length_drop, List.length_take]; rfl)) ?_; (with_reducible refine (interpolate_right.calls _ _ l0 false _ ?side1 ?side2 A2.out).mono ?_); (case side1 => repeat (first | exact HR0.out | (with_reducible refine Kd.C_alloc ?_ _) | (with_reducible refine Kd.C_drewN ?_ _) | (with_reducible refine Kd.C_drew ?_))); (case side2 => exact HC0.out); rintro e w32 ⟨rfl, hb⟩; refine ⟨_, rfl, ?_⟩; have n0_ := Aside0.mk (below_step (by repeat (first | (with_reducible first | exact HB.out | apply below_alloc | apply pw_below_drewN | apply below_drew1) | exact HB.out)) hb); clear HB; have HB := n0_; clear n0_; (try clear hb); (try clear hb2); (try clear hk); (try clear hi)))
  go_ret2
  exact ⟨_, by first | rfl | (simp [errW_none, errW_some] <;> rfl) | (simp [*, errW_none, errW_some] <;> rfl), by first | exact Kd.R_nil _ _ _ _ _ | exact Kd.N_nil _ _ _ _ _ | exact Kd.V_nil _ _ _ _ _ | exact Kd.Q_nil _ _ _ _ _ | exact Kd.S_nil _ _ _ _ _, by repeat (first | (with_reducible first | exact HB.out | apply below_alloc | apply pw_below_drewN | apply below_drew1) | exact HB.out)⟩

-- NOT PRINTED: function 45 (api_Grade_45)

/-! ### api_Grade_58: function 58 -/
-- HELPER

-- NOT PRINTED: function 56 (api_Grade_56)

-- NOT PRINTED: function 46 (api_Grade_46)

/-! ### api_Grade_27: function 27 -/
-- HELPER
theorem run_copy_k {P : Program} (k : Nat) (w : World) (dT sT ty elem : TypeId) (g o dLen dCap : Nat) (a : Addr) (sLen sCap m : Nat) (cur : List Value) (t : TypeId) (cs : List Value) (hu : P.underlying dT = some (.slice elem)) (hs : (P.info? elem).map (·.size) = some k)
    (hg : w.heap[g]? = some (.cells cur.toArray t (0, 0))) (hm : m = Nat.min sLen dLen) (hn : cs.length = m * k) (hsrc : ∀ j v, cs[j]? = some v → w.cell? (a.add j) = some v) (hfit : o + cs.length ≤ cur.length) (h1 : ∀ v ∈ cs, v.oneCell' = true) :
    (Builtin.copy_ #[dT, sT] ty #[.slice (some ⟨g, o, none⟩) dLen dCap, .slice (some a) sLen sCap]).run P w = .ok (goInt m) (w.setRow g (splice cur o cs).toArray) := by
  have hl := run_loadCells_list (P := P) w a cs hsrc
  have hst := run_storeCells_at P g o t cs 0 cur.toArray w hg (by simpa using hfit) h1
  cases hq : P.info? elem with
  | none => simp [hq] at hs
  | some i =>
    have hi : i.size = k := by simpa [hq] using hs
    subst hm
    simp [Builtin.copy_, run_underlying hu, Builtin.lenOf, Builtin.firstCells, sizeOf, typeInfo, hq, hi, ← hn, hl, hst, splice]
set_option maxHeartbeats 1000000 in
set_option maxRecDepth 100000 in
theorem api_Grade_27.grow (b n c i vb vc : Nat) (cs vs : List Value) (w : World) (hi : i < n) (hnc : n ≤ c) (hroom : c < n + 1) (hbig : (n + 1) * 16 ≤ 140737488355328)
    (hcl : cs.length = n * 2) (hvl : vs.length = 2) (hcs : ∀ j v, cs[j]? = some v → w.cell? ⟨b, j, none⟩ = some v) (hvs : ∀ j v, vs[j]? = some v → w.cell? ⟨vb, j, none⟩ = some v) (h1c : ∀ v ∈ cs, v.oneCell' = true) (h1v : ∀ v ∈ vs, v.oneCell' = true) :
    Calls Try.prog 27 #[.slice (some ⟨b, 0, none⟩) n c, .int .i64 i, .slice (some ⟨vb, 0, none⟩) 1 vc] w fun e w' =>
      e = .returned (.slice (some ⟨w.heap.size, 0, none⟩) (n + 1) (grownCap w (n + 1) c 34)) ∧ Below w.heap.size w w' ∧
      w'.ownsRow w.heap.size 34 2 (.slice (some ⟨w.heap.size, 0, none⟩) (n + 1) (grownCap w (n + 1) c 34)) (n + 1) (cs.take (i * 2) ++ vs ++ cs.drop (i * 2)) := by
  have hinfo : (Try.prog.info? 34).map (fun i => (i.zero, i.size, i.bytes)) = some (some (.agg #[.int .i64 0, .int .i64 0]), 2, 16) := by kernel_rfl
  obtain ⟨i0, hi0, hz0, hzs, hzb⟩ : ∃ i0, Try.prog.info? 34 = some i0 ∧ i0.zero = some (.agg #[.int .i64 0, .int .i64 0]) ∧ i0.size = 2 ∧ i0.bytes = 16 := by
    cases hq : Try.prog.info? 34 with
    | none => rw [hq] at hinfo; simp at hinfo
    | some i0 => rw [hq] at hinfo; simp at hinfo; exact ⟨i0, rfl, hinfo.1, hinfo.2.1, hinfo.2.2⟩
  have hsz : (Try.prog.info? 34).map (·.size) = some 2 := by rw [hi0]; simp [hzs]
  have hbw : b < w.heap.size := block_lt_of_cell (hcs 0 _ (List.getElem?_eq_getElem (by omega)))
  have hvw : vb < w.heap.size := block_lt_of_cell (hvs 0 _ (List.getElem?_eq_getElem (by omega)))
  have hik : i + (n + 1 - i) = n + 1 := by omega
  have hold : (Builtin.firstCells i0.size i (.slice (some ⟨b, 0, none⟩) i c)).run Try.prog w.drew = .ok (cs.take (i * 2)).toArray w.drew := by
    rw [hzs]
    exact run_firstCells_some w.drew 2 i ⟨b, 0, none⟩ i c (cs.take (i * 2)) (by rw [List.length_take]; omega) (fun j v hj => by
      rw [Addr.add_lit, Nat.zero_add]
      rw [List.getElem?_take] at hj
      split at hj
      · exact hcs j v hj
      · cases hj)
  have hkk : (n : Int) + 1 - (i : Int) = ((n + 1 - i : Nat) : Int) := by omega
  have hrz : ∀ ty, (Builtin.append_ #[22, 3] ty #[.slice (some ⟨b, 0, none⟩) i c, .int .i64 ((n : Int) + 1 - (i : Int))]).run Try.prog w =
      .ok (.slice (some ⟨w.heap.size, 0, none⟩) (n + 1) (grownCap w (n + 1) c 34)) (w.drew.alloc (.cells ((cs.take (i * 2)).toArray ++ Builtin.zeroCells (Value.agg #[.int .i64 0, .int .i64 0]).cells (n + 1 - i) ++ Builtin.zeroCells (Value.agg #[.int .i64 0, .int .i64 0]).cells (grownCap w (n + 1) c 34 - (n + 1))) 34)) := fun ty => by
    have h := Lib.run_append_grow_zeros w 22 3 ty 34 i0 _ .i64 .i64 Try.underlying22 Try.underlying3 hi0 hz0 (some ⟨b, 0, none⟩) i c (cs.take (i * 2)) hold (n + 1 - i) (by omega) (by omega) (by omega) (by omega) (by rw [hzb]; omega) (by rw [hzb, hik]; exact growslice_fits hroom hbig)
    rw [hik] at h
    rw [hkk]
    exact h
  obtain ⟨G, hG⟩ : ∃ G, G = grownCap w (n + 1) c 34 := ⟨_, rfl⟩
  rw [← hG] at hrz ⊢
  have hGn : n + 1 ≤ G := by rw [hG]; exact grownCap_ge w _ _ _
  have hG63 : G ≤ 9223372036854775807 := by
    have := grownCap_le_maxLen w (n + 1) c 34 (by unfold maxLen; omega)
    rw [← hG] at this
    unfold maxLen at this
    omega
  obtain ⟨ROW, hROW⟩ : ∃ ROW : List Value, ROW = cs.take (i * 2) ++ ((Builtin.zeroCells (Value.agg #[.int .i64 0, .int .i64 0]).cells (n + 1 - i)).toList ++ (Builtin.zeroCells (Value.agg #[.int .i64 0, .int .i64 0]).cells (G - (n + 1))).toList) := ⟨_, rfl⟩
  have hRA : (cs.take (i * 2)).toArray ++ Builtin.zeroCells (Value.agg #[.int .i64 0, .int .i64 0]).cells (n + 1 - i) ++ Builtin.zeroCells (Value.agg #[.int .i64 0, .int .i64 0]).cells (G - (n + 1)) = ROW.toArray := by rw [hROW]; simp
  rw [hRA] at hrz
  have hRl : ROW.length = G * 2 := by
    rw [hROW]
    simp [Builtin.zeroCells, Value.cells]
    omega
  have hRt : ROW.take (i * 2) = cs.take (i * 2) := by
    rw [hROW, List.take_append_of_le_length (by rw [List.length_take]; omega), List.take_of_length_le (by rw [List.length_take]; omega)]
  clear hRA hROW hold hi0 hz0 hzs hzb hinfo
  obtain ⟨W1, hW1⟩ : ∃ W1, W1 = w.drew.alloc (.cells ROW.toArray 34) := ⟨_, rfl⟩
  have hH1 : W1.heap[w.heap.size]? = some (.cells ROW.toArray 34 (0, 0)) := by rw [hW1]; exact blk_new w.drew _
  have hOb : ∀ x j v, x < w.heap.size → w.cell? ⟨x, j, none⟩ = some v → W1.cell? ⟨x, j, none⟩ = some v := fun x j v hx h => by rw [hW1, World.cell?_alloc_past (w := w.drew) _ x j hx]; exact h
  have hbN : b ≠ w.heap.size := by omega
  have hvN : vb ≠ w.heap.size := by omega
  have hcl2 : ∀ (W W' : World), W.heap = W'.heap → ∀ x, W.cell? x = W'.cell? x := fun W W' h x => by unfold World.cell?; rw [h]
  have hs1 : (splice ROW (i * 2) vs).length = G * 2 := by rw [length_splice _ _ _ (by omega), hRl]
  have hcpA : ∀ (W : World), W.heap = W1.heap → ∀ ty dc, (Builtin.copy_ #[22, 22] ty #[.slice (some ⟨w.heap.size, i * 2, none⟩) (n + 1 - i) dc, .slice (some ⟨vb, 0, none⟩) 1 vc]).run Try.prog W = .ok (goInt 1) (W.setRow w.heap.size (splice ROW (i * 2) vs).toArray) := fun W hW ty dc =>
    run_copy_k 2 W _ _ ty 34 w.heap.size (i * 2) (n + 1 - i) dc ⟨vb, 0, none⟩ 1 vc 1 ROW 34 vs Try.underlying22 hsz (by rw [hW]; exact hH1) (by simp only [Nat.min_def]; split <;> omega) (by omega)
      (fun j v hj => by rw [Addr.add_lit, Nat.zero_add, hcl2 W W1 hW]; exact hOb _ _ _ hvw (hvs j v hj)) (by omega) h1v
  obtain ⟨W2, hW2⟩ : ∃ W2, W2 = W1.setRow w.heap.size (splice ROW (i * 2) vs).toArray := ⟨_, rfl⟩
  have hH2 : W2.heap[w.heap.size]? = some (.cells (splice ROW (i * 2) vs).toArray 34 (0, 0)) := by rw [hW2]; exact setRow_heap W1 _ _ _ _ _ hH1
  have hdl : (cs.drop (i * 2)).length = (n - i) * 2 := by rw [List.length_drop, hcl]; omega
  have hO2 : ∀ x j v, x < w.heap.size → w.cell? ⟨x, j, none⟩ = some v → W2.cell? ⟨x, j, none⟩ = some v := fun x j v hx h => by
    have := hOb x j v hx h
    rw [hW2]
    unfold World.cell? at this ⊢
    rw [setRow_other W1 w.heap.size x _ (by show x ≠ _; omega)]
    exact this
  have hcpB : ∀ (W : World), W.heap = W2.heap → ∀ ty dc sc, (Builtin.copy_ #[22, 22] ty #[.slice (some ⟨w.heap.size, (i + 1) * 2, none⟩) (n + 1 - (i + 1)) dc, .slice (some ⟨b, i * 2, none⟩) (n - i) sc]).run Try.prog W = .ok (goInt (n - i : Nat)) (W.setRow w.heap.size (splice (splice ROW (i * 2) vs) ((i + 1) * 2) (cs.drop (i * 2))).toArray) := fun W hW ty dc sc =>
    run_copy_k 2 W _ _ ty 34 w.heap.size ((i + 1) * 2) (n + 1 - (i + 1)) dc ⟨b, i * 2, none⟩ (n - i) sc (n - i) (splice ROW (i * 2) vs) 34 (cs.drop (i * 2)) Try.underlying22 hsz (by rw [hW]; exact hH2) (by simp only [Nat.min_def]; split <;> omega) hdl
      (fun j v hj => by rw [Addr.add_lit, hcl2 W W2 hW]; exact hO2 _ _ _ hbw (hcs _ v (by rwa [List.getElem?_drop] at hj))) (by omega) (fun v hv => h1c v (List.mem_of_mem_drop hv))
  have hfin : (splice (splice ROW (i * 2) vs) ((i + 1) * 2) (cs.drop (i * 2))).take ((n + 1) * 2) = cs.take (i * 2) ++ vs ++ cs.drop (i * 2) := by
    have e1 : (splice ROW (i * 2) vs).take ((i + 1) * 2) = cs.take (i * 2) ++ vs := by
      unfold splice
      rw [hRt, ← List.append_assoc, List.take_append_of_le_length (by rw [List.length_append, List.length_take]; omega), List.take_of_length_le (by rw [List.length_append, List.length_take]; omega)]
    rw [show splice (splice ROW (i * 2) vs) ((i + 1) * 2) (cs.drop (i * 2)) = (splice ROW (i * 2) vs).take ((i + 1) * 2) ++ (cs.drop (i * 2) ++ (splice ROW (i * 2) vs).drop ((i + 1) * 2 + (cs.drop (i * 2)).length)) from rfl, e1, ← List.append_assoc]
    rw [List.take_append_of_le_length (by simp only [List.length_append, List.length_take, hdl]; omega), List.take_of_length_le (by simp only [List.length_append, List.length_take, hdl]; omega)]
  have hs2 : (splice (splice ROW (i * 2) vs) ((i + 1) * 2) (cs.drop (i * 2))).length = G * 2 := by rw [length_splice _ _ _ (by rw [hs1, hdl]; omega), hs1]
  obtain ⟨R2, hR2⟩ : ∃ R2, R2 = splice (splice ROW (i * 2) vs) ((i + 1) * 2) (cs.drop (i * 2)) := ⟨_, rfl⟩
  rw [← hR2] at hfin hs2 hcpB
  have HEND : Aside (∀ (W : World), W.heap = W2.heap → Below w.heap.size w W → Below w.heap.size w (W.setRow w.heap.size R2.toArray) ∧ (W.setRow w.heap.size R2.toArray).ownsRow w.heap.size 34 2 (.slice (some ⟨w.heap.size, 0, none⟩) (n + 1) G) (n + 1) (cs.take (i * 2) ++ vs ++ cs.drop (i * 2))) := fun W hW hB => by
    refine ⟨below_setRow hB (Nat.le_refl _) _, ?_, ?_⟩
    · simp only [List.length_append, List.length_take, List.length_drop]
      omega
    · exact Or.inr ⟨w.heap.size, G, R2.toArray, rfl, Nat.le_refl _, setRow_heap W _ _ _ _ _ (by rw [hW]; exact hH2), hGn, hG63, by simp [hs2], by rw [← hfin]⟩
  have hB2 : Aside (Below w.heap.size w W2) := by
    rw [hW2, hW1]
    exact below_setRow (below_alloc (below_drew1 (Below.refl _ _)) _) (Nat.le_refl _) _
  have hz1 : ¬ ((1 : Int) = 0) := by omega
  have hz2 : ¬ ((i : Int) = (n : Int)) := by omega
  have hz3 : (c : Int) < (n : Int) + 1 := by omega
  have hGi : ¬ (G = i) := by omega
  have hGim : ¬ (G = i + 1) := by omega
  have hci : ¬ (c = i) := by omega
  have hw0 : IntKind.i64.wrap ((n : Int) + 1) = (n : Int) + 1 := by rw [IntKind.wrap_i64]; omega
  have hw1 : IntKind.i64.wrap ((i : Int) + 1) = (i : Int) + 1 := by rw [IntKind.wrap_i64]; omega
  have hw2 : IntKind.i64.wrap ((n : Int) + 1 - (i : Int)) = (n : Int) + 1 - (i : Int) := by rw [IntKind.wrap_i64]; omega
  have hb1 : (0 : Int) ≤ (i : Int) + 1 := by omega
  have hin : i ≤ n := by omega
  have htn : ((i : Int) + 1).toNat = i + 1 := by omega
  have hb3 : (i : Int) ≤ (n : Int) := by omega
  have hb4 : (i : Int) < (n : Int) + 1 := by omega
  subst hW2
  subst hW1
  clear hkk hik hG hRl hRt hR2 hfin hs2 hs1 hdl hH1 hH2 hOb hO2 hcl2 hcs hvs h1c h1v
  have mixed : Try.prog.follows .mixedOrders = true := by kernel_rfl
  have hE1 : ((w.alloc (.cells ROW.toArray 34)).drew).heap = (w.drew.alloc (.cells ROW.toArray 34)).heap := rfl
  have hF1 : (((w.alloc (.cells ROW.toArray 34)).drew.setRow w.heap.size (splice ROW (i * 2) vs).toArray).drew).heap = ((w.drew.alloc (.cells ROW.toArray 34)).setRow w.heap.size (splice ROW (i * 2) vs).toArray).heap := rfl
  go_enter Try.func27, Try.ntmps27
  go_wp2_with (first
    | (at_builtin; refine Lib.wpList_append_run _ rfl _ _ _ _ rfl _ _ rfl rfl _ _ (hrz _) ?_)
    | (at_builtin; refine wpList_copy_runI _ rfl _ _ 22 22 rfl _ _ rfl rfl (hcpA _ hE1 _ _) ?_))
  go_region_law_o (refine step_copy_runI rfl _ _ 22 22 rfl (.slice (some ⟨w.heap.size, (i + 1) * 2, none⟩) (n + 1 - (i + 1)) (G - (i + 1))) (.slice (some ⟨b, i * 2, none⟩) (n - i) (c - i)) (by simp [Act.eval, Act.put]) (by simp [Act.eval, Act.put]) (hcpB _ hF1 3 (G - (i + 1)) (c - i)) ?_)
  go_wp2
  go_ret
  obtain ⟨q1, q2⟩ := HEND.out _ hF1 (by have := hB2.out; exact below_drew1 (below_setRow (below_drew1 (below_alloc (Below.refl _ _) _)) (Nat.le_refl _) _))
  exact ⟨rfl, q1, q2⟩
set_option maxHeartbeats 1000000 in
set_option maxRecDepth 100000 in
theorem api_Grade_27.shift (base b n c i vb vc tA : Nat) (cur cs vs : List Value) (w : World) (hi : i < n) (hroom : n + 1 ≤ c) (hc63 : c ≤ 9223372036854775807) (hvb : vb ≠ b) (hbb : base ≤ b)
    (hrow : w.heap[b]? = some (.cells cur.toArray 34 (0, 0))) (hcur : cur.length = c * 2) (hct : cur.take (n * 2) = cs) (hvh : w.heap[vb]? = some (.cells vs.toArray tA (0, 0))) (hvl : vs.length = 2) (h1c : ∀ v ∈ cs, v.oneCell' = true) (h1v : ∀ v ∈ vs, v.oneCell' = true) :
    Calls Try.prog 27 #[.slice (some ⟨b, 0, none⟩) n c, .int .i64 i, .slice (some ⟨vb, 0, none⟩) 1 vc] w fun e w' =>
      e = .returned (.slice (some ⟨b, 0, none⟩) (n + 1) c) ∧ Below base w w' ∧ w'.ownsRow base 34 2 (.slice (some ⟨b, 0, none⟩) (n + 1) c) (n + 1) (cs.take (i * 2) ++ vs ++ cs.drop (i * 2)) := by
  have hinfo : (Try.prog.info? 34).map (fun i => (i.zero, i.size, i.bytes)) = some (some (.agg #[.int .i64 0, .int .i64 0]), 2, 16) := by kernel_rfl
  have hsz : (Try.prog.info? 34).map (·.size) = some 2 := by
    cases hq : Try.prog.info? 34 with
    | none => rw [hq] at hinfo; simp at hinfo
    | some i0 => rw [hq] at hinfo; simp at hinfo; simp [hinfo.2.1]
  clear hinfo
  have hcl : cs.length = n * 2 := by rw [← hct, List.length_take]; omega
  have hbs : b < w.heap.size := blk_lt hrow
  have hvs0 : vb < w.heap.size := blk_lt hvh
  have hov : ∀ lb cb, (callFunc 45 #[.slice (some ⟨vb, 0, none⟩) 1 vc, .slice (some ⟨b, (i + 1) * 2, none⟩) lb cb]).run Try.prog w = .ok (.value (.bool false)) w := fun lb cb => by
    rw [run_callFunc_extern Try.func45 (by kernel_rfl) (by kernel_rfl) (by kernel_rfl) (e := Extern.SlicesOverlaps.overlaps #[22, 22] #[4]) (by kernel_rfl),
      Lib.run_overlaps_apart w 22 4 34 Try.underlying22 2 Try.sizeOf34 ⟨vb, 0, none⟩ ⟨b, (i + 1) * 2, none⟩ 1 vc lb cb hvb tA 34 2 (c * 2) (by simp [World.shape?, hvh, hvl]) (by simp [World.shape?, hrow, hcur]) (by omega) (blk_frozen hvh 0) (blk_frozen hvh 2)]
    rfl
  have hdl : (cs.drop (i * 2)).length = (n - i) * 2 := by rw [List.length_drop, hcl]; omega
  have hcl2 : ∀ (W W' : World), W.heap = W'.heap → ∀ x, W.cell? x = W'.cell? x := fun W W' h x => by unfold World.cell?; rw [h]
  have hcsb : ∀ j v, cs[j]? = some v → w.cell? ⟨b, j, none⟩ = some v := fun j v hj => by
    rw [← hct, List.getElem?_take] at hj
    split at hj
    · rw [blk_cell hrow j]; simpa using hj
    · cases hj
  have hcp1 : ∀ ty dc sc, (Builtin.copy_ #[22, 22] ty #[.slice (some ⟨b, (i + 1) * 2, none⟩) (n - i) dc, .slice (some ⟨b, i * 2, none⟩) (n + 1 - i) sc]).run Try.prog w.drew = .ok (goInt (n - i : Nat)) (w.drew.setRow b (splice cur ((i + 1) * 2) (cs.drop (i * 2))).toArray) := fun ty dc sc =>
    run_copy_k 2 w.drew _ _ ty 34 b ((i + 1) * 2) (n - i) dc ⟨b, i * 2, none⟩ (n + 1 - i) sc (n - i) cur 34 (cs.drop (i * 2)) Try.underlying22 hsz hrow (by simp only [Nat.min_def]; split <;> omega) hdl
      (fun j v hj => by rw [Addr.add_lit]; exact hcsb _ v (by rwa [List.getElem?_drop] at hj)) (by omega) (fun v hv => h1c v (List.mem_of_mem_drop hv))
  obtain ⟨W1, hW1⟩ : ∃ W1, W1 = w.drew.setRow b (splice cur ((i + 1) * 2) (cs.drop (i * 2))).toArray := ⟨_, rfl⟩
  have hs1 : (splice cur ((i + 1) * 2) (cs.drop (i * 2))).length = c * 2 := by rw [length_splice _ _ _ (by omega), hcur]
  have hH1 : W1.heap[b]? = some (.cells (splice cur ((i + 1) * 2) (cs.drop (i * 2))).toArray 34 (0, 0)) := by rw [hW1]; exact setRow_heap w.drew _ _ _ _ _ hrow
  have hV1 : W1.heap[vb]? = some (.cells vs.toArray tA (0, 0)) := by rw [hW1, setRow_other w.drew b vb _ hvb]; exact hvh
  have hcp2 : ∀ ty dc, (Builtin.copy_ #[22, 22] ty #[.slice (some ⟨b, i * 2, none⟩) (n + 1 - i) dc, .slice (some ⟨vb, 0, none⟩) 1 vc]).run Try.prog W1 = .ok (goInt 1) (W1.setRow b (splice (splice cur ((i + 1) * 2) (cs.drop (i * 2))) (i * 2) vs).toArray) := fun ty dc =>
    run_copy_k 2 W1 _ _ ty 34 b (i * 2) (n + 1 - i) dc ⟨vb, 0, none⟩ 1 vc 1 (splice cur ((i + 1) * 2) (cs.drop (i * 2))) 34 vs Try.underlying22 hsz hH1 (by simp only [Nat.min_def]; split <;> omega) (by omega)
      (fun j v hj => by rw [Addr.add_lit, Nat.zero_add, blk_cell hV1 j]; simpa using hj) (by omega) h1v
  have hfin : (splice (splice cur ((i + 1) * 2) (cs.drop (i * 2))) (i * 2) vs).take ((n + 1) * 2) = cs.take (i * 2) ++ vs ++ cs.drop (i * 2) := by
    have e0 : (splice cur ((i + 1) * 2) (cs.drop (i * 2))).take (i * 2) = cs.take (i * 2) := by
      unfold splice
      rw [List.take_append_of_le_length (by rw [List.length_take]; omega), List.take_take, Nat.min_eq_left (by omega), ← hct, List.take_take, Nat.min_eq_left (by omega)]
    have e1 : (splice cur ((i + 1) * 2) (cs.drop (i * 2))).drop (i * 2 + vs.length) = cs.drop (i * 2) ++ cur.drop ((i + 1) * 2 + (cs.drop (i * 2)).length) := by
      unfold splice
      rw [List.drop_append_of_le_length (by rw [List.length_take]; omega), List.drop_eq_nil_of_le (by rw [List.length_take]; omega), List.nil_append]
    rw [show splice (splice cur ((i + 1) * 2) (cs.drop (i * 2))) (i * 2) vs = (splice cur ((i + 1) * 2) (cs.drop (i * 2))).take (i * 2) ++ (vs ++ (splice cur ((i + 1) * 2) (cs.drop (i * 2))).drop (i * 2 + vs.length)) from rfl, e0, e1]
    rw [← List.append_assoc, ← List.append_assoc, List.take_append_of_le_length (by simp only [List.length_append, List.length_take, hdl]; omega), List.take_of_length_le (by simp only [List.length_append, List.length_take, hdl]; omega)]
  have hs2 : (splice (splice cur ((i + 1) * 2) (cs.drop (i * 2))) (i * 2) vs).length = c * 2 := by rw [length_splice _ _ _ (by rw [hs1]; omega), hs1]
  obtain ⟨R2, hR2⟩ : ∃ R2, R2 = splice (splice cur ((i + 1) * 2) (cs.drop (i * 2))) (i * 2) vs := ⟨_, rfl⟩
  rw [← hR2] at hfin hs2 hcp2
  have HEND : Aside (Below base w (W1.setRow b R2.toArray) ∧ (W1.setRow b R2.toArray).ownsRow base 34 2 (.slice (some ⟨b, 0, none⟩) (n + 1) c) (n + 1) (cs.take (i * 2) ++ vs ++ cs.drop (i * 2))) := by
    have hB1 : Below base w W1 := by rw [hW1]; exact below_setRow (below_drew (B := base) (w := w) (W := w) ⟨rfl, rfl, rfl, Nat.le_refl _, fun _ _ => rfl⟩) hbb _
    refine ⟨below_setRow hB1 hbb _, ?_, ?_⟩
    · simp only [List.length_append, List.length_take, List.length_drop]
      omega
    · exact Or.inr ⟨b, c, R2.toArray, rfl, hbb, setRow_heap W1 _ _ _ _ _ hH1, hroom, hc63, by simp [hs2], by rw [← hfin]⟩
  have hz1 : ¬ ((1 : Int) = 0) := by omega
  have hz2 : ¬ ((i : Int) = (n : Int)) := by omega
  have hz3 : ¬ ((c : Int) < (n : Int) + 1) := by omega
  have hz4 : (n : Int) + 1 ≤ (c : Int) := by omega
  have hci : ¬ (c = i) := by omega
  have hci1 : ¬ (c = i + 1) := by omega
  have hw0 : IntKind.i64.wrap ((n : Int) + 1) = (n : Int) + 1 := by rw [IntKind.wrap_i64]; omega
  have hw1 : IntKind.i64.wrap ((i : Int) + 1) = (i : Int) + 1 := by rw [IntKind.wrap_i64]; omega
  have hb0 : (0 : Int) ≤ (n : Int) + 1 := by omega
  have hb1 : (0 : Int) ≤ (i : Int) + 1 := by omega
  have hin : i ≤ n := by omega
  have htn : ((i : Int) + 1).toNat = i + 1 := by omega
  have htn2 : ((n : Int) + 1).toNat = n + 1 := by omega
  have hb3 : (i : Int) ≤ (n : Int) := by omega
  have hb5 : (i : Int) ≤ (n : Int) + 1 := by omega
  have mixed : Try.prog.follows .mixedOrders = true := by kernel_rfl
  subst hW1
  clear hR2 hfin hs2 hs1 hdl hH1 hV1 hcl2 hcsb h1c h1v hrow hcur hct hvh hvl hcl hbs hvs0 hbb hvb
  go_enter Try.func27, Try.ntmps27
  go_wp2_with (simp only [hov])
  go_region_law_o (refine step_copy_runI rfl _ _ 22 22 rfl _ _ (by simp [Act.eval, Act.put]) (by simp [Act.eval, Act.put]) (hcp1 _ _ _) ?_)
  go_wp2_with (at_builtin; refine wpList_copy_runI _ rfl _ _ 22 22 rfl _ _ rfl rfl (hcp2 _ _) ?_)
  go_ret
  exact ⟨rfl, HEND.out.1, HEND.out.2⟩
theorem reps_cells2 {ps : List S34} {cs : List Value} (h : Reps (fun (x : S34) c => c = [.int .i64 x.f0, .int .i64 x.f1]) 2 ps cs) : ∀ v ∈ cs, v.oneCell' = true := by
  intro v hv
  obtain ⟨q, hq, rfl⟩ := List.getElem_of_mem hv
  have hl := h.1
  have hj : q / 2 < ps.length := by omega
  have h2 := h.2 (q / 2) _ (List.getElem?_eq_getElem hj)
  have h3 : ((cs.drop (q / 2 * 2)).take 2)[q % 2]? = some cs[q] := by
    rw [List.getElem?_take, if_pos (by omega), List.getElem?_drop, show q / 2 * 2 + q % 2 = q by omega, List.getElem?_eq_getElem hq]
  rw [h2] at h3
  rcases (show q % 2 = 0 ∨ q % 2 = 1 by omega) with e | e
  · rw [e] at h3
    have h4 := Option.some.inj h3
    rw [← h4]; rfl
  · rw [e] at h3
    have h4 := Option.some.inj h3
    rw [← h4]; rfl
set_option maxHeartbeats 1000000 in
/-- slices.Insert of one row ahead of the end of a slice of one's own. -/
theorem api_Grade_27.one (base : Nat) (v : Value) (xs : List S34) (x : S34) (i vb vc tA : Nat) (w : World) (hR : Kd.R k34 34 w base (fun _ => True) v xs) (hi : i < xs.length) (hbig : (xs.length + 1) * 16 ≤ 140737488355328) (hbase : base ≤ w.heap.size)
    (hvh : w.heap[vb]? = some (.cells #[.int .i64 x.f0, .int .i64 x.f1] tA (0, 0))) (hne : v.ownBlock ≠ some vb) :
    Calls Try.prog 27 #[v, .int .i64 i, .slice (some ⟨vb, 0, none⟩) 1 vc] w fun e w' => ∃ v', e = .returned v' ∧ Kd.R k34 34 w' base (fun _ => True) v' (xs.take i ++ x :: xs.drop i) ∧ Below base w w' := by
  obtain ⟨_, inner, hown, hreps⟩ := hR
  have hp : Reps (fun (x : S34) c => c = [.int .i64 x.f0, .int .i64 x.f1]) 2 xs inner := hreps.imp_ (fun p c h => k34_openM h)
  have h1 := reps_cells2 hp
  have hnew : Reps (fun (x : S34) c => c = [.int .i64 x.f0, .int .i64 x.f1]) 2 (xs.take i ++ x :: xs.drop i) (inner.take (i * 2) ++ [.int .i64 x.f0, .int .i64 x.f1] ++ inner.drop (i * 2)) := by
    have e : Reps (fun (x : S34) c => c = [.int .i64 x.f0, .int .i64 x.f1]) 2 [x] ([.int .i64 x.f0, .int .i64 x.f1] : List Value) := ⟨rfl, fun j p hj => by
      cases j with
      | zero => simp at hj; subst hj; rfl
      | succ j => simp at hj⟩
    have h2 := Kd.reps_append (Kd.reps_append (Kd.reps_take hp (Nat.le_of_lt hi)) e) (Kd.reps_drop (m := i) hp)
    rw [List.append_assoc] at h2
    exact h2
  have hfin : ∀ (w' : World) (v' : Value), w'.ownsRow base 34 2 v' (xs.length + 1) (inner.take (i * 2) ++ [.int .i64 x.f0, .int .i64 x.f1] ++ inner.drop (i * 2)) → Kd.R k34 34 w' base (fun _ => True) v' (xs.take i ++ x :: xs.drop i) := fun w' v' ho => by
    refine ⟨fun _ _ => trivial, inner.take (i * 2) ++ [.int .i64 x.f0, .int .i64 x.f1] ++ inner.drop (i * 2), ?_, hnew.imp_ (fun p c h => by rw [h]; exact k34_mkM _ _ _ p)⟩
    have e : (xs.take i ++ x :: xs.drop i).length = xs.length + 1 := by simp; omega
    rw [e]
    exact ho
  obtain ⟨hlen, hh⟩ := hown
  change inner.length = xs.length * 2 at hlen
  rcases hh with ⟨rfl, h0⟩ | ⟨g, cap, cur, rfl, hbg, hg, hnc, hcap, hcs, htk⟩
  · omega
  change cur.size = cap * 2 at hcs
  change cur.toList.take (xs.length * 2) = inner at htk
  have hgv : vb ≠ g := fun h => hne (by rw [h]; rfl)
  have hv1 : ∀ u ∈ ([.int .i64 x.f0, .int .i64 x.f1] : List Value), u.oneCell' = true := by
    intro u hu
    rcases List.mem_cons.1 hu with rfl | hu
    · rfl
    · rcases List.mem_cons.1 hu with rfl | hu
      · rfl
      · cases hu
  rcases Nat.lt_or_ge cap (xs.length + 1) with hroom | hroom
  · refine (api_Grade_27.grow g xs.length cap i vb vc inner [.int .i64 x.f0, .int .i64 x.f1] w hi hnc hroom hbig hlen rfl (fun j u hj => ?_) (fun j u hj => ?_) h1 hv1).mono ?_
    · rw [← htk, List.getElem?_take] at hj
      split at hj
      · rw [blk_cell hg j]; simpa using hj
      · cases hj
    · rw [blk_cell hvh j]; simpa using hj
    · rintro e w' ⟨rfl, hb, ho⟩
      refine ⟨_, rfl, hfin _ _ ?_, ⟨hb.os, hb.tape, hb.output, hb.size, fun k hk => hb.block k (by omega)⟩⟩
      obtain ⟨o1, o2⟩ := ho
      refine ⟨o1, ?_⟩
      rcases o2 with ⟨q1, q2⟩ | ⟨g', c', cu, q1, q2, q3⟩
      · omega
      · exact Or.inr ⟨g', c', cu, q1, by omega, q3⟩
  · refine (api_Grade_27.shift base g xs.length cap i vb vc tA cur.toList inner [.int .i64 x.f0, .int .i64 x.f1] w hi hroom hcap hgv hbg (by simpa using hg) (by simpa using hcs) htk hvh rfl h1 hv1).mono ?_
    rintro e w' ⟨rfl, hb, ho⟩
    exact ⟨_, rfl, hfin _ _ ho, hb⟩

/-! ### api_Grade_28: function 28 -/
-- MAKING
theorem api_Grade_28.info : (Try.prog.info? 34).map (fun i => (i.zero, i.size, i.bytes)) = some (some (.agg #[(.int .i64 0), (.int .i64 0)]), 2, 16) := by kernel_rfl
theorem api_Grade_28.eqn (w : World) (a : Option Addr) (l c : Nat) : (binOp .eql 22 (.slice a l c) (.slice none 0 0)).run Try.prog w = .ok (.bool a.isNone) w := by
  simp only [binOp]
  simp [run_equal_slice_nil w 22 34 a l c Try.underlying22]
section
attribute [local go_sem] api_Grade_28.eqn
def api_Grade_28.f (l0 : List S34) : Option (List S34) := if l0.length < 8796093022208 then some l0 else none
set_option maxHeartbeats 4000000 in
set_option maxRecDepth 100000 in
theorem api_Grade_28.calls (A0 : Option Addr) (c0 : Nat) (l0 : List S34) (r : List S34) (w : World) (hr0 : Kd.C k34 w A0 l0.length l0) (hc0 : l0.length ≤ c0) (h : api_Grade_28.f l0 = some r) :
    Calls Try.prog 28 #[.slice A0 l0.length c0] w fun e w' => ∃ v0_ : Value, e = .returned (v0_) ∧ Kd.R k34 34 w' w.heap.size (fun _ => True) v0_ r ∧ Below w.heap.size w w' := by
  unfold api_Grade_28.f at h
  by_cases hl : l0.length < 8796093022208
  case neg => rw [if_neg hl] at h; exact absurd h (by simp)
  rw [if_pos hl] at h
  obtain rfl := Option.some.inj h
  clear h
  have HL := Aside0.mk hl
  have HR := Aside0.mk hr0
  clear hl
  cases A0 with
  | none =>
    have e0 : l0 = [] := by
      rcases Nat.eq_zero_or_pos l0.length with h0 | h0
      · exact List.eq_nil_of_length_eq_zero h0
      · obtain ⟨ad, h1, _⟩ := hr0.2.2 h0
        cases h1
    subst e0
    clear HR HL hc0 hr0
    go_enter Try.func28, Try.ntmps28
    go_wp2
    go_ret
    exact ⟨_, rfl, Kd.R_nil _ _ _ _ _, Below.refl _ _⟩
  | some ad =>
    clear hr0
    go_enter Try.func28, Try.ntmps28
    go_wp2_with (first | ((with_reducible refine gate_dst (N := 5) rfl ?_); refine Kd.R_lit k34 _ 34 ?hg (N := 5) ?hd (xs := ([] : List (S34))) (inner := []) (ok := fun _ => True) (okp := fun _ => True) ?hr ?hp (fun _ hk => hk) trivial (Below.refl _ _) (Nat.le_refl _) (by simp) ?_; (case hd => rfl); (case hg => rfl); (case hr => first | (go_simp; done) | (go_simp; rfl)); (case hp => exact (Reps.none _ _)); intro v1 w1 ho1 hb hg_ hnew_; clear hg_ hnew_; have HO1 := Aside0.mk ho1; have HB1 := Aside0.mk hb; clear ho1 hb) | ((with_reducible refine gate_builtin (b := .append) (xs := #[.tmp 5, .tmp 6]) rfl ?_); at_builtin; refine Kd.R_append_rows k34 (w0 := w) w.heap.size rfl (.tmp 5) (.tmp 6) 22 34 (.agg #[(.int .i64 0), (.int .i64 0)]) 16 rfl Try.underlying22 api_Grade_28.info rfl (by decide) (by omega) v1 [] l0 _ _ _ (fun _ => True) (fun _ => False) rfl rfl ?aO ?aR (fun _ _ h => h) (fun _ h => h.elim) ?aF ?aB ?aS ?aL ?_; (case aR => exact (Kd.C_below HR.out HB1.out)); (case aB => exact HB1.out); (case aF => exact (fun _ _ => trivial)); (case aO => exact HO1.out); (case aS => exact HB1.out.size); (case aL => have := HL.out; simp only [List.length_nil]; omega); intro v2 w2 ho hb hg hat; clear hg hat; have HO2 := Aside0.mk ho; have HB2 := Aside0.mk hb; clear ho hb))
    go_ret
    exact ⟨_, rfl, HO2.out, HB2.out⟩
end

end Go.Proofs.Ytlgihblojnoheaa.PF
