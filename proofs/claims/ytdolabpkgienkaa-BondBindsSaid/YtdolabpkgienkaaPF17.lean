-- Written by a program of this session (wip/pr.py) out of Lean's print of the translation; Lean checks it.
import Derived.Test.YtdolabpkgienkaaPF0
import Derived.Test.YtdolabpkgienkaaPF12
import Derived.Test.YtdolabpkgienkaaPF14
namespace Go.Proofs.Ytdolabpkgienkaa.PF
open Go.RowKit Go.Proofs.YtdolabpkgienkaaW.PrintWords Go.Proofs.YtdolabpkgienkaaW.PrintLast Go.Proofs.YtdolabpkgienkaaW.PrintMore
attribute [local go_sem] max2_int min2_int max_two min_two max_three min_three max_four min_four   -- for this text's walks alone
set_option linter.unusedVariables false
set_option linter.unusedSimpArgs false

/-! ### spileref52_Release: function 25 -/
def spileref52_Release.f (k : Nat) (l0 : List (S31)) (l1 : List (S35)) (a2 : Int) : Option ((List (S35)) × Int) := (spileref52_right.f k l0 l1).bind fun t286 => (if t286 = true then ((spileref52_hold.f k l1 a2).bind fun t287 => (if t287 < 0 then (some (([] : List (S35)), 7)) else ((some (([] : List (S35)) : List (S35))).bind fun y288 => (if 0 ≤ t287 then (if t287 ≤ (l1.length : Int) then ((some (l1.take (t287 : Int).toNat : List (S35))).bind fun y291 => (if y288.length + y291.length < 5864062014805 then ((some (y288 ++ y291 : List (S35))).bind fun y295 => (if 0 ≤ (wrap64 (t287 + 1)) then (if (wrap64 (t287 + 1)) ≤ (l1.length : Int) then ((some (l1.drop ((wrap64 (t287 + 1)) : Int).toNat : List (S35))).bind fun y298 => (if y295.length + y298.length < 5864062014805 then (some ((y295 ++ y298), 0)) else (none))) else (none)) else (none))) else (none))) else (none)) else (none))))) else (some (([] : List (S35)), 1)))
theorem spileref52_Release.mono : ∀ a0 a1 a2 k, LeO (spileref52_Release.f k a0 a1 a2) (spileref52_Release.f (k + 1) a0 a1 a2) := by
 intro a0 a1 a2 k
 unfold spileref52_Release.f
 repeat' first
   | (with_reducible exact spileref52_hold.mono _ _ _)
   | (with_reducible exact spileref52_right.mono _ _ _)
   | (with_reducible exact LeO.refl _)
   | (with_reducible exact LeO.none _)
   | (with_reducible refine LeO.ite ?_ ?_)
   | (with_reducible refine LeO.bind ?_ (fun _ => ?_))
   | exact spileref52_hold.mono _ _ _
   | exact spileref52_right.mono _ _ _
   | exact LeO.none _
   | refine LeO.ite ?_ ?_
   | refine LeO.bind ?_ (fun _ => ?_)
def spileref52_Release.T6 : Bool × List (List Nat × List Nat) := (true, [([], []), ([], []), ([], []), ([1, 2], [1, 2]), ([0, 3], [0, 3]), ([], []), ([], []), ([6], [6]), ([5, 7], [5, 7]), ([4, 8, 4], [4, 8]), ([9, 9, 0, 1, 2, 3, 4, 5, 6, 7, 8, 9], [9]), ([10, 0, 1, 2, 3, 4, 5, 6, 7, 8, 9, 10], [])])
def spileref52_Release.B6 : List Nat := [0, 0, 0, 6, 15, 0, 0, 64, 224, 511, 1023, 2047]
theorem spileref52_Release.tab6 : rtab .any (opsOf Try.f25 6) = spileref52_Release.T6 := by kernel_rfl
theorem spileref52_Release.bits6 : waitsOk spileref52_Release.T6.2 spileref52_Release.B6 = true := by kernel_rfl
set_option maxHeartbeats 8000000 in
set_option maxRecDepth 100000 in
theorem spileref52_Release.calls (k : Nat) (A0 : Option Addr) (c0 : Nat) (l0 : List (S31)) (A1 : Option Addr) (c1 : Nat) (l1 : List (S35)) (a2 : Int) (r1 : List (S35)) (r2 : Int) (w : World) (hr0 : Kd.C k31 w A0 l0.length l0) (hc0 : l0.length ≤ c0) (hr1 : Kd.C k35 w A1 l1.length l1) (hc1 : l1.length ≤ c1) (h : spileref52_Release.f k l0 l1 a2 = some (r1, r2)) :
  Calls Try.prog 25 #[.slice A0 l0.length c0, .slice A1 l1.length c1, .int .i64 a2] w fun e w' => ∃ v0_ : Value, e = .returned (.tuple #[v0_, .int .i64 r2]) ∧ Kd.R k35 35 w' w.heap.size (fun _ => True) v0_ r1 ∧ Below w.heap.size w w' := by
 have HR0 := Aside0.mk hr0
 have HC0 := Aside0.mk hc0
 clear hr0 hc0
 have HR1 := Aside0.mk hr1
 have HC1 := Aside0.mk hc1
 clear hr1 hc1
 have HB := Aside0.mk (Below.refl w.heap.size w)
 have H : ((spileref52_right.f k l0 l1).bind fun t286 => (if t286 = true then ((spileref52_hold.f k l1 a2).bind fun t287 => (if t287 < 0 then (some (([] : List (S35)), 7)) else ((some (([] : List (S35)) : List (S35))).bind fun y288 => (if 0 ≤ t287 then (if t287 ≤ (l1.length : Int) then ((some (l1.take (t287 : Int).toNat : List (S35))).bind fun y291 => (if y288.length + y291.length < 5864062014805 then ((some (y288 ++ y291 : List (S35))).bind fun y295 => (if 0 ≤ (wrap64 (t287 + 1)) then (if (wrap64 (t287 + 1)) ≤ (l1.length : Int) then ((some (l1.drop ((wrap64 (t287 + 1)) : Int).toNat : List (S35))).bind fun y298 => (if y295.length + y298.length < 5864062014805 then (some ((y295 ++ y298), 0)) else (none))) else (none)) else (none))) else (none))) else (none)) else (none))))) else (some (([] : List (S35)), 1)))) = some (r1, r2) := h
 clear h
 replace H := Option.bind_eq_some_iff.mp H
 obtain ⟨t286, A40, H⟩ := H
 replace H : (if t286 = true then ((spileref52_hold.f k l1 a2).bind fun t287 => (if t287 < 0 then (some (([] : List (S35)), 7)) else ((some (([] : List (S35)) : List (S35))).bind fun y288 => (if 0 ≤ t287 then (if t287 ≤ (l1.length : Int) then ((some (l1.take (t287 : Int).toNat : List (S35))).bind fun y291 => (if y288.length + y291.length < 5864062014805 then ((some (y288 ++ y291 : List (S35))).bind fun y295 => (if 0 ≤ (wrap64 (t287 + 1)) then (if (wrap64 (t287 + 1)) ≤ (l1.length : Int) then ((some (l1.drop ((wrap64 (t287 + 1)) : Int).toNat : List (S35))).bind fun y298 => (if y295.length + y298.length < 5864062014805 then (some ((y295 ++ y298), 0)) else (none))) else (none)) else (none))) else (none))) else (none)) else (none))))) else (some (([] : List (S35)), 1))) = some (r1, r2) := H
 have A4 := Aside0.mk A40
 clear A40
 by_cases c5 : t286 = true
 ·subst c5
  have H1 : ((spileref52_hold.f k l1 a2).bind fun t287 => (if t287 < 0 then (some (([] : List (S35)), 7)) else ((some (([] : List (S35)) : List (S35))).bind fun y288 => (if 0 ≤ t287 then (if t287 ≤ (l1.length : Int) then ((some (l1.take (t287 : Int).toNat : List (S35))).bind fun y291 => (if y288.length + y291.length < 5864062014805 then ((some (y288 ++ y291 : List (S35))).bind fun y295 => (if 0 ≤ (wrap64 (t287 + 1)) then (if (wrap64 (t287 + 1)) ≤ (l1.length : Int) then ((some (l1.drop ((wrap64 (t287 + 1)) : Int).toNat : List (S35))).bind fun y298 => (if y295.length + y298.length < 5864062014805 then (some ((y295 ++ y298), 0)) else (none))) else (none)) else (none))) else (none))) else (none)) else (none))))) = some (r1, r2) := by rw [if_pos rfl] at H; exact H
  clear H
  have H := H1
  clear H1
  replace H := Option.bind_eq_some_iff.mp H
  obtain ⟨t287, A60, H⟩ := H
  replace H : (if t287 < 0 then (some (([] : List (S35)), 7)) else ((some (([] : List (S35)) : List (S35))).bind fun y288 => (if 0 ≤ t287 then (if t287 ≤ (l1.length : Int) then ((some (l1.take (t287 : Int).toNat : List (S35))).bind fun y291 => (if y288.length + y291.length < 5864062014805 then ((some (y288 ++ y291 : List (S35))).bind fun y295 => (if 0 ≤ (wrap64 (t287 + 1)) then (if (wrap64 (t287 + 1)) ≤ (l1.length : Int) then ((some (l1.drop ((wrap64 (t287 + 1)) : Int).toNat : List (S35))).bind fun y298 => (if y295.length + y298.length < 5864062014805 then (some ((y295 ++ y298), 0)) else (none))) else (none)) else (none))) else (none))) else (none)) else (none)))) = some (r1, r2) := H
  have A6 := Aside0.mk A60
  clear A60
  by_cases c7 : t287 < 0
  ·rw [if_pos c7] at H
   have c7b0 : decide (t287 < 0) = true := decide_eq_true c7
   clear c7
   simp only [Option.some.injEq, Prod.mk.injEq] at H
   obtain ⟨rfl, rfl⟩ := H
   go_enter Try.func25, Try.ntmps25
   go_wp2_with (first | ((with_reducible refine gate_callee (f := 44) rfl ?_); refine goesL_ (some 11) rfl rfl Try.func44 (by kernel_rfl) rfl #[.slice A0 l0.length c0, .slice A1 l1.length c1] rfl (by (try simp only [List.map_toArray, List.map_cons, List.map_nil]); first | done | rfl | (simp only [List.length_drop, List.length_take]; rfl)) ?_; (with_reducible refine (spileref52_right.calls k _ _ l0 _ _ l1 true _ ?side1 ?side2 ?side3 ?side4 A4.out).mono ?_); (case side1 => repeat (first | exact HR0.out | (with_reducible refine Kd.C_alloc ?_ _) | (with_reducible refine Kd.C_drewN ?_ _) | (with_reducible refine Kd.C_drew ?_))); (case side2 => exact HC0.out); (case side3 => repeat (first | exact HR1.out | (with_reducible refine Kd.C_alloc ?_ _) | (with_reducible refine Kd.C_drewN ?_ _) | (with_reducible refine Kd.C_drew ?_))); (case side4 => exact HC1.out); rintro e w8 ⟨rfl, hb⟩; refine ⟨_, rfl, ?_⟩; have n0_ := Aside0.mk (below_step (by repeat (first | (with_reducible first | exact HB.out | apply below_alloc | apply pw_below_drewN | apply below_drew1) | exact HB.out)) hb); clear HB; have HB := n0_; clear n0_; (try clear hb); (try clear hb2); (try clear hk); (try clear hi)) | ((with_reducible refine gate_callee (f := 47) rfl ?_); refine goesL_ (some 15) rfl rfl Try.func47 (by kernel_rfl) rfl #[.slice A1 l1.length c1, .int .i64 a2] rfl (by (try simp only [List.map_toArray, List.map_cons, List.map_nil]); first | done | rfl | (simp only [List.length_drop, List.length_take]; rfl)) ?_; (with_reducible refine (spileref52_hold.calls k _ _ l1 a2 t287 _ ?side1 ?side2 A6.out).mono ?_); (case side1 => repeat (first | exact (Kd.C_below HR1.out HB.out) | (with_reducible refine Kd.C_alloc ?_ _) | (with_reducible refine Kd.C_drewN ?_ _) | (with_reducible refine Kd.C_drew ?_))); (case side2 => exact HC1.out); rintro e w' ⟨rfl, ⟨nd, rfl⟩⟩; refine ⟨_, rfl, ?_⟩))
   go_ret2
   exact ⟨_, by first | rfl | (simp [errW_none, errW_some] <;> rfl) | (simp [*, errW_none, errW_some] <;> rfl), by first | exact Kd.R_nil _ _ _ _ _ | exact Kd.N_nil _ _ _ _ _ | exact Kd.V_nil _ _ _ _ _ | exact Kd.Q_nil _ _ _ _ _ | exact Kd.S_nil _ _ _ _ _, by repeat (first | (with_reducible first | exact HB.out | apply below_alloc | apply pw_below_drewN | apply below_drew1) | exact HB.out)⟩
  ·rw [if_neg c7] at H
   have c7b0 : decide (t287 < 0) = false := decide_eq_false c7
   clear c7
   obtain ⟨y288, hy288⟩ : ∃ y_ : List (S35), y_ = (([] : List (S35))) := ⟨_, rfl⟩
   replace H : (if 0 ≤ t287 then (if t287 ≤ (l1.length : Int) then ((some (l1.take (t287 : Int).toNat : List (S35))).bind fun y291 => (if y288.length + y291.length < 5864062014805 then ((some (y288 ++ y291 : List (S35))).bind fun y295 => (if 0 ≤ (wrap64 (t287 + 1)) then (if (wrap64 (t287 + 1)) ≤ (l1.length : Int) then ((some (l1.drop ((wrap64 (t287 + 1)) : Int).toNat : List (S35))).bind fun y298 => (if y295.length + y298.length < 5864062014805 then (some ((y295 ++ y298), 0)) else (none))) else (none)) else (none))) else (none))) else (none)) else (none)) = some (r1, r2) := by first | (rw [hy288]; with_reducible exact H) | (have H2_ := (Option.bind_some _ _).symm.trans H; rw [hy288]; with_reducible exact H2_) | (have H2_ := (Option.bind_some _ _).symm.trans H; with_reducible exact H2_) | with_reducible exact H | (rw [hy288]; exact H) | exact H
   have Ny288 := Aside0.mk hy288
   clear hy288
   by_cases c9 : 0 ≤ t287
   ·rw [if_pos c9] at H
    have c9b0 := eq_true c9
    have c9b1 : decide (0 ≤ t287) = true := decide_eq_true c9
    clear c9
    by_cases c10 : t287 ≤ (l1.length : Int)
    ·rw [if_pos c10] at H
     have c10b0 := eq_true c10
     have c10b1 : decide (t287 ≤ (l1.length : Int)) = true := decide_eq_true c10
     clear c10
     obtain ⟨y291, hy291⟩ : ∃ y_ : List (S35), y_ = (l1.take (t287 : Int).toNat) := ⟨_, rfl⟩
     replace H : (if y288.length + y291.length < 5864062014805 then ((some (y288 ++ y291 : List (S35))).bind fun y295 => (if 0 ≤ (wrap64 (t287 + 1)) then (if (wrap64 (t287 + 1)) ≤ (l1.length : Int) then ((some (l1.drop ((wrap64 (t287 + 1)) : Int).toNat : List (S35))).bind fun y298 => (if y295.length + y298.length < 5864062014805 then (some ((y295 ++ y298), 0)) else (none))) else (none)) else (none))) else (none)) = some (r1, r2) := by first | (rw [hy291]; with_reducible exact H) | (have H2_ := (Option.bind_some _ _).symm.trans H; rw [hy291]; with_reducible exact H2_) | (have H2_ := (Option.bind_some _ _).symm.trans H; with_reducible exact H2_) | with_reducible exact H | (rw [hy291]; exact H) | exact H
     have Ny291 := Aside0.mk hy291
     clear hy291
     by_cases c11 : y288.length + y291.length < 5864062014805
     ·rw [if_pos c11] at H
      have LMc11 := Aside0.mk c11
      clear c11
      obtain ⟨y295, hy295⟩ : ∃ y_ : List (S35), y_ = (y288 ++ y291) := ⟨_, rfl⟩
      replace H : (if 0 ≤ (wrap64 (t287 + 1)) then (if (wrap64 (t287 + 1)) ≤ (l1.length : Int) then ((some (l1.drop ((wrap64 (t287 + 1)) : Int).toNat : List (S35))).bind fun y298 => (if y295.length + y298.length < 5864062014805 then (some ((y295 ++ y298), 0)) else (none))) else (none)) else (none)) = some (r1, r2) := by first | (rw [hy295]; with_reducible exact H) | (have H2_ := (Option.bind_some _ _).symm.trans H; rw [hy295]; with_reducible exact H2_) | (have H2_ := (Option.bind_some _ _).symm.trans H; with_reducible exact H2_) | with_reducible exact H | (rw [hy295]; exact H) | exact H
      have Ny295 := Aside0.mk hy295
      clear hy295
      obtain ⟨ji12, hji12⟩ : ∃ j_ : Int, (wrap64 (t287 + 1)) = j_ := ⟨_, rfl⟩
      replace H : (if 0 ≤ (ji12) then (if (ji12) ≤ (l1.length : Int) then ((some (l1.drop ((ji12) : Int).toNat : List (S35))).bind fun y298 => (if y295.length + y298.length < 5864062014805 then (some ((y295 ++ y298), 0)) else (none))) else (none)) else (none)) = some (r1, r2) := by first | (rw [hji12] at H; exact H) | (simp only [hji12] at H ⊢; exact H)
      (try rw [hji12] at A4)
      (try rw [hji12] at A6)
      have hji12w : (IntKind.i64.wrap (t287 + 1)) = ji12 := (i64_w _).trans hji12
      by_cases c13 : 0 ≤ (ji12)
      ·rw [if_pos c13] at H
       have c13b0 := eq_true c13
       have c13b1 : decide (0 ≤ (ji12)) = true := decide_eq_true c13
       clear c13
       by_cases c14 : (ji12) ≤ (l1.length : Int)
       ·rw [if_pos c14] at H
        have c14b0 := eq_true c14
        have c14b1 : decide ((ji12) ≤ (l1.length : Int)) = true := decide_eq_true c14
        clear c14
        obtain ⟨y298, hy298⟩ : ∃ y_ : List (S35), y_ = (l1.drop ((ji12) : Int).toNat) := ⟨_, rfl⟩
        replace H : (if y295.length + y298.length < 5864062014805 then (some ((y295 ++ y298), 0)) else (none)) = some (r1, r2) := by first | (rw [hy298]; with_reducible exact H) | (have H2_ := (Option.bind_some _ _).symm.trans H; rw [hy298]; with_reducible exact H2_) | (have H2_ := (Option.bind_some _ _).symm.trans H; with_reducible exact H2_) | with_reducible exact H | (rw [hy298]; exact H) | exact H
        have Ny298 := Aside0.mk hy298
        clear hy298
        by_cases c15 : y295.length + y298.length < 5864062014805
        ·rw [if_pos c15] at H
         have LMc15 := Aside0.mk c15
         clear c15
         obtain ⟨y302, hy302⟩ : ∃ y_ : List (S35), y_ = (y295 ++ y298) := ⟨_, rfl⟩
         replace H : (some (y302, 0)) = some (r1, r2) := by first | (rw [hy302]; with_reducible exact H) | (have H2_ := (Option.bind_some _ _).symm.trans H; rw [hy302]; with_reducible exact H2_) | (have H2_ := (Option.bind_some _ _).symm.trans H; with_reducible exact H2_) | with_reducible exact H | (rw [hy302]; exact H) | exact H
         have Ny302 := Aside0.mk hy302
         clear hy302
         simp only [Option.some.injEq, Prod.mk.injEq] at H
         obtain ⟨rfl, rfl⟩ := H
         go_enter Try.func25, Try.ntmps25
         try go_wp2_with (first | ((with_reducible refine gate_callee (f := 44) rfl ?_); refine goesL_ (some 11) rfl rfl Try.func44 (by kernel_rfl) rfl #[.slice A0 l0.length c0, .slice A1 l1.length c1] rfl (by (try simp only [List.map_toArray, List.map_cons, List.map_nil]); first | done | rfl | (simp only [List.length_drop, List.length_take]; rfl)) ?_; (with_reducible refine (spileref52_right.calls k _ _ l0 _ _ l1 true _ ?side1 ?side2 ?side3 ?side4 A4.out).mono ?_); (case side1 => repeat (first | exact HR0.out | (with_reducible refine Kd.C_alloc ?_ _) | (with_reducible refine Kd.C_drewN ?_ _) | (with_reducible refine Kd.C_drew ?_))); (case side2 => exact HC0.out); (case side3 => repeat (first | exact HR1.out | (with_reducible refine Kd.C_alloc ?_ _) | (with_reducible refine Kd.C_drewN ?_ _) | (with_reducible refine Kd.C_drew ?_))); (case side4 => exact HC1.out); rintro e w16 ⟨rfl, hb⟩; refine ⟨_, rfl, ?_⟩; have n0_ := Aside0.mk (below_step (by repeat (first | (with_reducible first | exact HB.out | apply below_alloc | apply pw_below_drewN | apply below_drew1) | exact HB.out)) hb); clear HB; have HB := n0_; clear n0_; (try clear hb); (try clear hb2); (try clear hk); (try clear hi)) | ((with_reducible refine gate_callee (f := 47) rfl ?_); refine goesL_ (some 15) rfl rfl Try.func47 (by kernel_rfl) rfl #[.slice A1 l1.length c1, .int .i64 a2] rfl (by (try simp only [List.map_toArray, List.map_cons, List.map_nil]); first | done | rfl | (simp only [List.length_drop, List.length_take]; rfl)) ?_; (with_reducible refine (spileref52_hold.calls k _ _ l1 a2 t287 _ ?side1 ?side2 A6.out).mono ?_); (case side1 => repeat (first | exact (Kd.C_below HR1.out HB.out) | (with_reducible refine Kd.C_alloc ?_ _) | (with_reducible refine Kd.C_drewN ?_ _) | (with_reducible refine Kd.C_drew ?_))); (case side2 => exact HC1.out); rintro e w' ⟨rfl, ⟨nd, rfl⟩⟩; refine ⟨_, rfl, ?_⟩))
         (try (rw [drewN_self w16]; generalize hq_ : World.drewN w16 _ = w16; have n0_ : Aside0 (Below w.heap.size w w16) := ⟨by rw [← hq_]; exact (by repeat (first | (with_reducible first | exact HB.out | apply below_alloc | apply pw_below_drewN | apply below_drew1) | exact HB.out))⟩; clear HB hq_; have HB := n0_; clear n0_))
         have n0_ := Aside0.mk (below_drew1 HB.out)
         clear HB
         have HB := n0_
         clear n0_
         have q18 : (t287 : Int) ≤ ((l1.length : Int) : Int) := of_decide_eq_true (by first | (with_reducible assumption) | assumption)
         obtain ⟨i018, hi018, _, hsz18, _⟩ := info_parts info35
         have hroom18 : l1.length ≤ c1 := HC1.out
         have hC18 : Kd.C k35 _ A1 l1.length l1 := HR1.out
         have hcut18 := cut_to (P := Try.prog) 23 35 .i64 Try.underlying23 hi018 A1 l1.length c1 t287 (of_decide_eq_true (by first | (with_reducible assumption) | assumption)) q18 hroom18
         have hr18 := Kd.C_take (m := (t287 : Int).toNat) hC18 (by omega)
         have hy18 : y291.length = (t287 : Int).toNat := (by rw [Ny291.out, List.length_take]; omega)
         rw [← Ny291.out] at hr18
         rw [← hy18] at hcut18
         have HR294 := Aside0.mk hr18
         have HC294 := Aside0.mk (show y291.length ≤ c1 from by omega)
         clear hr18 hC18 hroom18 hi018 hsz18
         have KY18 := Aside0.mk hy18
         clear hy18
         replace q18 := eq_true q18
         have q19 : ((ji12) : Int) ≤ ((l1.length : Int) : Int) := of_decide_eq_true (by first | (with_reducible assumption) | assumption)
         obtain ⟨i019, hi019, _, hsz19, _⟩ := info_parts info35
         have hroom19 : l1.length ≤ c1 := HC1.out
         have hC19 : Kd.C k35 _ A1 l1.length l1 := HR1.out
         have q019 : (0 : Int) ≤ ((ji12) : Int) := of_decide_eq_true (by first | (with_reducible assumption) | assumption)
         have hcut19 := cut_from (P := Try.prog) 23 35 .i64 Try.underlying23 hi019 3 hsz19 A1 l1.length c1 (ji12) q019 q19
         have hr19 := Kd.C_drop (m := ((ji12) : Int).toNat) (c := c1) hC19 (by omega) hroom19
         obtain ⟨A19, hA19⟩ : ∃ Az_, Az_ = (if c1 = ((ji12) : Int).toNat then A1 else (A1 : Option Addr).map (·.add (((ji12) : Int).toNat * 3))) := ⟨_, rfl⟩
         obtain ⟨c19, hc19⟩ : ∃ cz_, cz_ = c1 - ((ji12) : Int).toNat := ⟨_, rfl⟩
         have hy19 : y298.length = l1.length - ((ji12) : Int).toNat := (by rw [Ny298.out, List.length_drop] <;> omega)
         rw [show (l1).drop ((ji12) : Int).toNat = y298 from Ny298.out.symm] at hr19
         replace hr19 : Kd.C k35 _ A19 y298.length y298 := (by rw [hA19]; exact hr19)
         rw [← hy19, ← hA19, ← hc19] at hcut19
         have HR301 := Aside0.mk hr19
         have HC301 := Aside0.mk (show y298.length ≤ c19 from by rw [hy19, hc19]; exact Nat.sub_le_sub_right hroom19 _)
         clear hr19 hC19 hroom19 hi019 hsz19 hc19
         have KY19 := Aside0.mk hy19
         have KA19 := Aside0.mk hA19
         clear hy19 hA19
         replace q19 := eq_true q19
         refine start_ (n := 12) (S := fun w' => True) (ds := []) #[false, false, false, false, false, false, false, false, false, false, false, false] (by kernel_rfl) rfl rfl trivial (fun hHeld => ?_); refine with_tabW spileref52_Release.tab6 spileref52_Release.bits6 (fun HT_ HW_ => ?_)
         generalize w16.drew = w17 at HB HR294 HR301 hHeld ⊢
         refine pure_ (i := 1) (N := some 19) (v := ?_) (a' := ?_) #[false, true, false, false, false, false, false, false, false, false, false, false] rfl rfl (any_of HT_.out (by kernel_rfl)) (fun _ _ _ h => h) (Or.inl ⟨by rfl, ?_⟩) ?_ ?_
         rotate_left
         ·intro w'
          go_simp
          with_reducible rfl
         rotate_left
         ·simp only [Act.put, List.setIfInBounds_toArray, List.set_cons_zero, List.set_cons_succ, i64_w, i32_w]
          rfl
         refine pure_ (i := 2) (N := some 20) (v := ?_) (a' := ?_) #[false, true, true, false, false, false, false, false, false, false, false, false] rfl rfl (any_of HT_.out (by kernel_rfl)) (fun _ _ _ h => h) (Or.inl ⟨by rfl, ?_⟩) ?_ ?_
         rotate_left
         ·intro w'
          go_simp
          with_reducible rfl
         rotate_left
         ·simp only [Act.put, List.setIfInBounds_toArray, List.set_cons_zero, List.set_cons_succ, i64_w, i32_w]
          rfl
         refine pure_ (i := 3) (N := some 21) (v := ?_) (a' := ?_) #[false, true, true, true, false, false, false, false, false, false, false, false] rfl rfl (any_of HT_.out (by kernel_rfl)) (fun _ _ _ h => h) (Or.inl ⟨by rfl, ?_⟩) ?_ ?_
         rotate_left
         ·intro w'
          go_simp
          with_reducible rfl
         rotate_left
         ·simp only [Act.put, List.setIfInBounds_toArray, List.set_cons_zero, List.set_cons_succ, i64_w, i32_w]
          rfl
         refine pure_ (i := 5) (N := some 23) (v := ?_) (a' := ?_) #[false, true, true, true, false, true, false, false, false, false, false, false] rfl rfl (any_of HT_.out (by kernel_rfl)) (fun _ _ _ h => h) (Or.inl ⟨by rfl, ?_⟩) ?_ ?_
         rotate_left
         ·intro w'
          go_simp
          with_reducible rfl
         rotate_left
         ·simp only [Act.put, List.setIfInBounds_toArray, List.set_cons_zero, List.set_cons_succ, i64_w, i32_w]
          rfl
         refine pure_ (i := 6) (N := some 24) (v := ?_) (a' := ?_) #[false, true, true, true, false, true, true, false, false, false, false, false] rfl rfl (any_of HT_.out (by kernel_rfl)) (fun _ _ _ h => h) (Or.inl ⟨by rfl, ?_⟩) ?_ ?_
         rotate_left
         ·intro w'
          go_simp
          with_reducible rfl
         rotate_left
         ·simp only [Act.put, List.setIfInBounds_toArray, List.set_cons_zero, List.set_cons_succ, i64_w, i32_w]
          rfl
         refine pure_ (i := 7) (N := some 25) (v := ?_) (a' := ?_) #[false, true, true, true, false, true, true, true, false, false, false, false] rfl rfl (any_of HT_.out (by kernel_rfl)) (fun _ _ _ h => h) (Or.inl ⟨by rfl, ?_⟩) ?_ ?_
         rotate_left
         ·intro w'
          go_simp
          with_reducible rfl
         rotate_left
         ·simp only [Act.put, List.setIfInBounds_toArray, List.set_cons_zero, List.set_cons_succ, i64_w, i32_w]
          rfl
         refine pure_ (i := 8) (N := some 26) (v := ?_) (a' := ?_) #[false, true, true, true, false, true, true, true, true, false, false, false] rfl rfl (any_of HT_.out (by kernel_rfl)) (fun _ _ _ h => h) (Or.inl ⟨by rfl, ?_⟩) ?_ ?_
         rotate_left
         ·intro w'
          go_simp
          with_reducible rfl
         rotate_left
         ·simp only [Act.put, List.setIfInBounds_toArray, List.set_cons_zero, List.set_cons_succ, i64_w, i32_w]
          rfl
         refine one_ (i := 0) (N := some 18) #[true, true, true, true, false, true, true, true, true, false, false, false] rfl rfl (one_of HT_.out (by kernel_rfl)) (by decide) (fun K hK => ?_)
         refine Kd.R_lit_step k35 _ 35 ?hg (N := 18) ?hd (xs := ([] : List (S35))) (inner := []) (ok := fun _ => True) (okp := fun _ => True) ?hr ?hp (fun _ hk => hk) trivial (Below.refl _ _) (Nat.le_refl _) (by simp) ?_; (case hd => rfl); (case hg => rfl); (case hr => first | (go_simp; done) | (go_simp; rfl)); (case hp => exact (Reps.none _ _))
         intro v289 w20 ho21 hb hg_ hnew_
         clear hg_ hnew_
         (first | rw [← Ny288.out] at ho21 | (simp only [Int.reduceToNat] at ho21; rw [← Ny288.out] at ho21))
         have n0_ := Aside0.mk (Kd.R_lower ho21 (below_size (by repeat (first | (with_reducible first | exact HB.out | apply below_alloc | apply pw_below_drewN | apply below_drew1) | exact HB.out))))
         have n1_ := Aside0.mk (below_step (by repeat (first | (with_reducible first | exact HB.out | apply below_alloc | apply pw_below_drewN | apply below_drew1) | exact HB.out)) hb)
         clear HB
         have HO290 := n0_
         have HB := n1_
         clear n0_ n1_
         clear hb ho21
         refine hK.out _ _ trivial (fun hHeld => ?_)
         clear hK K
         refine norm_ (a' := ?_) ?_ ?_
         rotate_left
         ·show Act.put _ (some 18) _ = _
          simp only [Act.put, List.setIfInBounds_toArray, List.set_cons_zero, List.set_cons_succ, i64_w, i32_w]
          rfl
         refine one_ (i := 4) (N := some 22) #[true, true, true, true, true, true, true, true, true, false, false, false] rfl rfl (one_of HT_.out (by kernel_rfl)) (by decide) (fun K hK => ?_)
         refine Kd.R_append_rows_step k35 (w0 := w) w.heap.size (by rfl) (.tmp 18) (.tmp 21) 23 35 (.agg #[(.int .i64 0), (.int .i64 0), (.int .i64 0)]) 24 rfl Try.underlying23 info35 rfl (by decide) (by omega) v289 y288 y291 _ _ _ (fun _ => True) (fun _ => False) rfl rfl ?aO ?aR (fun _ _ h => h) (fun _ h => h.elim) ?aF ?aB ?aS ?aL ?_
         (case aR => repeat (first | exact (Kd.C_below HR294.out HB.out) | (with_reducible refine Kd.C_alloc ?_ _) | (with_reducible refine Kd.C_drewN ?_ _) | (with_reducible refine Kd.C_drew ?_)))
         (case aB => exact (by repeat (first | (with_reducible first | exact HB.out | apply below_alloc | apply pw_below_drewN | apply below_drew1) | exact HB.out)))
         (case aF => exact (fun _ _ => trivial))
         (case aO => exact (by (with_reducible repeat (first | apply Kd.R_alloc | apply Kd.R_drewN | apply Kd.R_drew)); exact HO290.out))
         (case aS => exact (below_size (by repeat (first | (with_reducible first | exact HB.out | apply below_alloc | apply pw_below_drewN | apply below_drew1) | exact HB.out))))
         (case aL => have := LMc11.out; omega)
         intro v296 w22 ho hb hg hat
         rw [← Ny295.out] at ho
         have n0_ := Aside0.mk (hb)
         have n1_ := Aside0.mk (ho)
         clear HB
         clear HO290
         have HB := n0_
         have HO297 := n1_
         clear n0_ n1_
         clear ho hb hg hat
         refine hK.out _ _ trivial (fun hHeld => ?_)
         clear hK K
         refine norm_ (a' := ?_) ?_ ?_
         rotate_left
         ·show Act.put _ (some 22) _ = _
          simp only [Act.put, List.setIfInBounds_toArray, List.set_cons_zero, List.set_cons_succ, i64_w, i32_w]
          rfl
         refine one_ (i := 9) (N := some 27) #[true, true, true, true, true, true, true, true, true, true, false, false] rfl rfl (one_of HT_.out (by kernel_rfl)) (by decide) (fun K hK => ?_)
         refine Kd.R_append_rows_step k35 (w0 := w) w.heap.size (by rfl) (.tmp 22) (.tmp 26) 23 35 (.agg #[(.int .i64 0), (.int .i64 0), (.int .i64 0)]) 24 rfl Try.underlying23 info35 rfl (by decide) (by omega) v296 y295 y298 _ _ _ (fun _ => True) (fun _ => False) rfl rfl ?aO ?aR (fun _ _ h => h) (fun _ h => h.elim) ?aF ?aB ?aS ?aL ?_
         (case aR => repeat (first | exact (Kd.C_below HR301.out HB.out) | (with_reducible refine Kd.C_alloc ?_ _) | (with_reducible refine Kd.C_drewN ?_ _) | (with_reducible refine Kd.C_drew ?_)))
         (case aB => exact (by repeat (first | (with_reducible first | exact HB.out | apply below_alloc | apply pw_below_drewN | apply below_drew1) | exact HB.out)))
         (case aF => exact (fun _ _ => trivial))
         (case aO => exact (by (with_reducible repeat (first | apply Kd.R_alloc | apply Kd.R_drewN | apply Kd.R_drew)); exact HO297.out))
         (case aS => exact (below_size (by repeat (first | (with_reducible first | exact HB.out | apply below_alloc | apply pw_below_drewN | apply below_drew1) | exact HB.out))))
         (case aL => have := LMc15.out; omega)
         intro v303 w23 ho hb hg hat
         rw [← Ny302.out] at ho
         have n0_ := Aside0.mk (hb)
         have n1_ := Aside0.mk (ho)
         clear HB
         clear HO297
         have HB := n0_
         have HO304 := n1_
         clear n0_ n1_
         clear ho hb hg hat
         refine hK.out _ _ trivial (fun hHeld => ?_)
         clear hK K
         refine norm_ (a' := ?_) ?_ ?_
         rotate_left
         ·show Act.put _ (some 27) _ = _
          simp only [Act.put, List.setIfInBounds_toArray, List.set_cons_zero, List.set_cons_succ, i64_w, i32_w]
          rfl
         refine pure_ (i := 10) (N := some 6) (v := ?_) (a' := ?_) #[true, true, true, true, true, true, true, true, true, true, true, false] rfl rfl (any_of HT_.out (by kernel_rfl)) (fun _ _ _ h => h) (Or.inl ⟨by rfl, ?_⟩) ?_ ?_
         rotate_left
         ·intro w'
          go_simp
          with_reducible rfl
         rotate_left
         ·simp only [Act.put, List.setIfInBounds_toArray, List.set_cons_zero, List.set_cons_succ, i64_w, i32_w]
          rfl
         refine pure_ (i := 11) (N := some 7) (v := ?_) (a' := ?_) #[true, true, true, true, true, true, true, true, true, true, true, true] rfl rfl (any_of HT_.out (by kernel_rfl)) (fun _ _ _ h => h) (Or.inl ⟨by rfl, ?_⟩) ?_ ?_
         rotate_left
         ·intro w'
          go_simp
          with_reducible rfl
         rotate_left
         ·simp only [Act.put, List.setIfInBounds_toArray, List.set_cons_zero, List.set_cons_succ, i64_w, i32_w]
          rfl
         refine done_ (done_of HT_.out (by kernel_rfl)) ?_
         try go_wp2
         go_ret2
         exact ⟨_, by first | rfl | (simp [errW_none, errW_some] <;> rfl) | (simp only [← hji12]; first | rfl | (simp [errW_none, errW_some] <;> rfl)) | (simp [*, errW_none, errW_some] <;> rfl), by (with_reducible repeat (first | apply Kd.R_alloc | apply Kd.R_drewN | apply Kd.R_drew)); exact HO304.out, by repeat (first | (with_reducible first | exact HB.out | apply below_alloc | apply pw_below_drewN | apply below_drew1) | exact HB.out)⟩
        ·rw [if_neg c15] at H
         exact absurd H (by simp)
       ·rw [if_neg c14] at H
        exact absurd H (by simp)
      ·rw [if_neg c13] at H
       exact absurd H (by simp)
     ·rw [if_neg c11] at H
      exact absurd H (by simp)
    ·rw [if_neg c10] at H
     exact absurd H (by simp)
   ·rw [if_neg c9] at H
    exact absurd H (by simp)
 ·replace c5 := Bool.eq_false_iff.mpr c5
  subst c5
  have H1 : (some (([] : List (S35)), 1)) = some (r1, r2) := by rw [if_neg (show ¬ (false = true) by decide)] at H; exact H
  clear H
  have H := H1
  clear H1
  simp only [Option.some.injEq, Prod.mk.injEq] at H
  obtain ⟨rfl, rfl⟩ := H
  go_enter Try.func25, Try.ntmps25
  go_wp2_with (first | ((with_reducible refine gate_callee (f := 44) rfl ?_); refine goesL_ (some 11) rfl rfl Try.func44 (by kernel_rfl) rfl #[.slice A0 l0.length c0, .slice A1 l1.length c1] rfl (by (try simp only [List.map_toArray, List.map_cons, List.map_nil]); first | done | rfl | (simp only [List.length_drop, List.length_take]; rfl)) ?_; (with_reducible refine (spileref52_right.calls k _ _ l0 _ _ l1 false _ ?side1 ?side2 ?side3 ?side4 A4.out).mono ?_); (case side1 => repeat (first | exact HR0.out | (with_reducible refine Kd.C_alloc ?_ _) | (with_reducible refine Kd.C_drewN ?_ _) | (with_reducible refine Kd.C_drew ?_))); (case side2 => exact HC0.out); (case side3 => repeat (first | exact HR1.out | (with_reducible refine Kd.C_alloc ?_ _) | (with_reducible refine Kd.C_drewN ?_ _) | (with_reducible refine Kd.C_drew ?_))); (case side4 => exact HC1.out); rintro e w24 ⟨rfl, hb⟩; refine ⟨_, rfl, ?_⟩; have n0_ := Aside0.mk (below_step (by repeat (first | (with_reducible first | exact HB.out | apply below_alloc | apply pw_below_drewN | apply below_drew1) | exact HB.out)) hb); clear HB; have HB := n0_; clear n0_; (try clear hb); (try clear hb2); (try clear hk); (try clear hi)))
  go_ret2
  exact ⟨_, by first | rfl | (simp [errW_none, errW_some] <;> rfl) | (simp [*, errW_none, errW_some] <;> rfl), by first | exact Kd.R_nil _ _ _ _ _ | exact Kd.N_nil _ _ _ _ _ | exact Kd.V_nil _ _ _ _ _ | exact Kd.Q_nil _ _ _ _ _ | exact Kd.S_nil _ _ _ _ _, by repeat (first | (with_reducible first | exact HB.out | apply below_alloc | apply pw_below_drewN | apply below_drew1) | exact HB.out)⟩

-- NOT PRINTED: function 4 (spilelaw52_BondBinds)

end Go.Proofs.Ytdolabpkgienkaa.PF
