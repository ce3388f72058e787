-- Written by a program of this session (wip/pr.py) out of Lean's print of the translation; Lean checks it.
import Derived.Test.YtdolabpkgienkaaPF0
import Derived.Test.YtdolabpkgienkaaPF1
import Derived.Test.YtdolabpkgienkaaPF2
import Derived.Test.YtdolabpkgienkaaPF3
import Derived.Test.YtdolabpkgienkaaPF4
import Derived.Test.YtdolabpkgienkaaPF5
namespace Go.Proofs.Ytdolabpkgienkaa.PF
open Go.RowKit Go.Proofs.YtdolabpkgienkaaW.PrintWords Go.Proofs.YtdolabpkgienkaaW.PrintLast Go.Proofs.YtdolabpkgienkaaW.PrintMore
attribute [local go_sem] max2_int min2_int max_two min_two max_three min_three max_four min_four   -- for this text's walks alone
set_option linter.unusedVariables false
set_option linter.unusedSimpArgs false

attribute [local go_sem high] eqA35
/-! ### bond_Change: function 22 -/
def bond_Change.f (k : Nat) (l0 : List (S31)) (l1 : List (S35)) (a2 : Int) (a3 : Int) : Option ((List (S35)) × Int) := (bond_asks.f l0 l1).bind fun t125 => (if t125 = 0 then ((bond_place.f l1 a2).bind fun bt126 => ((bond_within.f a3 0 1125899906842624).bind fun t128 => (if t128 = true then (if bt126.2 = true then ((api_Hold_16.f l1).bind fun t129 => (if 0 ≤ bt126.1 then (if bt126.1 < (t129.length : Int) then ((some (t129.set (bt126.1 : Int).toNat (⟨(rd_T35 t129 bt126.1).f0, (rd_T35 t129 bt126.1).f1, a3⟩ : S35) : List (S35))).bind fun y132 => ((bond_find.f l0 ((rd_T35 y132 bt126.1).f0)).bind fun bt134 => ((bond_free.f k bt134.1 bt134.2.1 bt134.2.2.1 bt134.2.2.2.1 y132).bind fun t140 => (if t140 < 0 then (some (([] : List (S35)), 17)) else (some (y132, 0)))))) else (none)) else (none))) else (some (([] : List (S35)), 7))) else (some (([] : List (S35)), 2))))) else (some (([] : List (S35)), t125)))
theorem bond_Change.mono : ∀ a0 a1 a2 a3 k, LeO (bond_Change.f k a0 a1 a2 a3) (bond_Change.f (k + 1) a0 a1 a2 a3) := by
 intro a0 a1 a2 a3 k
 unfold bond_Change.f
 repeat' first
   | (with_reducible exact bond_free.mono _ _ _ _ _ _)
   | (with_reducible exact LeO.refl _)
   | (with_reducible exact LeO.none _)
   | (with_reducible refine LeO.ite ?_ ?_)
   | (with_reducible refine LeO.bind ?_ (fun _ => ?_))
   | exact bond_free.mono _ _ _ _ _ _
   | exact LeO.none _
   | refine LeO.ite ?_ ?_
   | refine LeO.bind ?_ (fun _ => ?_)
set_option maxHeartbeats 8000000 in
set_option maxRecDepth 100000 in
theorem bond_Change.calls (k : Nat) (A0 : Option Addr) (c0 : Nat) (l0 : List (S31)) (A1 : Option Addr) (c1 : Nat) (l1 : List (S35)) (a2 : Int) (a3 : Int) (r1 : List (S35)) (r2 : Int) (w : World) (hr0 : Kd.C k31 w A0 l0.length l0) (hc0 : l0.length ≤ c0) (hr1 : Kd.C k35 w A1 l1.length l1) (hc1 : l1.length ≤ c1) (h : bond_Change.f k l0 l1 a2 a3 = some (r1, r2)) :
  Calls Try.prog 22 #[.slice A0 l0.length c0, .slice A1 l1.length c1, .int .i64 a2, .int .i64 a3] w fun e w' => ∃ v0_ : Value, e = .returned (.tuple #[v0_, .int .i64 r2]) ∧ Kd.R k35 35 w' w.heap.size (fun _ => True) v0_ r1 ∧ Below w.heap.size w w' := by
 have hu31 := Try.underlying31
 have HR0 := Aside0.mk hr0
 have HC0 := Aside0.mk hc0
 clear hr0 hc0
 have HR1 := Aside0.mk hr1
 have HC1 := Aside0.mk hc1
 clear hr1 hc1
 have HB := Aside0.mk (Below.refl w.heap.size w)
 have H : ((bond_asks.f l0 l1).bind fun t125 => (if t125 = 0 then ((bond_place.f l1 a2).bind fun bt126 => ((bond_within.f a3 0 1125899906842624).bind fun t128 => (if t128 = true then (if bt126.2 = true then ((api_Hold_16.f l1).bind fun t129 => (if 0 ≤ bt126.1 then (if bt126.1 < (t129.length : Int) then ((some (t129.set (bt126.1 : Int).toNat (⟨(rd_T35 t129 bt126.1).f0, (rd_T35 t129 bt126.1).f1, a3⟩ : S35) : List (S35))).bind fun y132 => ((bond_find.f l0 ((rd_T35 y132 bt126.1).f0)).bind fun bt134 => ((bond_free.f k bt134.1 bt134.2.1 bt134.2.2.1 bt134.2.2.2.1 y132).bind fun t140 => (if t140 < 0 then (some (([] : List (S35)), 17)) else (some (y132, 0)))))) else (none)) else (none))) else (some (([] : List (S35)), 7))) else (some (([] : List (S35)), 2))))) else (some (([] : List (S35)), t125)))) = some (r1, r2) := h
 clear h
 replace H := Option.bind_eq_some_iff.mp H
 obtain ⟨t125, A50, H⟩ := H
 replace H : (if t125 = 0 then ((bond_place.f l1 a2).bind fun bt126 => ((bond_within.f a3 0 1125899906842624).bind fun t128 => (if t128 = true then (if bt126.2 = true then ((api_Hold_16.f l1).bind fun t129 => (if 0 ≤ bt126.1 then (if bt126.1 < (t129.length : Int) then ((some (t129.set (bt126.1 : Int).toNat (⟨(rd_T35 t129 bt126.1).f0, (rd_T35 t129 bt126.1).f1, a3⟩ : S35) : List (S35))).bind fun y132 => ((bond_find.f l0 ((rd_T35 y132 bt126.1).f0)).bind fun bt134 => ((bond_free.f k bt134.1 bt134.2.1 bt134.2.2.1 bt134.2.2.2.1 y132).bind fun t140 => (if t140 < 0 then (some (([] : List (S35)), 17)) else (some (y132, 0)))))) else (none)) else (none))) else (some (([] : List (S35)), 7))) else (some (([] : List (S35)), 2))))) else (some (([] : List (S35)), t125))) = some (r1, r2) := H
 have A5 := Aside0.mk A50
 clear A50
 by_cases c6 : t125 = 0
 ·rw [if_pos c6] at H
  have c6b0 : (t125 == 0) = true := beq_iff_eq.mpr c6
  have c6b1 : (t125 != 0) = false := bne_eq_false_iff_eq.mpr c6
  clear c6
  replace H := Option.bind_eq_some_iff.mp H
  obtain ⟨⟨t126, t127⟩, A70, H⟩ := H
  replace H : ((bond_within.f a3 0 1125899906842624).bind fun t128 => (if t128 = true then (if t127 = true then ((api_Hold_16.f l1).bind fun t129 => (if 0 ≤ t126 then (if t126 < (t129.length : Int) then ((some (t129.set (t126 : Int).toNat (⟨(rd_T35 t129 t126).f0, (rd_T35 t129 t126).f1, a3⟩ : S35) : List (S35))).bind fun y132 => ((bond_find.f l0 ((rd_T35 y132 t126).f0)).bind fun bt134 => ((bond_free.f k bt134.1 bt134.2.1 bt134.2.2.1 bt134.2.2.2.1 y132).bind fun t140 => (if t140 < 0 then (some (([] : List (S35)), 17)) else (some (y132, 0)))))) else (none)) else (none))) else (some (([] : List (S35)), 7))) else (some (([] : List (S35)), 2)))) = some (r1, r2) := H
  have A7 := Aside0.mk A70
  clear A70
  replace H := Option.bind_eq_some_iff.mp H
  obtain ⟨t128, A80, H⟩ := H
  replace H : (if t128 = true then (if t127 = true then ((api_Hold_16.f l1).bind fun t129 => (if 0 ≤ t126 then (if t126 < (t129.length : Int) then ((some (t129.set (t126 : Int).toNat (⟨(rd_T35 t129 t126).f0, (rd_T35 t129 t126).f1, a3⟩ : S35) : List (S35))).bind fun y132 => ((bond_find.f l0 ((rd_T35 y132 t126).f0)).bind fun bt134 => ((bond_free.f k bt134.1 bt134.2.1 bt134.2.2.1 bt134.2.2.2.1 y132).bind fun t140 => (if t140 < 0 then (some (([] : List (S35)), 17)) else (some (y132, 0)))))) else (none)) else (none))) else (some (([] : List (S35)), 7))) else (some (([] : List (S35)), 2))) = some (r1, r2) := H
  have A8 := Aside0.mk A80
  clear A80
  by_cases c9 : t128 = true
  ·subst c9
   have H1 : (if t127 = true then ((api_Hold_16.f l1).bind fun t129 => (if 0 ≤ t126 then (if t126 < (t129.length : Int) then ((some (t129.set (t126 : Int).toNat (⟨(rd_T35 t129 t126).f0, (rd_T35 t129 t126).f1, a3⟩ : S35) : List (S35))).bind fun y132 => ((bond_find.f l0 ((rd_T35 y132 t126).f0)).bind fun bt134 => ((bond_free.f k bt134.1 bt134.2.1 bt134.2.2.1 bt134.2.2.2.1 y132).bind fun t140 => (if t140 < 0 then (some (([] : List (S35)), 17)) else (some (y132, 0)))))) else (none)) else (none))) else (some (([] : List (S35)), 7))) = some (r1, r2) := by rw [if_pos rfl] at H; exact H
   clear H
   have H := H1
   clear H1
   by_cases c10 : t127 = true
   ·subst c10
    have H1 : ((api_Hold_16.f l1).bind fun t129 => (if 0 ≤ t126 then (if t126 < (t129.length : Int) then ((some (t129.set (t126 : Int).toNat (⟨(rd_T35 t129 t126).f0, (rd_T35 t129 t126).f1, a3⟩ : S35) : List (S35))).bind fun y132 => ((bond_find.f l0 ((rd_T35 y132 t126).f0)).bind fun bt134 => ((bond_free.f k bt134.1 bt134.2.1 bt134.2.2.1 bt134.2.2.2.1 y132).bind fun t140 => (if t140 < 0 then (some (([] : List (S35)), 17)) else (some (y132, 0)))))) else (none)) else (none))) = some (r1, r2) := by rw [if_pos rfl] at H; exact H
    clear H
    have H := H1
    clear H1
    replace H := Option.bind_eq_some_iff.mp H
    obtain ⟨t129, A110, H⟩ := H
    replace H : (if 0 ≤ t126 then (if t126 < (t129.length : Int) then ((some (t129.set (t126 : Int).toNat (⟨(rd_T35 t129 t126).f0, (rd_T35 t129 t126).f1, a3⟩ : S35) : List (S35))).bind fun y132 => ((bond_find.f l0 ((rd_T35 y132 t126).f0)).bind fun bt134 => ((bond_free.f k bt134.1 bt134.2.1 bt134.2.2.1 bt134.2.2.2.1 y132).bind fun t140 => (if t140 < 0 then (some (([] : List (S35)), 17)) else (some (y132, 0)))))) else (none)) else (none)) = some (r1, r2) := H
    have A11 := Aside0.mk A110
    clear A110
    by_cases c12 : 0 ≤ t126
    ·rw [if_pos c12] at H
     have c12b0 : decide (0 ≤ t126) = true := decide_eq_true c12
     clear c12
     by_cases c13 : t126 < (t129.length : Int)
     ·rw [if_pos c13] at H
      have c13b0 : decide (t126 < (t129.length : Int)) = true := decide_eq_true c13
      clear c13
      obtain ⟨y132, hy132⟩ : ∃ y_ : List (S35), y_ = (t129.set (t126 : Int).toNat (⟨(rd_T35 t129 t126).f0, (rd_T35 t129 t126).f1, a3⟩ : S35)) := ⟨_, rfl⟩
      replace H : ((bond_find.f l0 ((rd_T35 y132 t126).f0)).bind fun bt134 => ((bond_free.f k bt134.1 bt134.2.1 bt134.2.2.1 bt134.2.2.2.1 y132).bind fun t140 => (if t140 < 0 then (some (([] : List (S35)), 17)) else (some (y132, 0))))) = some (r1, r2) := by first | (rw [hy132]; with_reducible exact H) | (have H2_ := (Option.bind_some _ _).symm.trans H; rw [hy132]; with_reducible exact H2_) | (have H2_ := (Option.bind_some _ _).symm.trans H; with_reducible exact H2_) | with_reducible exact H | (rw [hy132]; exact H) | exact H
      have Ny132 := Aside0.mk hy132
      clear hy132
      replace H := Option.bind_eq_some_iff.mp H
      obtain ⟨⟨t134, t135, t136, t137, t138⟩, A150, H⟩ := H
      replace H : ((bond_free.f k t134 t135 t136 t137 y132).bind fun t140 => (if t140 < 0 then (some (([] : List (S35)), 17)) else (some (y132, 0)))) = some (r1, r2) := H
      have A15 := Aside0.mk A150
      clear A150
      replace H := Option.bind_eq_some_iff.mp H
      obtain ⟨t140, A160, H⟩ := H
      replace H : (if t140 < 0 then (some (([] : List (S35)), 17)) else (some (y132, 0))) = some (r1, r2) := H
      have A16 := Aside0.mk A160
      clear A160
      by_cases c17 : t140 < 0
      ·rw [if_pos c17] at H
       have c17b0 : decide (t140 < 0) = true := decide_eq_true c17
       clear c17
       simp only [Option.some.injEq, Prod.mk.injEq] at H
       obtain ⟨rfl, rfl⟩ := H
       go_enter Try.func22, Try.ntmps22
       go_wp2_with (first | ((with_reducible refine gate_callee (f := 42) rfl ?_); refine goesL_ (some 18) rfl rfl Try.func42 (by kernel_rfl) rfl #[.slice A0 l0.length c0, .slice A1 l1.length c1] rfl (by (try simp only [List.map_toArray, List.map_cons, List.map_nil]); first | done | rfl | (simp only [List.length_drop, List.length_take]; rfl)) ?_; (with_reducible refine (bond_asks.calls _ _ l0 _ _ l1 t125 _ ?side1 ?side2 ?side3 ?side4 A5.out).mono ?_); (case side1 => repeat (first | exact HR0.out | (with_reducible refine Kd.C_alloc ?_ _) | (with_reducible refine Kd.C_drewN ?_ _) | (with_reducible refine Kd.C_drew ?_))); (case side2 => exact HC0.out); (case side3 => repeat (first | exact HR1.out | (with_reducible refine Kd.C_alloc ?_ _) | (with_reducible refine Kd.C_drewN ?_ _) | (with_reducible refine Kd.C_drew ?_))); (case side4 => exact HC1.out); rintro e w18 ⟨rfl, hb⟩; refine ⟨_, rfl, ?_⟩; have n0_ := Aside0.mk (below_step (by repeat (first | (with_reducible first | exact HB.out | apply below_alloc | apply pw_below_drewN | apply below_drew1) | exact HB.out)) hb); clear HB; have HB := n0_; clear n0_; (try clear hb); (try clear hb2); (try clear hk); (try clear hi)) | ((with_reducible refine gate_callee (f := 45) rfl ?_); refine goesL_ (some 25) rfl rfl Try.func45 (by kernel_rfl) rfl #[.slice A1 l1.length c1, .int .i64 a2] rfl (by (try simp only [List.map_toArray, List.map_cons, List.map_nil]); first | done | rfl | (simp only [List.length_drop, List.length_take]; rfl)) ?_; (with_reducible refine (bond_place.calls _ _ l1 a2 t126 true _ ?side1 ?side2 A7.out).mono ?_); (case side1 => repeat (first | exact (Kd.C_below HR1.out HB.out) | (with_reducible refine Kd.C_alloc ?_ _) | (with_reducible refine Kd.C_drewN ?_ _) | (with_reducible refine Kd.C_drew ?_))); (case side2 => exact HC1.out); rintro e w19 ⟨rfl, hb⟩; refine ⟨_, rfl, ?_⟩; have n0_ := Aside0.mk (below_step (by repeat (first | (with_reducible first | exact HB.out | apply below_alloc | apply pw_below_drewN | apply below_drew1) | exact HB.out)) hb); clear HB; have HB := n0_; clear n0_; (try clear hb); (try clear hb2); (try clear hk); (try clear hi)) | ((with_reducible refine gate_callee (f := 37) rfl ?_); refine goesL_ (some 30) rfl rfl Try.func37 (by kernel_rfl) rfl #[.int .i64 a3, .int .i64 0, .int .i64 1125899906842624] rfl (by (try simp only [List.map_toArray, List.map_cons, List.map_nil]); first | done | rfl | (simp only [List.length_drop, List.length_take]; rfl)) ?_; (with_reducible refine (bond_within.calls a3 0 1125899906842624 true _ A8.out).mono ?_); rintro e w' ⟨rfl, ⟨nd, rfl⟩⟩; refine ⟨_, rfl, ?_⟩; (try (rw [drewN_self w19]; generalize hq_ : World.drewN w19 _ = w19; have n0_ : Aside0 (Below w.heap.size w w19) := ⟨by rw [← hq_]; exact (by repeat (first | (with_reducible first | exact HB.out | apply below_alloc | apply pw_below_drewN | apply below_drew1) | exact HB.out))⟩; clear HB hq_; have HB := n0_; clear n0_))) | ((with_reducible refine gate_callee (f := 16) rfl ?_); refine goesL_ (some 36) rfl rfl Try.func16 (by kernel_rfl) rfl #[.slice A1 l1.length c1] rfl (by (try simp only [List.map_toArray, List.map_cons, List.map_nil]); first | done | rfl | (simp only [List.length_drop, List.length_take]; rfl)) ?_; (with_reducible refine (api_Hold_16.calls _ _ l1 t129 _ ?side1 ?side2 A11.out).mono ?_); (case side1 => repeat (first | exact (Kd.C_below HR1.out HB.out) | (with_reducible refine Kd.C_alloc ?_ _) | (with_reducible refine Kd.C_drewN ?_ _) | (with_reducible refine Kd.C_drew ?_))); (case side2 => exact HC1.out); rintro e w20 ⟨v130, rfl, ho0, hb⟩; refine ⟨_, rfl, ?_⟩; have n0_ := Aside0.mk (Kd.R_lower ho0 (below_size (by repeat (first | (with_reducible first | exact HB.out | apply below_alloc | apply pw_below_drewN | apply below_drew1) | exact HB.out)))); have n1_ := Aside0.mk (below_step (by repeat (first | (with_reducible first | exact HB.out | apply below_alloc | apply pw_below_drewN | apply below_drew1) | exact HB.out)) hb); clear HB; have HO131 := n0_; have HB := n1_; clear n0_ n1_; (try clear hb); (try clear hb2); (try clear hk); (try clear hi); (try clear ho0); have p14 : 0 ≤ (t126 : Int) := of_decide_eq_true (by first | (with_reducible assumption) | assumption); have q14 : (t126 : Int) < ((t129.length : Int) : Int) := of_decide_eq_true (by first | (with_reducible assumption) | assumption); obtain ⟨go14, co14, eo14, gb14, gl14, cl14, HG14⟩ := Kd.R_form HO131.out (by omega); (first | cases eo14 | (injection eo14 with ea_ en_ ec_; (first | subst ea_ | (injection ea_ with ea_; subst ea_)); subst ec_; clear en_)); have GB14 := Aside0.mk gb14; have GG14 := Aside0.mk HG14; clear gb14 gl14 HG14; obtain ⟨ce14, hcl14, hM14, hcc14, hfr14⟩ := Kd.R_elem HO131.out z35 (t126 : Int) p14 q14; obtain rfl := k35_openM hM14; have hx14_0 : w20.cell? ⟨go14, (t126 : Int).toNat * 3, none⟩ = some (.int .i64 ((rd_T35 t129 t126).f0)) := hcc14 0 _ rfl; have hx14_1 : w20.cell? ⟨go14, (t126 : Int).toNat * 3 + 1, none⟩ = some (.int .i64 ((rd_T35 t129 t126).f1)) := hcc14 1 _ rfl; have hx14_2 : w20.cell? ⟨go14, (t126 : Int).toNat * 3 + 2, none⟩ = some (.int .i64 ((rd_T35 t129 t126).f2)) := hcc14 2 _ rfl; have hf14_0 : w20.frozen? ⟨go14, (t126 : Int).toNat * 3, none⟩ = false := hfr14 0; have hf14_1 : w20.frozen? ⟨go14, (t126 : Int).toNat * 3 + 1, none⟩ = false := hfr14 1; have hf14_2 : w20.frozen? ⟨go14, (t126 : Int).toNat * 3 + 2, none⟩ = false := hfr14 2; clear hcl14 hcc14 hfr14 hM14; replace p14 := eq_true p14; replace q14 := eq_true q14; have HX21 := Aside0.mk (show Kd.R k35 35 w20 w.heap.size (fun _ => True) (.slice (some ⟨go14, 0, none⟩) t129.length co14) t129 from (by (with_reducible repeat (first | apply Kd.R_alloc | apply Kd.R_drewN | apply Kd.R_drew)); exact HO131.out)); obtain ⟨ce21, hcl21, hM21, hcc21, hfr21⟩ := Kd.R_elem HX21.out z35 (t126 : Int) (of_decide_eq_true (by first | (with_reducible assumption) | assumption)) (by have h_ : (t126 : Int) < ((t129.length : Int) : Int) := of_decide_eq_true (by first | (with_reducible assumption) | assumption); first | exact h_ | (have e_ := (Kd.R_reads' HO131.out).1; omega) | simpa using h_); obtain rfl := k35_openM hM21; have HP21 := Kd.R_seg HX21.out (t126 : Int) (of_decide_eq_true (by first | (with_reducible assumption) | assumption)) (by have h_ : (t126 : Int) < ((t129.length : Int) : Int) := of_decide_eq_true (by first | (with_reducible assumption) | assumption); first | exact h_ | (have e_ := (Kd.R_reads' HO131.out).1; omega) | simpa using h_) (seg := [.int .i64 a3]) (j := 2) hcl21 hcc21 (show 3 ≤ 3 from by decide) (x' := (⟨(rd_T35 t129 t126).f0, (rd_T35 t129 t126).f1, a3⟩ : S35)) (k35_mkM _ _ _ (⟨(rd_T35 t129 t126).f0, (rd_T35 t129 t126).f1, a3⟩ : S35) ) (fun _ hk => hk); have hx21_2 := hcc21 2 _ rfl; (try simp only [show (k35).sz = 3 from rfl, Nat.mul_one, Nat.add_zero] at hx21_2); have hf21_2 := hfr21 2; (try simp only [show (k35).sz = 3 from rfl, Nat.mul_one, Nat.add_zero] at hf21_2); clear hcl21 hcc21 hfr21 hM21) | ((with_reducible refine gate_store (t := 3) (p := 41) rfl ?_); refine store_event (t := 3) (p := 41) (v := ?vo_w22) (w1 := (w20.setCell ⟨go14, (t126 : Int).toNat * 3 + 2, none⟩ (.int .i64 a3))) ?hg ?ho ?hn ?hr ?_; (case ho => rfl); (case hg => rfl); (case hn => rfl); (case hr => first | (go_simp; done) | (go_simp; rfl)); intro w22 hw; have hg : w20.grownBy w22 (some go14) := (by rw [hw]; exact HP21.2); have hp_ : Kd.R k35 35 w22 w.heap.size (fun _ => True) (.slice (some ⟨go14, 0, none⟩) t129.length co14) y132 := (by rw [hw, Ny132.out]; exact HP21.1); clear HP21; have n0_ := Aside0.mk (hp_); have n1_ := Aside0.mk ((by rw [hw]; exact below_set (HB.out) GB14.out : Below w.heap.size w w22)); clear HO131; clear HB; have HO131 := n0_; have HB := n1_; clear n0_ n1_; clear hg hw hp_; have p133 : 0 ≤ (t126 : Int) := of_decide_eq_true (by first | (with_reducible assumption) | assumption); have q133 : t126 < (y132.length : Int) := (by have h_ : (t126 : Int) < ((t129.length : Int) : Int) := of_decide_eq_true (by first | (with_reducible assumption) | assumption); first | (have e_ := (Kd.R_reads' HO131.out).1; omega) | simpa only [Ny132.out, List.length_set] using h_); have ql133 : ((t126 : Int) < ((t129.length : Int) : Int)) = True := eq_true (of_decide_eq_true (by first | (with_reducible assumption) | assumption)); obtain ⟨ad133, e133, hx133_0, hx133_1, hx133_2⟩ := at_T35 (Kd.R_reads' HO131.out).2.2 t126 p133 q133; obtain rfl : (⟨go14, 0, none⟩ : Addr) = ad133 := (by injection e133); (first | simp only [add_plain] at hx133_0 | simp only [add_at] at hx133_0 | simp only [Addr.add, Nat.zero_add] at hx133_0 | skip); (first | simp only [add_plain] at hx133_1 | simp only [add_at] at hx133_1 | simp only [Addr.add, Nat.zero_add] at hx133_1 | skip); (first | simp only [add_plain] at hx133_2 | simp only [add_at] at hx133_2 | simp only [Addr.add, Nat.zero_add] at hx133_2 | skip); replace p133 := eq_true p133; replace q133 := eq_true q133) | ((with_reducible refine gate_callee (f := 39) rfl ?_); refine goesL_ (some 49) rfl rfl Try.func39 (by kernel_rfl) rfl #[.slice A0 l0.length c0, .int .i64 ((rd_T35 y132 t126).f0)] rfl (by (try simp only [List.map_toArray, List.map_cons, List.map_nil]); first | done | rfl | (simp only [List.length_drop, List.length_take]; rfl)) ?_; (with_reducible refine (bond_find.calls _ _ l0 ((rd_T35 y132 t126).f0) t134 t135 t136 t137 t138 _ ?side1 ?side2 A15.out).mono ?_); (case side1 => repeat (first | exact (Kd.C_below HR0.out HB.out) | (with_reducible refine Kd.C_alloc ?_ _) | (with_reducible refine Kd.C_drewN ?_ _) | (with_reducible refine Kd.C_drew ?_))); (case side2 => exact HC0.out); rintro e w23 ⟨rfl, hb⟩; refine ⟨_, rfl, ?_⟩; have n0_ := Aside0.mk (Kd.R_below (by (with_reducible repeat (first | apply Kd.R_alloc | apply Kd.R_drewN | apply Kd.R_drew)); exact HO131.out) hb); have n1_ := Aside0.mk (below_step (by repeat (first | (with_reducible first | exact HB.out | apply below_alloc | apply pw_below_drewN | apply below_drew1) | exact HB.out)) hb); clear HO131; clear HB; have HO131 := n0_; have HB := n1_; clear n0_ n1_; (try clear hb); (try clear hb2); (try clear hk); (try clear hi)) | ((with_reducible refine gate_dst (N := 14) rfl ?_); refine box_event ?hg (N := 14) ?hd (cs := #[.int .i64 0, .int .i64 0, .int .i64 0, .int .i64 0]) (t := 31) ?hr ?_; (case hd => rfl); (case hg => rfl); (case hr => first | (go_simp; done) | (go_simp; rfl)); intro gb139 hg w24 hbox hb; have n0_ := Aside0.mk (Kd.R_below (by (with_reducible repeat (first | apply Kd.R_alloc | apply Kd.R_drewN | apply Kd.R_drew)); exact HO131.out) hb); have n1_ := Aside0.mk (below_step (by repeat (first | (with_reducible first | exact HB.out | apply below_alloc | apply pw_below_drewN | apply below_drew1) | exact HB.out)) hb); have n2_ := Aside0.mk (hbox); have n3_ := Aside0.mk ((by rw [hg]; exact (below_size (by repeat (first | (with_reducible first | exact HB.out | apply below_alloc | apply pw_below_drewN | apply below_drew1) | exact HB.out))) : w.heap.size ≤ gb139)); have n4_ := Aside0.mk ((by rw [hg]; exact (below_size (by repeat (first | (with_reducible first | exact HB.out | apply below_alloc | apply pw_below_drewN | apply below_drew1) | exact HB.out))) : w.heap.size ≤ gb139)); clear HO131; clear HB; have HO131 := n0_; have HB := n1_; have BK139 := n2_; have GW139 := n3_; have GE139 := n4_; clear n0_ n1_ n2_ n3_ n4_; clear hb hbox hg; have hcz25_0 : w24.cell? ⟨gb139, 0, none⟩ = some (.int .i64 0) := (blk_cell BK139.out 0).trans rfl; have hcz25_1 : w24.cell? ⟨gb139, 1, none⟩ = some (.int .i64 0) := (blk_cell BK139.out 1).trans rfl; have hcz25_2 : w24.cell? ⟨gb139, 2, none⟩ = some (.int .i64 0) := (blk_cell BK139.out 2).trans rfl; have hcz25_3 : w24.cell? ⟨gb139, 3, none⟩ = some (.int .i64 0) := (blk_cell BK139.out 3).trans rfl; have hfz25_0 := blk_frozen BK139.out 0; have hfz25_1 := blk_frozen BK139.out 1; have hfz25_2 := blk_frozen BK139.out 2; have hfz25_3 := blk_frozen BK139.out 3) | ((with_reducible refine gate_callee (f := 43) rfl ?_); refine goesL_ (some 54) rfl rfl Try.func43 (by kernel_rfl) rfl #[.agg #[.int .i64 t134, .int .i64 t135, .int .i64 t136, .int .i64 t137], .slice (some ⟨go14, 0, none⟩) y132.length co14] rfl (by (try simp only [List.map_toArray, List.map_cons, List.map_nil]); first | done | (rw [show y132.length = t129.length from (Kd.R_reads' HO131.out).1.symm] <;> rfl) | rfl | (simp only [List.length_drop, List.length_take]; rfl)) ?_; (with_reducible refine (bond_free.calls k t134 t135 t136 t137 _ _ y132 t140 _ ?side1 ?side2 A16.out).mono ?_); (case side1 => refine (Kd.R_reads' (e := 35) (base := w.heap.size) (ok := fun k_ => True) (n := t129.length) (c := co14) ?_).2.2; exact (by (with_reducible repeat (first | apply Kd.R_alloc | apply Kd.R_drewN | apply Kd.R_drew)); exact (Kd.R_mono (Kd.R_far (p := ⟨gb139, 3, none⟩) (Kd.R_far (p := ⟨gb139, 2, none⟩) (Kd.R_far (p := ⟨gb139, 1, none⟩) (Kd.R_far (p := ⟨gb139, 0, none⟩) (Kd.R_types HO131.out BK139.out (by decide)) (fun _ hk => hk.2) (.int .i64 t134)) (fun _ hk => hk.2) (.int .i64 t135)) (fun _ hk => hk.2) (.int .i64 t136)) (fun _ hk => hk.2) (.int .i64 t137)) (fun _ h_ => h_.1)))); (case side2 => rw [show y132.length = t129.length from (Kd.R_reads' HO131.out).1.symm]; exact (Kd.R_reads' HO131.out).2.1); rintro e w26 ⟨rfl, hb⟩; refine ⟨_, rfl, ?_⟩; have n0_ := Aside0.mk (Kd.R_below (by (with_reducible repeat (first | apply Kd.R_alloc | apply Kd.R_drewN | apply Kd.R_drew)); exact (Kd.R_mono (Kd.R_far (p := ⟨gb139, 3, none⟩) (Kd.R_far (p := ⟨gb139, 2, none⟩) (Kd.R_far (p := ⟨gb139, 1, none⟩) (Kd.R_far (p := ⟨gb139, 0, none⟩) (Kd.R_types HO131.out BK139.out (by decide)) (fun _ hk => hk.2) (.int .i64 t134)) (fun _ hk => hk.2) (.int .i64 t135)) (fun _ hk => hk.2) (.int .i64 t136)) (fun _ hk => hk.2) (.int .i64 t137)) (fun _ h_ => h_.1))) hb); have n1_ := Aside0.mk (blk_below (g := gb139) (o := .cells #[.int .i64 t134, .int .i64 t135, .int .i64 t136, .int .i64 t137] 31 (0, 0)) (by (with_reducible repeat (first | refine blk_drewN ?_ _ | refine blk_drew ?_ | refine blk_alloc ?_ _)); refine blk_put (cs := #[.int .i64 t134, .int .i64 t135, .int .i64 t136, .int .i64 0]) ?_ 3 _ rfl; (with_reducible repeat (first | refine blk_drewN ?_ _ | refine blk_drew ?_ | refine blk_alloc ?_ _)); refine blk_put (cs := #[.int .i64 t134, .int .i64 t135, .int .i64 0, .int .i64 0]) ?_ 2 _ rfl; (with_reducible repeat (first | refine blk_drewN ?_ _ | refine blk_drew ?_ | refine blk_alloc ?_ _)); refine blk_put (cs := #[.int .i64 t134, .int .i64 0, .int .i64 0, .int .i64 0]) ?_ 1 _ rfl; (with_reducible repeat (first | refine blk_drewN ?_ _ | refine blk_drew ?_ | refine blk_alloc ?_ _)); refine blk_put (cs := #[.int .i64 0, .int .i64 0, .int .i64 0, .int .i64 0]) ?_ 0 _ rfl; (with_reducible repeat (first | refine blk_drewN ?_ _ | refine blk_drew ?_ | refine blk_alloc ?_ _)); exact BK139.out) hb); have n2_ := Aside0.mk (below_step (by repeat (first | (with_reducible first | exact HB.out | apply below_alloc | apply pw_below_drewN | apply below_drew1 | refine below_set ?_ GE139.out) | exact HB.out)) hb); clear HO131; clear BK139; clear HB; have HO131 := n0_; have BK139 := n1_; have HB := n2_; clear n0_ n1_ n2_; (try clear hb); (try clear hb2); (try clear hk); (try clear hi)))
       go_ret2
       exact ⟨_, by first | rfl | (simp [errW_none, errW_some] <;> rfl) | (simp [*, errW_none, errW_some] <;> rfl), by first | exact Kd.R_nil _ _ _ _ _ | exact Kd.N_nil _ _ _ _ _ | exact Kd.V_nil _ _ _ _ _ | exact Kd.Q_nil _ _ _ _ _ | exact Kd.S_nil _ _ _ _ _, by repeat (first | (with_reducible first | exact HB.out | apply below_alloc | apply pw_below_drewN | apply below_drew1 | refine below_set ?_ GE139.out) | exact HB.out)⟩
      ·rw [if_neg c17] at H
       have c17b0 : decide (t140 < 0) = false := decide_eq_false c17
       clear c17
       simp only [Option.some.injEq, Prod.mk.injEq] at H
       obtain ⟨rfl, rfl⟩ := H
       go_enter Try.func22, Try.ntmps22
       go_wp2_with (first | ((with_reducible refine gate_callee (f := 42) rfl ?_); refine goesL_ (some 18) rfl rfl Try.func42 (by kernel_rfl) rfl #[.slice A0 l0.length c0, .slice A1 l1.length c1] rfl (by (try simp only [List.map_toArray, List.map_cons, List.map_nil]); first | done | rfl | (simp only [List.length_drop, List.length_take]; rfl)) ?_; (with_reducible refine (bond_asks.calls _ _ l0 _ _ l1 t125 _ ?side1 ?side2 ?side3 ?side4 A5.out).mono ?_); (case side1 => repeat (first | exact HR0.out | (with_reducible refine Kd.C_alloc ?_ _) | (with_reducible refine Kd.C_drewN ?_ _) | (with_reducible refine Kd.C_drew ?_))); (case side2 => exact HC0.out); (case side3 => repeat (first | exact HR1.out | (with_reducible refine Kd.C_alloc ?_ _) | (with_reducible refine Kd.C_drewN ?_ _) | (with_reducible refine Kd.C_drew ?_))); (case side4 => exact HC1.out); rintro e w27 ⟨rfl, hb⟩; refine ⟨_, rfl, ?_⟩; have n0_ := Aside0.mk (below_step (by repeat (first | (with_reducible first | exact HB.out | apply below_alloc | apply pw_below_drewN | apply below_drew1) | exact HB.out)) hb); clear HB; have HB := n0_; clear n0_; (try clear hb); (try clear hb2); (try clear hk); (try clear hi)) | ((with_reducible refine gate_callee (f := 45) rfl ?_); refine goesL_ (some 25) rfl rfl Try.func45 (by kernel_rfl) rfl #[.slice A1 l1.length c1, .int .i64 a2] rfl (by (try simp only [List.map_toArray, List.map_cons, List.map_nil]); first | done | rfl | (simp only [List.length_drop, List.length_take]; rfl)) ?_; (with_reducible refine (bond_place.calls _ _ l1 a2 t126 true _ ?side1 ?side2 A7.out).mono ?_); (case side1 => repeat (first | exact (Kd.C_below HR1.out HB.out) | (with_reducible refine Kd.C_alloc ?_ _) | (with_reducible refine Kd.C_drewN ?_ _) | (with_reducible refine Kd.C_drew ?_))); (case side2 => exact HC1.out); rintro e w28 ⟨rfl, hb⟩; refine ⟨_, rfl, ?_⟩; have n0_ := Aside0.mk (below_step (by repeat (first | (with_reducible first | exact HB.out | apply below_alloc | apply pw_below_drewN | apply below_drew1) | exact HB.out)) hb); clear HB; have HB := n0_; clear n0_; (try clear hb); (try clear hb2); (try clear hk); (try clear hi)) | ((with_reducible refine gate_callee (f := 37) rfl ?_); refine goesL_ (some 30) rfl rfl Try.func37 (by kernel_rfl) rfl #[.int .i64 a3, .int .i64 0, .int .i64 1125899906842624] rfl (by (try simp only [List.map_toArray, List.map_cons, List.map_nil]); first | done | rfl | (simp only [List.length_drop, List.length_take]; rfl)) ?_; (with_reducible refine (bond_within.calls a3 0 1125899906842624 true _ A8.out).mono ?_); rintro e w' ⟨rfl, ⟨nd, rfl⟩⟩; refine ⟨_, rfl, ?_⟩; (try (rw [drewN_self w28]; generalize hq_ : World.drewN w28 _ = w28; have n0_ : Aside0 (Below w.heap.size w w28) := ⟨by rw [← hq_]; exact (by repeat (first | (with_reducible first | exact HB.out | apply below_alloc | apply pw_below_drewN | apply below_drew1) | exact HB.out))⟩; clear HB hq_; have HB := n0_; clear n0_))) | ((with_reducible refine gate_callee (f := 16) rfl ?_); refine goesL_ (some 36) rfl rfl Try.func16 (by kernel_rfl) rfl #[.slice A1 l1.length c1] rfl (by (try simp only [List.map_toArray, List.map_cons, List.map_nil]); first | done | rfl | (simp only [List.length_drop, List.length_take]; rfl)) ?_; (with_reducible refine (api_Hold_16.calls _ _ l1 t129 _ ?side1 ?side2 A11.out).mono ?_); (case side1 => repeat (first | exact (Kd.C_below HR1.out HB.out) | (with_reducible refine Kd.C_alloc ?_ _) | (with_reducible refine Kd.C_drewN ?_ _) | (with_reducible refine Kd.C_drew ?_))); (case side2 => exact HC1.out); rintro e w29 ⟨v130, rfl, ho0, hb⟩; refine ⟨_, rfl, ?_⟩; have n0_ := Aside0.mk (Kd.R_lower ho0 (below_size (by repeat (first | (with_reducible first | exact HB.out | apply below_alloc | apply pw_below_drewN | apply below_drew1) | exact HB.out)))); have n1_ := Aside0.mk (below_step (by repeat (first | (with_reducible first | exact HB.out | apply below_alloc | apply pw_below_drewN | apply below_drew1) | exact HB.out)) hb); clear HB; have HO131 := n0_; have HB := n1_; clear n0_ n1_; (try clear hb); (try clear hb2); (try clear hk); (try clear hi); (try clear ho0); have p14 : 0 ≤ (t126 : Int) := of_decide_eq_true (by first | (with_reducible assumption) | assumption); have q14 : (t126 : Int) < ((t129.length : Int) : Int) := of_decide_eq_true (by first | (with_reducible assumption) | assumption); obtain ⟨go14, co14, eo14, gb14, gl14, cl14, HG14⟩ := Kd.R_form HO131.out (by omega); (first | cases eo14 | (injection eo14 with ea_ en_ ec_; (first | subst ea_ | (injection ea_ with ea_; subst ea_)); subst ec_; clear en_)); have GB14 := Aside0.mk gb14; have GG14 := Aside0.mk HG14; clear gb14 gl14 HG14; obtain ⟨ce14, hcl14, hM14, hcc14, hfr14⟩ := Kd.R_elem HO131.out z35 (t126 : Int) p14 q14; obtain rfl := k35_openM hM14; have hx14_0 : w29.cell? ⟨go14, (t126 : Int).toNat * 3, none⟩ = some (.int .i64 ((rd_T35 t129 t126).f0)) := hcc14 0 _ rfl; have hx14_1 : w29.cell? ⟨go14, (t126 : Int).toNat * 3 + 1, none⟩ = some (.int .i64 ((rd_T35 t129 t126).f1)) := hcc14 1 _ rfl; have hx14_2 : w29.cell? ⟨go14, (t126 : Int).toNat * 3 + 2, none⟩ = some (.int .i64 ((rd_T35 t129 t126).f2)) := hcc14 2 _ rfl; have hf14_0 : w29.frozen? ⟨go14, (t126 : Int).toNat * 3, none⟩ = false := hfr14 0; have hf14_1 : w29.frozen? ⟨go14, (t126 : Int).toNat * 3 + 1, none⟩ = false := hfr14 1; have hf14_2 : w29.frozen? ⟨go14, (t126 : Int).toNat * 3 + 2, none⟩ = false := hfr14 2; clear hcl14 hcc14 hfr14 hM14; replace p14 := eq_true p14; replace q14 := eq_true q14; have HX30 := Aside0.mk (show Kd.R k35 35 w29 w.heap.size (fun _ => True) (.slice (some ⟨go14, 0, none⟩) t129.length co14) t129 from (by (with_reducible repeat (first | apply Kd.R_alloc | apply Kd.R_drewN | apply Kd.R_drew)); exact HO131.out)); obtain ⟨ce30, hcl30, hM30, hcc30, hfr30⟩ := Kd.R_elem HX30.out z35 (t126 : Int) (of_decide_eq_true (by first | (with_reducible assumption) | assumption)) (by have h_ : (t126 : Int) < ((t129.length : Int) : Int) := of_decide_eq_true (by first | (with_reducible assumption) | assumption); first | exact h_ | (have e_ := (Kd.R_reads' HO131.out).1; omega) | simpa using h_); obtain rfl := k35_openM hM30; have HP30 := Kd.R_seg HX30.out (t126 : Int) (of_decide_eq_true (by first | (with_reducible assumption) | assumption)) (by have h_ : (t126 : Int) < ((t129.length : Int) : Int) := of_decide_eq_true (by first | (with_reducible assumption) | assumption); first | exact h_ | (have e_ := (Kd.R_reads' HO131.out).1; omega) | simpa using h_) (seg := [.int .i64 a3]) (j := 2) hcl30 hcc30 (show 3 ≤ 3 from by decide) (x' := (⟨(rd_T35 t129 t126).f0, (rd_T35 t129 t126).f1, a3⟩ : S35)) (k35_mkM _ _ _ (⟨(rd_T35 t129 t126).f0, (rd_T35 t129 t126).f1, a3⟩ : S35) ) (fun _ hk => hk); have hx30_2 := hcc30 2 _ rfl; (try simp only [show (k35).sz = 3 from rfl, Nat.mul_one, Nat.add_zero] at hx30_2); have hf30_2 := hfr30 2; (try simp only [show (k35).sz = 3 from rfl, Nat.mul_one, Nat.add_zero] at hf30_2); clear hcl30 hcc30 hfr30 hM30) | ((with_reducible refine gate_store (t := 3) (p := 41) rfl ?_); refine store_event (t := 3) (p := 41) (v := ?vo_w31) (w1 := (w29.setCell ⟨go14, (t126 : Int).toNat * 3 + 2, none⟩ (.int .i64 a3))) ?hg ?ho ?hn ?hr ?_; (case ho => rfl); (case hg => rfl); (case hn => rfl); (case hr => first | (go_simp; done) | (go_simp; rfl)); intro w31 hw; have hg : w29.grownBy w31 (some go14) := (by rw [hw]; exact HP30.2); have hp_ : Kd.R k35 35 w31 w.heap.size (fun _ => True) (.slice (some ⟨go14, 0, none⟩) t129.length co14) y132 := (by rw [hw, Ny132.out]; exact HP30.1); clear HP30; have n0_ := Aside0.mk (hp_); have n1_ := Aside0.mk ((by rw [hw]; exact below_set (HB.out) GB14.out : Below w.heap.size w w31)); clear HO131; clear HB; have HO131 := n0_; have HB := n1_; clear n0_ n1_; clear hg hw hp_; have p133 : 0 ≤ (t126 : Int) := of_decide_eq_true (by first | (with_reducible assumption) | assumption); have q133 : t126 < (y132.length : Int) := (by have h_ : (t126 : Int) < ((t129.length : Int) : Int) := of_decide_eq_true (by first | (with_reducible assumption) | assumption); first | (have e_ := (Kd.R_reads' HO131.out).1; omega) | simpa only [Ny132.out, List.length_set] using h_); have ql133 : ((t126 : Int) < ((t129.length : Int) : Int)) = True := eq_true (of_decide_eq_true (by first | (with_reducible assumption) | assumption)); obtain ⟨ad133, e133, hx133_0, hx133_1, hx133_2⟩ := at_T35 (Kd.R_reads' HO131.out).2.2 t126 p133 q133; obtain rfl : (⟨go14, 0, none⟩ : Addr) = ad133 := (by injection e133); (first | simp only [add_plain] at hx133_0 | simp only [add_at] at hx133_0 | simp only [Addr.add, Nat.zero_add] at hx133_0 | skip); (first | simp only [add_plain] at hx133_1 | simp only [add_at] at hx133_1 | simp only [Addr.add, Nat.zero_add] at hx133_1 | skip); (first | simp only [add_plain] at hx133_2 | simp only [add_at] at hx133_2 | simp only [Addr.add, Nat.zero_add] at hx133_2 | skip); replace p133 := eq_true p133; replace q133 := eq_true q133) | ((with_reducible refine gate_callee (f := 39) rfl ?_); refine goesL_ (some 49) rfl rfl Try.func39 (by kernel_rfl) rfl #[.slice A0 l0.length c0, .int .i64 ((rd_T35 y132 t126).f0)] rfl (by (try simp only [List.map_toArray, List.map_cons, List.map_nil]); first | done | rfl | (simp only [List.length_drop, List.length_take]; rfl)) ?_; (with_reducible refine (bond_find.calls _ _ l0 ((rd_T35 y132 t126).f0) t134 t135 t136 t137 t138 _ ?side1 ?side2 A15.out).mono ?_); (case side1 => repeat (first | exact (Kd.C_below HR0.out HB.out) | (with_reducible refine Kd.C_alloc ?_ _) | (with_reducible refine Kd.C_drewN ?_ _) | (with_reducible refine Kd.C_drew ?_))); (case side2 => exact HC0.out); rintro e w32 ⟨rfl, hb⟩; refine ⟨_, rfl, ?_⟩; have n0_ := Aside0.mk (Kd.R_below (by (with_reducible repeat (first | apply Kd.R_alloc | apply Kd.R_drewN | apply Kd.R_drew)); exact HO131.out) hb); have n1_ := Aside0.mk (below_step (by repeat (first | (with_reducible first | exact HB.out | apply below_alloc | apply pw_below_drewN | apply below_drew1) | exact HB.out)) hb); clear HO131; clear HB; have HO131 := n0_; have HB := n1_; clear n0_ n1_; (try clear hb); (try clear hb2); (try clear hk); (try clear hi)) | ((with_reducible refine gate_dst (N := 14) rfl ?_); refine box_event ?hg (N := 14) ?hd (cs := #[.int .i64 0, .int .i64 0, .int .i64 0, .int .i64 0]) (t := 31) ?hr ?_; (case hd => rfl); (case hg => rfl); (case hr => first | (go_simp; done) | (go_simp; rfl)); intro gb139 hg w33 hbox hb; have n0_ := Aside0.mk (Kd.R_below (by (with_reducible repeat (first | apply Kd.R_alloc | apply Kd.R_drewN | apply Kd.R_drew)); exact HO131.out) hb); have n1_ := Aside0.mk (below_step (by repeat (first | (with_reducible first | exact HB.out | apply below_alloc | apply pw_below_drewN | apply below_drew1) | exact HB.out)) hb); have n2_ := Aside0.mk (hbox); have n3_ := Aside0.mk ((by rw [hg]; exact (below_size (by repeat (first | (with_reducible first | exact HB.out | apply below_alloc | apply pw_below_drewN | apply below_drew1) | exact HB.out))) : w.heap.size ≤ gb139)); have n4_ := Aside0.mk ((by rw [hg]; exact (below_size (by repeat (first | (with_reducible first | exact HB.out | apply below_alloc | apply pw_below_drewN | apply below_drew1) | exact HB.out))) : w.heap.size ≤ gb139)); clear HO131; clear HB; have HO131 := n0_; have HB := n1_; have BK139 := n2_; have GW139 := n3_; have GE139 := n4_; clear n0_ n1_ n2_ n3_ n4_; clear hb hbox hg; have hcz34_0 : w33.cell? ⟨gb139, 0, none⟩ = some (.int .i64 0) := (blk_cell BK139.out 0).trans rfl; have hcz34_1 : w33.cell? ⟨gb139, 1, none⟩ = some (.int .i64 0) := (blk_cell BK139.out 1).trans rfl; have hcz34_2 : w33.cell? ⟨gb139, 2, none⟩ = some (.int .i64 0) := (blk_cell BK139.out 2).trans rfl; have hcz34_3 : w33.cell? ⟨gb139, 3, none⟩ = some (.int .i64 0) := (blk_cell BK139.out 3).trans rfl; have hfz34_0 := blk_frozen BK139.out 0; have hfz34_1 := blk_frozen BK139.out 1; have hfz34_2 := blk_frozen BK139.out 2; have hfz34_3 := blk_frozen BK139.out 3) | ((with_reducible refine gate_callee (f := 43) rfl ?_); refine goesL_ (some 54) rfl rfl Try.func43 (by kernel_rfl) rfl #[.agg #[.int .i64 t134, .int .i64 t135, .int .i64 t136, .int .i64 t137], .slice (some ⟨go14, 0, none⟩) y132.length co14] rfl (by (try simp only [List.map_toArray, List.map_cons, List.map_nil]); first | done | (rw [show y132.length = t129.length from (Kd.R_reads' HO131.out).1.symm] <;> rfl) | rfl | (simp only [List.length_drop, List.length_take]; rfl)) ?_; (with_reducible refine (bond_free.calls k t134 t135 t136 t137 _ _ y132 t140 _ ?side1 ?side2 A16.out).mono ?_); (case side1 => refine (Kd.R_reads' (e := 35) (base := w.heap.size) (ok := fun k_ => True) (n := t129.length) (c := co14) ?_).2.2; exact (by (with_reducible repeat (first | apply Kd.R_alloc | apply Kd.R_drewN | apply Kd.R_drew)); exact (Kd.R_mono (Kd.R_far (p := ⟨gb139, 3, none⟩) (Kd.R_far (p := ⟨gb139, 2, none⟩) (Kd.R_far (p := ⟨gb139, 1, none⟩) (Kd.R_far (p := ⟨gb139, 0, none⟩) (Kd.R_types HO131.out BK139.out (by decide)) (fun _ hk => hk.2) (.int .i64 t134)) (fun _ hk => hk.2) (.int .i64 t135)) (fun _ hk => hk.2) (.int .i64 t136)) (fun _ hk => hk.2) (.int .i64 t137)) (fun _ h_ => h_.1)))); (case side2 => rw [show y132.length = t129.length from (Kd.R_reads' HO131.out).1.symm]; exact (Kd.R_reads' HO131.out).2.1); rintro e w35 ⟨rfl, hb⟩; refine ⟨_, rfl, ?_⟩; have n0_ := Aside0.mk (Kd.R_below (by (with_reducible repeat (first | apply Kd.R_alloc | apply Kd.R_drewN | apply Kd.R_drew)); exact (Kd.R_mono (Kd.R_far (p := ⟨gb139, 3, none⟩) (Kd.R_far (p := ⟨gb139, 2, none⟩) (Kd.R_far (p := ⟨gb139, 1, none⟩) (Kd.R_far (p := ⟨gb139, 0, none⟩) (Kd.R_types HO131.out BK139.out (by decide)) (fun _ hk => hk.2) (.int .i64 t134)) (fun _ hk => hk.2) (.int .i64 t135)) (fun _ hk => hk.2) (.int .i64 t136)) (fun _ hk => hk.2) (.int .i64 t137)) (fun _ h_ => h_.1))) hb); have n1_ := Aside0.mk (blk_below (g := gb139) (o := .cells #[.int .i64 t134, .int .i64 t135, .int .i64 t136, .int .i64 t137] 31 (0, 0)) (by (with_reducible repeat (first | refine blk_drewN ?_ _ | refine blk_drew ?_ | refine blk_alloc ?_ _)); refine blk_put (cs := #[.int .i64 t134, .int .i64 t135, .int .i64 t136, .int .i64 0]) ?_ 3 _ rfl; (with_reducible repeat (first | refine blk_drewN ?_ _ | refine blk_drew ?_ | refine blk_alloc ?_ _)); refine blk_put (cs := #[.int .i64 t134, .int .i64 t135, .int .i64 0, .int .i64 0]) ?_ 2 _ rfl; (with_reducible repeat (first | refine blk_drewN ?_ _ | refine blk_drew ?_ | refine blk_alloc ?_ _)); refine blk_put (cs := #[.int .i64 t134, .int .i64 0, .int .i64 0, .int .i64 0]) ?_ 1 _ rfl; (with_reducible repeat (first | refine blk_drewN ?_ _ | refine blk_drew ?_ | refine blk_alloc ?_ _)); refine blk_put (cs := #[.int .i64 0, .int .i64 0, .int .i64 0, .int .i64 0]) ?_ 0 _ rfl; (with_reducible repeat (first | refine blk_drewN ?_ _ | refine blk_drew ?_ | refine blk_alloc ?_ _)); exact BK139.out) hb); have n2_ := Aside0.mk (below_step (by repeat (first | (with_reducible first | exact HB.out | apply below_alloc | apply pw_below_drewN | apply below_drew1 | refine below_set ?_ GE139.out) | exact HB.out)) hb); clear HO131; clear BK139; clear HB; have HO131 := n0_; have BK139 := n1_; have HB := n2_; clear n0_ n1_ n2_; (try clear hb); (try clear hb2); (try clear hk); (try clear hi)))
       go_ret2
       exact ⟨_, by first | rfl | (simp [errW_none, errW_some] <;> rfl) | (simp [*, errW_none, errW_some] <;> rfl), by (with_reducible repeat (first | apply Kd.R_alloc | apply Kd.R_drewN | apply Kd.R_drew)); exact HO131.out, by repeat (first | (with_reducible first | exact HB.out | apply below_alloc | apply pw_below_drewN | apply below_drew1 | refine below_set ?_ GE139.out) | exact HB.out)⟩
     ·rw [if_neg c13] at H
      exact absurd H (by simp)
    ·rw [if_neg c12] at H
     exact absurd H (by simp)
   ·replace c10 := Bool.eq_false_iff.mpr c10
    subst c10
    have H1 : (some (([] : List (S35)), 7)) = some (r1, r2) := by rw [if_neg (show ¬ (false = true) by decide)] at H; exact H
    clear H
    have H := H1
    clear H1
    simp only [Option.some.injEq, Prod.mk.injEq] at H
    obtain ⟨rfl, rfl⟩ := H
    go_enter Try.func22, Try.ntmps22
    go_wp2_with (first | ((with_reducible refine gate_callee (f := 42) rfl ?_); refine goesL_ (some 18) rfl rfl Try.func42 (by kernel_rfl) rfl #[.slice A0 l0.length c0, .slice A1 l1.length c1] rfl (by (try simp only [List.map_toArray, List.map_cons, List.map_nil]); first | done | rfl | (simp only [List.length_drop, List.length_take]; rfl)) ?_; (with_reducible refine (bond_asks.calls _ _ l0 _ _ l1 t125 _ ?side1 ?side2 ?side3 ?side4 A5.out).mono ?_); (case side1 => repeat (first | exact HR0.out | (with_reducible refine Kd.C_alloc ?_ _) | (with_reducible refine Kd.C_drewN ?_ _) | (with_reducible refine Kd.C_drew ?_))); (case side2 => exact HC0.out); (case side3 => repeat (first | exact HR1.out | (with_reducible refine Kd.C_alloc ?_ _) | (with_reducible refine Kd.C_drewN ?_ _) | (with_reducible refine Kd.C_drew ?_))); (case side4 => exact HC1.out); rintro e w36 ⟨rfl, hb⟩; refine ⟨_, rfl, ?_⟩; have n0_ := Aside0.mk (below_step (by repeat (first | (with_reducible first | exact HB.out | apply below_alloc | apply pw_below_drewN | apply below_drew1) | exact HB.out)) hb); clear HB; have HB := n0_; clear n0_; (try clear hb); (try clear hb2); (try clear hk); (try clear hi)) | ((with_reducible refine gate_callee (f := 45) rfl ?_); refine goesL_ (some 25) rfl rfl Try.func45 (by kernel_rfl) rfl #[.slice A1 l1.length c1, .int .i64 a2] rfl (by (try simp only [List.map_toArray, List.map_cons, List.map_nil]); first | done | rfl | (simp only [List.length_drop, List.length_take]; rfl)) ?_; (with_reducible refine (bond_place.calls _ _ l1 a2 t126 false _ ?side1 ?side2 A7.out).mono ?_); (case side1 => repeat (first | exact (Kd.C_below HR1.out HB.out) | (with_reducible refine Kd.C_alloc ?_ _) | (with_reducible refine Kd.C_drewN ?_ _) | (with_reducible refine Kd.C_drew ?_))); (case side2 => exact HC1.out); rintro e w37 ⟨rfl, hb⟩; refine ⟨_, rfl, ?_⟩; have n0_ := Aside0.mk (below_step (by repeat (first | (with_reducible first | exact HB.out | apply below_alloc | apply pw_below_drewN | apply below_drew1) | exact HB.out)) hb); clear HB; have HB := n0_; clear n0_; (try clear hb); (try clear hb2); (try clear hk); (try clear hi)) | ((with_reducible refine gate_callee (f := 37) rfl ?_); refine goesL_ (some 30) rfl rfl Try.func37 (by kernel_rfl) rfl #[.int .i64 a3, .int .i64 0, .int .i64 1125899906842624] rfl (by (try simp only [List.map_toArray, List.map_cons, List.map_nil]); first | done | rfl | (simp only [List.length_drop, List.length_take]; rfl)) ?_; (with_reducible refine (bond_within.calls a3 0 1125899906842624 true _ A8.out).mono ?_); rintro e w' ⟨rfl, ⟨nd, rfl⟩⟩; refine ⟨_, rfl, ?_⟩))
    go_ret2
    exact ⟨_, by first | rfl | (simp [errW_none, errW_some] <;> rfl) | (simp [*, errW_none, errW_some] <;> rfl), by first | exact Kd.R_nil _ _ _ _ _ | exact Kd.N_nil _ _ _ _ _ | exact Kd.V_nil _ _ _ _ _ | exact Kd.Q_nil _ _ _ _ _ | exact Kd.S_nil _ _ _ _ _, by repeat (first | (with_reducible first | exact HB.out | apply below_alloc | apply pw_below_drewN | apply below_drew1) | exact HB.out)⟩
  ·replace c9 := Bool.eq_false_iff.mpr c9
   subst c9
   have H1 : (some (([] : List (S35)), 2)) = some (r1, r2) := by rw [if_neg (show ¬ (false = true) by decide)] at H; exact H
   clear H
   have H := H1
   clear H1
   simp only [Option.some.injEq, Prod.mk.injEq] at H
   obtain ⟨rfl, rfl⟩ := H
   go_enter Try.func22, Try.ntmps22
   go_wp2_with (first | ((with_reducible refine gate_callee (f := 42) rfl ?_); refine goesL_ (some 18) rfl rfl Try.func42 (by kernel_rfl) rfl #[.slice A0 l0.length c0, .slice A1 l1.length c1] rfl (by (try simp only [List.map_toArray, List.map_cons, List.map_nil]); first | done | rfl | (simp only [List.length_drop, List.length_take]; rfl)) ?_; (with_reducible refine (bond_asks.calls _ _ l0 _ _ l1 t125 _ ?side1 ?side2 ?side3 ?side4 A5.out).mono ?_); (case side1 => repeat (first | exact HR0.out | (with_reducible refine Kd.C_alloc ?_ _) | (with_reducible refine Kd.C_drewN ?_ _) | (with_reducible refine Kd.C_drew ?_))); (case side2 => exact HC0.out); (case side3 => repeat (first | exact HR1.out | (with_reducible refine Kd.C_alloc ?_ _) | (with_reducible refine Kd.C_drewN ?_ _) | (with_reducible refine Kd.C_drew ?_))); (case side4 => exact HC1.out); rintro e w38 ⟨rfl, hb⟩; refine ⟨_, rfl, ?_⟩; have n0_ := Aside0.mk (below_step (by repeat (first | (with_reducible first | exact HB.out | apply below_alloc | apply pw_below_drewN | apply below_drew1) | exact HB.out)) hb); clear HB; have HB := n0_; clear n0_; (try clear hb); (try clear hb2); (try clear hk); (try clear hi)) | ((with_reducible refine gate_callee (f := 45) rfl ?_); refine goesL_ (some 25) rfl rfl Try.func45 (by kernel_rfl) rfl #[.slice A1 l1.length c1, .int .i64 a2] rfl (by (try simp only [List.map_toArray, List.map_cons, List.map_nil]); first | done | rfl | (simp only [List.length_drop, List.length_take]; rfl)) ?_; (with_reducible refine (bond_place.calls _ _ l1 a2 t126 t127 _ ?side1 ?side2 A7.out).mono ?_); (case side1 => repeat (first | exact (Kd.C_below HR1.out HB.out) | (with_reducible refine Kd.C_alloc ?_ _) | (with_reducible refine Kd.C_drewN ?_ _) | (with_reducible refine Kd.C_drew ?_))); (case side2 => exact HC1.out); rintro e w39 ⟨rfl, hb⟩; refine ⟨_, rfl, ?_⟩; have n0_ := Aside0.mk (below_step (by repeat (first | (with_reducible first | exact HB.out | apply below_alloc | apply pw_below_drewN | apply below_drew1) | exact HB.out)) hb); clear HB; have HB := n0_; clear n0_; (try clear hb); (try clear hb2); (try clear hk); (try clear hi)) | ((with_reducible refine gate_callee (f := 37) rfl ?_); refine goesL_ (some 30) rfl rfl Try.func37 (by kernel_rfl) rfl #[.int .i64 a3, .int .i64 0, .int .i64 1125899906842624] rfl (by (try simp only [List.map_toArray, List.map_cons, List.map_nil]); first | done | rfl | (simp only [List.length_drop, List.length_take]; rfl)) ?_; (with_reducible refine (bond_within.calls a3 0 1125899906842624 false _ A8.out).mono ?_); rintro e w' ⟨rfl, ⟨nd, rfl⟩⟩; refine ⟨_, rfl, ?_⟩))
   go_ret2
   exact ⟨_, by first | rfl | (simp [errW_none, errW_some] <;> rfl) | (simp [*, errW_none, errW_some] <;> rfl), by first | exact Kd.R_nil _ _ _ _ _ | exact Kd.N_nil _ _ _ _ _ | exact Kd.V_nil _ _ _ _ _ | exact Kd.Q_nil _ _ _ _ _ | exact Kd.S_nil _ _ _ _ _, by repeat (first | (with_reducible first | exact HB.out | apply below_alloc | apply pw_below_drewN | apply below_drew1) | exact HB.out)⟩
 ·rw [if_neg c6] at H
  have c6b0 : (t125 == 0) = false := beq_eq_false_iff_ne.mpr c6
  have c6b1 : (t125 != 0) = true := bne_iff_ne.mpr c6
  simp only [Option.some.injEq, Prod.mk.injEq] at H
  obtain ⟨rfl, rfl⟩ := H
  go_enter Try.func22, Try.ntmps22
  go_wp2_with (first | ((with_reducible refine gate_callee (f := 42) rfl ?_); refine goesL_ (some 18) rfl rfl Try.func42 (by kernel_rfl) rfl #[.slice A0 l0.length c0, .slice A1 l1.length c1] rfl (by (try simp only [List.map_toArray, List.map_cons, List.map_nil]); first | done | rfl | (simp only [List.length_drop, List.length_take]; rfl)) ?_; (with_reducible refine (bond_asks.calls _ _ l0 _ _ l1 t125 _ ?side1 ?side2 ?side3 ?side4 A5.out).mono ?_); (case side1 => repeat (first | exact HR0.out | (with_reducible refine Kd.C_alloc ?_ _) | (with_reducible refine Kd.C_drewN ?_ _) | (with_reducible refine Kd.C_drew ?_))); (case side2 => exact HC0.out); (case side3 => repeat (first | exact HR1.out | (with_reducible refine Kd.C_alloc ?_ _) | (with_reducible refine Kd.C_drewN ?_ _) | (with_reducible refine Kd.C_drew ?_))); (case side4 => exact HC1.out); rintro e w40 ⟨rfl, hb⟩; refine ⟨_, rfl, ?_⟩; have n0_ := Aside0.mk (below_step (by repeat (first | (with_reducible first | exact HB.out | apply below_alloc | apply pw_below_drewN | apply below_drew1) | exact HB.out)) hb); clear HB; have HB := n0_; clear n0_; (try clear hb); (try clear hb2); (try clear hk); (try clear hi)))
  go_ret2
  exact ⟨_, by first | rfl | (simp [errW_none, errW_some] <;> rfl) | (simp [*, errW_none, errW_some] <;> rfl), by first | exact Kd.R_nil _ _ _ _ _ | exact Kd.N_nil _ _ _ _ _ | exact Kd.V_nil _ _ _ _ _ | exact Kd.Q_nil _ _ _ _ _ | exact Kd.S_nil _ _ _ _ _, by repeat (first | (with_reducible first | exact HB.out | apply below_alloc | apply pw_below_drewN | apply below_drew1) | exact HB.out)⟩

/-! ### api_Hold_48: function 48 -/
-- HELPER
def cF (x : S35) : List Value := [.int .i64 x.f0, .int .i64 x.f1, .int .i64 x.f2]
theorem cF_length (x : S35) : (cF x).length = 3 := rfl
theorem flatF_length (l : List S35) : (l.flatMap cF).length = l.length * 3 := by
  induction l with
  | nil => rfl
  | cons x l ih => rw [List.flatMap_cons, List.length_append, ih, cF_length, List.length_cons]; omega
theorem flatF_drop (l : List S35) (j : Nat) : (l.flatMap cF).drop (j * 3) = (l.drop j).flatMap cF := by
  induction l generalizing j with
  | nil => simp
  | cons x l ih =>
    cases j with
    | zero => simp
    | succ j =>
      rw [List.drop_succ_cons, ← ih j, List.flatMap_cons, show (j + 1) * 3 = (cF x).length + j * 3 by rw [cF_length]; omega, List.drop_append, List.drop_eq_nil_of_le (by omega), List.nil_append, Nat.add_sub_cancel_left]
theorem flatF_take (l : List S35) (j : Nat) : (l.flatMap cF).take (j * 3) = (l.take j).flatMap cF := by
  induction l generalizing j with
  | nil => simp
  | cons x l ih =>
    cases j with
    | zero => simp
    | succ j =>
      rw [List.take_succ_cons, List.flatMap_cons, List.flatMap_cons, ← ih j, show (j + 1) * 3 = (cF x).length + j * 3 by rw [cF_length]; omega, List.take_append, List.take_of_length_le (by omega), Nat.add_sub_cancel_left]
theorem flatF_one (l : List S35) : ∀ u ∈ l.flatMap cF, u.oneCell' = true := by
  intro u hu
  rw [List.mem_flatMap] at hu
  obtain ⟨x, _, hu⟩ := hu
  simp only [cF, List.mem_cons, List.not_mem_nil, or_false] at hu
  rcases hu with rfl | rfl | rfl <;> rfl
theorem flatF_reps (w : World) (base : Nat) (ok : Nat → Prop) (l : List S35) : Reps (k35.M w base ok) 3 l (l.flatMap cF) := by
  refine ⟨flatF_length l, fun j p hj => ?_⟩
  have hjl := (List.getElem?_eq_some_iff.1 hj).1
  have hp := (List.getElem?_eq_some_iff.1 hj).2
  rw [flatF_drop, List.drop_eq_getElem_cons hjl, hp, List.flatMap_cons, List.take_append_of_le_length (by rw [cF_length]; exact Nat.le_refl _), List.take_of_length_le (by rw [cF_length]; exact Nat.le_refl _)]
  exact k35_mkM w base ok p
theorem reps_flatF {w : World} {base : Nat} {ok : Nat → Prop} {l : List S35} {cs : List Value} (h : Reps (k35.M w base ok) 3 l cs) : cs = l.flatMap cF := by
  obtain ⟨hl, h⟩ := h
  induction l generalizing cs with
  | nil => exact List.eq_nil_of_length_eq_zero (by simpa using hl)
  | cons x l ih =>
    have h0 := k35_openM (h 0 x rfl)
    rw [Nat.zero_mul, List.drop_zero] at h0
    have ht := ih (cs := cs.drop 3) (by rw [List.length_drop, hl, List.length_cons]; omega) (fun j p hj => by
      have := h (j + 1) p (by simpa using hj)
      rwa [show (j + 1) * 3 = 3 + j * 3 by omega, ← List.drop_drop] at this)
    rw [List.flatMap_cons, ← ht]
    have := List.take_append_drop 3 cs
    rw [← this, h0]
    rfl
/-- The row behind the deletion. -/
theorem del_cells (l : List S35) {i : Nat} (hi : i < l.length) : (l.flatMap cF).take (i * 3) ++ (l.flatMap cF).drop ((i + 1) * 3) = (l.eraseIdx i).flatMap cF := by
  rw [flatF_take, flatF_drop, List.eraseIdx_eq_take_drop_succ, List.flatMap_append]
theorem run_clear_hold (w : World) (ty : Nat) (b o c : Nat) (hc : ∀ j, j < 3 → (w.cell? ⟨b, o + j, none⟩).isSome = true) (hf : ∀ j, j < 3 → w.frozen? ⟨b, o + j, none⟩ = false) :
    (Builtin.clear_ #[23] ty #[.slice (some ⟨b, o, none⟩) 1 c]).run Try.prog w = .ok (.tuple #[]) (w.setCells b o [.int .i64 0, .int .i64 0, .int .i64 0]) := by
  have hst := run_storeCells_cells (P := Try.prog) b o [.int .i64 0, .int .i64 0, .int .i64 0] 0 w (by simpa using hc) (by simpa using hf) (by intro v hv; simp only [List.mem_cons, List.not_mem_nil, or_false] at hv; rcases hv with rfl | rfl | rfl <;> rfl)
  simp only [Nat.add_zero] at hst
  have hz : ∀ W, (zeroValue 35).run Try.prog W = .ok (.agg #[.int .i64 0, .int .i64 0, .int .i64 0]) W := Try.zeroValue35
  have hzc : ∀ k, k = 1 → (Builtin.zeroCells (Value.agg #[.int .i64 0, .int .i64 0, .int .i64 0]).cells k).toList = [.int .i64 0, .int .i64 0, .int .i64 0] := by rintro k rfl; kernel_rfl
  simp [Builtin.clear_, run_underlying Try.underlying23, hz, hzc 1 rfl, hst]
set_option maxHeartbeats 4000000 in
set_option maxRecDepth 100000 in
theorem holdDelete.cells (g cap n i : Nat) (cur : Array Value) (w : World) (hg : w.heap[g]? = some (.cells cur 35 (0, 0))) (hnc : n ≤ cap) (hm : cap ≤ 9223372036854775807) (hsz : cur.size = cap * 3) (hone : ∀ u ∈ cur.toList.take (n * 3), u.oneCell' = true) (hi : i < n) (hn : n ≤ 1000) :
    Calls Try.prog 48 #[.slice (some ⟨g, 0, none⟩) n cap, .int .i64 i, .int .i64 ((i : Int) + 1)] w fun e w' => e = .returned (.slice (some ⟨g, 0, none⟩) (n - 1) cap) ∧ w' = (w.drew.setCells g (i * 3) ((cur.toList.take (n * 3)).drop ((i + 1) * 3))).setCells g ((n - 1) * 3) [.int .i64 0, .int .i64 0, .int .i64 0] := by
  obtain ⟨news, hnews⟩ : ∃ news, news = (cur.toList.take (n * 3)).drop ((i + 1) * 3) := ⟨_, rfl⟩
  have hlen : news.length = (n - 1 - i) * 3 := by
    rw [hnews, List.length_drop, List.length_take, Array.length_toList, hsz]
    have : n * 3 ≤ cap * 3 := by omega
    omega
  rw [← hnews]
  have hcell : ∀ k, k < cap * 3 → (w.cell? ⟨g, k, none⟩).isSome = true := fun k hk => by
    rw [blk_cell hg k, Array.getElem?_eq_getElem (by omega)]; rfl
  have hfr := blk_frozen hg
  obtain ⟨A, hA, hsrc⟩ : ∃ A : Addr, (if cap = i + 1 then some (⟨g, 0, none⟩ : Addr) else some ⟨g, (i + 1) * 3, none⟩) = some A ∧ Aside0 (∀ t u, news[t]? = some u → w.drew.cell? (A.add t) = some u) := by
    by_cases h : cap = i + 1
    · refine ⟨⟨g, 0, none⟩, by simp [h], ⟨fun t u hu => ?_⟩⟩
      have h0 : news.length = 0 := by rw [hlen]; omega
      rw [List.length_eq_zero_iff.1 h0] at hu
      simp at hu
    · refine ⟨⟨g, (i + 1) * 3, none⟩, by simp [h], ⟨fun t u hu => ?_⟩⟩
      have ht := (List.getElem?_eq_some_iff.1 hu).1
      rw [hlen] at ht
      rw [hnews, List.getElem?_drop, List.getElem?_take] at hu
      split at hu
      · rw [Addr.add_lit]
        show w.cell? _ = _
        rw [blk_cell hg, ← Array.getElem?_toList]
        exact hu
      · cases hu
  have s1 : Aside0 (news.length = (n - (i + 1)) * 3) := ⟨by rw [hlen, Nat.sub_sub, Nat.add_comm 1 i]⟩
  have s2 : Aside0 (∀ u ∈ news, u.oneCell' = true) := ⟨fun u hu => hone u (by rw [hnews] at hu; exact List.mem_of_mem_drop hu)⟩
  have s3 : Aside0 (∀ t, t < news.length → (w.drew.cell? ⟨g, 0 + i * 3 + t, none⟩).isSome = true ∧ w.drew.frozen? ⟨g, 0 + i * 3 + t, none⟩ = false) := ⟨fun t ht => by
    rw [hlen] at ht
    exact ⟨hcell _ (by omega), hfr _⟩⟩
  obtain ⟨W1, hW1⟩ : ∃ W1, W1 = w.drew.setCells g (0 + i * 3) news := ⟨_, rfl⟩
  have hg1 : ∃ cur1, W1.heap[g]? = some (.cells cur1 35 (0, 0)) ∧ cur1.size = cap * 3 := by
    obtain ⟨cur', h3, h4, _⟩ := setCells_row news (0 + i * 3) w.drew cur hg (by rw [hlen, hsz]; omega)
    exact ⟨cur', by rw [hW1]; exact h3, by rw [h4, hsz]⟩
  obtain ⟨cur1, hg1, hs1⟩ := hg1
  have e1 : i + (n - (i + 1)) = n - 1 := by omega
  have e2 : n - (n - 1) = 1 := by omega
  have hcl : ∀ ty, (Builtin.clear_ #[23] ty #[.slice (some ⟨g, (i + (n - (i + 1))) * 3, none⟩) (n - (i + (n - (i + 1)))) (cap - (i + (n - (i + 1))))]).run Try.prog W1 = .ok (.tuple #[]) (W1.setCells g ((i + (n - (i + 1))) * 3) [.int .i64 0, .int .i64 0, .int .i64 0]) := fun ty => by
    rw [e1, e2]
    exact run_clear_hold W1 ty g ((n - 1) * 3) _ (fun j hj => by rw [blk_cell hg1, Array.getElem?_eq_getElem (by omega)]; rfl) (fun j _ => blk_frozen hg1 _)
  clear e1 e2
  have hW : Aside0 (W1 = w.drew.setCells g (0 + i * 3) news) := ⟨hW1⟩
  have hic : i ≤ cap := by omega
  have hjc : i + 1 ≤ cap := by omega
  obtain ⟨i0, hi0, hz1⟩ : ∃ i0, Try.prog.info? 35 = some i0 ∧ i0.size = 3 := by
    have h : (Try.prog.info? 35).map (·.size) = some 3 := by kernel_rfl
    cases hI : Try.prog.info? 35 with
    | none => rw [hI] at h; cases h
    | some i0 => rw [hI] at h; exact ⟨i0, rfl, Option.some.inj h⟩
  have HI := Aside0.mk (⟨hi0, hz1⟩ : _ ∧ _)
  have mixed : Try.prog.follows .mixedOrders = true := by kernel_rfl
  have p1 : (0 ≤ (i : Int) + 1) = True := eq_true (by omega)
  have p2 : ((i : Int) + 1 ≤ (n : Int)) = True := eq_true (by omega)
  clear hi0 hz1
  clear hW1 hg1 hs1 hcell hfr hnews hlen hg hone hsz
  go_enter Try.func48, Try.ntmps48
  go_wp2_with fail
  go_region_law_o (refine step_append_room rfl (.tmp 22) (.tmp 25) 23 rfl 35 i0 3 Try.underlying23 HI.out.1 HI.out.2 g 0 i cap (by simp [Act.eval, Act.put]) A (n - (i + 1)) (cap - (i + 1)) news (by simp [Act.eval, Act.put]) s1.out hsrc.out s2.out (by omega) s3.out ?_; rw [← hW.out])
  go_wp2
  go_ret
  have e1 : i + (n - (i + 1)) = n - 1 := by omega
  refine ⟨by rw [e1]; rfl, ?_⟩
  rw [hW.out, Nat.zero_add, e1]
theorem below_setCells {w0 : World} {base g : Nat} (hg : base ≤ g) : ∀ (vs : List Value) (o : Nat) (w : World), Below base w0 w → Below base w0 (w.setCells g o vs)
  | [], _, _, h => h
  | v :: r, o, w, h => by
    rw [World.setCells]
    exact below_setCells hg r (o + 1) _ (h.setCell hg _)
theorem holdDelete.known (l : List S35) (g cap i base : Nat) (ok : Nat → Prop) (w : World) (hR : Kd.R k35 35 w base ok (.slice (some ⟨g, 0, none⟩) l.length cap) l) (hi : i < l.length) (hl : l.length ≤ 1000) :
    Calls Try.prog 48 #[.slice (some ⟨g, 0, none⟩) l.length cap, .int .i64 i, .int .i64 ((i : Int) + 1)] w fun e w' => e = .returned (.slice (some ⟨g, 0, none⟩) (l.length - 1) cap) ∧ Kd.R k35 35 w' base ok (.slice (some ⟨g, 0, none⟩) (l.length - 1) cap) (l.eraseIdx i) ∧
      base ≤ g ∧ (∀ k, k ≠ g → w'.heap[k]? = w.heap[k]?) ∧ (∀ w0 b0, b0 ≤ g → Below b0 w0 w → Below b0 w0 w') := by
  obtain ⟨hok, inner, ho, hr⟩ := hR
  have hin := reps_flatF hr
  subst hin
  obtain ⟨ho1, ho2⟩ := ho
  rcases ho2 with ⟨hv, _⟩ | ⟨g', cap', cur, hv, hb, hh, hnc, hcm, hcs, ht⟩
  · cases hv
  injection hv with ha _ hc
  injection ha with ha
  injection ha with hg
  subst hg
  subst hc
  have hcs : cur.size = cap * 3 := hcs
  have ht : cur.toList.take (l.length * 3) = l.flatMap cF := ht
  refine (holdDelete.cells g cap l.length i cur w hh hnc (Nat.le_trans hcm (of_decide_eq_true (by kernel_rfl))) hcs (by rw [ht]; exact flatF_one l) hi hl).mono ?_
  rintro e w' ⟨rfl, rfl⟩
  rw [ht, flatF_drop]
  have hnews : ((l.drop (i + 1)).flatMap cF).length = (l.length - (i + 1)) * 3 := by rw [flatF_length, List.length_drop]
  have hcap : l.length * 3 ≤ cap * 3 := Nat.mul_le_mul_right _ hnc
  obtain ⟨cur1, h3, h4, h5⟩ := setCells_row ((l.drop (i + 1)).flatMap cF) (i * 3) w.drew cur hh (by rw [hnews, hcs]; omega)
  obtain ⟨cur2, g3, g4, g5⟩ := setCells_row [.int .i64 0, .int .i64 0, .int .i64 0] ((l.length - 1) * 3) _ cur1 h3 (by rw [h4, hcs]; simp only [List.length_cons, List.length_nil]; omega)
  have k0 : cur.toList.length = cap * 3 := by rw [Array.length_toList (xs := cur), hcs]
  have k1 : cur1.toList.length = cap * 3 := by rw [Array.length_toList (xs := cur1), h4, hcs]
  have hle : (l.eraseIdx i).length = l.length - 1 := by rw [List.length_eraseIdx, if_pos hi]
  refine ⟨rfl, ⟨hok, (l.eraseIdx i).flatMap cF, ⟨by rw [flatF_length]; rfl, .inr ⟨g, cap, cur2, by rw [hle], hb, g3, by rw [hle]; omega, hcm, by rw [g4, h4, hcs]; rfl, ?_⟩⟩, flatF_reps _ _ _ _⟩, hb, fun k hk => ?_, fun w0 b0 h0 h => below_setCells h0 _ _ _ (below_setCells h0 _ _ _ (below_drew1 h))⟩
  · rw [hle]
    show cur2.toList.take ((l.length - 1) * 3) = _
    rw [g5, List.append_assoc, List.take_append_of_le_length (by rw [List.length_take, k1]; omega), List.take_take, Nat.min_self, h5, ← del_cells l hi, ← flatF_drop, ← ht]
    have hl1 : (cur.toList.take (i * 3)).length = i * 3 := by rw [List.length_take, k0]; omega
    rw [List.take_append_of_le_length (by rw [List.length_append, hl1, List.length_drop, List.length_take, k0]; omega), List.take_of_length_le (by rw [List.length_append, hl1, List.length_drop, List.length_take, k0]; omega), List.take_take, Nat.min_eq_left (by omega)]
  · rw [setCells_far _ _ k hk, setCells_far _ _ k hk]
    rfl

/-! ### bond_Release: function 24 -/
-- MAKING
-- behind 48
def bond_Release.f (l0 : List S31) (l1 : List S35) (a2 : Int) : Option (List S35 × Int) :=
  some (if (hldR l0 l1).2 ≠ 0 then ([], 1) else if (bsR (mvC l1 a2) l1.length).2 = false then ([], 7) else (l1.eraseIdx (bsR (mvC l1 a2) l1.length).1, 0))
set_option maxHeartbeats 4000000 in
set_option maxRecDepth 100000 in
theorem bond_Release.calls (A0 : Option Addr) (c0 : Nat) (l0 : List S31) (A1 : Option Addr) (c1 : Nat) (l1 : List S35) (a2 : Int) (r1 : List S35) (r2 : Int) (w : World) (hr0 : Kd.C k31 w A0 l0.length l0) (hc0 : l0.length ≤ c0) (hr1 : Kd.C k35 w A1 l1.length l1) (hc1 : l1.length ≤ c1) (h : bond_Release.f l0 l1 a2 = some (r1, r2)) :
    Calls Try.prog 24 #[.slice A0 l0.length c0, .slice A1 l1.length c1, .int .i64 a2] w fun e w' => ∃ v0_ : Value, e = .returned (.tuple #[v0_, .int .i64 r2]) ∧ Kd.R k35 35 w' w.heap.size (fun _ => True) v0_ r1 ∧ Below w.heap.size w w' := by
  have h := Option.some.inj h
  obtain ⟨⟨q1, q2⟩, hq⟩ : ∃ q, hldR l0 l1 = q := ⟨_, rfl⟩
  have HAS := Aside0.mk (bond_asks.calls A0 c0 l0 A1 c1 l1 (if q2 = 0 then 0 else 1) w hr0 hc0 hr1 hc1 (by
    unfold bond_asks.f bond_Holds.f
    rw [Option.bind_some, hq]
    by_cases e : q2 = 0
    · rw [if_pos e, if_pos e]
    · rw [if_neg e, if_neg e]))
  rw [hq] at h
  by_cases e : q2 = 0
  case neg =>
    rw [if_pos e] at h
    rw [if_neg e] at HAS
    simp only [Prod.mk.injEq] at h
    obtain ⟨rfl, rfl⟩ := h
    clear hr0 hr1 hc0 hc1 hq e
    go_enter Try.func24, Try.ntmps24
    go_wp2_with fail
    refine HAS.out.mono ?_
    rintro e' w4 ⟨rfl, hb⟩
    go_wp2
    go_ret2
    exact ⟨_, rfl, Kd.R_nil _ _ _ _ _, hb⟩
  rw [if_neg (not_not_intro e)] at h
  rw [if_pos e] at HAS
  have RH := (hldR_zero l0 l1).1 (by rw [hq]; exact e)
  have hlen := RH.2.1
  obtain ⟨⟨i, ok⟩, hi⟩ : ∃ p, bsR (mvC l1 a2) l1.length = p := ⟨_, rfl⟩
  rw [hi] at h
  have HPL := Aside0.mk (fun W (hb : Below w.heap.size w W) => bond_place.calls A1 c1 l1 a2 (i : Int) ok W (Kd.C_below hr1 hb) hc1 (by unfold bond_place.f; rw [if_pos (by omega), hi]))
  have HCL := Aside0.mk (fun W (hb : Below w.heap.size w W) => api_Hold_16.calls A1 c1 l1 l1 W (Kd.C_below hr1 hb) hc1 (by unfold api_Hold_16.f; rw [if_pos (by omega)]))
  cases ok
  · simp only [if_true, Prod.mk.injEq] at h
    obtain ⟨rfl, rfl⟩ := h
    clear hr0 hr1 hc0 hc1 hq e RH hi HCL
    go_enter Try.func24, Try.ntmps24
    go_wp2_with fail
    refine HAS.out.mono ?_
    rintro e' w4 ⟨rfl, hb⟩
    have HB := Aside0.mk hb
    clear hb
    go_wp2_with fail
    refine (HPL.out _ HB.out).mono ?_
    rintro e' w5 ⟨rfl, hb⟩
    replace HB := Aside0.mk (below_step HB.out hb)
    clear hb
    go_wp2
    go_ret2
    exact ⟨_, rfl, Kd.R_nil _ _ _ _ _, HB.out⟩
  · rw [if_neg (by simp)] at h
    simp only [Prod.mk.injEq] at h
    obtain ⟨rfl, rfl⟩ := h
    have hil : i < l1.length := by
      have hb : (bsR (mvC l1 a2) l1.length).2 = true := by rw [hi]
      unfold bsR at hb hi
      simp only [Bool.and_eq_true, decide_eq_true_eq, Prod.mk.injEq] at hb hi
      rw [← hi.1]
      exact hb.1
    have HN := Aside0.mk (show 0 < l1.length by omega)
    have HIL := Aside0.mk hil
    have HLN := Aside0.mk hlen
    have w1 : IntKind.i64.wrap ((i : Int) + 1) = (i : Int) + 1 := by rw [i64_w]; exact w64_ (by omega) (by omega)
    clear hr0 hr1 hc0 hc1 hq e RH hi hlen hil
    go_enter Try.func24, Try.ntmps24
    go_wp2_with fail
    refine HAS.out.mono ?_
    rintro e' w4 ⟨rfl, hb⟩
    have HB := Aside0.mk hb
    clear hb
    go_wp2_with fail
    refine (HPL.out _ HB.out).mono ?_
    rintro e' w5 ⟨rfl, hb⟩
    replace HB := Aside0.mk (below_step HB.out hb)
    clear hb
    go_wp2_with fail
    refine (HCL.out _ HB.out).mono ?_
    rintro e' w6 ⟨v, rfl, hR, hb⟩
    have hR2 := Kd.R_lower hR (below_size HB.out)
    replace HB := Aside0.mk (below_step HB.out hb)
    obtain ⟨g, cp, rfl, hg0, -⟩ := Kd.R_form hR2 HN.out
    have HR2 := Aside0.mk hR2
    have HG0 := Aside0.mk hg0
    clear hb hR hR2 hg0
    go_wp2_with fail
    refine (holdDelete.known l1 g cp i w.heap.size (fun _ => True) _ HR2.out HIL.out (by have := HLN.out; omega)).mono ?_
    rintro e' w7 ⟨rfl, hRD, hbg, hfar, hbel⟩
    have HRD := Aside0.mk hRD
    replace HB := Aside0.mk (hbel _ _ HG0.out HB.out)
    clear hRD hbg hfar hbel
    go_wp2
    go_ret2
    exact ⟨_, rfl, HRD.out, HB.out⟩

/-! ### api_Hold_26: function 26 -/
def api_Hold_26.l0 : Nat → List (S35) → List (S35) → Int → Int → Option (Bool)
 | 0, _, _, _, _ => none
 | k + 1, x0, x1, x12, x13 => if x13 < x12 then (if 0 ≤ x13 then (if x13 < (x0.length : Int) then (if x13 < (x1.length : Int) then (if (!(((rd_T35 x0 x13).f0) == ((rd_T35 x1 x13).f0)) || (!(((rd_T35 x0 x13).f1) == ((rd_T35 x1 x13).f1)) || (!(((rd_T35 x0 x13).f2) == ((rd_T35 x1 x13).f2))))) = true then (some false) else (api_Hold_26.l0 k x0 x1 x12 (wrap64 (x13 + 1)))) else (none)) else (none)) else (none)) else (some true)
def api_Hold_26.f (k : Nat) (l0 : List (S35)) (l1 : List (S35)) : Option (Bool) := if (l0.length : Int) = (l1.length : Int) then (api_Hold_26.l0 k l0 l1 (l0.length : Int) 0) else (some false)
theorem api_Hold_26.mono_l : ∀ k, (∀ y0 y1 y2 y3, LeO (api_Hold_26.l0 k y0 y1 y2 y3) (api_Hold_26.l0 (k + 1) y0 y1 y2 y3))
 | 0 => fun _ _ _ _ r h => by simp [api_Hold_26.l0] at h
 | k + 1 => by
  have ih0 := api_Hold_26.mono_l k
  ·intro y0 y1 y2 y3
   unfold api_Hold_26.l0
   repeat' first
   | (with_reducible exact ih0 _ _ _ _)
   | (with_reducible exact LeO.refl _)
   | (with_reducible exact LeO.none _)
   | (with_reducible refine LeO.ite ?_ ?_)
   | (with_reducible refine LeO.bind ?_ (fun _ => ?_))
   | exact ih0 _ _ _ _
   | exact LeO.none _
   | refine LeO.ite ?_ ?_
   | refine LeO.bind ?_ (fun _ => ?_)
theorem api_Hold_26.mono : ∀ a0 a1 k, LeO (api_Hold_26.f k a0 a1) (api_Hold_26.f (k + 1) a0 a1) := by
 intro a0 a1 k
 have ih0 := api_Hold_26.mono_l k
 unfold api_Hold_26.f
 repeat' first
   | (with_reducible exact ih0 _ _ _ _)
   | (with_reducible exact LeO.refl _)
   | (with_reducible exact LeO.none _)
   | (with_reducible refine LeO.ite ?_ ?_)
   | (with_reducible refine LeO.bind ?_ (fun _ => ?_))
   | exact ih0 _ _ _ _
   | exact LeO.none _
   | refine LeO.ite ?_ ?_
   | refine LeO.bind ?_ (fun _ => ?_)
set_option maxHeartbeats 8000000 in
set_option maxRecDepth 100000 in
theorem api_Hold_26.calls (k : Nat) (A0 : Option Addr) (c0 : Nat) (l0 : List (S35)) (A1 : Option Addr) (c1 : Nat) (l1 : List (S35)) (r : Bool) (w : World) (hr0 : Kd.C k35 w A0 l0.length l0) (hc0 : l0.length ≤ c0) (hr1 : Kd.C k35 w A1 l1.length l1) (hc1 : l1.length ≤ c1) (h : api_Hold_26.f k l0 l1 = some r) :
  Calls Try.prog 26 #[.slice A0 l0.length c0, .slice A1 l1.length c1] w fun e w' => e = .returned (.bool r) ∧ Drawn0 w w' := by
 have hu35 := Try.underlying35
 have HR0 := Aside0.mk hr0
 have HC0 := Aside0.mk hc0
 clear hr0 hc0
 have HR1 := Aside0.mk hr1
 have HC1 := Aside0.mk hc1
 clear hr1 hc1
 have H : (if (l0.length : Int) = (l1.length : Int) then (api_Hold_26.l0 k l0 l1 (l0.length : Int) 0) else (some false)) = some r := h
 clear h
 by_cases c3 : (l0.length : Int) = (l1.length : Int)
 ·rw [if_pos c3] at H
  have c3b0 : ((l0.length : Int) == (l1.length : Int)) = true := beq_iff_eq.mpr c3
  have c3b1 : ((l0.length : Int) != (l1.length : Int)) = false := bne_eq_false_iff_eq.mpr c3
  have c3b2 : (l0.length == l1.length) = true := by first | simpa using c3 | (simp at c3 ⊢; omega)
  clear c3
  have H' := Aside0.mk H
  clear H
  go_enter Try.func26, Try.ntmps26
  go_wp2
  repeat (go_quiet (fail); try go_wp2)
  go_loopg [13] k (fun kq v13 w' => ∃ (x13_1 : Int), v13 = .int .i64 x13_1 ∧ Aside0 (api_Hold_26.l0 kq l0 l1 (l0.length : Int) x13_1 = some r) ∧ Aside0 (kq ≤ k) ∧ Drawn0 w w')
  case atStart => exact ⟨(0), (by first | rfl | (simp; done) | (simp [*]; done)), H', ⟨Nat.le_refl _⟩, by repeat (first | exact Drawn0.refl _ | apply Drawn0.step)⟩
  case round =>
   clear H'
   try clear c1
   try clear c2
   try clear p2
   try clear c3
   try clear c3b0
   try clear c3b1
   try clear c3b2
   obtain ⟨x13_1, rfl, HA, HK1, ⟨m1, rfl⟩⟩ := hrel
   cases gk with
   | zero => exact absurd HA.out (by simp [api_Hold_26.l0])
   | succ k1 =>
    have H := HA.out
    clear HA
    simp only [api_Hold_26.l0] at H
    by_cases c4 : x13_1 < (l0.length : Int)
    ·rw [if_pos c4] at H
     have c4b0 : decide (x13_1 < (l0.length : Int)) = true := decide_eq_true c4
     clear c4
     by_cases c5 : 0 ≤ x13_1
     ·rw [if_pos c5] at H
      have c5b0 : decide (0 ≤ x13_1) = true := decide_eq_true c5
      clear c5
      by_cases c6 : x13_1 < (l0.length : Int)
      ·rw [if_pos c6] at H
       have c6b0 : decide (x13_1 < (l0.length : Int)) = true := decide_eq_true c6
       clear c6
       by_cases c7 : x13_1 < (l1.length : Int)
       ·rw [if_pos c7] at H
        have c7b0 : decide (x13_1 < (l1.length : Int)) = true := decide_eq_true c7
        clear c7
        by_cases c8 : (!(((rd_T35 l0 x13_1).f0) == ((rd_T35 l1 x13_1).f0)) || (!(((rd_T35 l0 x13_1).f1) == ((rd_T35 l1 x13_1).f1)) || (!(((rd_T35 l0 x13_1).f2) == ((rd_T35 l1 x13_1).f2))))) = true
        ·rw [if_pos c8] at H
         have c8b0 : (!(((rd_T35 l0 x13_1).f0) == ((rd_T35 l1 x13_1).f0)) || (!(((rd_T35 l0 x13_1).f1) == ((rd_T35 l1 x13_1).f1)) || (!(((rd_T35 l0 x13_1).f2) == ((rd_T35 l1 x13_1).f2))))) = true := c8
         clear c8
         obtain rfl := Option.some.inj H
         have p141 : 0 ≤ (x13_1 : Int) := of_decide_eq_true (by first | (with_reducible assumption) | assumption)
         have q141 : x13_1 < (l0.length : Int) := of_decide_eq_true (by first | (with_reducible assumption) | assumption)
         obtain ⟨ad141, e141, hx141_0, hx141_1, hx141_2⟩ := at_T35 HR0.out x13_1 p141 q141
         cases e141
         replace p141 := eq_true p141
         replace q141 := eq_true q141
         have p142 : 0 ≤ (x13_1 : Int) := of_decide_eq_true (by first | (with_reducible assumption) | assumption)
         have q142 : x13_1 < (l1.length : Int) := of_decide_eq_true (by first | (with_reducible assumption) | assumption)
         obtain ⟨ad142, e142, hx142_0, hx142_1, hx142_2⟩ := at_T35 HR1.out x13_1 p142 q142
         cases e142
         replace p142 := eq_true p142
         replace q142 := eq_true q142
         go_wp2
         repeat (go_quiet (fail); try go_wp2)
         go_ret
         exact ⟨by first | rfl | (simp; done) | (simp [*]; done), by repeat (first | exact Drawn0.refl _ | apply Drawn0.step)⟩
        ·rw [if_neg c8] at H
         have c8b0 : (!(((rd_T35 l0 x13_1).f0) == ((rd_T35 l1 x13_1).f0)) || (!(((rd_T35 l0 x13_1).f1) == ((rd_T35 l1 x13_1).f1)) || (!(((rd_T35 l0 x13_1).f2) == ((rd_T35 l1 x13_1).f2))))) = false := by simpa using c8
         clear c8
         have H' := Aside0.mk H
         clear H
         have p141 : 0 ≤ (x13_1 : Int) := of_decide_eq_true (by first | (with_reducible assumption) | assumption)
         have q141 : x13_1 < (l0.length : Int) := of_decide_eq_true (by first | (with_reducible assumption) | assumption)
         obtain ⟨ad141, e141, hx141_0, hx141_1, hx141_2⟩ := at_T35 HR0.out x13_1 p141 q141
         cases e141
         replace p141 := eq_true p141
         replace q141 := eq_true q141
         have p142 : 0 ≤ (x13_1 : Int) := of_decide_eq_true (by first | (with_reducible assumption) | assumption)
         have q142 : x13_1 < (l1.length : Int) := of_decide_eq_true (by first | (with_reducible assumption) | assumption)
         obtain ⟨ad142, e142, hx142_0, hx142_1, hx142_2⟩ := at_T35 HR1.out x13_1 p142 q142
         cases e142
         replace p142 := eq_true p142
         replace q142 := eq_true q142
         go_wp2
         repeat (go_quiet (fail); try go_wp2)
         go_roundg k1
         case measure => have := HK1.out; omega
         case rel => exact ⟨(wrap64 (x13_1 + 1)), (by first | rfl | (simp; done) | (simp [*]; done)), H', ⟨by have := HK1.out; omega⟩, by repeat (first | exact Drawn0.refl _ | apply Drawn0.step)⟩
       ·rw [if_neg c7] at H
        exact absurd H (by simp)
      ·rw [if_neg c6] at H
       exact absurd H (by simp)
     ·rw [if_neg c5] at H
      exact absurd H (by simp)
    ·rw [if_neg c4] at H
     have c4b0 : decide (x13_1 < (l0.length : Int)) = false := decide_eq_false c4
     clear c4
     obtain rfl := Option.some.inj H
     go_wp2
     repeat (go_quiet (fail); try go_wp2)
     go_ret
     exact ⟨by first | rfl | (simp; done) | (simp [*]; done), by repeat (first | exact Drawn0.refl _ | apply Drawn0.step)⟩
 ·rw [if_neg c3] at H
  have c3b0 : ((l0.length : Int) == (l1.length : Int)) = false := beq_eq_false_iff_ne.mpr c3
  have c3b1 : ((l0.length : Int) != (l1.length : Int)) = true := bne_iff_ne.mpr c3
  have c3b2 : (l0.length == l1.length) = false := by first | simpa using c3 | (simp at c3 ⊢; omega)
  obtain rfl := Option.some.inj H
  go_enter Try.func26, Try.ntmps26
  go_wp2
  repeat (go_quiet (fail); try go_wp2)
  go_ret
  exact ⟨by first | rfl | (simp; done) | (simp [*]; done), by repeat (first | exact Drawn0.refl _ | apply Drawn0.step)⟩

end Go.Proofs.Ytdolabpkgienkaa.PF
