-- Written by a program of this session (wip/pr.py) out of Lean's print of the translation; Lean checks it.
import Derived.Test.YtcdkbciagchlgaaDoorPF0
import Derived.Test.YtcdkbciagchlgaaDoorPF1
import Derived.Test.YtcdkbciagchlgaaDoorPF9
import Derived.Test.YtcdkbciagchlgaaDoorPF10
import Derived.Test.YtcdkbciagchlgaaDoorPF18
namespace Go.Proofs.YtcdkbciagchlgaaDoor.PF
open Go.RowKit Go.Proofs.YtcdkbciagchlgaaDoorW.PrintWords Go.Proofs.YtcdkbciagchlgaaDoorW.PrintLast Go.Proofs.YtcdkbciagchlgaaDoorW.PrintMore
attribute [local go_sem] max2_int min2_int max_two min_two max_three min_three max_four min_four   -- for this text's walks alone
set_option linter.unusedVariables false
set_option linter.unusedSimpArgs false

/-! ### spilelaw30_RefusalChecks: function 4 -/
def spilelaw30_RefusalChecks.f (k : Nat) (l0 : List (S82)) (l1_0 : List (S45)) (l1_1 : List Int) (l1_2 : List Int) (a1_3 : Int) (a1_4 : Int) (a1_5 : Int) (l2_0 : List Int) (a2_1 : Int) (a2_2 : Int) (a2_3 : Int) : Option (Bool) := (spilelaw30_awake.f).bind fun t355 => (if t355 = true then ((spilelaw30_few.f l0 l1_0 l1_1 l1_2 a1_3 a1_4 a1_5 l2_0 a2_1 a2_2 a2_3).bind fun t356 => (if t356 = true then ((refusal_Why.f l2_0 a2_1 a2_2 a2_3).bind fun bt357 => ((spileref30_Why.f k l2_0 a2_1 a2_2 a2_3).bind fun bt359 => ((refusal_Check.f k l0 l1_0 l1_1 l1_2 a1_3 a1_4 a1_5 l2_0 a2_1 a2_2 a2_3).bind fun t361 => ((spileref30_Check.f k l0 l1_0 l1_1 l1_2 a1_3 a1_4 a1_5 l2_0 a2_1 a2_2 a2_3).bind fun t362 => (if t361 = t362 then (if bt357.1.toList = bt359.1.toList then (some (bt357.2 == bt359.2)) else (some false)) else (some false)))))) else (some true))) else (some false))
theorem spilelaw30_RefusalChecks.mono : ∀ a0 a1 a2 a3 a4 a5 a6 a7 a8 a9 a10 k, LeO (spilelaw30_RefusalChecks.f k a0 a1 a2 a3 a4 a5 a6 a7 a8 a9 a10) (spilelaw30_RefusalChecks.f (k + 1) a0 a1 a2 a3 a4 a5 a6 a7 a8 a9 a10) := by
 intro a0 a1 a2 a3 a4 a5 a6 a7 a8 a9 a10 k
 unfold spilelaw30_RefusalChecks.f
 repeat' first
   | (with_reducible exact refusal_Check.mono _ _ _ _ _ _ _ _ _ _ _ _)
   | (with_reducible exact spileref30_Check.mono _ _ _ _ _ _ _ _ _ _ _ _)
   | (with_reducible exact spileref30_Why.mono _ _ _ _ _)
   | (with_reducible exact LeO.refl _)
   | (with_reducible exact LeO.none _)
   | (with_reducible refine LeO.ite ?_ ?_)
   | (with_reducible refine LeO.bind ?_ (fun _ => ?_))
   | exact refusal_Check.mono _ _ _ _ _ _ _ _ _ _ _ _
   | exact spileref30_Check.mono _ _ _ _ _ _ _ _ _ _ _ _
   | exact spileref30_Why.mono _ _ _ _ _
   | exact LeO.none _
   | refine LeO.ite ?_ ?_
   | refine LeO.bind ?_ (fun _ => ?_)
def spilelaw30_RefusalChecks.T7 : Bool × List (List Nat × List Nat) := (true, [([], []), ([], []), ([], []), ([0, 1, 2], [0, 1, 2]), ([], []), ([], []), ([], []), ([4, 5, 6, 3], [4, 5, 6]), ([3, 7], [3, 7]), ([8, 7], [8]), ([9], [9]), ([9], [9]), ([10, 11, 9], [9, 10, 11]), ([9, 12], [9, 12]), ([13, 9], [13]), ([14], [14]), ([14], [14]), ([15, 16, 14], [14, 15, 16]), ([14, 17], [14, 17]), ([18, 14, 0, 1, 2, 3, 4, 5, 6, 7, 8, 9, 10, 11, 12, 13, 14, 15, 16, 17, 18], [18])])
def spilelaw30_RefusalChecks.B7 : List Nat := [0, 0, 0, 7, 0, 0, 0, 127, 255, 511, 1023, 1023, 4095, 8191, 16383, 32767, 32767, 131071, 262143, 524287]
theorem spilelaw30_RefusalChecks.tab7 : rtab .any (opsOf Tryd.f4 7) = spilelaw30_RefusalChecks.T7 := by kernel_rfl
theorem spilelaw30_RefusalChecks.bits7 : waitsOk spilelaw30_RefusalChecks.T7.2 spilelaw30_RefusalChecks.B7 = true := by kernel_rfl
set_option maxHeartbeats 8000000 in
set_option maxRecDepth 100000 in
theorem spilelaw30_RefusalChecks.calls (k : Nat) (A0 : Option Addr) (c0 : Nat) (l0 : List (S82)) (A1_0 : Option Addr) (c1_0 : Nat) (l1_0 : List (S45)) (A1_1 : Option Addr) (c1_1 : Nat) (l1_1 : List Int) (A1_2 : Option Addr) (c1_2 : Nat) (l1_2 : List Int) (a1_3 : Int) (a1_4 : Int) (a1_5 : Int) (A2_0 : Option Addr) (c2_0 : Nat) (l2_0 : List Int) (a2_1 : Int) (a2_2 : Int) (a2_3 : Int) (r : Bool) (w : World) (hr0 : Kd.C k82 w A0 l0.length l0) (hc0 : l0.length ≤ c0) (hr1_0 : Kd.C k45 w A1_0 l1_0.length l1_0) (hc1_0 : l1_0.length ≤ c1_0) (hr1_1 : Kd.C (Kd.int .i64) w A1_1 l1_1.length l1_1) (hc1_1 : l1_1.length ≤ c1_1) (hr1_2 : Kd.C (Kd.int .i64) w A1_2 l1_2.length l1_2) (hc1_2 : l1_2.length ≤ c1_2) (hr2_0 : Kd.C (Kd.int .i64) w A2_0 l2_0.length l2_0) (hc2_0 : l2_0.length ≤ c2_0) (hA_ : Aside0 (∀ w1, Below w.heap.size w w1 → AwakeOK w1)) (hP_ : Aside0 (∀ w1, Below w.heap.size w w1 → WhyOK w1)) (h : spilelaw30_RefusalChecks.f k l0 l1_0 l1_1 l1_2 a1_3 a1_4 a1_5 l2_0 a2_1 a2_2 a2_3 = some r) :
  Calls Tryd.prog 4 #[.slice A0 l0.length c0, .agg #[.slice A1_0 l1_0.length c1_0, .slice A1_1 l1_1.length c1_1, .slice A1_2 l1_2.length c1_2, .int .i64 a1_3, .int .i64 a1_4, .int .i64 a1_5], .agg #[.slice A2_0 l2_0.length c2_0, .int .i64 a2_1, .int .i64 a2_2, .int .i64 a2_3]] w fun e w' => e = .returned (.bool r) ∧ Below w.heap.size w w' := by
 have hu26 := Tryd.underlying26
 have hu30 := Tryd.underlying30
 have HR0 := Aside0.mk hr0
 have HC0 := Aside0.mk hc0
 clear hr0 hc0
 have HR1_0 := Aside0.mk hr1_0
 have HC1_0 := Aside0.mk hc1_0
 clear hr1_0 hc1_0
 have HR1_1 := Aside0.mk hr1_1
 have HC1_1 := Aside0.mk hc1_1
 clear hr1_1 hc1_1
 have HR1_2 := Aside0.mk hr1_2
 have HC1_2 := Aside0.mk hc1_2
 clear hr1_2 hc1_2
 have HR2_0 := Aside0.mk hr2_0
 have HC2_0 := Aside0.mk hc2_0
 clear hr2_0 hc2_0
 have HB := Aside0.mk (Below.refl w.heap.size w)
 have H : ((spilelaw30_awake.f).bind fun t355 => (if t355 = true then ((spilelaw30_few.f l0 l1_0 l1_1 l1_2 a1_3 a1_4 a1_5 l2_0 a2_1 a2_2 a2_3).bind fun t356 => (if t356 = true then ((refusal_Why.f l2_0 a2_1 a2_2 a2_3).bind fun bt357 => ((spileref30_Why.f k l2_0 a2_1 a2_2 a2_3).bind fun bt359 => ((refusal_Check.f k l0 l1_0 l1_1 l1_2 a1_3 a1_4 a1_5 l2_0 a2_1 a2_2 a2_3).bind fun t361 => ((spileref30_Check.f k l0 l1_0 l1_1 l1_2 a1_3 a1_4 a1_5 l2_0 a2_1 a2_2 a2_3).bind fun t362 => (if t361 = t362 then (if bt357.1.toList = bt359.1.toList then (some (bt357.2 == bt359.2)) else (some false)) else (some false)))))) else (some true))) else (some false))) = some r := h
 clear h
 replace H := Option.bind_eq_some_iff.mp H
 obtain ⟨t355, A40, H⟩ := H
 replace H : (if t355 = true then ((spilelaw30_few.f l0 l1_0 l1_1 l1_2 a1_3 a1_4 a1_5 l2_0 a2_1 a2_2 a2_3).bind fun t356 => (if t356 = true then ((refusal_Why.f l2_0 a2_1 a2_2 a2_3).bind fun bt357 => ((spileref30_Why.f k l2_0 a2_1 a2_2 a2_3).bind fun bt359 => ((refusal_Check.f k l0 l1_0 l1_1 l1_2 a1_3 a1_4 a1_5 l2_0 a2_1 a2_2 a2_3).bind fun t361 => ((spileref30_Check.f k l0 l1_0 l1_1 l1_2 a1_3 a1_4 a1_5 l2_0 a2_1 a2_2 a2_3).bind fun t362 => (if t361 = t362 then (if bt357.1.toList = bt359.1.toList then (some (bt357.2 == bt359.2)) else (some false)) else (some false)))))) else (some true))) else (some false)) = some r := H
 have A4 := Aside0.mk A40
 clear A40
 by_cases c5 : t355 = true
 ·subst c5
  have H1 : ((spilelaw30_few.f l0 l1_0 l1_1 l1_2 a1_3 a1_4 a1_5 l2_0 a2_1 a2_2 a2_3).bind fun t356 => (if t356 = true then ((refusal_Why.f l2_0 a2_1 a2_2 a2_3).bind fun bt357 => ((spileref30_Why.f k l2_0 a2_1 a2_2 a2_3).bind fun bt359 => ((refusal_Check.f k l0 l1_0 l1_1 l1_2 a1_3 a1_4 a1_5 l2_0 a2_1 a2_2 a2_3).bind fun t361 => ((spileref30_Check.f k l0 l1_0 l1_1 l1_2 a1_3 a1_4 a1_5 l2_0 a2_1 a2_2 a2_3).bind fun t362 => (if t361 = t362 then (if bt357.1.toList = bt359.1.toList then (some (bt357.2 == bt359.2)) else (some false)) else (some false)))))) else (some true))) = some r := by rw [if_pos rfl] at H; exact H
  clear H
  have H := H1
  clear H1
  replace H := Option.bind_eq_some_iff.mp H
  obtain ⟨t356, A60, H⟩ := H
  replace H : (if t356 = true then ((refusal_Why.f l2_0 a2_1 a2_2 a2_3).bind fun bt357 => ((spileref30_Why.f k l2_0 a2_1 a2_2 a2_3).bind fun bt359 => ((refusal_Check.f k l0 l1_0 l1_1 l1_2 a1_3 a1_4 a1_5 l2_0 a2_1 a2_2 a2_3).bind fun t361 => ((spileref30_Check.f k l0 l1_0 l1_1 l1_2 a1_3 a1_4 a1_5 l2_0 a2_1 a2_2 a2_3).bind fun t362 => (if t361 = t362 then (if bt357.1.toList = bt359.1.toList then (some (bt357.2 == bt359.2)) else (some false)) else (some false)))))) else (some true)) = some r := H
  have A6 := Aside0.mk A60
  clear A60
  by_cases c7 : t356 = true
  ·subst c7
   have H1 : ((refusal_Why.f l2_0 a2_1 a2_2 a2_3).bind fun bt357 => ((spileref30_Why.f k l2_0 a2_1 a2_2 a2_3).bind fun bt359 => ((refusal_Check.f k l0 l1_0 l1_1 l1_2 a1_3 a1_4 a1_5 l2_0 a2_1 a2_2 a2_3).bind fun t361 => ((spileref30_Check.f k l0 l1_0 l1_1 l1_2 a1_3 a1_4 a1_5 l2_0 a2_1 a2_2 a2_3).bind fun t362 => (if t361 = t362 then (if bt357.1.toList = bt359.1.toList then (some (bt357.2 == bt359.2)) else (some false)) else (some false)))))) = some r := by rw [if_pos rfl] at H; exact H
   clear H
   have H := H1
   clear H1
   replace H := Option.bind_eq_some_iff.mp H
   obtain ⟨⟨t357, t358⟩, A80, H⟩ := H
   replace H : ((spileref30_Why.f k l2_0 a2_1 a2_2 a2_3).bind fun bt359 => ((refusal_Check.f k l0 l1_0 l1_1 l1_2 a1_3 a1_4 a1_5 l2_0 a2_1 a2_2 a2_3).bind fun t361 => ((spileref30_Check.f k l0 l1_0 l1_1 l1_2 a1_3 a1_4 a1_5 l2_0 a2_1 a2_2 a2_3).bind fun t362 => (if t361 = t362 then (if t357.toList = bt359.1.toList then (some (t358 == bt359.2)) else (some false)) else (some false))))) = some r := H
   have A8 := Aside0.mk A80
   clear A80
   replace H := Option.bind_eq_some_iff.mp H
   obtain ⟨⟨t359, t360⟩, A90, H⟩ := H
   replace H : ((refusal_Check.f k l0 l1_0 l1_1 l1_2 a1_3 a1_4 a1_5 l2_0 a2_1 a2_2 a2_3).bind fun t361 => ((spileref30_Check.f k l0 l1_0 l1_1 l1_2 a1_3 a1_4 a1_5 l2_0 a2_1 a2_2 a2_3).bind fun t362 => (if t361 = t362 then (if t357.toList = t359.toList then (some (t358 == t360)) else (some false)) else (some false)))) = some r := H
   have A9 := Aside0.mk A90
   clear A90
   replace H := Option.bind_eq_some_iff.mp H
   obtain ⟨t361, A100, H⟩ := H
   replace H : ((spileref30_Check.f k l0 l1_0 l1_1 l1_2 a1_3 a1_4 a1_5 l2_0 a2_1 a2_2 a2_3).bind fun t362 => (if t361 = t362 then (if t357.toList = t359.toList then (some (t358 == t360)) else (some false)) else (some false))) = some r := H
   have A10 := Aside0.mk A100
   clear A100
   replace H := Option.bind_eq_some_iff.mp H
   obtain ⟨t362, A110, H⟩ := H
   replace H : (if t361 = t362 then (if t357.toList = t359.toList then (some (t358 == t360)) else (some false)) else (some false)) = some r := H
   have A11 := Aside0.mk A110
   clear A110
   by_cases c12 : t361 = t362
   ·rw [if_pos c12] at H
    have c12b0 : (t361 == t362) = true := beq_iff_eq.mpr c12
    have c12b1 : (t361 != t362) = false := bne_eq_false_iff_eq.mpr c12
    clear c12
    by_cases c13 : t357.toList = t359.toList
    ·rw [if_pos c13] at H
     have c13b0 : (t357.toList == t359.toList) = true := beq_iff_eq.mpr c13
     have c13b1 : (t357.toList != t359.toList) = false := bne_eq_false_iff_eq.mpr c13
     clear c13
     obtain rfl := Option.some.inj H
     go_enter Tryd.func4, Tryd.ntmps4
     try go_wp2_with (first | ((with_reducible refine gate_dst (N := 4) rfl ?_); refine be_ (N := 4) (cs := #[.slice A1_0 l1_0.length c1_0, .slice A1_1 l1_1.length c1_1, .slice A1_2 l1_2.length c1_2, .int .i64 a1_3, .int .i64 a1_4, .int .i64 a1_5]) (t := 26) ?_; intro gb353 hg w14 hbox hb; have n0_ := Aside0.mk (below_step bl_ hb); have n1_ := Aside0.mk (hbox); have n2_ := Aside0.mk ((by rw [hg]; exact (below_size bl_) : w.heap.size ≤ gb353)); have n3_ := Aside0.mk ((by rw [hg]; exact (below_size bl_) : w.heap.size ≤ gb353)); clear HB; have HB := n0_; have BK353 := n1_; have GW353 := n2_; have GE353 := n3_; clear n0_ n1_ n2_ n3_; clear hb hbox hg) | ((with_reducible refine gate_dst (N := 5) rfl ?_); refine be_ (N := 5) (cs := #[.slice A2_0 l2_0.length c2_0, .int .i64 a2_1, .int .i64 a2_2, .int .i64 a2_3]) (t := 30) ?_; intro gb354 hg w15 hbox hb; have n0_ := Aside0.mk (blk_below (bkt_ BK353) hb); have n1_ := Aside0.mk (below_step bls_ hb); have n2_ := Aside0.mk (hbox); have n3_ := Aside0.mk ((by rw [hg]; exact (below_size bls_) : w.heap.size ≤ gb354)); have n4_ := Aside0.mk ((by rw [hg]; exact (below_size bls_) : w.heap.size ≤ gb354)); have n5_ := Aside0.mk ((by rw [hg]; exact Nat.ne_of_lt (blk_lt (bkt_ BK353)) : gb353 ≠ gb354)); have n6_ := Aside0.mk ((by rw [hg]; exact Nat.ne_of_gt (blk_lt (bkt_ BK353)) : gb354 ≠ gb353)); clear BK353; clear HB; have BK353 := n0_; have HB := n1_; have BK354 := n2_; have GW354 := n3_; have GE354 := n4_; have NB353_354 := n5_; have NB354_353 := n6_; clear n0_ n1_ n2_ n3_ n4_ n5_ n6_; clear hb hbox hg) | ((with_reducible refine gate_callee (f := 9) rfl ?_); refine gl_ (some 11) Tryd.func9 #[] ?_; (with_reducible refine (spilelaw30_awake.calls  true _ A4.out).mono ?_); rintro e w16 ⟨rfl, hb⟩; refine ⟨_, rfl, ?_⟩; have n0_ := Aside0.mk (blk_below (bkt_ BK353) hb); have n1_ := Aside0.mk (blk_below (bkt_ BK354) hb); have n2_ := Aside0.mk (below_step bls_ hb); clear BK353; clear BK354; clear HB; have BK353 := n0_; have BK354 := n1_; have HB := n2_; clear n0_ n1_ n2_; (try clear hb); (try clear hb2); (try clear hk); (try clear hi); have hnb17 := NB353_354.out; have hnc17 := NB354_353.out; obtain ⟨hcz18_0, hcz18_1, hcz18_2, hcz18_3, hcz18_4, hcz18_5⟩ := bc6_ BK353; obtain ⟨hfz18_0, hfz18_1, hfz18_2, hfz18_3, hfz18_4, hfz18_5⟩ := bf6_ BK353; obtain ⟨hcz19_0, hcz19_1, hcz19_2, hcz19_3⟩ := bc4_ BK354; obtain ⟨hfz19_0, hfz19_1, hfz19_2⟩ := bf3_ BK354; have hfz19_3 := blk_frozen BK354.out 3) | ((with_reducible refine gate_callee (f := 10) rfl ?_); refine gl_ (some 16) Tryd.func10 #[.slice A0 l0.length c0, .agg #[.slice A1_0 l1_0.length c1_0, .slice A1_1 l1_1.length c1_1, .slice A1_2 l1_2.length c1_2, .int .i64 a1_3, .int .i64 a1_4, .int .i64 a1_5], .agg #[.slice A2_0 l2_0.length c2_0, .int .i64 a2_1, .int .i64 a2_2, .int .i64 a2_3]] ?_; (with_reducible refine (spilelaw30_few.calls _ _ l0 _ _ l1_0 _ _ l1_1 _ _ l1_2 a1_3 a1_4 a1_5 _ _ l2_0 a2_1 a2_2 a2_3 true _ ?side1 ?side2 ?side3 ?side4 ?side5 ?side6 ?side7 ?side8 ?side9 ?side10 A6.out).mono ?_); (case side1 => exact kc_ HR0); (case side2 => exact HC0.out); (case side3 => exact kc_ HR1_0); (case side4 => exact HC1_0.out); (case side5 => exact kc_ HR1_1); (case side6 => exact HC1_1.out); (case side7 => exact kc_ HR1_2); (case side8 => exact HC1_2.out); (case side9 => exact kc_ HR2_0); (case side10 => exact HC2_0.out); rintro e w20 ⟨rfl, hb⟩; refine ⟨_, rfl, ?_⟩; have n0_ := Aside0.mk (blk_below (bkt_ BK353) hb); have n1_ := Aside0.mk (blk_below (bkt_ BK354) hb); have n2_ := Aside0.mk (below_step bls_ hb); clear BK353; clear BK354; clear HB; have BK353 := n0_; have BK354 := n1_; have HB := n2_; clear n0_ n1_ n2_; (try clear hb); (try clear hb2); (try clear hk); (try clear hi); obtain ⟨hcz21_0, hcz21_1, hcz21_2, hcz21_3⟩ := bc4_ BK354; obtain ⟨hfz21_0, hfz21_1, hfz21_2⟩ := bf3_ BK354; have hfz21_3 := blk_frozen BK354.out 3) | ((with_reducible refine gate_callee (f := 17) rfl ?_); refine gl_ (some 20) Tryd.func17 #[.agg #[.slice A2_0 l2_0.length c2_0, .int .i64 a2_1, .int .i64 a2_2, .int .i64 a2_3]] ?_; (with_reducible refine (refusal_Why.calls _ _ l2_0 a2_1 a2_2 a2_3 t357 t358 _ ?side1 ?side2 A8.out).mono ?_); (case side1 => exact kc_ HR2_0); (case side2 => exact HC2_0.out); rintro e w22 ⟨rfl, hb⟩; refine ⟨_, rfl, ?_⟩; have n0_ := Aside0.mk (blk_below (bkt_ BK353) hb); have n1_ := Aside0.mk (blk_below (bkt_ BK354) hb); have n2_ := Aside0.mk (below_step bls_ hb); clear BK353; clear BK354; clear HB; have BK353 := n0_; have BK354 := n1_; have HB := n2_; clear n0_ n1_ n2_; (try clear hb); (try clear hb2); (try clear hk); (try clear hi); obtain ⟨hcz23_0, hcz23_1, hcz23_2, hcz23_3⟩ := bc4_ BK354; obtain ⟨hfz23_0, hfz23_1, hfz23_2⟩ := bf3_ BK354; have hfz23_3 := blk_frozen BK354.out 3) | ((with_reducible refine gate_callee (f := 18) rfl ?_); refine gl_ (some 25) Tryd.func18 #[.agg #[.slice A2_0 l2_0.length c2_0, .int .i64 a2_1, .int .i64 a2_2, .int .i64 a2_3]] ?_; (with_reducible refine (spileref30_Why.calls k _ _ l2_0 a2_1 a2_2 a2_3 t359 t360 _ ?side1 ?side2 A9.out).mono ?_); (case side1 => exact kc_ HR2_0); (case side2 => exact HC2_0.out); rintro e w24 ⟨rfl, hb⟩; refine ⟨_, rfl, ?_⟩; have n0_ := Aside0.mk (blk_below (bkt_ BK353) hb); have n1_ := Aside0.mk (blk_below (bkt_ BK354) hb); have n2_ := Aside0.mk (below_step bls_ hb); clear BK353; clear BK354; clear HB; have BK353 := n0_; have BK354 := n1_; have HB := n2_; clear n0_ n1_ n2_; (try clear hb); (try clear hb2); (try clear hk); (try clear hi)))
     have n0_ := Aside0.mk (blk_drew BK353.out)
     have n1_ := Aside0.mk (blk_drew BK354.out)
     have n2_ := Aside0.mk (below_drew1 HB.out)
     clear BK353
     clear BK354
     clear HB
     have BK353 := n0_
     have BK354 := n1_
     have HB := n2_
     clear n0_ n1_ n2_
     refine start_ (n := 20) (S := fun w' => w'.cell? ⟨gb353, 0, none⟩ = some (.slice A1_0 l1_0.length c1_0) ∧ w'.cell? ⟨gb353, 1, none⟩ = some (.slice A1_1 l1_1.length c1_1) ∧ w'.cell? ⟨gb353, 2, none⟩ = some (.slice A1_2 l1_2.length c1_2) ∧ w'.cell? ⟨gb353, 3, none⟩ = some (.int .i64 a1_3) ∧ w'.cell? ⟨gb353, 4, none⟩ = some (.int .i64 a1_4) ∧ w'.cell? ⟨gb353, 5, none⟩ = some (.int .i64 a1_5) ∧ w'.cell? ⟨gb354, 0, none⟩ = some (.slice A2_0 l2_0.length c2_0) ∧ w'.cell? ⟨gb354, 1, none⟩ = some (.int .i64 a2_1) ∧ w'.cell? ⟨gb354, 2, none⟩ = some (.int .i64 a2_2) ∧ w'.cell? ⟨gb354, 3, none⟩ = some (.int .i64 a2_3)) (ds := []) #[false, false, false, false, false, false, false, false, false, false, false, false, false, false, false, false, false, false, false, false] (by kernel_rfl) rfl rfl ⟨(blk_cell BK353.out 0).trans rfl, (blk_cell BK353.out 1).trans rfl, (blk_cell BK353.out 2).trans rfl, (blk_cell BK353.out 3).trans rfl, (blk_cell BK353.out 4).trans rfl, (blk_cell BK353.out 5).trans rfl, (blk_cell BK354.out 0).trans rfl, (blk_cell BK354.out 1).trans rfl, (blk_cell BK354.out 2).trans rfl, (blk_cell BK354.out 3).trans rfl⟩ (fun hHeld => ?_); refine with_tabW spilelaw30_RefusalChecks.tab7 spilelaw30_RefusalChecks.bits7 (fun HT_ HW_ => ?_)
     generalize w24.drew = w25 at BK353 BK354 HB hHeld ⊢
     refine pure_ (i := 0) (N := some 28) (v := ?_) (a' := ?_) #[true, false, false, false, false, false, false, false, false, false, false, false, false, false, false, false, false, false, false, false] rfl rfl (any_of HT_.out (by kernel_rfl)) (fun _ _ _ h => h) (Or.inl ⟨by rfl, ?_⟩) ?_ ?_
     rotate_left
     ·intro w'
      go_simp
      with_reducible rfl
     rotate_left
     ·simp only [Act.put, List.setIfInBounds_toArray, List.set_cons_zero, List.set_cons_succ, i64_w, i32_w]
      rfl
     refine pure_ (i := 4) (N := some 32) (v := ?_) (a' := ?_) #[true, false, false, false, true, false, false, false, false, false, false, false, false, false, false, false, false, false, false, false] rfl rfl (any_of HT_.out (by kernel_rfl)) (fun _ _ _ h => h) (Or.inl ⟨by rfl, ?_⟩) ?_ ?_
     rotate_left
     ·intro w'
      go_simp
      with_reducible rfl
     rotate_left
     ·simp only [Act.put, List.setIfInBounds_toArray, List.set_cons_zero, List.set_cons_succ, i64_w, i32_w]
      rfl
     refine take_ (i := 1) (N := some 29) (v := ?_) (a' := ?_) #[true, true, false, false, true, false, false, false, false, false, false, false, false, false, false, false, false, false, false, false] rfl rfl (take_ofW HT_.out HW_.out (by kernel_rfl)) (fun _ _ _ h => h) (Or.inl ⟨by rfl, ?_⟩) hHeld ?_ ?_
     rotate_left
     ·rintro w' ⟨s0, s1, s2, s3, s4, s5, s6, s7, s8, s9⟩
      go_simp
      with_reducible rfl
     rotate_left
     ·simp only [Act.put, List.setIfInBounds_toArray, List.set_cons_zero, List.set_cons_succ, i64_w, i32_w]
      rfl
     refine take_ (i := 2) (N := some 30) (v := ?_) (a' := ?_) #[true, true, true, false, true, false, false, false, false, false, false, false, false, false, false, false, false, false, false, false] rfl rfl (take_ofW HT_.out HW_.out (by kernel_rfl)) (fun _ _ _ h => h) (Or.inl ⟨by rfl, ?_⟩) hHeld ?_ ?_
     rotate_left
     ·rintro w' ⟨s0, s1, s2, s3, s4, s5, s6, s7, s8, s9⟩
      go_simp
      with_reducible rfl
     rotate_left
     ·simp only [Act.put, List.setIfInBounds_toArray, List.set_cons_zero, List.set_cons_succ, i64_w, i32_w]
      rfl
     refine take_ (i := 5) (N := some 33) (v := ?_) (a' := ?_) #[true, true, true, false, true, true, false, false, false, false, false, false, false, false, false, false, false, false, false, false] rfl rfl (take_ofW HT_.out HW_.out (by kernel_rfl)) (fun _ _ _ h => h) (Or.inl ⟨by rfl, ?_⟩) hHeld ?_ ?_
     rotate_left
     ·rintro w' ⟨s0, s1, s2, s3, s4, s5, s6, s7, s8, s9⟩
      go_simp
      with_reducible rfl
     rotate_left
     ·simp only [Act.put, List.setIfInBounds_toArray, List.set_cons_zero, List.set_cons_succ, i64_w, i32_w]
      rfl
     refine take_ (i := 6) (N := some 34) (v := ?_) (a' := ?_) #[true, true, true, false, true, true, true, false, false, false, false, false, false, false, false, false, false, false, false, false] rfl rfl (take_ofW HT_.out HW_.out (by kernel_rfl)) (fun _ _ _ h => h) (Or.inl ⟨by rfl, ?_⟩) hHeld ?_ ?_
     rotate_left
     ·rintro w' ⟨s0, s1, s2, s3, s4, s5, s6, s7, s8, s9⟩
      go_simp
      with_reducible rfl
     rotate_left
     ·simp only [Act.put, List.setIfInBounds_toArray, List.set_cons_zero, List.set_cons_succ, i64_w, i32_w]
      rfl
     refine one_ (i := 3) (N := some 31) #[true, true, true, true, true, true, true, false, false, false, false, false, false, false, false, false, false, false, false, false] rfl rfl (one_of HT_.out (by kernel_rfl)) (by decide) (fun K hK => ?_)
     refine goes_ Tryd.func19 (by kernel_rfl) rfl #[.slice A0 l0.length c0, .agg #[.slice A1_0 l1_0.length c1_0, .slice A1_1 l1_1.length c1_1, .slice A1_2 l1_2.length c1_2, .int .i64 a1_3, .int .i64 a1_4, .int .i64 a1_5], .agg #[.slice A2_0 l2_0.length c2_0, .int .i64 a2_1, .int .i64 a2_2, .int .i64 a2_3]] (by rfl) rfl rfl (by (try simp only [List.map_toArray, List.map_cons, List.map_nil]); first | done | rfl | (simp only [List.length_drop, List.length_take]; rfl)) ?_
     with_reducible refine (refusal_Check.calls k _ _ l0 _ _ l1_0 _ _ l1_1 _ _ l1_2 a1_3 a1_4 a1_5 _ _ l2_0 a2_1 a2_2 a2_3 t361 _ ?side1 ?side2 ?side3 ?side4 ?side5 ?side6 ?side7 ?side8 ?side9 ?side10 A10.out).mono ?_
     (case side1 => exact kc_ HR0)
     (case side2 => exact HC0.out)
     (case side3 => exact kc_ HR1_0)
     (case side4 => exact HC1_0.out)
     (case side5 => exact kc_ HR1_1)
     (case side6 => exact HC1_1.out)
     (case side7 => exact kc_ HR1_2)
     (case side8 => exact HC1_2.out)
     (case side9 => exact kc_ HR2_0)
     (case side10 => exact HC2_0.out)
     rintro e w26 ⟨rfl, hb⟩
     refine ⟨_, rfl, ?_⟩
     have n0_ := Aside0.mk (blk_below (bkt_ BK353) hb)
     have n1_ := Aside0.mk (blk_below (bkt_ BK354) hb)
     have n2_ := Aside0.mk (below_step bls_ hb)
     clear BK353
     clear BK354
     clear HB
     have BK353 := n0_
     have BK354 := n1_
     have HB := n2_
     clear n0_ n1_ n2_
     (try clear hb)
     (try clear hb2)
     (try clear hk)
     (try clear hi)
     refine hK.out _ _ ⟨(blk_cell BK353.out 0).trans rfl, (blk_cell BK353.out 1).trans rfl, (blk_cell BK353.out 2).trans rfl, (blk_cell BK353.out 3).trans rfl, (blk_cell BK353.out 4).trans rfl, (blk_cell BK353.out 5).trans rfl, (blk_cell BK354.out 0).trans rfl, (blk_cell BK354.out 1).trans rfl, (blk_cell BK354.out 2).trans rfl, (blk_cell BK354.out 3).trans rfl⟩ (fun hHeld => ?_)
     clear hK K
     refine norm_ (a' := ?_) ?_ ?_
     rotate_left
     ·show Act.put _ (some 31) _ = _
      simp only [Act.put, List.setIfInBounds_toArray, List.set_cons_zero, List.set_cons_succ, i64_w, i32_w]
      rfl
     refine one_ (i := 7) (N := some 35) #[true, true, true, true, true, true, true, true, false, false, false, false, false, false, false, false, false, false, false, false] rfl rfl (one_of HT_.out (by kernel_rfl)) (by decide) (fun K hK => ?_)
     refine goes_ Tryd.func20 (by kernel_rfl) rfl #[.slice A0 l0.length c0, .agg #[.slice A1_0 l1_0.length c1_0, .slice A1_1 l1_1.length c1_1, .slice A1_2 l1_2.length c1_2, .int .i64 a1_3, .int .i64 a1_4, .int .i64 a1_5], .agg #[.slice A2_0 l2_0.length c2_0, .int .i64 a2_1, .int .i64 a2_2, .int .i64 a2_3]] (by rfl) rfl rfl (by (try simp only [List.map_toArray, List.map_cons, List.map_nil]); first | done | rfl | (simp only [List.length_drop, List.length_take]; rfl)) ?_
     with_reducible refine (spileref30_Check.calls k _ _ l0 _ _ l1_0 _ _ l1_1 _ _ l1_2 a1_3 a1_4 a1_5 _ _ l2_0 a2_1 a2_2 a2_3 t362 _ ?side1 ?side2 ?side3 ?side4 ?side5 ?side6 ?side7 ?side8 ?side9 ?side10 A11.out).mono ?_
     (case side1 => exact kc_ HR0)
     (case side2 => exact HC0.out)
     (case side3 => exact kc_ HR1_0)
     (case side4 => exact HC1_0.out)
     (case side5 => exact kc_ HR1_1)
     (case side6 => exact HC1_1.out)
     (case side7 => exact kc_ HR1_2)
     (case side8 => exact HC1_2.out)
     (case side9 => exact kc_ HR2_0)
     (case side10 => exact HC2_0.out)
     rintro e w27 ⟨rfl, hb⟩
     refine ⟨_, rfl, ?_⟩
     have n0_ := Aside0.mk (blk_below (bkt_ BK353) hb)
     have n1_ := Aside0.mk (blk_below (bkt_ BK354) hb)
     have n2_ := Aside0.mk (below_step bls_ hb)
     clear BK353
     clear BK354
     clear HB
     have BK353 := n0_
     have BK354 := n1_
     have HB := n2_
     clear n0_ n1_ n2_
     (try clear hb)
     (try clear hb2)
     (try clear hk)
     (try clear hi)
     refine hK.out _ _ ⟨(blk_cell BK353.out 0).trans rfl, (blk_cell BK353.out 1).trans rfl, (blk_cell BK353.out 2).trans rfl, (blk_cell BK353.out 3).trans rfl, (blk_cell BK353.out 4).trans rfl, (blk_cell BK353.out 5).trans rfl, (blk_cell BK354.out 0).trans rfl, (blk_cell BK354.out 1).trans rfl, (blk_cell BK354.out 2).trans rfl, (blk_cell BK354.out 3).trans rfl⟩ (fun hHeld => ?_)
     clear hK K
     refine norm_ (a' := ?_) ?_ ?_
     rotate_left
     ·show Act.put _ (some 35) _ = _
      simp only [Act.put, List.setIfInBounds_toArray, List.set_cons_zero, List.set_cons_succ, i64_w, i32_w]
      rfl
     refine pure_ (i := 8) (N := some 36) (v := ?_) (a' := ?_) #[true, true, true, true, true, true, true, true, true, false, false, false, false, false, false, false, false, false, false, false] rfl rfl (any_of HT_.out (by kernel_rfl)) (fun _ _ _ h => h) (Or.inl ⟨by rfl, ?_⟩) ?_ ?_
     rotate_left
     ·intro w'
      go_simp
      with_reducible rfl
     rotate_left
     ·simp only [Act.put, List.setIfInBounds_toArray, List.set_cons_zero, List.set_cons_succ, i64_w, i32_w]
      rfl
     refine pure_ (i := 9) (N := some 37) (v := ?_) (a' := ?_) #[true, true, true, true, true, true, true, true, true, true, false, false, false, false, false, false, false, false, false, false] rfl rfl (any_of HT_.out (by kernel_rfl)) (fun _ _ _ h => h) (Or.inl ⟨by rfl, ?_⟩) ?_ ?_
     rotate_left
     ·intro w'
      go_simp
      with_reducible rfl
     rotate_left
     ·simp only [Act.put, List.setIfInBounds_toArray, List.set_cons_zero, List.set_cons_succ, i64_w, i32_w]
      rfl
     refine pure_ (i := 10) (N := some 38) (v := ?_) (a' := ?_) #[true, true, true, true, true, true, true, true, true, true, true, false, false, false, false, false, false, false, false, false] rfl rfl (any_of HT_.out (by kernel_rfl)) (fun _ _ _ h => h) (Or.inl ⟨by rfl, ?_⟩) ?_ ?_
     rotate_left
     ·intro w'
      go_simp
      with_reducible rfl
     rotate_left
     ·simp only [Act.put, List.setIfInBounds_toArray, List.set_cons_zero, List.set_cons_succ, i64_w, i32_w]
      rfl
     refine pure_ (i := 11) (N := some 39) (v := ?_) (a' := ?_) #[true, true, true, true, true, true, true, true, true, true, true, true, false, false, false, false, false, false, false, false] rfl rfl (any_of HT_.out (by kernel_rfl)) (fun _ _ _ h => h) (Or.inl ⟨by rfl, ?_⟩) ?_ ?_
     rotate_left
     ·intro w'
      go_simp
      with_reducible rfl
     rotate_left
     ·simp only [Act.put, List.setIfInBounds_toArray, List.set_cons_zero, List.set_cons_succ, i64_w, i32_w]
      rfl
     refine pure_ (i := 12) (N := some 40) (v := ?_) (a' := ?_) #[true, true, true, true, true, true, true, true, true, true, true, true, true, false, false, false, false, false, false, false] rfl rfl (any_of HT_.out (by kernel_rfl)) (fun _ _ _ h => h) (Or.inl ⟨by rfl, ?_⟩) ?_ ?_
     rotate_left
     ·intro w'
      go_simp
      with_reducible rfl
     rotate_left
     ·simp only [Act.put, List.setIfInBounds_toArray, List.set_cons_zero, List.set_cons_succ, i64_w, i32_w]
      rfl
     refine pure_ (i := 13) (N := some 41) (v := ?_) (a' := ?_) #[true, true, true, true, true, true, true, true, true, true, true, true, true, true, false, false, false, false, false, false] rfl rfl (any_of HT_.out (by kernel_rfl)) (fun _ _ _ h => h) (Or.inl ⟨by rfl, ?_⟩) ?_ ?_
     rotate_left
     ·intro w'
      go_simp
      with_reducible rfl
     rotate_left
     ·simp only [Act.put, List.setIfInBounds_toArray, List.set_cons_zero, List.set_cons_succ, i64_w, i32_w]
      rfl
     refine pure_ (i := 14) (N := some 42) (v := ?_) (a' := ?_) #[true, true, true, true, true, true, true, true, true, true, true, true, true, true, true, false, false, false, false, false] rfl rfl (any_of HT_.out (by kernel_rfl)) (fun _ _ _ h => h) (Or.inl ⟨by rfl, ?_⟩) ?_ ?_
     rotate_left
     ·intro w'
      go_simp
      with_reducible rfl
     rotate_left
     ·simp only [Act.put, List.setIfInBounds_toArray, List.set_cons_zero, List.set_cons_succ, i64_w, i32_w]
      rfl
     refine pure_ (i := 15) (N := some 43) (v := ?_) (a' := ?_) #[true, true, true, true, true, true, true, true, true, true, true, true, true, true, true, true, false, false, false, false] rfl rfl (any_of HT_.out (by kernel_rfl)) (fun _ _ _ h => h) (Or.inl ⟨by rfl, ?_⟩) ?_ ?_
     rotate_left
     ·intro w'
      go_simp
      with_reducible rfl
     rotate_left
     ·simp only [Act.put, List.setIfInBounds_toArray, List.set_cons_zero, List.set_cons_succ, i64_w, i32_w]
      rfl
     refine pure_ (i := 16) (N := some 44) (v := ?_) (a' := ?_) #[true, true, true, true, true, true, true, true, true, true, true, true, true, true, true, true, true, false, false, false] rfl rfl (any_of HT_.out (by kernel_rfl)) (fun _ _ _ h => h) (Or.inl ⟨by rfl, ?_⟩) ?_ ?_
     rotate_left
     ·intro w'
      go_simp
      with_reducible rfl
     rotate_left
     ·simp only [Act.put, List.setIfInBounds_toArray, List.set_cons_zero, List.set_cons_succ, i64_w, i32_w]
      rfl
     refine pure_ (i := 17) (N := some 45) (v := ?_) (a' := ?_) #[true, true, true, true, true, true, true, true, true, true, true, true, true, true, true, true, true, true, false, false] rfl rfl (any_of HT_.out (by kernel_rfl)) (fun _ _ _ h => h) (Or.inl ⟨by rfl, ?_⟩) ?_ ?_
     rotate_left
     ·intro w'
      go_simp
      with_reducible rfl
     rotate_left
     ·simp only [Act.put, List.setIfInBounds_toArray, List.set_cons_zero, List.set_cons_succ, i64_w, i32_w]
      rfl
     refine pure_ (i := 18) (N := some 46) (v := ?_) (a' := ?_) #[true, true, true, true, true, true, true, true, true, true, true, true, true, true, true, true, true, true, true, false] rfl rfl (any_of HT_.out (by kernel_rfl)) (fun _ _ _ h => h) (Or.inl ⟨by rfl, ?_⟩) ?_ ?_
     rotate_left
     ·intro w'
      go_simp
      with_reducible rfl
     rotate_left
     ·simp only [Act.put, List.setIfInBounds_toArray, List.set_cons_zero, List.set_cons_succ, i64_w, i32_w]
      rfl
     refine pure_ (i := 19) (N := some 6) (v := ?_) (a' := ?_) #[true, true, true, true, true, true, true, true, true, true, true, true, true, true, true, true, true, true, true, true] rfl rfl (any_of HT_.out (by kernel_rfl)) (fun _ _ _ h => h) (Or.inl ⟨by rfl, ?_⟩) ?_ ?_
     rotate_left
     ·intro w'
      go_simp
      with_reducible rfl
     rotate_left
     ·simp only [Act.put, List.setIfInBounds_toArray, List.set_cons_zero, List.set_cons_succ, i64_w, i32_w]
      rfl
     refine done_ (done_of HT_.out (by kernel_rfl)) ?_
     try go_wp2
     go_ret
     exact ⟨fin_, bls_⟩
    ·rw [if_neg c13] at H
     have c13b0 : (t357.toList == t359.toList) = false := beq_eq_false_iff_ne.mpr c13
     have c13b1 : (t357.toList != t359.toList) = true := bne_iff_ne.mpr c13
     obtain rfl := Option.some.inj H
     go_enter Tryd.func4, Tryd.ntmps4
     try go_wp2_with (first | ((with_reducible refine gate_dst (N := 4) rfl ?_); refine be_ (N := 4) (cs := #[.slice A1_0 l1_0.length c1_0, .slice A1_1 l1_1.length c1_1, .slice A1_2 l1_2.length c1_2, .int .i64 a1_3, .int .i64 a1_4, .int .i64 a1_5]) (t := 26) ?_; intro gb353 hg w28 hbox hb; have n0_ := Aside0.mk (below_step bl_ hb); have n1_ := Aside0.mk (hbox); have n2_ := Aside0.mk ((by rw [hg]; exact (below_size bl_) : w.heap.size ≤ gb353)); have n3_ := Aside0.mk ((by rw [hg]; exact (below_size bl_) : w.heap.size ≤ gb353)); clear HB; have HB := n0_; have BK353 := n1_; have GW353 := n2_; have GE353 := n3_; clear n0_ n1_ n2_ n3_; clear hb hbox hg) | ((with_reducible refine gate_dst (N := 5) rfl ?_); refine be_ (N := 5) (cs := #[.slice A2_0 l2_0.length c2_0, .int .i64 a2_1, .int .i64 a2_2, .int .i64 a2_3]) (t := 30) ?_; intro gb354 hg w29 hbox hb; have n0_ := Aside0.mk (blk_below (bkt_ BK353) hb); have n1_ := Aside0.mk (below_step bls_ hb); have n2_ := Aside0.mk (hbox); have n3_ := Aside0.mk ((by rw [hg]; exact (below_size bls_) : w.heap.size ≤ gb354)); have n4_ := Aside0.mk ((by rw [hg]; exact (below_size bls_) : w.heap.size ≤ gb354)); have n5_ := Aside0.mk ((by rw [hg]; exact Nat.ne_of_lt (blk_lt (bkt_ BK353)) : gb353 ≠ gb354)); have n6_ := Aside0.mk ((by rw [hg]; exact Nat.ne_of_gt (blk_lt (bkt_ BK353)) : gb354 ≠ gb353)); clear BK353; clear HB; have BK353 := n0_; have HB := n1_; have BK354 := n2_; have GW354 := n3_; have GE354 := n4_; have NB353_354 := n5_; have NB354_353 := n6_; clear n0_ n1_ n2_ n3_ n4_ n5_ n6_; clear hb hbox hg) | ((with_reducible refine gate_callee (f := 9) rfl ?_); refine gl_ (some 11) Tryd.func9 #[] ?_; (with_reducible refine (spilelaw30_awake.calls  true _ A4.out).mono ?_); rintro e w30 ⟨rfl, hb⟩; refine ⟨_, rfl, ?_⟩; have n0_ := Aside0.mk (blk_below (bkt_ BK353) hb); have n1_ := Aside0.mk (blk_below (bkt_ BK354) hb); have n2_ := Aside0.mk (below_step bls_ hb); clear BK353; clear BK354; clear HB; have BK353 := n0_; have BK354 := n1_; have HB := n2_; clear n0_ n1_ n2_; (try clear hb); (try clear hb2); (try clear hk); (try clear hi); have hnb31 := NB353_354.out; have hnc31 := NB354_353.out; obtain ⟨hcz32_0, hcz32_1, hcz32_2, hcz32_3, hcz32_4, hcz32_5⟩ := bc6_ BK353; obtain ⟨hfz32_0, hfz32_1, hfz32_2, hfz32_3, hfz32_4, hfz32_5⟩ := bf6_ BK353; obtain ⟨hcz33_0, hcz33_1, hcz33_2, hcz33_3⟩ := bc4_ BK354; obtain ⟨hfz33_0, hfz33_1, hfz33_2⟩ := bf3_ BK354; have hfz33_3 := blk_frozen BK354.out 3) | ((with_reducible refine gate_callee (f := 10) rfl ?_); refine gl_ (some 16) Tryd.func10 #[.slice A0 l0.length c0, .agg #[.slice A1_0 l1_0.length c1_0, .slice A1_1 l1_1.length c1_1, .slice A1_2 l1_2.length c1_2, .int .i64 a1_3, .int .i64 a1_4, .int .i64 a1_5], .agg #[.slice A2_0 l2_0.length c2_0, .int .i64 a2_1, .int .i64 a2_2, .int .i64 a2_3]] ?_; (with_reducible refine (spilelaw30_few.calls _ _ l0 _ _ l1_0 _ _ l1_1 _ _ l1_2 a1_3 a1_4 a1_5 _ _ l2_0 a2_1 a2_2 a2_3 true _ ?side1 ?side2 ?side3 ?side4 ?side5 ?side6 ?side7 ?side8 ?side9 ?side10 A6.out).mono ?_); (case side1 => exact kc_ HR0); (case side2 => exact HC0.out); (case side3 => exact kc_ HR1_0); (case side4 => exact HC1_0.out); (case side5 => exact kc_ HR1_1); (case side6 => exact HC1_1.out); (case side7 => exact kc_ HR1_2); (case side8 => exact HC1_2.out); (case side9 => exact kc_ HR2_0); (case side10 => exact HC2_0.out); rintro e w34 ⟨rfl, hb⟩; refine ⟨_, rfl, ?_⟩; have n0_ := Aside0.mk (blk_below (bkt_ BK353) hb); have n1_ := Aside0.mk (blk_below (bkt_ BK354) hb); have n2_ := Aside0.mk (below_step bls_ hb); clear BK353; clear BK354; clear HB; have BK353 := n0_; have BK354 := n1_; have HB := n2_; clear n0_ n1_ n2_; (try clear hb); (try clear hb2); (try clear hk); (try clear hi); obtain ⟨hcz35_0, hcz35_1, hcz35_2, hcz35_3⟩ := bc4_ BK354; obtain ⟨hfz35_0, hfz35_1, hfz35_2⟩ := bf3_ BK354; have hfz35_3 := blk_frozen BK354.out 3) | ((with_reducible refine gate_callee (f := 17) rfl ?_); refine gl_ (some 20) Tryd.func17 #[.agg #[.slice A2_0 l2_0.length c2_0, .int .i64 a2_1, .int .i64 a2_2, .int .i64 a2_3]] ?_; (with_reducible refine (refusal_Why.calls _ _ l2_0 a2_1 a2_2 a2_3 t357 t358 _ ?side1 ?side2 A8.out).mono ?_); (case side1 => exact kc_ HR2_0); (case side2 => exact HC2_0.out); rintro e w36 ⟨rfl, hb⟩; refine ⟨_, rfl, ?_⟩; have n0_ := Aside0.mk (blk_below (bkt_ BK353) hb); have n1_ := Aside0.mk (blk_below (bkt_ BK354) hb); have n2_ := Aside0.mk (below_step bls_ hb); clear BK353; clear BK354; clear HB; have BK353 := n0_; have BK354 := n1_; have HB := n2_; clear n0_ n1_ n2_; (try clear hb); (try clear hb2); (try clear hk); (try clear hi); obtain ⟨hcz37_0, hcz37_1, hcz37_2, hcz37_3⟩ := bc4_ BK354; obtain ⟨hfz37_0, hfz37_1, hfz37_2⟩ := bf3_ BK354; have hfz37_3 := blk_frozen BK354.out 3) | ((with_reducible refine gate_callee (f := 18) rfl ?_); refine gl_ (some 25) Tryd.func18 #[.agg #[.slice A2_0 l2_0.length c2_0, .int .i64 a2_1, .int .i64 a2_2, .int .i64 a2_3]] ?_; (with_reducible refine (spileref30_Why.calls k _ _ l2_0 a2_1 a2_2 a2_3 t359 t360 _ ?side1 ?side2 A9.out).mono ?_); (case side1 => exact kc_ HR2_0); (case side2 => exact HC2_0.out); rintro e w38 ⟨rfl, hb⟩; refine ⟨_, rfl, ?_⟩; have n0_ := Aside0.mk (blk_below (bkt_ BK353) hb); have n1_ := Aside0.mk (blk_below (bkt_ BK354) hb); have n2_ := Aside0.mk (below_step bls_ hb); clear BK353; clear BK354; clear HB; have BK353 := n0_; have BK354 := n1_; have HB := n2_; clear n0_ n1_ n2_; (try clear hb); (try clear hb2); (try clear hk); (try clear hi)))
     have n0_ := Aside0.mk (blk_drew BK353.out)
     have n1_ := Aside0.mk (blk_drew BK354.out)
     have n2_ := Aside0.mk (below_drew1 HB.out)
     clear BK353
     clear BK354
     clear HB
     have BK353 := n0_
     have BK354 := n1_
     have HB := n2_
     clear n0_ n1_ n2_
     refine start_ (n := 20) (S := fun w' => w'.cell? ⟨gb353, 0, none⟩ = some (.slice A1_0 l1_0.length c1_0) ∧ w'.cell? ⟨gb353, 1, none⟩ = some (.slice A1_1 l1_1.length c1_1) ∧ w'.cell? ⟨gb353, 2, none⟩ = some (.slice A1_2 l1_2.length c1_2) ∧ w'.cell? ⟨gb353, 3, none⟩ = some (.int .i64 a1_3) ∧ w'.cell? ⟨gb353, 4, none⟩ = some (.int .i64 a1_4) ∧ w'.cell? ⟨gb353, 5, none⟩ = some (.int .i64 a1_5) ∧ w'.cell? ⟨gb354, 0, none⟩ = some (.slice A2_0 l2_0.length c2_0) ∧ w'.cell? ⟨gb354, 1, none⟩ = some (.int .i64 a2_1) ∧ w'.cell? ⟨gb354, 2, none⟩ = some (.int .i64 a2_2) ∧ w'.cell? ⟨gb354, 3, none⟩ = some (.int .i64 a2_3)) (ds := []) #[false, false, false, false, false, false, false, false, false, false, false, false, false, false, false, false, false, false, false, false] (by kernel_rfl) rfl rfl ⟨(blk_cell BK353.out 0).trans rfl, (blk_cell BK353.out 1).trans rfl, (blk_cell BK353.out 2).trans rfl, (blk_cell BK353.out 3).trans rfl, (blk_cell BK353.out 4).trans rfl, (blk_cell BK353.out 5).trans rfl, (blk_cell BK354.out 0).trans rfl, (blk_cell BK354.out 1).trans rfl, (blk_cell BK354.out 2).trans rfl, (blk_cell BK354.out 3).trans rfl⟩ (fun hHeld => ?_); refine with_tabW spilelaw30_RefusalChecks.tab7 spilelaw30_RefusalChecks.bits7 (fun HT_ HW_ => ?_)
     generalize w38.drew = w39 at BK353 BK354 HB hHeld ⊢
     refine pure_ (i := 0) (N := some 28) (v := ?_) (a' := ?_) #[true, false, false, false, false, false, false, false, false, false, false, false, false, false, false, false, false, false, false, false] rfl rfl (any_of HT_.out (by kernel_rfl)) (fun _ _ _ h => h) (Or.inl ⟨by rfl, ?_⟩) ?_ ?_
     rotate_left
     ·intro w'
      go_simp
      with_reducible rfl
     rotate_left
     ·simp only [Act.put, List.setIfInBounds_toArray, List.set_cons_zero, List.set_cons_succ, i64_w, i32_w]
      rfl
     refine pure_ (i := 4) (N := some 32) (v := ?_) (a' := ?_) #[true, false, false, false, true, false, false, false, false, false, false, false, false, false, false, false, false, false, false, false] rfl rfl (any_of HT_.out (by kernel_rfl)) (fun _ _ _ h => h) (Or.inl ⟨by rfl, ?_⟩) ?_ ?_
     rotate_left
     ·intro w'
      go_simp
      with_reducible rfl
     rotate_left
     ·simp only [Act.put, List.setIfInBounds_toArray, List.set_cons_zero, List.set_cons_succ, i64_w, i32_w]
      rfl
     refine take_ (i := 1) (N := some 29) (v := ?_) (a' := ?_) #[true, true, false, false, true, false, false, false, false, false, false, false, false, false, false, false, false, false, false, false] rfl rfl (take_ofW HT_.out HW_.out (by kernel_rfl)) (fun _ _ _ h => h) (Or.inl ⟨by rfl, ?_⟩) hHeld ?_ ?_
     rotate_left
     ·rintro w' ⟨s0, s1, s2, s3, s4, s5, s6, s7, s8, s9⟩
      go_simp
      with_reducible rfl
     rotate_left
     ·simp only [Act.put, List.setIfInBounds_toArray, List.set_cons_zero, List.set_cons_succ, i64_w, i32_w]
      rfl
     refine take_ (i := 2) (N := some 30) (v := ?_) (a' := ?_) #[true, true, true, false, true, false, false, false, false, false, false, false, false, false, false, false, false, false, false, false] rfl rfl (take_ofW HT_.out HW_.out (by kernel_rfl)) (fun _ _ _ h => h) (Or.inl ⟨by rfl, ?_⟩) hHeld ?_ ?_
     rotate_left
     ·rintro w' ⟨s0, s1, s2, s3, s4, s5, s6, s7, s8, s9⟩
      go_simp
      with_reducible rfl
     rotate_left
     ·simp only [Act.put, List.setIfInBounds_toArray, List.set_cons_zero, List.set_cons_succ, i64_w, i32_w]
      rfl
     refine take_ (i := 5) (N := some 33) (v := ?_) (a' := ?_) #[true, true, true, false, true, true, false, false, false, false, false, false, false, false, false, false, false, false, false, false] rfl rfl (take_ofW HT_.out HW_.out (by kernel_rfl)) (fun _ _ _ h => h) (Or.inl ⟨by rfl, ?_⟩) hHeld ?_ ?_
     rotate_left
     ·rintro w' ⟨s0, s1, s2, s3, s4, s5, s6, s7, s8, s9⟩
      go_simp
      with_reducible rfl
     rotate_left
     ·simp only [Act.put, List.setIfInBounds_toArray, List.set_cons_zero, List.set_cons_succ, i64_w, i32_w]
      rfl
     refine take_ (i := 6) (N := some 34) (v := ?_) (a' := ?_) #[true, true, true, false, true, true, true, false, false, false, false, false, false, false, false, false, false, false, false, false] rfl rfl (take_ofW HT_.out HW_.out (by kernel_rfl)) (fun _ _ _ h => h) (Or.inl ⟨by rfl, ?_⟩) hHeld ?_ ?_
     rotate_left
     ·rintro w' ⟨s0, s1, s2, s3, s4, s5, s6, s7, s8, s9⟩
      go_simp
      with_reducible rfl
     rotate_left
     ·simp only [Act.put, List.setIfInBounds_toArray, List.set_cons_zero, List.set_cons_succ, i64_w, i32_w]
      rfl
     refine one_ (i := 3) (N := some 31) #[true, true, true, true, true, true, true, false, false, false, false, false, false, false, false, false, false, false, false, false] rfl rfl (one_of HT_.out (by kernel_rfl)) (by decide) (fun K hK => ?_)
     refine goes_ Tryd.func19 (by kernel_rfl) rfl #[.slice A0 l0.length c0, .agg #[.slice A1_0 l1_0.length c1_0, .slice A1_1 l1_1.length c1_1, .slice A1_2 l1_2.length c1_2, .int .i64 a1_3, .int .i64 a1_4, .int .i64 a1_5], .agg #[.slice A2_0 l2_0.length c2_0, .int .i64 a2_1, .int .i64 a2_2, .int .i64 a2_3]] (by rfl) rfl rfl (by (try simp only [List.map_toArray, List.map_cons, List.map_nil]); first | done | rfl | (simp only [List.length_drop, List.length_take]; rfl)) ?_
     with_reducible refine (refusal_Check.calls k _ _ l0 _ _ l1_0 _ _ l1_1 _ _ l1_2 a1_3 a1_4 a1_5 _ _ l2_0 a2_1 a2_2 a2_3 t361 _ ?side1 ?side2 ?side3 ?side4 ?side5 ?side6 ?side7 ?side8 ?side9 ?side10 A10.out).mono ?_
     (case side1 => exact kc_ HR0)
     (case side2 => exact HC0.out)
     (case side3 => exact kc_ HR1_0)
     (case side4 => exact HC1_0.out)
     (case side5 => exact kc_ HR1_1)
     (case side6 => exact HC1_1.out)
     (case side7 => exact kc_ HR1_2)
     (case side8 => exact HC1_2.out)
     (case side9 => exact kc_ HR2_0)
     (case side10 => exact HC2_0.out)
     rintro e w40 ⟨rfl, hb⟩
     refine ⟨_, rfl, ?_⟩
     have n0_ := Aside0.mk (blk_below (bkt_ BK353) hb)
     have n1_ := Aside0.mk (blk_below (bkt_ BK354) hb)
     have n2_ := Aside0.mk (below_step bls_ hb)
     clear BK353
     clear BK354
     clear HB
     have BK353 := n0_
     have BK354 := n1_
     have HB := n2_
     clear n0_ n1_ n2_
     (try clear hb)
     (try clear hb2)
     (try clear hk)
     (try clear hi)
     refine hK.out _ _ ⟨(blk_cell BK353.out 0).trans rfl, (blk_cell BK353.out 1).trans rfl, (blk_cell BK353.out 2).trans rfl, (blk_cell BK353.out 3).trans rfl, (blk_cell BK353.out 4).trans rfl, (blk_cell BK353.out 5).trans rfl, (blk_cell BK354.out 0).trans rfl, (blk_cell BK354.out 1).trans rfl, (blk_cell BK354.out 2).trans rfl, (blk_cell BK354.out 3).trans rfl⟩ (fun hHeld => ?_)
     clear hK K
     refine norm_ (a' := ?_) ?_ ?_
     rotate_left
     ·show Act.put _ (some 31) _ = _
      simp only [Act.put, List.setIfInBounds_toArray, List.set_cons_zero, List.set_cons_succ, i64_w, i32_w]
      rfl
     refine one_ (i := 7) (N := some 35) #[true, true, true, true, true, true, true, true, false, false, false, false, false, false, false, false, false, false, false, false] rfl rfl (one_of HT_.out (by kernel_rfl)) (by decide) (fun K hK => ?_)
     refine goes_ Tryd.func20 (by kernel_rfl) rfl #[.slice A0 l0.length c0, .agg #[.slice A1_0 l1_0.length c1_0, .slice A1_1 l1_1.length c1_1, .slice A1_2 l1_2.length c1_2, .int .i64 a1_3, .int .i64 a1_4, .int .i64 a1_5], .agg #[.slice A2_0 l2_0.length c2_0, .int .i64 a2_1, .int .i64 a2_2, .int .i64 a2_3]] (by rfl) rfl rfl (by (try simp only [List.map_toArray, List.map_cons, List.map_nil]); first | done | rfl | (simp only [List.length_drop, List.length_take]; rfl)) ?_
     with_reducible refine (spileref30_Check.calls k _ _ l0 _ _ l1_0 _ _ l1_1 _ _ l1_2 a1_3 a1_4 a1_5 _ _ l2_0 a2_1 a2_2 a2_3 t362 _ ?side1 ?side2 ?side3 ?side4 ?side5 ?side6 ?side7 ?side8 ?side9 ?side10 A11.out).mono ?_
     (case side1 => exact kc_ HR0)
     (case side2 => exact HC0.out)
     (case side3 => exact kc_ HR1_0)
     (case side4 => exact HC1_0.out)
     (case side5 => exact kc_ HR1_1)
     (case side6 => exact HC1_1.out)
     (case side7 => exact kc_ HR1_2)
     (case side8 => exact HC1_2.out)
     (case side9 => exact kc_ HR2_0)
     (case side10 => exact HC2_0.out)
     rintro e w41 ⟨rfl, hb⟩
     refine ⟨_, rfl, ?_⟩
     have n0_ := Aside0.mk (blk_below (bkt_ BK353) hb)
     have n1_ := Aside0.mk (blk_below (bkt_ BK354) hb)
     have n2_ := Aside0.mk (below_step bls_ hb)
     clear BK353
     clear BK354
     clear HB
     have BK353 := n0_
     have BK354 := n1_
     have HB := n2_
     clear n0_ n1_ n2_
     (try clear hb)
     (try clear hb2)
     (try clear hk)
     (try clear hi)
     refine hK.out _ _ ⟨(blk_cell BK353.out 0).trans rfl, (blk_cell BK353.out 1).trans rfl, (blk_cell BK353.out 2).trans rfl, (blk_cell BK353.out 3).trans rfl, (blk_cell BK353.out 4).trans rfl, (blk_cell BK353.out 5).trans rfl, (blk_cell BK354.out 0).trans rfl, (blk_cell BK354.out 1).trans rfl, (blk_cell BK354.out 2).trans rfl, (blk_cell BK354.out 3).trans rfl⟩ (fun hHeld => ?_)
     clear hK K
     refine norm_ (a' := ?_) ?_ ?_
     rotate_left
     ·show Act.put _ (some 35) _ = _
      simp only [Act.put, List.setIfInBounds_toArray, List.set_cons_zero, List.set_cons_succ, i64_w, i32_w]
      rfl
     refine pure_ (i := 8) (N := some 36) (v := ?_) (a' := ?_) #[true, true, true, true, true, true, true, true, true, false, false, false, false, false, false, false, false, false, false, false] rfl rfl (any_of HT_.out (by kernel_rfl)) (fun _ _ _ h => h) (Or.inl ⟨by rfl, ?_⟩) ?_ ?_
     rotate_left
     ·intro w'
      go_simp
      with_reducible rfl
     rotate_left
     ·simp only [Act.put, List.setIfInBounds_toArray, List.set_cons_zero, List.set_cons_succ, i64_w, i32_w]
      rfl
     refine pure_ (i := 9) (N := some 37) (v := ?_) (a' := ?_) #[true, true, true, true, true, true, true, true, true, true, false, false, false, false, false, false, false, false, false, false] rfl rfl (any_of HT_.out (by kernel_rfl)) (fun _ _ _ h => h) (Or.inl ⟨by rfl, ?_⟩) ?_ ?_
     rotate_left
     ·intro w'
      go_simp
      with_reducible rfl
     rotate_left
     ·simp only [Act.put, List.setIfInBounds_toArray, List.set_cons_zero, List.set_cons_succ, i64_w, i32_w]
      rfl
     refine pure_ (i := 10) (N := some 38) (v := ?_) (a' := ?_) #[true, true, true, true, true, true, true, true, true, true, true, false, false, false, false, false, false, false, false, false] rfl rfl (any_of HT_.out (by kernel_rfl)) (fun _ _ _ h => h) (Or.inl ⟨by rfl, ?_⟩) ?_ ?_
     rotate_left
     ·intro w'
      go_simp
      with_reducible rfl
     rotate_left
     ·simp only [Act.put, List.setIfInBounds_toArray, List.set_cons_zero, List.set_cons_succ, i64_w, i32_w]
      rfl
     refine pure_ (i := 11) (N := some 39) (v := ?_) (a' := ?_) #[true, true, true, true, true, true, true, true, true, true, true, true, false, false, false, false, false, false, false, false] rfl rfl (any_of HT_.out (by kernel_rfl)) (fun _ _ _ h => h) (Or.inl ⟨by rfl, ?_⟩) ?_ ?_
     rotate_left
     ·intro w'
      go_simp
      with_reducible rfl
     rotate_left
     ·simp only [Act.put, List.setIfInBounds_toArray, List.set_cons_zero, List.set_cons_succ, i64_w, i32_w]
      rfl
     refine pure_ (i := 12) (N := some 40) (v := ?_) (a' := ?_) #[true, true, true, true, true, true, true, true, true, true, true, true, true, false, false, false, false, false, false, false] rfl rfl (any_of HT_.out (by kernel_rfl)) (fun _ _ _ h => h) (Or.inl ⟨by rfl, ?_⟩) ?_ ?_
     rotate_left
     ·intro w'
      go_simp
      with_reducible rfl
     rotate_left
     ·simp only [Act.put, List.setIfInBounds_toArray, List.set_cons_zero, List.set_cons_succ, i64_w, i32_w]
      rfl
     refine pure_ (i := 13) (N := some 41) (v := ?_) (a' := ?_) #[true, true, true, true, true, true, true, true, true, true, true, true, true, true, false, false, false, false, false, false] rfl rfl (any_of HT_.out (by kernel_rfl)) (fun _ _ _ h => h) (Or.inl ⟨by rfl, ?_⟩) ?_ ?_
     rotate_left
     ·intro w'
      go_simp
      with_reducible rfl
     rotate_left
     ·simp only [Act.put, List.setIfInBounds_toArray, List.set_cons_zero, List.set_cons_succ, i64_w, i32_w]
      rfl
     refine pure_ (i := 14) (N := some 42) (v := ?_) (a' := ?_) #[true, true, true, true, true, true, true, true, true, true, true, true, true, true, true, false, false, false, false, false] rfl rfl (any_of HT_.out (by kernel_rfl)) (fun _ _ _ h => h) (Or.inl ⟨by rfl, ?_⟩) ?_ ?_
     rotate_left
     ·intro w'
      go_simp
      with_reducible rfl
     rotate_left
     ·simp only [Act.put, List.setIfInBounds_toArray, List.set_cons_zero, List.set_cons_succ, i64_w, i32_w]
      rfl
     refine pure_ (i := 15) (N := some 43) (v := undef) (a' := ?_) #[true, true, true, true, true, true, true, true, true, true, true, true, true, true, true, true, false, false, false, false] rfl rfl (any_of HT_.out (by kernel_rfl)) (fun _ _ _ h => h) (Or.inr ⟨by rfl, rfl⟩) ?_ ?_
     rotate_left
     ·simp only [Act.put, List.setIfInBounds_toArray, List.set_cons_zero, List.set_cons_succ, i64_w, i32_w]
      rfl
     refine pure_ (i := 16) (N := some 44) (v := undef) (a' := ?_) #[true, true, true, true, true, true, true, true, true, true, true, true, true, true, true, true, true, false, false, false] rfl rfl (any_of HT_.out (by kernel_rfl)) (fun _ _ _ h => h) (Or.inr ⟨by rfl, rfl⟩) ?_ ?_
     rotate_left
     ·simp only [Act.put, List.setIfInBounds_toArray, List.set_cons_zero, List.set_cons_succ, i64_w, i32_w]
      rfl
     refine pure_ (i := 17) (N := some 45) (v := undef) (a' := ?_) #[true, true, true, true, true, true, true, true, true, true, true, true, true, true, true, true, true, true, false, false] rfl rfl (any_of HT_.out (by kernel_rfl)) (fun _ _ _ h => h) (Or.inr ⟨by rfl, rfl⟩) ?_ ?_
     rotate_left
     ·simp only [Act.put, List.setIfInBounds_toArray, List.set_cons_zero, List.set_cons_succ, i64_w, i32_w]
      rfl
     refine pure_ (i := 18) (N := some 46) (v := ?_) (a' := ?_) #[true, true, true, true, true, true, true, true, true, true, true, true, true, true, true, true, true, true, true, false] rfl rfl (any_of HT_.out (by kernel_rfl)) (fun _ _ _ h => h) (Or.inl ⟨by rfl, ?_⟩) ?_ ?_
     rotate_left
     ·intro w'
      go_simp
      with_reducible rfl
     rotate_left
     ·simp only [Act.put, List.setIfInBounds_toArray, List.set_cons_zero, List.set_cons_succ, i64_w, i32_w]
      rfl
     refine pure_ (i := 19) (N := some 6) (v := ?_) (a' := ?_) #[true, true, true, true, true, true, true, true, true, true, true, true, true, true, true, true, true, true, true, true] rfl rfl (any_of HT_.out (by kernel_rfl)) (fun _ _ _ h => h) (Or.inl ⟨by rfl, ?_⟩) ?_ ?_
     rotate_left
     ·intro w'
      go_simp
      with_reducible rfl
     rotate_left
     ·simp only [Act.put, List.setIfInBounds_toArray, List.set_cons_zero, List.set_cons_succ, i64_w, i32_w]
      rfl
     refine done_ (done_of HT_.out (by kernel_rfl)) ?_
     try go_wp2
     go_ret
     exact ⟨fin_, bls_⟩
   ·rw [if_neg c12] at H
    have c12b0 : (t361 == t362) = false := beq_eq_false_iff_ne.mpr c12
    have c12b1 : (t361 != t362) = true := bne_iff_ne.mpr c12
    obtain rfl := Option.some.inj H
    go_enter Tryd.func4, Tryd.ntmps4
    try go_wp2_with (first | ((with_reducible refine gate_dst (N := 4) rfl ?_); refine be_ (N := 4) (cs := #[.slice A1_0 l1_0.length c1_0, .slice A1_1 l1_1.length c1_1, .slice A1_2 l1_2.length c1_2, .int .i64 a1_3, .int .i64 a1_4, .int .i64 a1_5]) (t := 26) ?_; intro gb353 hg w42 hbox hb; have n0_ := Aside0.mk (below_step bl_ hb); have n1_ := Aside0.mk (hbox); have n2_ := Aside0.mk ((by rw [hg]; exact (below_size bl_) : w.heap.size ≤ gb353)); have n3_ := Aside0.mk ((by rw [hg]; exact (below_size bl_) : w.heap.size ≤ gb353)); clear HB; have HB := n0_; have BK353 := n1_; have GW353 := n2_; have GE353 := n3_; clear n0_ n1_ n2_ n3_; clear hb hbox hg) | ((with_reducible refine gate_dst (N := 5) rfl ?_); refine be_ (N := 5) (cs := #[.slice A2_0 l2_0.length c2_0, .int .i64 a2_1, .int .i64 a2_2, .int .i64 a2_3]) (t := 30) ?_; intro gb354 hg w43 hbox hb; have n0_ := Aside0.mk (blk_below (bkt_ BK353) hb); have n1_ := Aside0.mk (below_step bls_ hb); have n2_ := Aside0.mk (hbox); have n3_ := Aside0.mk ((by rw [hg]; exact (below_size bls_) : w.heap.size ≤ gb354)); have n4_ := Aside0.mk ((by rw [hg]; exact (below_size bls_) : w.heap.size ≤ gb354)); have n5_ := Aside0.mk ((by rw [hg]; exact Nat.ne_of_lt (blk_lt (bkt_ BK353)) : gb353 ≠ gb354)); have n6_ := Aside0.mk ((by rw [hg]; exact Nat.ne_of_gt (blk_lt (bkt_ BK353)) : gb354 ≠ gb353)); clear BK353; clear HB; have BK353 := n0_; have HB := n1_; have BK354 := n2_; have GW354 := n3_; have GE354 := n4_; have NB353_354 := n5_; have NB354_353 := n6_; clear n0_ n1_ n2_ n3_ n4_ n5_ n6_; clear hb hbox hg) | ((with_reducible refine gate_callee (f := 9) rfl ?_); refine gl_ (some 11) Tryd.func9 #[] ?_; (with_reducible refine (spilelaw30_awake.calls  true _ A4.out).mono ?_); rintro e w44 ⟨rfl, hb⟩; refine ⟨_, rfl, ?_⟩; have n0_ := Aside0.mk (blk_below (bkt_ BK353) hb); have n1_ := Aside0.mk (blk_below (bkt_ BK354) hb); have n2_ := Aside0.mk (below_step bls_ hb); clear BK353; clear BK354; clear HB; have BK353 := n0_; have BK354 := n1_; have HB := n2_; clear n0_ n1_ n2_; (try clear hb); (try clear hb2); (try clear hk); (try clear hi); have hnb45 := NB353_354.out; have hnc45 := NB354_353.out; obtain ⟨hcz46_0, hcz46_1, hcz46_2, hcz46_3, hcz46_4, hcz46_5⟩ := bc6_ BK353; obtain ⟨hfz46_0, hfz46_1, hfz46_2, hfz46_3, hfz46_4, hfz46_5⟩ := bf6_ BK353; obtain ⟨hcz47_0, hcz47_1, hcz47_2, hcz47_3⟩ := bc4_ BK354; obtain ⟨hfz47_0, hfz47_1, hfz47_2⟩ := bf3_ BK354; have hfz47_3 := blk_frozen BK354.out 3) | ((with_reducible refine gate_callee (f := 10) rfl ?_); refine gl_ (some 16) Tryd.func10 #[.slice A0 l0.length c0, .agg #[.slice A1_0 l1_0.length c1_0, .slice A1_1 l1_1.length c1_1, .slice A1_2 l1_2.length c1_2, .int .i64 a1_3, .int .i64 a1_4, .int .i64 a1_5], .agg #[.slice A2_0 l2_0.length c2_0, .int .i64 a2_1, .int .i64 a2_2, .int .i64 a2_3]] ?_; (with_reducible refine (spilelaw30_few.calls _ _ l0 _ _ l1_0 _ _ l1_1 _ _ l1_2 a1_3 a1_4 a1_5 _ _ l2_0 a2_1 a2_2 a2_3 true _ ?side1 ?side2 ?side3 ?side4 ?side5 ?side6 ?side7 ?side8 ?side9 ?side10 A6.out).mono ?_); (case side1 => exact kc_ HR0); (case side2 => exact HC0.out); (case side3 => exact kc_ HR1_0); (case side4 => exact HC1_0.out); (case side5 => exact kc_ HR1_1); (case side6 => exact HC1_1.out); (case side7 => exact kc_ HR1_2); (case side8 => exact HC1_2.out); (case side9 => exact kc_ HR2_0); (case side10 => exact HC2_0.out); rintro e w48 ⟨rfl, hb⟩; refine ⟨_, rfl, ?_⟩; have n0_ := Aside0.mk (blk_below (bkt_ BK353) hb); have n1_ := Aside0.mk (blk_below (bkt_ BK354) hb); have n2_ := Aside0.mk (below_step bls_ hb); clear BK353; clear BK354; clear HB; have BK353 := n0_; have BK354 := n1_; have HB := n2_; clear n0_ n1_ n2_; (try clear hb); (try clear hb2); (try clear hk); (try clear hi); obtain ⟨hcz49_0, hcz49_1, hcz49_2, hcz49_3⟩ := bc4_ BK354; obtain ⟨hfz49_0, hfz49_1, hfz49_2⟩ := bf3_ BK354; have hfz49_3 := blk_frozen BK354.out 3) | ((with_reducible refine gate_callee (f := 17) rfl ?_); refine gl_ (some 20) Tryd.func17 #[.agg #[.slice A2_0 l2_0.length c2_0, .int .i64 a2_1, .int .i64 a2_2, .int .i64 a2_3]] ?_; (with_reducible refine (refusal_Why.calls _ _ l2_0 a2_1 a2_2 a2_3 t357 t358 _ ?side1 ?side2 A8.out).mono ?_); (case side1 => exact kc_ HR2_0); (case side2 => exact HC2_0.out); rintro e w50 ⟨rfl, hb⟩; refine ⟨_, rfl, ?_⟩; have n0_ := Aside0.mk (blk_below (bkt_ BK353) hb); have n1_ := Aside0.mk (blk_below (bkt_ BK354) hb); have n2_ := Aside0.mk (below_step bls_ hb); clear BK353; clear BK354; clear HB; have BK353 := n0_; have BK354 := n1_; have HB := n2_; clear n0_ n1_ n2_; (try clear hb); (try clear hb2); (try clear hk); (try clear hi); obtain ⟨hcz51_0, hcz51_1, hcz51_2, hcz51_3⟩ := bc4_ BK354; obtain ⟨hfz51_0, hfz51_1, hfz51_2⟩ := bf3_ BK354; have hfz51_3 := blk_frozen BK354.out 3) | ((with_reducible refine gate_callee (f := 18) rfl ?_); refine gl_ (some 25) Tryd.func18 #[.agg #[.slice A2_0 l2_0.length c2_0, .int .i64 a2_1, .int .i64 a2_2, .int .i64 a2_3]] ?_; (with_reducible refine (spileref30_Why.calls k _ _ l2_0 a2_1 a2_2 a2_3 t359 t360 _ ?side1 ?side2 A9.out).mono ?_); (case side1 => exact kc_ HR2_0); (case side2 => exact HC2_0.out); rintro e w52 ⟨rfl, hb⟩; refine ⟨_, rfl, ?_⟩; have n0_ := Aside0.mk (blk_below (bkt_ BK353) hb); have n1_ := Aside0.mk (blk_below (bkt_ BK354) hb); have n2_ := Aside0.mk (below_step bls_ hb); clear BK353; clear BK354; clear HB; have BK353 := n0_; have BK354 := n1_; have HB := n2_; clear n0_ n1_ n2_; (try clear hb); (try clear hb2); (try clear hk); (try clear hi)))
    have n0_ := Aside0.mk (blk_drew BK353.out)
    have n1_ := Aside0.mk (blk_drew BK354.out)
    have n2_ := Aside0.mk (below_drew1 HB.out)
    clear BK353
    clear BK354
    clear HB
    have BK353 := n0_
    have BK354 := n1_
    have HB := n2_
    clear n0_ n1_ n2_
    refine start_ (n := 20) (S := fun w' => w'.cell? ⟨gb353, 0, none⟩ = some (.slice A1_0 l1_0.length c1_0) ∧ w'.cell? ⟨gb353, 1, none⟩ = some (.slice A1_1 l1_1.length c1_1) ∧ w'.cell? ⟨gb353, 2, none⟩ = some (.slice A1_2 l1_2.length c1_2) ∧ w'.cell? ⟨gb353, 3, none⟩ = some (.int .i64 a1_3) ∧ w'.cell? ⟨gb353, 4, none⟩ = some (.int .i64 a1_4) ∧ w'.cell? ⟨gb353, 5, none⟩ = some (.int .i64 a1_5) ∧ w'.cell? ⟨gb354, 0, none⟩ = some (.slice A2_0 l2_0.length c2_0) ∧ w'.cell? ⟨gb354, 1, none⟩ = some (.int .i64 a2_1) ∧ w'.cell? ⟨gb354, 2, none⟩ = some (.int .i64 a2_2) ∧ w'.cell? ⟨gb354, 3, none⟩ = some (.int .i64 a2_3)) (ds := []) #[false, false, false, false, false, false, false, false, false, false, false, false, false, false, false, false, false, false, false, false] (by kernel_rfl) rfl rfl ⟨(blk_cell BK353.out 0).trans rfl, (blk_cell BK353.out 1).trans rfl, (blk_cell BK353.out 2).trans rfl, (blk_cell BK353.out 3).trans rfl, (blk_cell BK353.out 4).trans rfl, (blk_cell BK353.out 5).trans rfl, (blk_cell BK354.out 0).trans rfl, (blk_cell BK354.out 1).trans rfl, (blk_cell BK354.out 2).trans rfl, (blk_cell BK354.out 3).trans rfl⟩ (fun hHeld => ?_); refine with_tabW spilelaw30_RefusalChecks.tab7 spilelaw30_RefusalChecks.bits7 (fun HT_ HW_ => ?_)
    generalize w52.drew = w53 at BK353 BK354 HB hHeld ⊢
    refine pure_ (i := 0) (N := some 28) (v := ?_) (a' := ?_) #[true, false, false, false, false, false, false, false, false, false, false, false, false, false, false, false, false, false, false, false] rfl rfl (any_of HT_.out (by kernel_rfl)) (fun _ _ _ h => h) (Or.inl ⟨by rfl, ?_⟩) ?_ ?_
    rotate_left
    ·intro w'
     go_simp
     with_reducible rfl
    rotate_left
    ·simp only [Act.put, List.setIfInBounds_toArray, List.set_cons_zero, List.set_cons_succ, i64_w, i32_w]
     rfl
    refine pure_ (i := 4) (N := some 32) (v := ?_) (a' := ?_) #[true, false, false, false, true, false, false, false, false, false, false, false, false, false, false, false, false, false, false, false] rfl rfl (any_of HT_.out (by kernel_rfl)) (fun _ _ _ h => h) (Or.inl ⟨by rfl, ?_⟩) ?_ ?_
    rotate_left
    ·intro w'
     go_simp
     with_reducible rfl
    rotate_left
    ·simp only [Act.put, List.setIfInBounds_toArray, List.set_cons_zero, List.set_cons_succ, i64_w, i32_w]
     rfl
    refine take_ (i := 1) (N := some 29) (v := ?_) (a' := ?_) #[true, true, false, false, true, false, false, false, false, false, false, false, false, false, false, false, false, false, false, false] rfl rfl (take_ofW HT_.out HW_.out (by kernel_rfl)) (fun _ _ _ h => h) (Or.inl ⟨by rfl, ?_⟩) hHeld ?_ ?_
    rotate_left
    ·rintro w' ⟨s0, s1, s2, s3, s4, s5, s6, s7, s8, s9⟩
     go_simp
     with_reducible rfl
    rotate_left
    ·simp only [Act.put, List.setIfInBounds_toArray, List.set_cons_zero, List.set_cons_succ, i64_w, i32_w]
     rfl
    refine take_ (i := 2) (N := some 30) (v := ?_) (a' := ?_) #[true, true, true, false, true, false, false, false, false, false, false, false, false, false, false, false, false, false, false, false] rfl rfl (take_ofW HT_.out HW_.out (by kernel_rfl)) (fun _ _ _ h => h) (Or.inl ⟨by rfl, ?_⟩) hHeld ?_ ?_
    rotate_left
    ·rintro w' ⟨s0, s1, s2, s3, s4, s5, s6, s7, s8, s9⟩
     go_simp
     with_reducible rfl
    rotate_left
    ·simp only [Act.put, List.setIfInBounds_toArray, List.set_cons_zero, List.set_cons_succ, i64_w, i32_w]
     rfl
    refine take_ (i := 5) (N := some 33) (v := ?_) (a' := ?_) #[true, true, true, false, true, true, false, false, false, false, false, false, false, false, false, false, false, false, false, false] rfl rfl (take_ofW HT_.out HW_.out (by kernel_rfl)) (fun _ _ _ h => h) (Or.inl ⟨by rfl, ?_⟩) hHeld ?_ ?_
    rotate_left
    ·rintro w' ⟨s0, s1, s2, s3, s4, s5, s6, s7, s8, s9⟩
     go_simp
     with_reducible rfl
    rotate_left
    ·simp only [Act.put, List.setIfInBounds_toArray, List.set_cons_zero, List.set_cons_succ, i64_w, i32_w]
     rfl
    refine take_ (i := 6) (N := some 34) (v := ?_) (a' := ?_) #[true, true, true, false, true, true, true, false, false, false, false, false, false, false, false, false, false, false, false, false] rfl rfl (take_ofW HT_.out HW_.out (by kernel_rfl)) (fun _ _ _ h => h) (Or.inl ⟨by rfl, ?_⟩) hHeld ?_ ?_
    rotate_left
    ·rintro w' ⟨s0, s1, s2, s3, s4, s5, s6, s7, s8, s9⟩
     go_simp
     with_reducible rfl
    rotate_left
    ·simp only [Act.put, List.setIfInBounds_toArray, List.set_cons_zero, List.set_cons_succ, i64_w, i32_w]
     rfl
    refine one_ (i := 3) (N := some 31) #[true, true, true, true, true, true, true, false, false, false, false, false, false, false, false, false, false, false, false, false] rfl rfl (one_of HT_.out (by kernel_rfl)) (by decide) (fun K hK => ?_)
    refine goes_ Tryd.func19 (by kernel_rfl) rfl #[.slice A0 l0.length c0, .agg #[.slice A1_0 l1_0.length c1_0, .slice A1_1 l1_1.length c1_1, .slice A1_2 l1_2.length c1_2, .int .i64 a1_3, .int .i64 a1_4, .int .i64 a1_5], .agg #[.slice A2_0 l2_0.length c2_0, .int .i64 a2_1, .int .i64 a2_2, .int .i64 a2_3]] (by rfl) rfl rfl (by (try simp only [List.map_toArray, List.map_cons, List.map_nil]); first | done | rfl | (simp only [List.length_drop, List.length_take]; rfl)) ?_
    with_reducible refine (refusal_Check.calls k _ _ l0 _ _ l1_0 _ _ l1_1 _ _ l1_2 a1_3 a1_4 a1_5 _ _ l2_0 a2_1 a2_2 a2_3 t361 _ ?side1 ?side2 ?side3 ?side4 ?side5 ?side6 ?side7 ?side8 ?side9 ?side10 A10.out).mono ?_
    (case side1 => exact kc_ HR0)
    (case side2 => exact HC0.out)
    (case side3 => exact kc_ HR1_0)
    (case side4 => exact HC1_0.out)
    (case side5 => exact kc_ HR1_1)
    (case side6 => exact HC1_1.out)
    (case side7 => exact kc_ HR1_2)
    (case side8 => exact HC1_2.out)
    (case side9 => exact kc_ HR2_0)
    (case side10 => exact HC2_0.out)
    rintro e w54 ⟨rfl, hb⟩
    refine ⟨_, rfl, ?_⟩
    have n0_ := Aside0.mk (blk_below (bkt_ BK353) hb)
    have n1_ := Aside0.mk (blk_below (bkt_ BK354) hb)
    have n2_ := Aside0.mk (below_step bls_ hb)
    clear BK353
    clear BK354
    clear HB
    have BK353 := n0_
    have BK354 := n1_
    have HB := n2_
    clear n0_ n1_ n2_
    (try clear hb)
    (try clear hb2)
    (try clear hk)
    (try clear hi)
    refine hK.out _ _ ⟨(blk_cell BK353.out 0).trans rfl, (blk_cell BK353.out 1).trans rfl, (blk_cell BK353.out 2).trans rfl, (blk_cell BK353.out 3).trans rfl, (blk_cell BK353.out 4).trans rfl, (blk_cell BK353.out 5).trans rfl, (blk_cell BK354.out 0).trans rfl, (blk_cell BK354.out 1).trans rfl, (blk_cell BK354.out 2).trans rfl, (blk_cell BK354.out 3).trans rfl⟩ (fun hHeld => ?_)
    clear hK K
    refine norm_ (a' := ?_) ?_ ?_
    rotate_left
    ·show Act.put _ (some 31) _ = _
     simp only [Act.put, List.setIfInBounds_toArray, List.set_cons_zero, List.set_cons_succ, i64_w, i32_w]
     rfl
    refine one_ (i := 7) (N := some 35) #[true, true, true, true, true, true, true, true, false, false, false, false, false, false, false, false, false, false, false, false] rfl rfl (one_of HT_.out (by kernel_rfl)) (by decide) (fun K hK => ?_)
    refine goes_ Tryd.func20 (by kernel_rfl) rfl #[.slice A0 l0.length c0, .agg #[.slice A1_0 l1_0.length c1_0, .slice A1_1 l1_1.length c1_1, .slice A1_2 l1_2.length c1_2, .int .i64 a1_3, .int .i64 a1_4, .int .i64 a1_5], .agg #[.slice A2_0 l2_0.length c2_0, .int .i64 a2_1, .int .i64 a2_2, .int .i64 a2_3]] (by rfl) rfl rfl (by (try simp only [List.map_toArray, List.map_cons, List.map_nil]); first | done | rfl | (simp only [List.length_drop, List.length_take]; rfl)) ?_
    with_reducible refine (spileref30_Check.calls k _ _ l0 _ _ l1_0 _ _ l1_1 _ _ l1_2 a1_3 a1_4 a1_5 _ _ l2_0 a2_1 a2_2 a2_3 t362 _ ?side1 ?side2 ?side3 ?side4 ?side5 ?side6 ?side7 ?side8 ?side9 ?side10 A11.out).mono ?_
    (case side1 => exact kc_ HR0)
    (case side2 => exact HC0.out)
    (case side3 => exact kc_ HR1_0)
    (case side4 => exact HC1_0.out)
    (case side5 => exact kc_ HR1_1)
    (case side6 => exact HC1_1.out)
    (case side7 => exact kc_ HR1_2)
    (case side8 => exact HC1_2.out)
    (case side9 => exact kc_ HR2_0)
    (case side10 => exact HC2_0.out)
    rintro e w55 ⟨rfl, hb⟩
    refine ⟨_, rfl, ?_⟩
    have n0_ := Aside0.mk (blk_below (bkt_ BK353) hb)
    have n1_ := Aside0.mk (blk_below (bkt_ BK354) hb)
    have n2_ := Aside0.mk (below_step bls_ hb)
    clear BK353
    clear BK354
    clear HB
    have BK353 := n0_
    have BK354 := n1_
    have HB := n2_
    clear n0_ n1_ n2_
    (try clear hb)
    (try clear hb2)
    (try clear hk)
    (try clear hi)
    refine hK.out _ _ ⟨(blk_cell BK353.out 0).trans rfl, (blk_cell BK353.out 1).trans rfl, (blk_cell BK353.out 2).trans rfl, (blk_cell BK353.out 3).trans rfl, (blk_cell BK353.out 4).trans rfl, (blk_cell BK353.out 5).trans rfl, (blk_cell BK354.out 0).trans rfl, (blk_cell BK354.out 1).trans rfl, (blk_cell BK354.out 2).trans rfl, (blk_cell BK354.out 3).trans rfl⟩ (fun hHeld => ?_)
    clear hK K
    refine norm_ (a' := ?_) ?_ ?_
    rotate_left
    ·show Act.put _ (some 35) _ = _
     simp only [Act.put, List.setIfInBounds_toArray, List.set_cons_zero, List.set_cons_succ, i64_w, i32_w]
     rfl
    refine pure_ (i := 8) (N := some 36) (v := ?_) (a' := ?_) #[true, true, true, true, true, true, true, true, true, false, false, false, false, false, false, false, false, false, false, false] rfl rfl (any_of HT_.out (by kernel_rfl)) (fun _ _ _ h => h) (Or.inl ⟨by rfl, ?_⟩) ?_ ?_
    rotate_left
    ·intro w'
     go_simp
     with_reducible rfl
    rotate_left
    ·simp only [Act.put, List.setIfInBounds_toArray, List.set_cons_zero, List.set_cons_succ, i64_w, i32_w]
     rfl
    refine pure_ (i := 9) (N := some 37) (v := ?_) (a' := ?_) #[true, true, true, true, true, true, true, true, true, true, false, false, false, false, false, false, false, false, false, false] rfl rfl (any_of HT_.out (by kernel_rfl)) (fun _ _ _ h => h) (Or.inl ⟨by rfl, ?_⟩) ?_ ?_
    rotate_left
    ·intro w'
     go_simp
     with_reducible rfl
    rotate_left
    ·simp only [Act.put, List.setIfInBounds_toArray, List.set_cons_zero, List.set_cons_succ, i64_w, i32_w]
     rfl
    refine pure_ (i := 10) (N := some 38) (v := undef) (a' := ?_) #[true, true, true, true, true, true, true, true, true, true, true, false, false, false, false, false, false, false, false, false] rfl rfl (any_of HT_.out (by kernel_rfl)) (fun _ _ _ h => h) (Or.inr ⟨by rfl, rfl⟩) ?_ ?_
    rotate_left
    ·simp only [Act.put, List.setIfInBounds_toArray, List.set_cons_zero, List.set_cons_succ, i64_w, i32_w]
     rfl
    refine pure_ (i := 11) (N := some 39) (v := undef) (a' := ?_) #[true, true, true, true, true, true, true, true, true, true, true, true, false, false, false, false, false, false, false, false] rfl rfl (any_of HT_.out (by kernel_rfl)) (fun _ _ _ h => h) (Or.inr ⟨by rfl, rfl⟩) ?_ ?_
    rotate_left
    ·simp only [Act.put, List.setIfInBounds_toArray, List.set_cons_zero, List.set_cons_succ, i64_w, i32_w]
     rfl
    refine pure_ (i := 12) (N := some 40) (v := undef) (a' := ?_) #[true, true, true, true, true, true, true, true, true, true, true, true, true, false, false, false, false, false, false, false] rfl rfl (any_of HT_.out (by kernel_rfl)) (fun _ _ _ h => h) (Or.inr ⟨by rfl, rfl⟩) ?_ ?_
    rotate_left
    ·simp only [Act.put, List.setIfInBounds_toArray, List.set_cons_zero, List.set_cons_succ, i64_w, i32_w]
     rfl
    refine pure_ (i := 13) (N := some 41) (v := ?_) (a' := ?_) #[true, true, true, true, true, true, true, true, true, true, true, true, true, true, false, false, false, false, false, false] rfl rfl (any_of HT_.out (by kernel_rfl)) (fun _ _ _ h => h) (Or.inl ⟨by rfl, ?_⟩) ?_ ?_
    rotate_left
    ·intro w'
     go_simp
     with_reducible rfl
    rotate_left
    ·simp only [Act.put, List.setIfInBounds_toArray, List.set_cons_zero, List.set_cons_succ, i64_w, i32_w]
     rfl
    refine pure_ (i := 14) (N := some 42) (v := ?_) (a' := ?_) #[true, true, true, true, true, true, true, true, true, true, true, true, true, true, true, false, false, false, false, false] rfl rfl (any_of HT_.out (by kernel_rfl)) (fun _ _ _ h => h) (Or.inl ⟨by rfl, ?_⟩) ?_ ?_
    rotate_left
    ·intro w'
     go_simp
     with_reducible rfl
    rotate_left
    ·simp only [Act.put, List.setIfInBounds_toArray, List.set_cons_zero, List.set_cons_succ, i64_w, i32_w]
     rfl
    refine pure_ (i := 15) (N := some 43) (v := undef) (a' := ?_) #[true, true, true, true, true, true, true, true, true, true, true, true, true, true, true, true, false, false, false, false] rfl rfl (any_of HT_.out (by kernel_rfl)) (fun _ _ _ h => h) (Or.inr ⟨by rfl, rfl⟩) ?_ ?_
    rotate_left
    ·simp only [Act.put, List.setIfInBounds_toArray, List.set_cons_zero, List.set_cons_succ, i64_w, i32_w]
     rfl
    refine pure_ (i := 16) (N := some 44) (v := undef) (a' := ?_) #[true, true, true, true, true, true, true, true, true, true, true, true, true, true, true, true, true, false, false, false] rfl rfl (any_of HT_.out (by kernel_rfl)) (fun _ _ _ h => h) (Or.inr ⟨by rfl, rfl⟩) ?_ ?_
    rotate_left
    ·simp only [Act.put, List.setIfInBounds_toArray, List.set_cons_zero, List.set_cons_succ, i64_w, i32_w]
     rfl
    refine pure_ (i := 17) (N := some 45) (v := undef) (a' := ?_) #[true, true, true, true, true, true, true, true, true, true, true, true, true, true, true, true, true, true, false, false] rfl rfl (any_of HT_.out (by kernel_rfl)) (fun _ _ _ h => h) (Or.inr ⟨by rfl, rfl⟩) ?_ ?_
    rotate_left
    ·simp only [Act.put, List.setIfInBounds_toArray, List.set_cons_zero, List.set_cons_succ, i64_w, i32_w]
     rfl
    refine pure_ (i := 18) (N := some 46) (v := ?_) (a' := ?_) #[true, true, true, true, true, true, true, true, true, true, true, true, true, true, true, true, true, true, true, false] rfl rfl (any_of HT_.out (by kernel_rfl)) (fun _ _ _ h => h) (Or.inl ⟨by rfl, ?_⟩) ?_ ?_
    rotate_left
    ·intro w'
     go_simp
     with_reducible rfl
    rotate_left
    ·simp only [Act.put, List.setIfInBounds_toArray, List.set_cons_zero, List.set_cons_succ, i64_w, i32_w]
     rfl
    refine pure_ (i := 19) (N := some 6) (v := ?_) (a' := ?_) #[true, true, true, true, true, true, true, true, true, true, true, true, true, true, true, true, true, true, true, true] rfl rfl (any_of HT_.out (by kernel_rfl)) (fun _ _ _ h => h) (Or.inl ⟨by rfl, ?_⟩) ?_ ?_
    rotate_left
    ·intro w'
     go_simp
     with_reducible rfl
    rotate_left
    ·simp only [Act.put, List.setIfInBounds_toArray, List.set_cons_zero, List.set_cons_succ, i64_w, i32_w]
     rfl
    refine done_ (done_of HT_.out (by kernel_rfl)) ?_
    try go_wp2
    go_ret
    exact ⟨fin_, bls_⟩
  ·replace c7 := Bool.eq_false_iff.mpr c7
   subst c7
   have H1 : (some true) = some r := by rw [if_neg (show ¬ (false = true) by decide)] at H; exact H
   clear H
   have H := H1
   clear H1
   obtain rfl := Option.some.inj H
   go_enter Tryd.func4, Tryd.ntmps4
   go_wp2_with (first | ((with_reducible refine gate_dst (N := 4) rfl ?_); refine be_ (N := 4) (cs := #[.slice A1_0 l1_0.length c1_0, .slice A1_1 l1_1.length c1_1, .slice A1_2 l1_2.length c1_2, .int .i64 a1_3, .int .i64 a1_4, .int .i64 a1_5]) (t := 26) ?_; intro gb353 hg w56 hbox hb; have n0_ := Aside0.mk (below_step bl_ hb); have n1_ := Aside0.mk (hbox); have n2_ := Aside0.mk ((by rw [hg]; exact (below_size bl_) : w.heap.size ≤ gb353)); have n3_ := Aside0.mk ((by rw [hg]; exact (below_size bl_) : w.heap.size ≤ gb353)); clear HB; have HB := n0_; have BK353 := n1_; have GW353 := n2_; have GE353 := n3_; clear n0_ n1_ n2_ n3_; clear hb hbox hg) | ((with_reducible refine gate_dst (N := 5) rfl ?_); refine be_ (N := 5) (cs := #[.slice A2_0 l2_0.length c2_0, .int .i64 a2_1, .int .i64 a2_2, .int .i64 a2_3]) (t := 30) ?_; intro gb354 hg w57 hbox hb; have n0_ := Aside0.mk (blk_below (bkt_ BK353) hb); have n1_ := Aside0.mk (below_step bls_ hb); have n2_ := Aside0.mk (hbox); have n3_ := Aside0.mk ((by rw [hg]; exact (below_size bls_) : w.heap.size ≤ gb354)); have n4_ := Aside0.mk ((by rw [hg]; exact (below_size bls_) : w.heap.size ≤ gb354)); have n5_ := Aside0.mk ((by rw [hg]; exact Nat.ne_of_lt (blk_lt (bkt_ BK353)) : gb353 ≠ gb354)); have n6_ := Aside0.mk ((by rw [hg]; exact Nat.ne_of_gt (blk_lt (bkt_ BK353)) : gb354 ≠ gb353)); clear BK353; clear HB; have BK353 := n0_; have HB := n1_; have BK354 := n2_; have GW354 := n3_; have GE354 := n4_; have NB353_354 := n5_; have NB354_353 := n6_; clear n0_ n1_ n2_ n3_ n4_ n5_ n6_; clear hb hbox hg) | ((with_reducible refine gate_callee (f := 9) rfl ?_); refine gl_ (some 11) Tryd.func9 #[] ?_; (with_reducible refine (spilelaw30_awake.calls  true _ A4.out).mono ?_); rintro e w58 ⟨rfl, hb⟩; refine ⟨_, rfl, ?_⟩; have n0_ := Aside0.mk (blk_below (bkt_ BK353) hb); have n1_ := Aside0.mk (blk_below (bkt_ BK354) hb); have n2_ := Aside0.mk (below_step bls_ hb); clear BK353; clear BK354; clear HB; have BK353 := n0_; have BK354 := n1_; have HB := n2_; clear n0_ n1_ n2_; (try clear hb); (try clear hb2); (try clear hk); (try clear hi); have hnb59 := NB353_354.out; have hnc59 := NB354_353.out; obtain ⟨hcz60_0, hcz60_1, hcz60_2, hcz60_3, hcz60_4, hcz60_5⟩ := bc6_ BK353; obtain ⟨hfz60_0, hfz60_1, hfz60_2, hfz60_3, hfz60_4, hfz60_5⟩ := bf6_ BK353; obtain ⟨hcz61_0, hcz61_1, hcz61_2, hcz61_3⟩ := bc4_ BK354; obtain ⟨hfz61_0, hfz61_1, hfz61_2⟩ := bf3_ BK354; have hfz61_3 := blk_frozen BK354.out 3) | ((with_reducible refine gate_callee (f := 10) rfl ?_); refine gl_ (some 16) Tryd.func10 #[.slice A0 l0.length c0, .agg #[.slice A1_0 l1_0.length c1_0, .slice A1_1 l1_1.length c1_1, .slice A1_2 l1_2.length c1_2, .int .i64 a1_3, .int .i64 a1_4, .int .i64 a1_5], .agg #[.slice A2_0 l2_0.length c2_0, .int .i64 a2_1, .int .i64 a2_2, .int .i64 a2_3]] ?_; (with_reducible refine (spilelaw30_few.calls _ _ l0 _ _ l1_0 _ _ l1_1 _ _ l1_2 a1_3 a1_4 a1_5 _ _ l2_0 a2_1 a2_2 a2_3 false _ ?side1 ?side2 ?side3 ?side4 ?side5 ?side6 ?side7 ?side8 ?side9 ?side10 A6.out).mono ?_); (case side1 => exact kc_ HR0); (case side2 => exact HC0.out); (case side3 => exact kc_ HR1_0); (case side4 => exact HC1_0.out); (case side5 => exact kc_ HR1_1); (case side6 => exact HC1_1.out); (case side7 => exact kc_ HR1_2); (case side8 => exact HC1_2.out); (case side9 => exact kc_ HR2_0); (case side10 => exact HC2_0.out); rintro e w62 ⟨rfl, hb⟩; refine ⟨_, rfl, ?_⟩; have n0_ := Aside0.mk (blk_below (bkt_ BK353) hb); have n1_ := Aside0.mk (blk_below (bkt_ BK354) hb); have n2_ := Aside0.mk (below_step bls_ hb); clear BK353; clear BK354; clear HB; have BK353 := n0_; have BK354 := n1_; have HB := n2_; clear n0_ n1_ n2_; (try clear hb); (try clear hb2); (try clear hk); (try clear hi)))
   go_ret
   exact ⟨fin_, bls_⟩
 ·replace c5 := Bool.eq_false_iff.mpr c5
  subst c5
  have H1 : (some false) = some r := by rw [if_neg (show ¬ (false = true) by decide)] at H; exact H
  clear H
  have H := H1
  clear H1
  obtain rfl := Option.some.inj H
  go_enter Tryd.func4, Tryd.ntmps4
  go_wp2_with (first | ((with_reducible refine gate_dst (N := 4) rfl ?_); refine be_ (N := 4) (cs := #[.slice A1_0 l1_0.length c1_0, .slice A1_1 l1_1.length c1_1, .slice A1_2 l1_2.length c1_2, .int .i64 a1_3, .int .i64 a1_4, .int .i64 a1_5]) (t := 26) ?_; intro gb353 hg w63 hbox hb; have n0_ := Aside0.mk (below_step bl_ hb); have n1_ := Aside0.mk (hbox); have n2_ := Aside0.mk ((by rw [hg]; exact (below_size bl_) : w.heap.size ≤ gb353)); have n3_ := Aside0.mk ((by rw [hg]; exact (below_size bl_) : w.heap.size ≤ gb353)); clear HB; have HB := n0_; have BK353 := n1_; have GW353 := n2_; have GE353 := n3_; clear n0_ n1_ n2_ n3_; clear hb hbox hg) | ((with_reducible refine gate_dst (N := 5) rfl ?_); refine be_ (N := 5) (cs := #[.slice A2_0 l2_0.length c2_0, .int .i64 a2_1, .int .i64 a2_2, .int .i64 a2_3]) (t := 30) ?_; intro gb354 hg w64 hbox hb; have n0_ := Aside0.mk (blk_below (bkt_ BK353) hb); have n1_ := Aside0.mk (below_step bls_ hb); have n2_ := Aside0.mk (hbox); have n3_ := Aside0.mk ((by rw [hg]; exact (below_size bls_) : w.heap.size ≤ gb354)); have n4_ := Aside0.mk ((by rw [hg]; exact (below_size bls_) : w.heap.size ≤ gb354)); have n5_ := Aside0.mk ((by rw [hg]; exact Nat.ne_of_lt (blk_lt (bkt_ BK353)) : gb353 ≠ gb354)); have n6_ := Aside0.mk ((by rw [hg]; exact Nat.ne_of_gt (blk_lt (bkt_ BK353)) : gb354 ≠ gb353)); clear BK353; clear HB; have BK353 := n0_; have HB := n1_; have BK354 := n2_; have GW354 := n3_; have GE354 := n4_; have NB353_354 := n5_; have NB354_353 := n6_; clear n0_ n1_ n2_ n3_ n4_ n5_ n6_; clear hb hbox hg) | ((with_reducible refine gate_callee (f := 9) rfl ?_); refine gl_ (some 11) Tryd.func9 #[] ?_; (with_reducible refine (spilelaw30_awake.calls  false _ A4.out).mono ?_); rintro e w65 ⟨rfl, hb⟩; refine ⟨_, rfl, ?_⟩; have n0_ := Aside0.mk (blk_below (bkt_ BK353) hb); have n1_ := Aside0.mk (blk_below (bkt_ BK354) hb); have n2_ := Aside0.mk (below_step bls_ hb); clear BK353; clear BK354; clear HB; have BK353 := n0_; have BK354 := n1_; have HB := n2_; clear n0_ n1_ n2_; (try clear hb); (try clear hb2); (try clear hk); (try clear hi)))
  go_ret
  exact ⟨fin_, bls_⟩

/-! ### slices_Clone_int_int: function 21 -/
-- MAKING
theorem slices_Clone_int_int.info : (Tryd.prog.info? 3).map (fun i => (i.zero, i.size, i.bytes)) = some (some ((.int .i64 0)), 1, 8) := by kernel_rfl
theorem slices_Clone_int_int.eqn (w : World) (a : Option Addr) (l c : Nat) : (binOp .eql 24 (.slice a l c) (.slice none 0 0)).run Tryd.prog w = .ok (.bool a.isNone) w := by
  simp only [binOp]
  simp [run_equal_slice_nil w 24 3 a l c Tryd.underlying24]
section
attribute [local go_sem] slices_Clone_int_int.eqn
def slices_Clone_int_int.f (l0 : List Int) : Option (List Int) := if l0.length < 17592186044416 then some l0 else none
set_option maxHeartbeats 4000000 in
set_option maxRecDepth 100000 in
theorem slices_Clone_int_int.calls (A0 : Option Addr) (c0 : Nat) (l0 : List Int) (r : List Int) (w : World) (hr0 : Kd.C (Kd.int .i64) w A0 l0.length l0) (hc0 : l0.length ≤ c0) (h : slices_Clone_int_int.f l0 = some r) :
    Calls Tryd.prog 21 #[.slice A0 l0.length c0] w fun e w' => ∃ v0_ : Value, e = .returned (v0_) ∧ Kd.R (Kd.int .i64) 3 w' w.heap.size (fun _ => True) v0_ r ∧ Below w.heap.size w w' := by
  unfold slices_Clone_int_int.f at h
  by_cases hl : l0.length < 17592186044416
  case neg => rw [if_neg hl] at h; exact absurd h (by simp)
  rw [if_pos hl] at h
  obtain rfl := Option.some.inj h
  clear h
  have HL := Aside0.mk hl
  have HR := Aside0.mk hr0
  clear hl
  cases A0 with
  | none =>
    have e0 : l0 = [] := by
      rcases Nat.eq_zero_or_pos l0.length with h0 | h0
      · exact List.eq_nil_of_length_eq_zero h0
      · obtain ⟨ad, h1, _⟩ := hr0.2.2 h0
        cases h1
    subst e0
    clear HR HL hc0 hr0
    go_enter Tryd.func21, Tryd.ntmps21
    go_wp2
    go_ret
    exact ⟨_, rfl, Kd.R_nil _ _ _ _ _, Below.refl _ _⟩
  | some ad =>
    clear hr0
    go_enter Tryd.func21, Tryd.ntmps21
    go_wp2_with (first | ((with_reducible refine gate_dst (N := 5) rfl ?_); refine Kd.R_lit (Kd.int .i64) _ 3 ?hg (N := 5) ?hd (xs := ([] : List (Int))) (inner := []) (ok := fun _ => True) (okp := fun _ => True) ?hr ?hp (fun _ hk => hk) trivial (Below.refl _ _) (Nat.le_refl _) (by simp) ?_; (case hd => rfl); (case hg => rfl); (case hr => first | (go_simp; done) | (go_simp; rfl)); (case hp => exact (Reps.none _ _)); intro v1 w1 ho1 hb hg_ hnew_; clear hg_ hnew_; have HO1 := Aside0.mk ho1; have HB1 := Aside0.mk hb; clear ho1 hb) | ((with_reducible refine gate_builtin (b := .append) (xs := #[.tmp 5, .tmp 6]) rfl ?_); at_builtin; refine Kd.R_append_rows (Kd.int .i64) (w0 := w) w.heap.size rfl (.tmp 5) (.tmp 6) 24 3 ((.int .i64 0)) 8 rfl Tryd.underlying24 slices_Clone_int_int.info rfl (by decide) (by omega) v1 [] l0 _ _ _ (fun _ => True) (fun _ => False) rfl rfl ?aO ?aR (fun _ _ h => h) (fun _ h => h.elim) ?aF ?aB ?aS ?aL ?_; (case aR => exact (Kd.C_below HR.out HB1.out)); (case aB => exact HB1.out); (case aF => exact (fun _ _ => trivial)); (case aO => exact HO1.out); (case aS => exact HB1.out.size); (case aL => have := HL.out; simp only [List.length_nil]; omega); intro v2 w2 ho hb hg hat; clear hg hat; have HO2 := Aside0.mk ho; have HB2 := Aside0.mk hb; clear ho hb))
    go_ret
    exact ⟨_, rfl, HO2.out, HB2.out⟩
end

/-! ### spilelaw30_RefusalMore: function 5 -/
-- HELPER

end Go.Proofs.YtcdkbciagchlgaaDoor.PF
