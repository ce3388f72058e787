-- Written by a program of this session (wip/pr.py) out of Lean's print of the translation; Lean checks it.
import Derived.Test.YtcdkbciagchlgaaDoorPF0
import Derived.Test.YtcdkbciagchlgaaDoorPF1
import Derived.Test.YtcdkbciagchlgaaDoorPF3
import Derived.Test.YtcdkbciagchlgaaDoorPF9
namespace Go.Proofs.YtcdkbciagchlgaaDoor.PF
open Go.RowKit Go.Proofs.YtcdkbciagchlgaaDoorW.PrintWords Go.Proofs.YtcdkbciagchlgaaDoorW.PrintLast Go.Proofs.YtcdkbciagchlgaaDoorW.PrintMore
attribute [local go_sem] max2_int min2_int max_two min_two max_three min_three max_four min_four   
set_option linter.unusedVariables false
set_option linter.unusedSimpArgs false
def spilelaw30_few.f (l0 : List (S82)) (l1_0 : List (S45)) (l1_1 : List Int) (l1_2 : List Int) (a1_3 : Int) (a1_4 : Int) (a1_5 : Int) (l2_0 : List Int) (a2_1 : Int) (a2_2 : Int) (a2_3 : Int) : Option (Bool) := (spileref16_Few.f l0).bind fun t212 => (if t212 = true then (if (l1_0.length : Int) ≤ 8 then (if (l1_1.length : Int) ≤ 8 then (if (l1_2.length : Int) ≤ 8 then (some (decide ((l2_0.length : Int) ≤ 8))) else (some false)) else (some false)) else (some false)) else (some false))
set_option maxHeartbeats 8000000 in
set_option maxRecDepth 100000 in
theorem spilelaw30_few.calls (A0 : Option Addr) (c0 : Nat) (l0 : List (S82)) (A1_0 : Option Addr) (c1_0 : Nat) (l1_0 : List (S45)) (A1_1 : Option Addr) (c1_1 : Nat) (l1_1 : List Int) (A1_2 : Option Addr) (c1_2 : Nat) (l1_2 : List Int) (a1_3 : Int) (a1_4 : Int) (a1_5 : Int) (A2_0 : Option Addr) (c2_0 : Nat) (l2_0 : List Int) (a2_1 : Int) (a2_2 : Int) (a2_3 : Int) (r : Bool) (w : World) (hr0 : Kd.C k82 w A0 l0.length l0) (hc0 : l0.length ≤ c0) (hr1_0 : Kd.C k45 w A1_0 l1_0.length l1_0) (hc1_0 : l1_0.length ≤ c1_0) (hr1_1 : Kd.C (Kd.int .i64) w A1_1 l1_1.length l1_1) (hc1_1 : l1_1.length ≤ c1_1) (hr1_2 : Kd.C (Kd.int .i64) w A1_2 l1_2.length l1_2) (hc1_2 : l1_2.length ≤ c1_2) (hr2_0 : Kd.C (Kd.int .i64) w A2_0 l2_0.length l2_0) (hc2_0 : l2_0.length ≤ c2_0) (h : spilelaw30_few.f l0 l1_0 l1_1 l1_2 a1_3 a1_4 a1_5 l2_0 a2_1 a2_2 a2_3 = some r) :
  Calls Tryd.prog 10 #[.slice A0 l0.length c0, .agg #[.slice A1_0 l1_0.length c1_0, .slice A1_1 l1_1.length c1_1, .slice A1_2 l1_2.length c1_2, .int .i64 a1_3, .int .i64 a1_4, .int .i64 a1_5], .agg #[.slice A2_0 l2_0.length c2_0, .int .i64 a2_1, .int .i64 a2_2, .int .i64 a2_3]] w fun e w' => e = .returned (.bool r) ∧ Below w.heap.size w w' := by
 have hu26 := Tryd.underlying26
 have hu30 := Tryd.underlying30
 have HR0 := Aside0.mk hr0
 have HC0 := Aside0.mk hc0
 clear hr0 hc0
 have HR1_0 := Aside0.mk hr1_0
 have HC1_0 := Aside0.mk hc1_0
 clear hr1_0 hc1_0
 have HR1_1 := Aside0.mk hr1_1
 have HC1_1 := Aside0.mk hc1_1
 clear hr1_1 hc1_1
 have HR1_2 := Aside0.mk hr1_2
 have HC1_2 := Aside0.mk hc1_2
 clear hr1_2 hc1_2
 have HR2_0 := Aside0.mk hr2_0
 have HC2_0 := Aside0.mk hc2_0
 clear hr2_0 hc2_0
 have HB := Aside0.mk (Below.refl w.heap.size w)
 have H : ((spileref16_Few.f l0).bind fun t212 => (if t212 = true then (if (l1_0.length : Int) ≤ 8 then (if (l1_1.length : Int) ≤ 8 then (if (l1_2.length : Int) ≤ 8 then (some (decide ((l2_0.length : Int) ≤ 8))) else (some false)) else (some false)) else (some false)) else (some false))) = some r := h
 clear h
 replace H := Option.bind_eq_some_iff.mp H
 obtain ⟨t212, A40, H⟩ := H
 replace H : (if t212 = true then (if (l1_0.length : Int) ≤ 8 then (if (l1_1.length : Int) ≤ 8 then (if (l1_2.length : Int) ≤ 8 then (some (decide ((l2_0.length : Int) ≤ 8))) else (some false)) else (some false)) else (some false)) else (some false)) = some r := H
 have A4 := Aside0.mk A40
 clear A40
 by_cases c5 : t212 = true
 ·subst c5
  have H1 : (if (l1_0.length : Int) ≤ 8 then (if (l1_1.length : Int) ≤ 8 then (if (l1_2.length : Int) ≤ 8 then (some (decide ((l2_0.length : Int) ≤ 8))) else (some false)) else (some false)) else (some false)) = some r := by rw [if_pos rfl] at H; exact H
  clear H
  have H := H1
  clear H1
  by_cases c6 : (l1_0.length : Int) ≤ 8
  ·rw [if_pos c6] at H
   have c6b0 : decide ((l1_0.length : Int) ≤ 8) = true := decide_eq_true c6
   have c6b1 : decide (l1_0.length ≤ 8) = true := decide_eq_true (by omega)
   clear c6
   by_cases c7 : (l1_1.length : Int) ≤ 8
   ·rw [if_pos c7] at H
    have c7b0 : decide ((l1_1.length : Int) ≤ 8) = true := decide_eq_true c7
    have c7b1 : decide (l1_1.length ≤ 8) = true := decide_eq_true (by omega)
    clear c7
    by_cases c8 : (l1_2.length : Int) ≤ 8
    ·rw [if_pos c8] at H
     have c8b0 : decide ((l1_2.length : Int) ≤ 8) = true := decide_eq_true c8
     have c8b1 : decide (l1_2.length ≤ 8) = true := decide_eq_true (by omega)
     clear c8
     obtain rfl := Option.some.inj H
     go_enter Tryd.func10, Tryd.ntmps10
     go_wp2_with (first | ((with_reducible refine gate_dst (N := 4) rfl ?_); (try (refine gate_guard (by rfl) ?_; dsimp only)); refine be_ (N := 4) (cs := #[.slice A1_0 l1_0.length c1_0, .slice A1_1 l1_1.length c1_1, .slice A1_2 l1_2.length c1_2, .int .i64 a1_3, .int .i64 a1_4, .int .i64 a1_5]) (t := 26) ?_; intro gb210 hg w9 hbox hb; have n0_ := Aside0.mk (below_step bl_ hb); have n1_ := Aside0.mk (hbox); have n2_ := Aside0.mk ((by rw [hg]; exact (below_size bl_) : w.heap.size ≤ gb210)); have n3_ := Aside0.mk ((by rw [hg]; exact (below_size bl_) : w.heap.size ≤ gb210)); clear HB; have HB := n0_; have BK210 := n1_; have GW210 := n2_; have GE210 := n3_; clear n0_ n1_ n2_ n3_; clear hb hbox hg) | ((with_reducible refine gate_dst (N := 5) rfl ?_); (try (refine gate_guard (by rfl) ?_; dsimp only)); refine be_ (N := 5) (cs := #[.slice A2_0 l2_0.length c2_0, .int .i64 a2_1, .int .i64 a2_2, .int .i64 a2_3]) (t := 30) ?_; intro gb211 hg w10 hbox hb; have n0_ := Aside0.mk (blk_below (bkt_ BK210) hb); have n1_ := Aside0.mk (below_step bls_ hb); have n2_ := Aside0.mk (hbox); have n3_ := Aside0.mk ((by rw [hg]; exact (below_size bls_) : w.heap.size ≤ gb211)); have n4_ := Aside0.mk ((by rw [hg]; exact (below_size bls_) : w.heap.size ≤ gb211)); have n5_ := Aside0.mk ((by rw [hg]; exact Nat.ne_of_lt (blk_lt (bkt_ BK210)) : gb210 ≠ gb211)); have n6_ := Aside0.mk ((by rw [hg]; exact Nat.ne_of_gt (blk_lt (bkt_ BK210)) : gb211 ≠ gb210)); clear BK210; clear HB; have BK210 := n0_; have HB := n1_; have BK211 := n2_; have GW211 := n3_; have GE211 := n4_; have NB210_211 := n5_; have NB211_210 := n6_; clear n0_ n1_ n2_ n3_ n4_ n5_ n6_; clear hb hbox hg) | ((with_reducible refine gate_callee (f := 27) rfl ?_); refine gl_ (some 8) Tryd.func27 #[.slice A0 l0.length c0] ?_; (with_reducible refine (spileref16_Few.calls _ _ l0 true _ ?side1 ?side2 A4.out).mono ?_); (case side1 => exact kc_ HR0); (case side2 => exact HC0.out); rintro e w' ⟨rfl, ⟨nd, rfl⟩⟩; refine ⟨_, rfl, ?_⟩; have hnb11 := NB210_211.out; have hnc11 := NB211_210.out; obtain ⟨hcz12_0, hcz12_1, hcz12_2, hcz12_3, hcz12_4, hcz12_5⟩ := bc6_ BK210; obtain ⟨hfz12_0, hfz12_1, hfz12_2, hfz12_3, hfz12_4, hfz12_5⟩ := bf6_ BK210; obtain ⟨hcz13_0, hcz13_1, hcz13_2, hcz13_3⟩ := bc4_ BK211; obtain ⟨hfz13_0, hfz13_1, hfz13_2⟩ := bf3_ BK211; have hfz13_3 := blk_frozen BK211.out 3))
     go_ret
     exact ⟨fin_, bls_⟩
    ·rw [if_neg c8] at H
     have c8b0 : decide ((l1_2.length : Int) ≤ 8) = false := decide_eq_false c8
     have c8b1 : decide (l1_2.length ≤ 8) = false := decide_eq_false (by omega)
     clear c8
     obtain rfl := Option.some.inj H
     go_enter Tryd.func10, Tryd.ntmps10
     go_wp2_with (first | ((with_reducible refine gate_dst (N := 4) rfl ?_); (try (refine gate_guard (by rfl) ?_; dsimp only)); refine be_ (N := 4) (cs := #[.slice A1_0 l1_0.length c1_0, .slice A1_1 l1_1.length c1_1, .slice A1_2 l1_2.length c1_2, .int .i64 a1_3, .int .i64 a1_4, .int .i64 a1_5]) (t := 26) ?_; intro gb210 hg w14 hbox hb; have n0_ := Aside0.mk (below_step bl_ hb); have n1_ := Aside0.mk (hbox); have n2_ := Aside0.mk ((by rw [hg]; exact (below_size bl_) : w.heap.size ≤ gb210)); have n3_ := Aside0.mk ((by rw [hg]; exact (below_size bl_) : w.heap.size ≤ gb210)); clear HB; have HB := n0_; have BK210 := n1_; have GW210 := n2_; have GE210 := n3_; clear n0_ n1_ n2_ n3_; clear hb hbox hg) | ((with_reducible refine gate_dst (N := 5) rfl ?_); (try (refine gate_guard (by rfl) ?_; dsimp only)); refine be_ (N := 5) (cs := #[.slice A2_0 l2_0.length c2_0, .int .i64 a2_1, .int .i64 a2_2, .int .i64 a2_3]) (t := 30) ?_; intro gb211 hg w15 hbox hb; have n0_ := Aside0.mk (blk_below (bkt_ BK210) hb); have n1_ := Aside0.mk (below_step bls_ hb); have n2_ := Aside0.mk (hbox); have n3_ := Aside0.mk ((by rw [hg]; exact (below_size bls_) : w.heap.size ≤ gb211)); have n4_ := Aside0.mk ((by rw [hg]; exact (below_size bls_) : w.heap.size ≤ gb211)); have n5_ := Aside0.mk ((by rw [hg]; exact Nat.ne_of_lt (blk_lt (bkt_ BK210)) : gb210 ≠ gb211)); have n6_ := Aside0.mk ((by rw [hg]; exact Nat.ne_of_gt (blk_lt (bkt_ BK210)) : gb211 ≠ gb210)); clear BK210; clear HB; have BK210 := n0_; have HB := n1_; have BK211 := n2_; have GW211 := n3_; have GE211 := n4_; have NB210_211 := n5_; have NB211_210 := n6_; clear n0_ n1_ n2_ n3_ n4_ n5_ n6_; clear hb hbox hg) | ((with_reducible refine gate_callee (f := 27) rfl ?_); refine gl_ (some 8) Tryd.func27 #[.slice A0 l0.length c0] ?_; (with_reducible refine (spileref16_Few.calls _ _ l0 true _ ?side1 ?side2 A4.out).mono ?_); (case side1 => exact kc_ HR0); (case side2 => exact HC0.out); rintro e w' ⟨rfl, ⟨nd, rfl⟩⟩; refine ⟨_, rfl, ?_⟩; have hnb16 := NB210_211.out; have hnc16 := NB211_210.out; obtain ⟨hcz17_0, hcz17_1, hcz17_2, hcz17_3, hcz17_4, hcz17_5⟩ := bc6_ BK210; obtain ⟨hfz17_0, hfz17_1, hfz17_2, hfz17_3, hfz17_4⟩ := bf5_ BK210; have hfz17_5 := blk_frozen BK210.out 5))
     go_ret
     exact ⟨fin_, bls_⟩
   ·rw [if_neg c7] at H
    have c7b0 : decide ((l1_1.length : Int) ≤ 8) = false := decide_eq_false c7
    have c7b1 : decide (l1_1.length ≤ 8) = false := decide_eq_false (by omega)
    clear c7
    obtain rfl := Option.some.inj H
    go_enter Tryd.func10, Tryd.ntmps10
    go_wp2_with (first | ((with_reducible refine gate_dst (N := 4) rfl ?_); (try (refine gate_guard (by rfl) ?_; dsimp only)); refine be_ (N := 4) (cs := #[.slice A1_0 l1_0.length c1_0, .slice A1_1 l1_1.length c1_1, .slice A1_2 l1_2.length c1_2, .int .i64 a1_3, .int .i64 a1_4, .int .i64 a1_5]) (t := 26) ?_; intro gb210 hg w18 hbox hb; have n0_ := Aside0.mk (below_step bl_ hb); have n1_ := Aside0.mk (hbox); have n2_ := Aside0.mk ((by rw [hg]; exact (below_size bl_) : w.heap.size ≤ gb210)); have n3_ := Aside0.mk ((by rw [hg]; exact (below_size bl_) : w.heap.size ≤ gb210)); clear HB; have HB := n0_; have BK210 := n1_; have GW210 := n2_; have GE210 := n3_; clear n0_ n1_ n2_ n3_; clear hb hbox hg) | ((with_reducible refine gate_dst (N := 5) rfl ?_); (try (refine gate_guard (by rfl) ?_; dsimp only)); refine be_ (N := 5) (cs := #[.slice A2_0 l2_0.length c2_0, .int .i64 a2_1, .int .i64 a2_2, .int .i64 a2_3]) (t := 30) ?_; intro gb211 hg w19 hbox hb; have n0_ := Aside0.mk (blk_below (bkt_ BK210) hb); have n1_ := Aside0.mk (below_step bls_ hb); have n2_ := Aside0.mk (hbox); have n3_ := Aside0.mk ((by rw [hg]; exact (below_size bls_) : w.heap.size ≤ gb211)); have n4_ := Aside0.mk ((by rw [hg]; exact (below_size bls_) : w.heap.size ≤ gb211)); have n5_ := Aside0.mk ((by rw [hg]; exact Nat.ne_of_lt (blk_lt (bkt_ BK210)) : gb210 ≠ gb211)); have n6_ := Aside0.mk ((by rw [hg]; exact Nat.ne_of_gt (blk_lt (bkt_ BK210)) : gb211 ≠ gb210)); clear BK210; clear HB; have BK210 := n0_; have HB := n1_; have BK211 := n2_; have GW211 := n3_; have GE211 := n4_; have NB210_211 := n5_; have NB211_210 := n6_; clear n0_ n1_ n2_ n3_ n4_ n5_ n6_; clear hb hbox hg) | ((with_reducible refine gate_callee (f := 27) rfl ?_); refine gl_ (some 8) Tryd.func27 #[.slice A0 l0.length c0] ?_; (with_reducible refine (spileref16_Few.calls _ _ l0 true _ ?side1 ?side2 A4.out).mono ?_); (case side1 => exact kc_ HR0); (case side2 => exact HC0.out); rintro e w' ⟨rfl, ⟨nd, rfl⟩⟩; refine ⟨_, rfl, ?_⟩; have hnb20 := NB210_211.out; have hnc20 := NB211_210.out; obtain ⟨hcz21_0, hcz21_1, hcz21_2, hcz21_3, hcz21_4, hcz21_5⟩ := bc6_ BK210; obtain ⟨hfz21_0, hfz21_1, hfz21_2, hfz21_3, hfz21_4⟩ := bf5_ BK210; have hfz21_5 := blk_frozen BK210.out 5))
    go_ret
    exact ⟨fin_, bls_⟩
  ·rw [if_neg c6] at H
   have c6b0 : decide ((l1_0.length : Int) ≤ 8) = false := decide_eq_false c6
   have c6b1 : decide (l1_0.length ≤ 8) = false := decide_eq_false (by omega)
   clear c6
   obtain rfl := Option.some.inj H
   go_enter Tryd.func10, Tryd.ntmps10
   go_wp2_with (first | ((with_reducible refine gate_dst (N := 4) rfl ?_); (try (refine gate_guard (by rfl) ?_; dsimp only)); refine be_ (N := 4) (cs := #[.slice A1_0 l1_0.length c1_0, .slice A1_1 l1_1.length c1_1, .slice A1_2 l1_2.length c1_2, .int .i64 a1_3, .int .i64 a1_4, .int .i64 a1_5]) (t := 26) ?_; intro gb210 hg w22 hbox hb; have n0_ := Aside0.mk (below_step bl_ hb); have n1_ := Aside0.mk (hbox); have n2_ := Aside0.mk ((by rw [hg]; exact (below_size bl_) : w.heap.size ≤ gb210)); have n3_ := Aside0.mk ((by rw [hg]; exact (below_size bl_) : w.heap.size ≤ gb210)); clear HB; have HB := n0_; have BK210 := n1_; have GW210 := n2_; have GE210 := n3_; clear n0_ n1_ n2_ n3_; clear hb hbox hg) | ((with_reducible refine gate_dst (N := 5) rfl ?_); (try (refine gate_guard (by rfl) ?_; dsimp only)); refine be_ (N := 5) (cs := #[.slice A2_0 l2_0.length c2_0, .int .i64 a2_1, .int .i64 a2_2, .int .i64 a2_3]) (t := 30) ?_; intro gb211 hg w23 hbox hb; have n0_ := Aside0.mk (blk_below (bkt_ BK210) hb); have n1_ := Aside0.mk (below_step bls_ hb); have n2_ := Aside0.mk (hbox); have n3_ := Aside0.mk ((by rw [hg]; exact (below_size bls_) : w.heap.size ≤ gb211)); have n4_ := Aside0.mk ((by rw [hg]; exact (below_size bls_) : w.heap.size ≤ gb211)); have n5_ := Aside0.mk ((by rw [hg]; exact Nat.ne_of_lt (blk_lt (bkt_ BK210)) : gb210 ≠ gb211)); have n6_ := Aside0.mk ((by rw [hg]; exact Nat.ne_of_gt (blk_lt (bkt_ BK210)) : gb211 ≠ gb210)); clear BK210; clear HB; have BK210 := n0_; have HB := n1_; have BK211 := n2_; have GW211 := n3_; have GE211 := n4_; have NB210_211 := n5_; have NB211_210 := n6_; clear n0_ n1_ n2_ n3_ n4_ n5_ n6_; clear hb hbox hg) | ((with_reducible refine gate_callee (f := 27) rfl ?_); refine gl_ (some 8) Tryd.func27 #[.slice A0 l0.length c0] ?_; (with_reducible refine (spileref16_Few.calls _ _ l0 true _ ?side1 ?side2 A4.out).mono ?_); (case side1 => exact kc_ HR0); (case side2 => exact HC0.out); rintro e w' ⟨rfl, ⟨nd, rfl⟩⟩; refine ⟨_, rfl, ?_⟩; have hnb24 := NB210_211.out; have hnc24 := NB211_210.out; obtain ⟨hcz25_0, hcz25_1, hcz25_2, hcz25_3, hcz25_4, hcz25_5⟩ := bc6_ BK210; obtain ⟨hfz25_0, hfz25_1, hfz25_2, hfz25_3, hfz25_4⟩ := bf5_ BK210; have hfz25_5 := blk_frozen BK210.out 5))
   go_ret
   exact ⟨fin_, bls_⟩
 ·replace c5 := Bool.eq_false_iff.mpr c5
  subst c5
  have H1 : (some false) = some r := by rw [if_neg (show ¬ (false = true) by decide)] at H; exact H
  clear H
  have H := H1
  clear H1
  obtain rfl := Option.some.inj H
  go_enter Tryd.func10, Tryd.ntmps10
  go_wp2_with (first | ((with_reducible refine gate_dst (N := 4) rfl ?_); (try (refine gate_guard (by rfl) ?_; dsimp only)); refine be_ (N := 4) (cs := #[.slice A1_0 l1_0.length c1_0, .slice A1_1 l1_1.length c1_1, .slice A1_2 l1_2.length c1_2, .int .i64 a1_3, .int .i64 a1_4, .int .i64 a1_5]) (t := 26) ?_; intro gb210 hg w26 hbox hb; have n0_ := Aside0.mk (below_step bl_ hb); have n1_ := Aside0.mk (hbox); have n2_ := Aside0.mk ((by rw [hg]; exact (below_size bl_) : w.heap.size ≤ gb210)); have n3_ := Aside0.mk ((by rw [hg]; exact (below_size bl_) : w.heap.size ≤ gb210)); clear HB; have HB := n0_; have BK210 := n1_; have GW210 := n2_; have GE210 := n3_; clear n0_ n1_ n2_ n3_; clear hb hbox hg) | ((with_reducible refine gate_dst (N := 5) rfl ?_); (try (refine gate_guard (by rfl) ?_; dsimp only)); refine be_ (N := 5) (cs := #[.slice A2_0 l2_0.length c2_0, .int .i64 a2_1, .int .i64 a2_2, .int .i64 a2_3]) (t := 30) ?_; intro gb211 hg w27 hbox hb; have n0_ := Aside0.mk (blk_below (bkt_ BK210) hb); have n1_ := Aside0.mk (below_step bls_ hb); have n2_ := Aside0.mk (hbox); have n3_ := Aside0.mk ((by rw [hg]; exact (below_size bls_) : w.heap.size ≤ gb211)); have n4_ := Aside0.mk ((by rw [hg]; exact (below_size bls_) : w.heap.size ≤ gb211)); have n5_ := Aside0.mk ((by rw [hg]; exact Nat.ne_of_lt (blk_lt (bkt_ BK210)) : gb210 ≠ gb211)); have n6_ := Aside0.mk ((by rw [hg]; exact Nat.ne_of_gt (blk_lt (bkt_ BK210)) : gb211 ≠ gb210)); clear BK210; clear HB; have BK210 := n0_; have HB := n1_; have BK211 := n2_; have GW211 := n3_; have GE211 := n4_; have NB210_211 := n5_; have NB211_210 := n6_; clear n0_ n1_ n2_ n3_ n4_ n5_ n6_; clear hb hbox hg) | ((with_reducible refine gate_callee (f := 27) rfl ?_); refine gl_ (some 8) Tryd.func27 #[.slice A0 l0.length c0] ?_; (with_reducible refine (spileref16_Few.calls _ _ l0 false _ ?side1 ?side2 A4.out).mono ?_); (case side1 => exact kc_ HR0); (case side2 => exact HC0.out); rintro e w' ⟨rfl, ⟨nd, rfl⟩⟩; refine ⟨_, rfl, ?_⟩))
  go_ret
  exact ⟨fin_, bls_⟩
mutual
def spileref16_Check.l0 : Nat → List (S82) → Int → Option (Int × Int)
 | 0, _, _ => none
 | k + 1, x0, x4 => if x4 < (x0.length : Int) then (if 0 ≤ x4 then (if ((rd_T82 x0 x4).f0) < 0 then (spileref16_Check.j1 k x0 x4 true) else (if ((rd_T82 x0 x4).f0) > 10000 then (spileref16_Check.j1 k x0 x4 true) else (if ((rd_T82 x0 x4).f1) < 50000 then (spileref16_Check.j1 k x0 x4 true) else (spileref16_Check.j1 k x0 x4 (decide (((rd_T82 x0 x4).f1) > 120000)))))) else (none)) else (if 0 < (x0.length : Int) then (if ((rd_T82 x0 0).f0) = 0 then (if 0 ≤ (wrap64 ((x0.length : Int) - 1)) then (if (wrap64 ((x0.length : Int) - 1)) < (x0.length : Int) then (if ((rd_T82 x0 (wrap64 ((x0.length : Int) - 1))).f0) = 10000 then (some ((-1), 0)) else (some (wrap64 ((x0.length : Int) - 1), 10))) else (none)) else (none)) else (some (0, 10))) else (none))
def spileref16_Check.j1 : Nat → List (S82) → Int → Bool → Option (Int × Int)
 | 0, _, _, _ => none
 | k + 1, x0, x4, x46 => if x46 = true then (some (x4, 2)) else (if x4 > 0 then (if 0 ≤ x4 then (if x4 < (x0.length : Int) then (if 0 ≤ (wrap64 (x4 - 1)) then (if (wrap64 (x4 - 1)) < (x0.length : Int) then (spileref16_Check.j2 k x0 x4 (decide (((rd_T82 x0 x4).f0) ≤ ((rd_T82 x0 (wrap64 (x4 - 1))).f0)))) else (none)) else (none)) else (none)) else (none)) else (spileref16_Check.j2 k x0 x4 false))
def spileref16_Check.j2 : Nat → List (S82) → Int → Bool → Option (Int × Int)
 | 0, _, _, _ => none
 | k + 1, x0, x4, x63 => if x63 = true then (some (x4, 5)) else (if x4 > 0 then (if 0 ≤ x4 then (if x4 < (x0.length : Int) then (if 0 ≤ (wrap64 (x4 - 1)) then (if (wrap64 (x4 - 1)) < (x0.length : Int) then (if ((rd_T82 x0 x4).f1) > ((rd_T82 x0 (wrap64 (x4 - 1))).f1) then (some (x4, 18)) else (spileref16_Check.l0 k x0 (wrap64 (x4 + 1)))) else (none)) else (none)) else (none)) else (none)) else (spileref16_Check.l0 k x0 (wrap64 (x4 + 1))))
end
def spileref16_Check.f (k : Nat) (l0 : List (S82)) : Option (Int × Int) := if (l0.length : Int) > 128 then (some ((-1), 8)) else (if (l0.length : Int) < 2 then (some ((-1), 9)) else (spileref16_Check.l0 k l0 0))
theorem spileref16_Check.mono_l : ∀ k, (∀ y0 y1, LeO (spileref16_Check.l0 k y0 y1) (spileref16_Check.l0 (k + 1) y0 y1)) ∧ (∀ y0 y1 y2, LeO (spileref16_Check.j1 k y0 y1 y2) (spileref16_Check.j1 (k + 1) y0 y1 y2)) ∧ (∀ y0 y1 y2, LeO (spileref16_Check.j2 k y0 y1 y2) (spileref16_Check.j2 (k + 1) y0 y1 y2))
 | 0 => ⟨fun _ _ r h => by simp [spileref16_Check.l0] at h, fun _ _ _ r h => by simp [spileref16_Check.j1] at h, fun _ _ _ r h => by simp [spileref16_Check.j2] at h⟩
 | k + 1 => by
  obtain ⟨ih0, ih1, ih2⟩ := spileref16_Check.mono_l k
  refine ⟨?_, ?_, ?_⟩
  ·intro y0 y1
   unfold spileref16_Check.l0
   repeat' first
   | (with_reducible exact ih0 _ _)
   | (with_reducible exact ih1 _ _ _)
   | (with_reducible exact ih2 _ _ _)
   | (with_reducible exact LeO.refl _)
   | (with_reducible exact LeO.none _)
   | (with_reducible refine LeO.ite ?_ ?_)
   | (with_reducible refine LeO.bind ?_ (fun _ => ?_))
   | exact ih0 _ _
   | exact ih1 _ _ _
   | exact ih2 _ _ _
   | exact LeO.none _
   | refine LeO.ite ?_ ?_
   | refine LeO.bind ?_ (fun _ => ?_)
  ·intro y0 y1 y2
   unfold spileref16_Check.j1
   repeat' first
   | (with_reducible exact ih0 _ _)
   | (with_reducible exact ih1 _ _ _)
   | (with_reducible exact ih2 _ _ _)
   | (with_reducible exact LeO.refl _)
   | (with_reducible exact LeO.none _)
   | (with_reducible refine LeO.ite ?_ ?_)
   | (with_reducible refine LeO.bind ?_ (fun _ => ?_))
   | exact ih0 _ _
   | exact ih1 _ _ _
   | exact ih2 _ _ _
   | exact LeO.none _
   | refine LeO.ite ?_ ?_
   | refine LeO.bind ?_ (fun _ => ?_)
  ·intro y0 y1 y2
   unfold spileref16_Check.j2
   repeat' first
   | (with_reducible exact ih0 _ _)
   | (with_reducible exact ih1 _ _ _)
   | (with_reducible exact ih2 _ _ _)
   | (with_reducible exact LeO.refl _)
   | (with_reducible exact LeO.none _)
   | (with_reducible refine LeO.ite ?_ ?_)
   | (with_reducible refine LeO.bind ?_ (fun _ => ?_))
   | exact ih0 _ _
   | exact ih1 _ _ _
   | exact ih2 _ _ _
   | exact LeO.none _
   | refine LeO.ite ?_ ?_
   | refine LeO.bind ?_ (fun _ => ?_)
theorem spileref16_Check.mono : ∀ a0 k, LeO (spileref16_Check.f k a0) (spileref16_Check.f (k + 1) a0) := by
 intro a0 k
 obtain ⟨ih0, ih1, ih2⟩ := spileref16_Check.mono_l k
 unfold spileref16_Check.f
 repeat' first
   | (with_reducible exact ih0 _ _)
   | (with_reducible exact ih1 _ _ _)
   | (with_reducible exact ih2 _ _ _)
   | (with_reducible exact LeO.refl _)
   | (with_reducible exact LeO.none _)
   | (with_reducible refine LeO.ite ?_ ?_)
   | (with_reducible refine LeO.bind ?_ (fun _ => ?_))
   | exact ih0 _ _
   | exact ih1 _ _ _
   | exact ih2 _ _ _
   | exact LeO.none _
   | refine LeO.ite ?_ ?_
   | refine LeO.bind ?_ (fun _ => ?_)
def spileref16_Check_s.f (l0 : List S82) : Option (Int × Int) := some (dchk l0)
def spileref16_Right.f (l0 : List (S82)) : Option (Bool) := (spileref16_Check_s.f l0).bind fun bt223 => (some (bt223.2 == 0))
end Go.Proofs.YtcdkbciagchlgaaDoor.PF
