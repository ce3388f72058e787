-- Written by a program of this session (wip/pr.py) out of Lean's print of the translation; Lean checks it.
import Derived.Test.YtcdkbciagchlgaaDoorPF0
import Derived.Test.YtcdkbciagchlgaaDoorPF1
import Derived.Test.YtcdkbciagchlgaaDoorPF3
import Derived.Test.YtcdkbciagchlgaaDoorPF9
namespace Go.Proofs.YtcdkbciagchlgaaDoor.PF
open Go.RowKit Go.Proofs.YtcdkbciagchlgaaDoorW.PrintWords Go.Proofs.YtcdkbciagchlgaaDoorW.PrintLast Go.Proofs.YtcdkbciagchlgaaDoorW.PrintMore
attribute [local go_sem] max2_int min2_int max_two min_two max_three min_three max_four min_four   -- for this text's walks alone
set_option linter.unusedVariables false
set_option linter.unusedSimpArgs false

/-! ### spilelaw30_few: function 10 -/
def spilelaw30_few.f (l0 : List (S82)) (l1_0 : List (S45)) (l1_1 : List Int) (l1_2 : List Int) (a1_3 : Int) (a1_4 : Int) (a1_5 : Int) (l2_0 : List Int) (a2_1 : Int) (a2_2 : Int) (a2_3 : Int) : Option (Bool) := (spileref16_Few.f l0).bind fun t212 => (if t212 = true then (if (l1_0.length : Int) ≤ 8 then (if (l1_1.length : Int) ≤ 8 then (if (l1_2.length : Int) ≤ 8 then (some (decide ((l2_0.length : Int) ≤ 8))) else (some false)) else (some false)) else (some false)) else (some false))
set_option maxHeartbeats 8000000 in
set_option maxRecDepth 100000 in
theorem spilelaw30_few.calls (A0 : Option Addr) (c0 : Nat) (l0 : List (S82)) (A1_0 : Option Addr) (c1_0 : Nat) (l1_0 : List (S45)) (A1_1 : Option Addr) (c1_1 : Nat) (l1_1 : List Int) (A1_2 : Option Addr) (c1_2 : Nat) (l1_2 : List Int) (a1_3 : Int) (a1_4 : Int) (a1_5 : Int) (A2_0 : Option Addr) (c2_0 : Nat) (l2_0 : List Int) (a2_1 : Int) (a2_2 : Int) (a2_3 : Int) (r : Bool) (w : World) (hr0 : Kd.C k82 w A0 l0.length l0) (hc0 : l0.length ≤ c0) (hr1_0 : Kd.C k45 w A1_0 l1_0.length l1_0) (hc1_0 : l1_0.length ≤ c1_0) (hr1_1 : Kd.C (Kd.int .i64) w A1_1 l1_1.length l1_1) (hc1_1 : l1_1.length ≤ c1_1) (hr1_2 : Kd.C (Kd.int .i64) w A1_2 l1_2.length l1_2) (hc1_2 : l1_2.length ≤ c1_2) (hr2_0 : Kd.C (Kd.int .i64) w A2_0 l2_0.length l2_0) (hc2_0 : l2_0.length ≤ c2_0) (h : spilelaw30_few.f l0 l1_0 l1_1 l1_2 a1_3 a1_4 a1_5 l2_0 a2_1 a2_2 a2_3 = some r) :
  Calls Tryd.prog 10 #[.slice A0 l0.length c0, .agg #[.slice A1_0 l1_0.length c1_0, .slice A1_1 l1_1.length c1_1, .slice A1_2 l1_2.length c1_2, .int .i64 a1_3, .int .i64 a1_4, .int .i64 a1_5], .agg #[.slice A2_0 l2_0.length c2_0, .int .i64 a2_1, .int .i64 a2_2, .int .i64 a2_3]] w fun e w' => e = .returned (.bool r) ∧ Below w.heap.size w w' := by
 have hu26 := Tryd.underlying26
 have hu30 := Tryd.underlying30
 have HR0 := Aside0.mk hr0
 have HC0 := Aside0.mk hc0
 clear hr0 hc0
 have HR1_0 := Aside0.mk hr1_0
 have HC1_0 := Aside0.mk hc1_0
 clear hr1_0 hc1_0
 have HR1_1 := Aside0.mk hr1_1
 have HC1_1 := Aside0.mk hc1_1
 clear hr1_1 hc1_1
 have HR1_2 := Aside0.mk hr1_2
 have HC1_2 := Aside0.mk hc1_2
 clear hr1_2 hc1_2
 have HR2_0 := Aside0.mk hr2_0
 have HC2_0 := Aside0.mk hc2_0
 clear hr2_0 hc2_0
 have HB := Aside0.mk (Below.refl w.heap.size w)
 have H : ((spileref16_Few.f l0).bind fun t212 => (if t212 = true then (if (l1_0.length : Int) ≤ 8 then (if (l1_1.length : Int) ≤ 8 then (if (l1_2.length : Int) ≤ 8 then (some (decide ((l2_0.length : Int) ≤ 8))) else (some false)) else (some false)) else (some false)) else (some false))) = some r := h
 clear h
 replace H := Option.bind_eq_some_iff.mp H
 obtain ⟨t212, A40, H⟩ := H
 replace H : (if t212 = true then (if (l1_0.length : Int) ≤ 8 then (if (l1_1.length : Int) ≤ 8 then (if (l1_2.length : Int) ≤ 8 then (some (decide ((l2_0.length : Int) ≤ 8))) else (some false)) else (some false)) else (some false)) else (some false)) = some r := H
 have A4 := Aside0.mk A40
 clear A40
 by_cases c5 : t212 = true
 ·subst c5
  have H1 : (if (l1_0.length : Int) ≤ 8 then (if (l1_1.length : Int) ≤ 8 then (if (l1_2.length : Int) ≤ 8 then (some (decide ((l2_0.length : Int) ≤ 8))) else (some false)) else (some false)) else (some false)) = some r := by rw [if_pos rfl] at H; exact H
  clear H
  have H := H1
  clear H1
  by_cases c6 : (l1_0.length : Int) ≤ 8
  ·rw [if_pos c6] at H
   have c6b0 : decide ((l1_0.length : Int) ≤ 8) = true := decide_eq_true c6
   have c6b1 : decide (l1_0.length ≤ 8) = true := decide_eq_true (by omega)
   clear c6
   by_cases c7 : (l1_1.length : Int) ≤ 8
   ·rw [if_pos c7] at H
    have c7b0 : decide ((l1_1.length : Int) ≤ 8) = true := decide_eq_true c7
    have c7b1 : decide (l1_1.length ≤ 8) = true := decide_eq_true (by omega)
    clear c7
    by_cases c8 : (l1_2.length : Int) ≤ 8
    ·rw [if_pos c8] at H
     have c8b0 : decide ((l1_2.length : Int) ≤ 8) = true := decide_eq_true c8
     have c8b1 : decide (l1_2.length ≤ 8) = true := decide_eq_true (by omega)
     clear c8
     obtain rfl := Option.some.inj H
     go_enter Tryd.func10, Tryd.ntmps10
     go_wp2_with (first | ((with_reducible refine gate_dst (N := 4) rfl ?_); (try (refine gate_guard (by rfl) ?_; dsimp only)); refine be_ (N := 4) (cs := #[.slice A1_0 l1_0.length c1_0, .slice A1_1 l1_1.length c1_1, .slice A1_2 l1_2.length c1_2, .int .i64 a1_3, .int .i64 a1_4, .int .i64 a1_5]) (t := 26) ?_; intro gb210 hg w9 hbox hb; have n0_ := Aside0.mk (below_step bl_ hb); have n1_ := Aside0.mk (hbox); have n2_ := Aside0.mk ((by rw [hg]; exact (below_size bl_) : w.heap.size ≤ gb210)); have n3_ := Aside0.mk ((by rw [hg]; exact (below_size bl_) : w.heap.size ≤ gb210)); clear HB; have HB := n0_; have BK210 := n1_; have GW210 := n2_; have GE210 := n3_; clear n0_ n1_ n2_ n3_; clear hb hbox hg) | ((with_reducible refine gate_dst (N := 5) rfl ?_); (try (refine gate_guard (by rfl) ?_; dsimp only)); refine be_ (N := 5) (cs := #[.slice A2_0 l2_0.length c2_0, .int .i64 a2_1, .int .i64 a2_2, .int .i64 a2_3]) (t := 30) ?_; intro gb211 hg w10 hbox hb; have n0_ := Aside0.mk (blk_below (bkt_ BK210) hb); have n1_ := Aside0.mk (below_step bls_ hb); have n2_ := Aside0.mk (hbox); have n3_ := Aside0.mk ((by rw [hg]; exact (below_size bls_) : w.heap.size ≤ gb211)); have n4_ := Aside0.mk ((by rw [hg]; exact (below_size bls_) : w.heap.size ≤ gb211)); have n5_ := Aside0.mk ((by rw [hg]; exact Nat.ne_of_lt (blk_lt (bkt_ BK210)) : gb210 ≠ gb211)); have n6_ := Aside0.mk ((by rw [hg]; exact Nat.ne_of_gt (blk_lt (bkt_ BK210)) : gb211 ≠ gb210)); clear BK210; clear HB; have BK210 := n0_; have HB := n1_; have BK211 := n2_; have GW211 := n3_; have GE211 := n4_; have NB210_211 := n5_; have NB211_210 := n6_; clear n0_ n1_ n2_ n3_ n4_ n5_ n6_; clear hb hbox hg) | ((with_reducible refine gate_callee (f := 27) rfl ?_); refine gl_ (some 8) Tryd.func27 #[.slice A0 l0.length c0] ?_; (with_reducible refine (spileref16_Few.calls _ _ l0 true _ ?side1 ?side2 A4.out).mono ?_); (case side1 => exact kc_ HR0); (case side2 => exact HC0.out); rintro e w' ⟨rfl, ⟨nd, rfl⟩⟩; refine ⟨_, rfl, ?_⟩; have hnb11 := NB210_211.out; have hnc11 := NB211_210.out; obtain ⟨hcz12_0, hcz12_1, hcz12_2, hcz12_3, hcz12_4, hcz12_5⟩ := bc6_ BK210; obtain ⟨hfz12_0, hfz12_1, hfz12_2, hfz12_3, hfz12_4, hfz12_5⟩ := bf6_ BK210; obtain ⟨hcz13_0, hcz13_1, hcz13_2, hcz13_3⟩ := bc4_ BK211; obtain ⟨hfz13_0, hfz13_1, hfz13_2⟩ := bf3_ BK211; have hfz13_3 := blk_frozen BK211.out 3))
     go_ret
     exact ⟨fin_, bls_⟩
    ·rw [if_neg c8] at H
     have c8b0 : decide ((l1_2.length : Int) ≤ 8) = false := decide_eq_false c8
     have c8b1 : decide (l1_2.length ≤ 8) = false := decide_eq_false (by omega)
     clear c8
     obtain rfl := Option.some.inj H
     go_enter Tryd.func10, Tryd.ntmps10
     go_wp2_with (first | ((with_reducible refine gate_dst (N := 4) rfl ?_); (try (refine gate_guard (by rfl) ?_; dsimp only)); refine be_ (N := 4) (cs := #[.slice A1_0 l1_0.length c1_0, .slice A1_1 l1_1.length c1_1, .slice A1_2 l1_2.length c1_2, .int .i64 a1_3, .int .i64 a1_4, .int .i64 a1_5]) (t := 26) ?_; intro gb210 hg w14 hbox hb; have n0_ := Aside0.mk (below_step bl_ hb); have n1_ := Aside0.mk (hbox); have n2_ := Aside0.mk ((by rw [hg]; exact (below_size bl_) : w.heap.size ≤ gb210)); have n3_ := Aside0.mk ((by rw [hg]; exact (below_size bl_) : w.heap.size ≤ gb210)); clear HB; have HB := n0_; have BK210 := n1_; have GW210 := n2_; have GE210 := n3_; clear n0_ n1_ n2_ n3_; clear hb hbox hg) | ((with_reducible refine gate_dst (N := 5) rfl ?_); (try (refine gate_guard (by rfl) ?_; dsimp only)); refine be_ (N := 5) (cs := #[.slice A2_0 l2_0.length c2_0, .int .i64 a2_1, .int .i64 a2_2, .int .i64 a2_3]) (t := 30) ?_; intro gb211 hg w15 hbox hb; have n0_ := Aside0.mk (blk_below (bkt_ BK210) hb); have n1_ := Aside0.mk (below_step bls_ hb); have n2_ := Aside0.mk (hbox); have n3_ := Aside0.mk ((by rw [hg]; exact (below_size bls_) : w.heap.size ≤ gb211)); have n4_ := Aside0.mk ((by rw [hg]; exact (below_size bls_) : w.heap.size ≤ gb211)); have n5_ := Aside0.mk ((by rw [hg]; exact Nat.ne_of_lt (blk_lt (bkt_ BK210)) : gb210 ≠ gb211)); have n6_ := Aside0.mk ((by rw [hg]; exact Nat.ne_of_gt (blk_lt (bkt_ BK210)) : gb211 ≠ gb210)); clear BK210; clear HB; have BK210 := n0_; have HB := n1_; have BK211 := n2_; have GW211 := n3_; have GE211 := n4_; have NB210_211 := n5_; have NB211_210 := n6_; clear n0_ n1_ n2_ n3_ n4_ n5_ n6_; clear hb hbox hg) | ((with_reducible refine gate_callee (f := 27) rfl ?_); refine gl_ (some 8) Tryd.func27 #[.slice A0 l0.length c0] ?_; (with_reducible refine (spileref16_Few.calls _ _ l0 true _ ?side1 ?side2 A4.out).mono ?_); (case side1 => exact kc_ HR0); (case side2 => exact HC0.out); rintro e w' ⟨rfl, ⟨nd, rfl⟩⟩; refine ⟨_, rfl, ?_⟩; have hnb16 := NB210_211.out; have hnc16 := NB211_210.out; obtain ⟨hcz17_0, hcz17_1, hcz17_2, hcz17_3, hcz17_4, hcz17_5⟩ := bc6_ BK210; obtain ⟨hfz17_0, hfz17_1, hfz17_2, hfz17_3, hfz17_4⟩ := bf5_ BK210; have hfz17_5 := blk_frozen BK210.out 5))
     go_ret
     exact ⟨fin_, bls_⟩
   ·rw [if_neg c7] at H
    have c7b0 : decide ((l1_1.length : Int) ≤ 8) = false := decide_eq_false c7
    have c7b1 : decide (l1_1.length ≤ 8) = false := decide_eq_false (by omega)
    clear c7
    obtain rfl := Option.some.inj H
    go_enter Tryd.func10, Tryd.ntmps10
    go_wp2_with (first | ((with_reducible refine gate_dst (N := 4) rfl ?_); (try (refine gate_guard (by rfl) ?_; dsimp only)); refine be_ (N := 4) (cs := #[.slice A1_0 l1_0.length c1_0, .slice A1_1 l1_1.length c1_1, .slice A1_2 l1_2.length c1_2, .int .i64 a1_3, .int .i64 a1_4, .int .i64 a1_5]) (t := 26) ?_; intro gb210 hg w18 hbox hb; have n0_ := Aside0.mk (below_step bl_ hb); have n1_ := Aside0.mk (hbox); have n2_ := Aside0.mk ((by rw [hg]; exact (below_size bl_) : w.heap.size ≤ gb210)); have n3_ := Aside0.mk ((by rw [hg]; exact (below_size bl_) : w.heap.size ≤ gb210)); clear HB; have HB := n0_; have BK210 := n1_; have GW210 := n2_; have GE210 := n3_; clear n0_ n1_ n2_ n3_; clear hb hbox hg) | ((with_reducible refine gate_dst (N := 5) rfl ?_); (try (refine gate_guard (by rfl) ?_; dsimp only)); refine be_ (N := 5) (cs := #[.slice A2_0 l2_0.length c2_0, .int .i64 a2_1, .int .i64 a2_2, .int .i64 a2_3]) (t := 30) ?_; intro gb211 hg w19 hbox hb; have n0_ := Aside0.mk (blk_below (bkt_ BK210) hb); have n1_ := Aside0.mk (below_step bls_ hb); have n2_ := Aside0.mk (hbox); have n3_ := Aside0.mk ((by rw [hg]; exact (below_size bls_) : w.heap.size ≤ gb211)); have n4_ := Aside0.mk ((by rw [hg]; exact (below_size bls_) : w.heap.size ≤ gb211)); have n5_ := Aside0.mk ((by rw [hg]; exact Nat.ne_of_lt (blk_lt (bkt_ BK210)) : gb210 ≠ gb211)); have n6_ := Aside0.mk ((by rw [hg]; exact Nat.ne_of_gt (blk_lt (bkt_ BK210)) : gb211 ≠ gb210)); clear BK210; clear HB; have BK210 := n0_; have HB := n1_; have BK211 := n2_; have GW211 := n3_; have GE211 := n4_; have NB210_211 := n5_; have NB211_210 := n6_; clear n0_ n1_ n2_ n3_ n4_ n5_ n6_; clear hb hbox hg) | ((with_reducible refine gate_callee (f := 27) rfl ?_); refine gl_ (some 8) Tryd.func27 #[.slice A0 l0.length c0] ?_; (with_reducible refine (spileref16_Few.calls _ _ l0 true _ ?side1 ?side2 A4.out).mono ?_); (case side1 => exact kc_ HR0); (case side2 => exact HC0.out); rintro e w' ⟨rfl, ⟨nd, rfl⟩⟩; refine ⟨_, rfl, ?_⟩; have hnb20 := NB210_211.out; have hnc20 := NB211_210.out; obtain ⟨hcz21_0, hcz21_1, hcz21_2, hcz21_3, hcz21_4, hcz21_5⟩ := bc6_ BK210; obtain ⟨hfz21_0, hfz21_1, hfz21_2, hfz21_3, hfz21_4⟩ := bf5_ BK210; have hfz21_5 := blk_frozen BK210.out 5))
    go_ret
    exact ⟨fin_, bls_⟩
  ·rw [if_neg c6] at H
   have c6b0 : decide ((l1_0.length : Int) ≤ 8) = false := decide_eq_false c6
   have c6b1 : decide (l1_0.length ≤ 8) = false := decide_eq_false (by omega)
   clear c6
   obtain rfl := Option.some.inj H
   go_enter Tryd.func10, Tryd.ntmps10
   go_wp2_with (first | ((with_reducible refine gate_dst (N := 4) rfl ?_); (try (refine gate_guard (by rfl) ?_; dsimp only)); refine be_ (N := 4) (cs := #[.slice A1_0 l1_0.length c1_0, .slice A1_1 l1_1.length c1_1, .slice A1_2 l1_2.length c1_2, .int .i64 a1_3, .int .i64 a1_4, .int .i64 a1_5]) (t := 26) ?_; intro gb210 hg w22 hbox hb; have n0_ := Aside0.mk (below_step bl_ hb); have n1_ := Aside0.mk (hbox); have n2_ := Aside0.mk ((by rw [hg]; exact (below_size bl_) : w.heap.size ≤ gb210)); have n3_ := Aside0.mk ((by rw [hg]; exact (below_size bl_) : w.heap.size ≤ gb210)); clear HB; have HB := n0_; have BK210 := n1_; have GW210 := n2_; have GE210 := n3_; clear n0_ n1_ n2_ n3_; clear hb hbox hg) | ((with_reducible refine gate_dst (N := 5) rfl ?_); (try (refine gate_guard (by rfl) ?_; dsimp only)); refine be_ (N := 5) (cs := #[.slice A2_0 l2_0.length c2_0, .int .i64 a2_1, .int .i64 a2_2, .int .i64 a2_3]) (t := 30) ?_; intro gb211 hg w23 hbox hb; have n0_ := Aside0.mk (blk_below (bkt_ BK210) hb); have n1_ := Aside0.mk (below_step bls_ hb); have n2_ := Aside0.mk (hbox); have n3_ := Aside0.mk ((by rw [hg]; exact (below_size bls_) : w.heap.size ≤ gb211)); have n4_ := Aside0.mk ((by rw [hg]; exact (below_size bls_) : w.heap.size ≤ gb211)); have n5_ := Aside0.mk ((by rw [hg]; exact Nat.ne_of_lt (blk_lt (bkt_ BK210)) : gb210 ≠ gb211)); have n6_ := Aside0.mk ((by rw [hg]; exact Nat.ne_of_gt (blk_lt (bkt_ BK210)) : gb211 ≠ gb210)); clear BK210; clear HB; have BK210 := n0_; have HB := n1_; have BK211 := n2_; have GW211 := n3_; have GE211 := n4_; have NB210_211 := n5_; have NB211_210 := n6_; clear n0_ n1_ n2_ n3_ n4_ n5_ n6_; clear hb hbox hg) | ((with_reducible refine gate_callee (f := 27) rfl ?_); refine gl_ (some 8) Tryd.func27 #[.slice A0 l0.length c0] ?_; (with_reducible refine (spileref16_Few.calls _ _ l0 true _ ?side1 ?side2 A4.out).mono ?_); (case side1 => exact kc_ HR0); (case side2 => exact HC0.out); rintro e w' ⟨rfl, ⟨nd, rfl⟩⟩; refine ⟨_, rfl, ?_⟩; have hnb24 := NB210_211.out; have hnc24 := NB211_210.out; obtain ⟨hcz25_0, hcz25_1, hcz25_2, hcz25_3, hcz25_4, hcz25_5⟩ := bc6_ BK210; obtain ⟨hfz25_0, hfz25_1, hfz25_2, hfz25_3, hfz25_4⟩ := bf5_ BK210; have hfz25_5 := blk_frozen BK210.out 5))
   go_ret
   exact ⟨fin_, bls_⟩
 ·replace c5 := Bool.eq_false_iff.mpr c5
  subst c5
  have H1 : (some false) = some r := by rw [if_neg (show ¬ (false = true) by decide)] at H; exact H
  clear H
  have H := H1
  clear H1
  obtain rfl := Option.some.inj H
  go_enter Tryd.func10, Tryd.ntmps10
  go_wp2_with (first | ((with_reducible refine gate_dst (N := 4) rfl ?_); (try (refine gate_guard (by rfl) ?_; dsimp only)); refine be_ (N := 4) (cs := #[.slice A1_0 l1_0.length c1_0, .slice A1_1 l1_1.length c1_1, .slice A1_2 l1_2.length c1_2, .int .i64 a1_3, .int .i64 a1_4, .int .i64 a1_5]) (t := 26) ?_; intro gb210 hg w26 hbox hb; have n0_ := Aside0.mk (below_step bl_ hb); have n1_ := Aside0.mk (hbox); have n2_ := Aside0.mk ((by rw [hg]; exact (below_size bl_) : w.heap.size ≤ gb210)); have n3_ := Aside0.mk ((by rw [hg]; exact (below_size bl_) : w.heap.size ≤ gb210)); clear HB; have HB := n0_; have BK210 := n1_; have GW210 := n2_; have GE210 := n3_; clear n0_ n1_ n2_ n3_; clear hb hbox hg) | ((with_reducible refine gate_dst (N := 5) rfl ?_); (try (refine gate_guard (by rfl) ?_; dsimp only)); refine be_ (N := 5) (cs := #[.slice A2_0 l2_0.length c2_0, .int .i64 a2_1, .int .i64 a2_2, .int .i64 a2_3]) (t := 30) ?_; intro gb211 hg w27 hbox hb; have n0_ := Aside0.mk (blk_below (bkt_ BK210) hb); have n1_ := Aside0.mk (below_step bls_ hb); have n2_ := Aside0.mk (hbox); have n3_ := Aside0.mk ((by rw [hg]; exact (below_size bls_) : w.heap.size ≤ gb211)); have n4_ := Aside0.mk ((by rw [hg]; exact (below_size bls_) : w.heap.size ≤ gb211)); have n5_ := Aside0.mk ((by rw [hg]; exact Nat.ne_of_lt (blk_lt (bkt_ BK210)) : gb210 ≠ gb211)); have n6_ := Aside0.mk ((by rw [hg]; exact Nat.ne_of_gt (blk_lt (bkt_ BK210)) : gb211 ≠ gb210)); clear BK210; clear HB; have BK210 := n0_; have HB := n1_; have BK211 := n2_; have GW211 := n3_; have GE211 := n4_; have NB210_211 := n5_; have NB211_210 := n6_; clear n0_ n1_ n2_ n3_ n4_ n5_ n6_; clear hb hbox hg) | ((with_reducible refine gate_callee (f := 27) rfl ?_); refine gl_ (some 8) Tryd.func27 #[.slice A0 l0.length c0] ?_; (with_reducible refine (spileref16_Few.calls _ _ l0 false _ ?side1 ?side2 A4.out).mono ?_); (case side1 => exact kc_ HR0); (case side2 => exact HC0.out); rintro e w' ⟨rfl, ⟨nd, rfl⟩⟩; refine ⟨_, rfl, ?_⟩))
  go_ret
  exact ⟨fin_, bls_⟩

/-! ### spileref16_Check: function 76 -/
mutual
def spileref16_Check.l0 : Nat → List (S82) → Int → Option (Int × Int)
 | 0, _, _ => none
 | k + 1, x0, x4 => if x4 < (x0.length : Int) then (if 0 ≤ x4 then (if ((rd_T82 x0 x4).f0) < 0 then (spileref16_Check.j1 k x0 x4 true) else (if ((rd_T82 x0 x4).f0) > 10000 then (spileref16_Check.j1 k x0 x4 true) else (if ((rd_T82 x0 x4).f1) < 50000 then (spileref16_Check.j1 k x0 x4 true) else (spileref16_Check.j1 k x0 x4 (decide (((rd_T82 x0 x4).f1) > 120000)))))) else (none)) else (if 0 < (x0.length : Int) then (if ((rd_T82 x0 0).f0) = 0 then (if 0 ≤ (wrap64 ((x0.length : Int) - 1)) then (if (wrap64 ((x0.length : Int) - 1)) < (x0.length : Int) then (if ((rd_T82 x0 (wrap64 ((x0.length : Int) - 1))).f0) = 10000 then (some ((-1), 0)) else (some (wrap64 ((x0.length : Int) - 1), 10))) else (none)) else (none)) else (some (0, 10))) else (none))
def spileref16_Check.j1 : Nat → List (S82) → Int → Bool → Option (Int × Int)
 | 0, _, _, _ => none
 | k + 1, x0, x4, x46 => if x46 = true then (some (x4, 2)) else (if x4 > 0 then (if 0 ≤ x4 then (if x4 < (x0.length : Int) then (if 0 ≤ (wrap64 (x4 - 1)) then (if (wrap64 (x4 - 1)) < (x0.length : Int) then (spileref16_Check.j2 k x0 x4 (decide (((rd_T82 x0 x4).f0) ≤ ((rd_T82 x0 (wrap64 (x4 - 1))).f0)))) else (none)) else (none)) else (none)) else (none)) else (spileref16_Check.j2 k x0 x4 false))
def spileref16_Check.j2 : Nat → List (S82) → Int → Bool → Option (Int × Int)
 | 0, _, _, _ => none
 | k + 1, x0, x4, x63 => if x63 = true then (some (x4, 5)) else (if x4 > 0 then (if 0 ≤ x4 then (if x4 < (x0.length : Int) then (if 0 ≤ (wrap64 (x4 - 1)) then (if (wrap64 (x4 - 1)) < (x0.length : Int) then (if ((rd_T82 x0 x4).f1) > ((rd_T82 x0 (wrap64 (x4 - 1))).f1) then (some (x4, 18)) else (spileref16_Check.l0 k x0 (wrap64 (x4 + 1)))) else (none)) else (none)) else (none)) else (none)) else (spileref16_Check.l0 k x0 (wrap64 (x4 + 1))))
end
def spileref16_Check.f (k : Nat) (l0 : List (S82)) : Option (Int × Int) := if (l0.length : Int) > 128 then (some ((-1), 8)) else (if (l0.length : Int) < 2 then (some ((-1), 9)) else (spileref16_Check.l0 k l0 0))
theorem spileref16_Check.mono_l : ∀ k, (∀ y0 y1, LeO (spileref16_Check.l0 k y0 y1) (spileref16_Check.l0 (k + 1) y0 y1)) ∧ (∀ y0 y1 y2, LeO (spileref16_Check.j1 k y0 y1 y2) (spileref16_Check.j1 (k + 1) y0 y1 y2)) ∧ (∀ y0 y1 y2, LeO (spileref16_Check.j2 k y0 y1 y2) (spileref16_Check.j2 (k + 1) y0 y1 y2))
 | 0 => ⟨fun _ _ r h => by simp [spileref16_Check.l0] at h, fun _ _ _ r h => by simp [spileref16_Check.j1] at h, fun _ _ _ r h => by simp [spileref16_Check.j2] at h⟩
 | k + 1 => by
  obtain ⟨ih0, ih1, ih2⟩ := spileref16_Check.mono_l k
  refine ⟨?_, ?_, ?_⟩
  ·intro y0 y1
   unfold spileref16_Check.l0
   repeat' first
   | (with_reducible exact ih0 _ _)
   | (with_reducible exact ih1 _ _ _)
   | (with_reducible exact ih2 _ _ _)
   | (with_reducible exact LeO.refl _)
   | (with_reducible exact LeO.none _)
   | (with_reducible refine LeO.ite ?_ ?_)
   | (with_reducible refine LeO.bind ?_ (fun _ => ?_))
   | exact ih0 _ _
   | exact ih1 _ _ _
   | exact ih2 _ _ _
   | exact LeO.none _
   | refine LeO.ite ?_ ?_
   | refine LeO.bind ?_ (fun _ => ?_)
  ·intro y0 y1 y2
   unfold spileref16_Check.j1
   repeat' first
   | (with_reducible exact ih0 _ _)
   | (with_reducible exact ih1 _ _ _)
   | (with_reducible exact ih2 _ _ _)
   | (with_reducible exact LeO.refl _)
   | (with_reducible exact LeO.none _)
   | (with_reducible refine LeO.ite ?_ ?_)
   | (with_reducible refine LeO.bind ?_ (fun _ => ?_))
   | exact ih0 _ _
   | exact ih1 _ _ _
   | exact ih2 _ _ _
   | exact LeO.none _
   | refine LeO.ite ?_ ?_
   | refine LeO.bind ?_ (fun _ => ?_)
  ·intro y0 y1 y2
   unfold spileref16_Check.j2
   repeat' first
   | (with_reducible exact ih0 _ _)
   | (with_reducible exact ih1 _ _ _)
   | (with_reducible exact ih2 _ _ _)
   | (with_reducible exact LeO.refl _)
   | (with_reducible exact LeO.none _)
   | (with_reducible refine LeO.ite ?_ ?_)
   | (with_reducible refine LeO.bind ?_ (fun _ => ?_))
   | exact ih0 _ _
   | exact ih1 _ _ _
   | exact ih2 _ _ _
   | exact LeO.none _
   | refine LeO.ite ?_ ?_
   | refine LeO.bind ?_ (fun _ => ?_)
theorem spileref16_Check.mono : ∀ a0 k, LeO (spileref16_Check.f k a0) (spileref16_Check.f (k + 1) a0) := by
 intro a0 k
 obtain ⟨ih0, ih1, ih2⟩ := spileref16_Check.mono_l k
 unfold spileref16_Check.f
 repeat' first
   | (with_reducible exact ih0 _ _)
   | (with_reducible exact ih1 _ _ _)
   | (with_reducible exact ih2 _ _ _)
   | (with_reducible exact LeO.refl _)
   | (with_reducible exact LeO.none _)
   | (with_reducible refine LeO.ite ?_ ?_)
   | (with_reducible refine LeO.bind ?_ (fun _ => ?_))
   | exact ih0 _ _
   | exact ih1 _ _ _
   | exact ih2 _ _ _
   | exact LeO.none _
   | refine LeO.ite ?_ ?_
   | refine LeO.bind ?_ (fun _ => ?_)
set_option maxHeartbeats 8000000 in
set_option maxRecDepth 100000 in
theorem spileref16_Check.calls (k : Nat) (A0 : Option Addr) (c0 : Nat) (l0 : List (S82)) (r1 : Int) (r2 : Int) (w : World) (hr0 : Kd.C k82 w A0 l0.length l0) (hc0 : l0.length ≤ c0) (h : spileref16_Check.f k l0 = some (r1, r2)) :
  Calls Tryd.prog 76 #[.slice A0 l0.length c0] w fun e w' => e = .returned (.tuple #[.int .i64 r1, .int .i64 r2]) ∧ Drawn0 w w' := by
 have HR0 := Aside0.mk hr0
 have HC0 := Aside0.mk hc0
 clear hr0 hc0
 have H : (if (l0.length : Int) > 128 then (some ((-1), 8)) else (if (l0.length : Int) < 2 then (some ((-1), 9)) else (spileref16_Check.l0 k l0 0))) = some (r1, r2) := h
 clear h
 by_cases c2 : (l0.length : Int) > 128
 ·rw [if_pos c2] at H
  have c2b0 : decide (128 < (l0.length : Int)) = true := decide_eq_true c2
  have c2b1 : decide (128 < l0.length) = true := decide_eq_true (by omega)
  clear c2
  simp only [Option.some.injEq, Prod.mk.injEq] at H
  obtain ⟨rfl, rfl⟩ := H
  go_enter Tryd.func76, Tryd.ntmps76
  go_wp2
  repeat (go_quiet (fail); try go_wp2)
  go_ret2
  exact ⟨by first | rfl | (simp; done) | (simp [*]; done), by repeat (first | exact Drawn0.refl _ | apply Drawn0.step)⟩
 ·rw [if_neg c2] at H
  have c2b0 : decide (128 < (l0.length : Int)) = false := decide_eq_false c2
  have c2b1 : decide (128 < l0.length) = false := decide_eq_false (by omega)
  clear c2
  by_cases c3 : (l0.length : Int) < 2
  ·rw [if_pos c3] at H
   have c3b0 : decide ((l0.length : Int) < 2) = true := decide_eq_true c3
   have c3b1 : decide (l0.length < 2) = true := decide_eq_true (by omega)
   clear c3
   simp only [Option.some.injEq, Prod.mk.injEq] at H
   obtain ⟨rfl, rfl⟩ := H
   go_enter Tryd.func76, Tryd.ntmps76
   go_wp2
   repeat (go_quiet (fail); try go_wp2)
   go_ret2
   exact ⟨by first | rfl | (simp; done) | (simp [*]; done), by repeat (first | exact Drawn0.refl _ | apply Drawn0.step)⟩
  ·rw [if_neg c3] at H
   have c3b0 : decide ((l0.length : Int) < 2) = false := decide_eq_false c3
   have c3b1 : decide (l0.length < 2) = false := decide_eq_false (by omega)
   clear c3
   have H' := Aside0.mk H
   clear H
   go_enter Tryd.func76, Tryd.ntmps76
   go_wp2
   repeat (go_quiet (fail); try go_wp2)
   go_loopg [4] k (fun kq v4 w' => ∃ (x4_1 : Int), v4 = .int .i64 x4_1 ∧ Aside0 (spileref16_Check.l0 kq l0 x4_1 = some (r1, r2)) ∧ Aside0 (kq ≤ k) ∧ Drawn0 w w')
   case atStart => exact ⟨(0), sm_, H', ⟨Nat.le_refl _⟩, by repeat (first | exact Drawn0.refl _ | apply Drawn0.step)⟩
   case round =>
    clear H'
    try clear c2
    try clear c2b0
    try clear c2b1
    try clear p2
    try clear c3
    try clear c3b0
    try clear c3b1
    obtain ⟨x4_1, rfl, HA, HK1, ⟨m1, rfl⟩⟩ := hrel
    cases gk with
    | zero => exact absurd HA.out (by simp [spileref16_Check.l0])
    | succ k1 =>
     have H := HA.out
     clear HA
     simp only [spileref16_Check.l0] at H
     by_cases c4 : x4_1 < (l0.length : Int)
     ·rw [if_pos c4] at H
      have c4b0 : decide (x4_1 < (l0.length : Int)) = true := decide_eq_true c4
      clear c4
      have HC5 := Aside0.mk H
      clear H
      go_upto_region 8 with (fail)
      repeat (go_quiet (fail); go_upto_region 8 with (fail))
      go_cut [46] (fun v46 wc => ∃ (kq : Nat) (x46_4 : Bool), v46 = .bool x46_4 ∧ Aside0 (spileref16_Check.j1 kq l0 x4_1 x46_4 = some (r1, r2)) ∧ Aside0 (kq ≤ k1) ∧ Drawn0 w wc)
      case first =>
       have H := HC5.out
       clear HC5
       by_cases c6 : 0 ≤ x4_1
       ·rw [if_pos c6] at H
        have c6b0 : decide (0 ≤ x4_1) = true := decide_eq_true c6
        clear c6
        (first | rw [c6b0] | (simp only [i64_w, i32_w]; rw [c6b0]) | skip)
        by_cases c7 : ((rd_T82 l0 x4_1).f0) < 0
        ·rw [if_pos c7] at H
         have c7b0 : decide (((rd_T82 l0 x4_1).f0) < 0) = true := decide_eq_true c7
         clear c7
         have H' := Aside0.mk H
         clear H
         have p213 : 0 ≤ (x4_1 : Int) := of_decide_eq_true as_
         have q213 : x4_1 < (l0.length : Int) := of_decide_eq_true as_
         obtain ⟨ad213, e213, hx213_0, hx213_1⟩ := at_T82 HR0.out x4_1 p213 q213
         cases e213
         replace p213 := eq_true p213
         replace q213 := eq_true q213
         go_wp2
         repeat (go_quiet (fail); try go_wp2)
         go_meet
         case rel => exact ⟨_, (true), sm_, H', ⟨by have := HK1.out; first | omega | exact Nat.le_refl _⟩, by repeat (first | exact Drawn0.refl _ | apply Drawn0.step)⟩
        ·rw [if_neg c7] at H
         have c7b0 : decide (((rd_T82 l0 x4_1).f0) < 0) = false := decide_eq_false c7
         clear c7
         by_cases c8 : ((rd_T82 l0 x4_1).f0) > 10000
         ·rw [if_pos c8] at H
          have c8b0 : decide (10000 < ((rd_T82 l0 x4_1).f0)) = true := decide_eq_true c8
          clear c8
          have H' := Aside0.mk H
          clear H
          have p213 : 0 ≤ (x4_1 : Int) := of_decide_eq_true as_
          have q213 : x4_1 < (l0.length : Int) := of_decide_eq_true as_
          obtain ⟨ad213, e213, hx213_0, hx213_1⟩ := at_T82 HR0.out x4_1 p213 q213
          cases e213
          replace p213 := eq_true p213
          replace q213 := eq_true q213
          have p214 : 0 ≤ (x4_1 : Int) := of_decide_eq_true as_
          have q214 : x4_1 < (l0.length : Int) := of_decide_eq_true as_
          obtain ⟨ad214, e214, hx214_0, hx214_1⟩ := at_T82 HR0.out x4_1 p214 q214
          obtain rfl : ad213 = ad214 := (by injection e214)
          replace p214 := eq_true p214
          replace q214 := eq_true q214
          go_wp2
          repeat (go_quiet (fail); try go_wp2)
          go_meet
          case rel => exact ⟨_, (true), sm_, H', ⟨by have := HK1.out; first | omega | exact Nat.le_refl _⟩, by repeat (first | exact Drawn0.refl _ | apply Drawn0.step)⟩
         ·rw [if_neg c8] at H
          have c8b0 : decide (10000 < ((rd_T82 l0 x4_1).f0)) = false := decide_eq_false c8
          clear c8
          by_cases c9 : ((rd_T82 l0 x4_1).f1) < 50000
          ·rw [if_pos c9] at H
           have c9b0 : decide (((rd_T82 l0 x4_1).f1) < 50000) = true := decide_eq_true c9
           clear c9
           have H' := Aside0.mk H
           clear H
           have p213 : 0 ≤ (x4_1 : Int) := of_decide_eq_true as_
           have q213 : x4_1 < (l0.length : Int) := of_decide_eq_true as_
           obtain ⟨ad213, e213, hx213_0, hx213_1⟩ := at_T82 HR0.out x4_1 p213 q213
           cases e213
           replace p213 := eq_true p213
           replace q213 := eq_true q213
           have p214 : 0 ≤ (x4_1 : Int) := of_decide_eq_true as_
           have q214 : x4_1 < (l0.length : Int) := of_decide_eq_true as_
           obtain ⟨ad214, e214, hx214_0, hx214_1⟩ := at_T82 HR0.out x4_1 p214 q214
           obtain rfl : ad213 = ad214 := (by injection e214)
           replace p214 := eq_true p214
           replace q214 := eq_true q214
           have p215 : 0 ≤ (x4_1 : Int) := of_decide_eq_true as_
           have q215 : x4_1 < (l0.length : Int) := of_decide_eq_true as_
           obtain ⟨ad215, e215, hx215_0, hx215_1⟩ := at_T82 HR0.out x4_1 p215 q215
           obtain rfl : ad213 = ad215 := (by injection e215)
           replace p215 := eq_true p215
           replace q215 := eq_true q215
           go_wp2
           repeat (go_quiet (fail); try go_wp2)
           go_meet
           case rel => exact ⟨_, (true), sm_, H', ⟨by have := HK1.out; first | omega | exact Nat.le_refl _⟩, by repeat (first | exact Drawn0.refl _ | apply Drawn0.step)⟩
          ·rw [if_neg c9] at H
           have c9b0 : decide (((rd_T82 l0 x4_1).f1) < 50000) = false := decide_eq_false c9
           clear c9
           have H' := Aside0.mk H
           clear H
           have p213 : 0 ≤ (x4_1 : Int) := of_decide_eq_true as_
           have q213 : x4_1 < (l0.length : Int) := of_decide_eq_true as_
           obtain ⟨ad213, e213, hx213_0, hx213_1⟩ := at_T82 HR0.out x4_1 p213 q213
           cases e213
           replace p213 := eq_true p213
           replace q213 := eq_true q213
           have p214 : 0 ≤ (x4_1 : Int) := of_decide_eq_true as_
           have q214 : x4_1 < (l0.length : Int) := of_decide_eq_true as_
           obtain ⟨ad214, e214, hx214_0, hx214_1⟩ := at_T82 HR0.out x4_1 p214 q214
           obtain rfl : ad213 = ad214 := (by injection e214)
           replace p214 := eq_true p214
           replace q214 := eq_true q214
           have p215 : 0 ≤ (x4_1 : Int) := of_decide_eq_true as_
           have q215 : x4_1 < (l0.length : Int) := of_decide_eq_true as_
           obtain ⟨ad215, e215, hx215_0, hx215_1⟩ := at_T82 HR0.out x4_1 p215 q215
           obtain rfl : ad213 = ad215 := (by injection e215)
           replace p215 := eq_true p215
           replace q215 := eq_true q215
           have p216 : 0 ≤ (x4_1 : Int) := of_decide_eq_true as_
           have q216 : x4_1 < (l0.length : Int) := of_decide_eq_true as_
           obtain ⟨ad216, e216, hx216_0, hx216_1⟩ := at_T82 HR0.out x4_1 p216 q216
           obtain rfl : ad213 = ad216 := (by injection e216)
           replace p216 := eq_true p216
           replace q216 := eq_true q216
           go_wp2
           repeat (go_quiet (fail); try go_wp2)
           go_meet
           case rel => exact ⟨_, (decide (((rd_T82 l0 x4_1).f1) > 120000)), sm_, H', ⟨by have := HK1.out; first | omega | exact Nat.le_refl _⟩, by repeat (first | exact Drawn0.refl _ | apply Drawn0.step)⟩
       ·rw [if_neg c6] at H
        exact absurd H (by simp)
      case rest =>
       clear HC5
       try clear c2
       try clear c2b0
       try clear c2b1
       try clear p2
       try clear q2
       try clear hx2
       try clear c3
       try clear c3b0
       try clear c3b1
       try clear c4
       try clear c4b0
       try clear c6
       try clear c6b0
       try clear c7
       try clear c7b0
       try clear c8
       try clear c8b0
       try clear c9
       try clear c9b0
       try clear hx213_0
       try clear hx213_1
       try clear hx214_0
       try clear hx214_1
       try clear hx215_0
       try clear hx215_1
       try clear hx216_0
       try clear hx216_1
       try clear p2
       try clear p213
       try clear p214
       try clear p215
       try clear p216
       try clear q213
       try clear q214
       try clear q215
       try clear q216
       obtain ⟨kq, x46_4, rfl, HA, HJ4, ⟨mc4, rfl⟩⟩ := hcut
       cases kq with
       | zero => exact absurd HA.out (by simp [spileref16_Check.j1])
       | succ kj4 =>
        have H := HA.out
        clear HA
        simp only [spileref16_Check.j1] at H
        by_cases c10 : x46_4 = true
        ·subst c10
         have H1 : (some (x4_1, 2)) = some (r1, r2) := by rw [if_pos rfl] at H; exact H
         clear H
         have H := H1
         clear H1
         simp only [Option.some.injEq, Prod.mk.injEq] at H
         obtain ⟨rfl, rfl⟩ := H
         go_wp2
         repeat (go_quiet (fail); try go_wp2)
         go_ret2
         exact ⟨by first | rfl | (simp; done) | (simp [*]; done), by repeat (first | exact Drawn0.refl _ | apply Drawn0.step)⟩
        ·replace c10 := Bool.eq_false_iff.mpr c10
         subst c10
         have H1 : (if x4_1 > 0 then (if 0 ≤ x4_1 then (if x4_1 < (l0.length : Int) then (if 0 ≤ (wrap64 (x4_1 - 1)) then (if (wrap64 (x4_1 - 1)) < (l0.length : Int) then (spileref16_Check.j2 kj4 l0 x4_1 (decide (((rd_T82 l0 x4_1).f0) ≤ ((rd_T82 l0 (wrap64 (x4_1 - 1))).f0)))) else (none)) else (none)) else (none)) else (none)) else (spileref16_Check.j2 kj4 l0 x4_1 false)) = some (r1, r2) := by rw [if_neg (show ¬ (false = true) by decide)] at H; exact H
         clear H
         have H := H1
         clear H1
         have HC11 := Aside0.mk H
         clear H
         go_upto_region 10 with (fail)
         repeat (go_quiet (fail); go_upto_region 10 with (fail))
         go_cut [63] (fun v63 wc => ∃ (kq : Nat) (x63_10 : Bool), v63 = .bool x63_10 ∧ Aside0 (spileref16_Check.j2 kq l0 x4_1 x63_10 = some (r1, r2)) ∧ Aside0 (kq ≤ kj4) ∧ Drawn0 w wc)
         case first =>
          have H := HC11.out
          clear HC11
          by_cases c12 : x4_1 > 0
          ·rw [if_pos c12] at H
           have c12b0 : decide (0 < x4_1) = true := decide_eq_true c12
           clear c12
           (first | rw [c12b0] | (simp only [i64_w, i32_w]; rw [c12b0]) | skip)
           by_cases c13 : 0 ≤ x4_1
           ·rw [if_pos c13] at H
            have c13b0 : decide (0 ≤ x4_1) = true := decide_eq_true c13
            clear c13
            by_cases c14 : x4_1 < (l0.length : Int)
            ·rw [if_pos c14] at H
             have c14b0 : decide (x4_1 < (l0.length : Int)) = true := decide_eq_true c14
             clear c14
             obtain ⟨ji15, hji15⟩ : ∃ j_ : Int, (wrap64 (x4_1 - 1)) = j_ := ⟨_, rfl⟩
             replace H : (if 0 ≤ (ji15) then (if (ji15) < (l0.length : Int) then (spileref16_Check.j2 kj4 l0 x4_1 (decide (((rd_T82 l0 x4_1).f0) ≤ ((rd_T82 l0 (ji15)).f0)))) else (none)) else (none)) = some (r1, r2) := by first | (rw [hji15] at H; exact H) | (simp only [hji15] at H ⊢; exact H)
             have hji15w : (IntKind.i64.wrap (x4_1 - 1)) = ji15 := (i64_w _).trans hji15
             by_cases c16 : 0 ≤ (ji15)
             ·rw [if_pos c16] at H
              have c16b0 : decide (0 ≤ (ji15)) = true := decide_eq_true c16
              clear c16
              by_cases c17 : (ji15) < (l0.length : Int)
              ·rw [if_pos c17] at H
               have c17b0 : decide ((ji15) < (l0.length : Int)) = true := decide_eq_true c17
               clear c17
               have H' := Aside0.mk H
               clear H
               have p217 : 0 ≤ (x4_1 : Int) := of_decide_eq_true as_
               have q217 : x4_1 < (l0.length : Int) := of_decide_eq_true as_
               obtain ⟨ad217, e217, hx217_0, hx217_1⟩ := at_T82 HR0.out x4_1 p217 q217
               cases e217
               replace p217 := eq_true p217
               replace q217 := eq_true q217
               have p218 : 0 ≤ ((ji15) : Int) := of_decide_eq_true as_
               have q218 : (ji15) < (l0.length : Int) := of_decide_eq_true as_
               obtain ⟨ad218, e218, hx218_0, hx218_1⟩ := at_T82 HR0.out (ji15) p218 q218
               obtain rfl : ad217 = ad218 := (by injection e218)
               replace p218 := eq_true p218
               replace q218 := eq_true q218
               go_wp2
               repeat (go_quiet (fail); try go_wp2)
               go_meet
               case rel => exact ⟨_, (decide (((rd_T82 l0 x4_1).f0) ≤ ((rd_T82 l0 (ji15)).f0))), (by first | rfl | (simp; done) | (simp only [← hji15] <;> (first | rfl | simp)) | (simp [*]; done)), H', ⟨by have := HK1.out; have := HJ4.out; first | omega | exact Nat.le_refl _⟩, by repeat (first | exact Drawn0.refl _ | apply Drawn0.step)⟩
              ·rw [if_neg c17] at H
               exact absurd H (by simp)
             ·rw [if_neg c16] at H
              exact absurd H (by simp)
            ·rw [if_neg c14] at H
             exact absurd H (by simp)
           ·rw [if_neg c13] at H
            exact absurd H (by simp)
          ·rw [if_neg c12] at H
           have c12b0 : decide (0 < x4_1) = false := decide_eq_false c12
           clear c12
           (first | rw [c12b0] | (simp only [i64_w, i32_w]; rw [c12b0]) | skip)
           have H' := Aside0.mk H
           clear H
           go_wp2
           repeat (go_quiet (fail); try go_wp2)
           go_meet
           case rel => exact ⟨_, (false), sm_, H', ⟨by have := HK1.out; have := HJ4.out; first | omega | exact Nat.le_refl _⟩, by repeat (first | exact Drawn0.refl _ | apply Drawn0.step)⟩
         case rest =>
          clear HC11
          try clear c1
          try clear c2
          try clear c2b0
          try clear c2b1
          try clear p2
          try clear q2
          try clear hx2
          try clear c3
          try clear c3b0
          try clear c3b1
          try clear c4
          try clear c4b0
          try clear c6
          try clear c6b0
          try clear p6
          try clear c7
          try clear c7b0
          try clear c8
          try clear c8b0
          try clear c9
          try clear c9b0
          try clear c10
          try clear c12
          try clear c12b0
          try clear c13
          try clear c13b0
          try clear c14
          try clear c14b0
          try clear c16
          try clear c16b0
          try clear c17
          try clear c17b0
          try clear hx213_0
          try clear hx213_1
          try clear hx214_0
          try clear hx214_1
          try clear hx215_0
          try clear hx215_1
          try clear hx216_0
          try clear hx216_1
          try clear hx217_0
          try clear hx217_1
          try clear hx218_0
          try clear hx218_1
          try clear p2
          try clear p213
          try clear p214
          try clear p215
          try clear p216
          try clear p217
          try clear p218
          try clear q2
          try clear q213
          try clear q214
          try clear q215
          try clear q216
          try clear q217
          try clear q218
          obtain ⟨kq, x63_10, rfl, HA, HJ10, ⟨mc10, rfl⟩⟩ := hcut
          cases kq with
          | zero => exact absurd HA.out (by simp [spileref16_Check.j2])
          | succ kj10 =>
           have H := HA.out
           clear HA
           simp only [spileref16_Check.j2] at H
           by_cases c18 : x63_10 = true
           ·subst c18
            have H1 : (some (x4_1, 5)) = some (r1, r2) := by rw [if_pos rfl] at H; exact H
            clear H
            have H := H1
            clear H1
            simp only [Option.some.injEq, Prod.mk.injEq] at H
            obtain ⟨rfl, rfl⟩ := H
            go_wp2
            repeat (go_quiet (fail); try go_wp2)
            go_ret2
            exact ⟨by first | rfl | (simp; done) | (simp [*]; done), by repeat (first | exact Drawn0.refl _ | apply Drawn0.step)⟩
           ·replace c18 := Bool.eq_false_iff.mpr c18
            subst c18
            have H1 : (if x4_1 > 0 then (if 0 ≤ x4_1 then (if x4_1 < (l0.length : Int) then (if 0 ≤ (wrap64 (x4_1 - 1)) then (if (wrap64 (x4_1 - 1)) < (l0.length : Int) then (if ((rd_T82 l0 x4_1).f1) > ((rd_T82 l0 (wrap64 (x4_1 - 1))).f1) then (some (x4_1, 18)) else (spileref16_Check.l0 kj10 l0 (wrap64 (x4_1 + 1)))) else (none)) else (none)) else (none)) else (none)) else (spileref16_Check.l0 kj10 l0 (wrap64 (x4_1 + 1)))) = some (r1, r2) := by rw [if_neg (show ¬ (false = true) by decide)] at H; exact H
            clear H
            have H := H1
            clear H1
            by_cases c19 : x4_1 > 0
            ·rw [if_pos c19] at H
             have c19b0 : decide (0 < x4_1) = true := decide_eq_true c19
             clear c19
             by_cases c20 : 0 ≤ x4_1
             ·rw [if_pos c20] at H
              have c20b0 : decide (0 ≤ x4_1) = true := decide_eq_true c20
              clear c20
              by_cases c21 : x4_1 < (l0.length : Int)
              ·rw [if_pos c21] at H
               have c21b0 : decide (x4_1 < (l0.length : Int)) = true := decide_eq_true c21
               clear c21
               obtain ⟨ji22, hji22⟩ : ∃ j_ : Int, (wrap64 (x4_1 - 1)) = j_ := ⟨_, rfl⟩
               replace H : (if 0 ≤ (ji22) then (if (ji22) < (l0.length : Int) then (if ((rd_T82 l0 x4_1).f1) > ((rd_T82 l0 (ji22)).f1) then (some (x4_1, 18)) else (spileref16_Check.l0 kj10 l0 (wrap64 (x4_1 + 1)))) else (none)) else (none)) = some (r1, r2) := by first | (rw [hji22] at H; exact H) | (simp only [hji22] at H ⊢; exact H)
               have hji22w : (IntKind.i64.wrap (x4_1 - 1)) = ji22 := (i64_w _).trans hji22
               by_cases c23 : 0 ≤ (ji22)
               ·rw [if_pos c23] at H
                have c23b0 : decide (0 ≤ (ji22)) = true := decide_eq_true c23
                clear c23
                by_cases c24 : (ji22) < (l0.length : Int)
                ·rw [if_pos c24] at H
                 have c24b0 : decide ((ji22) < (l0.length : Int)) = true := decide_eq_true c24
                 clear c24
                 by_cases c25 : ((rd_T82 l0 x4_1).f1) > ((rd_T82 l0 (ji22)).f1)
                 ·rw [if_pos c25] at H
                  have c25b0 : decide (((rd_T82 l0 (ji22)).f1) < ((rd_T82 l0 x4_1).f1)) = true := decide_eq_true c25
                  clear c25
                  simp only [Option.some.injEq, Prod.mk.injEq] at H
                  obtain ⟨rfl, rfl⟩ := H
                  have p219 : 0 ≤ (x4_1 : Int) := of_decide_eq_true as_
                  have q219 : x4_1 < (l0.length : Int) := of_decide_eq_true as_
                  obtain ⟨ad219, e219, hx219_0, hx219_1⟩ := at_T82 HR0.out x4_1 p219 q219
                  cases e219
                  replace p219 := eq_true p219
                  replace q219 := eq_true q219
                  have p220 : 0 ≤ ((ji22) : Int) := of_decide_eq_true as_
                  have q220 : (ji22) < (l0.length : Int) := of_decide_eq_true as_
                  obtain ⟨ad220, e220, hx220_0, hx220_1⟩ := at_T82 HR0.out (ji22) p220 q220
                  obtain rfl : ad219 = ad220 := (by injection e220)
                  replace p220 := eq_true p220
                  replace q220 := eq_true q220
                  go_wp2
                  repeat (go_quiet (fail); try go_wp2)
                  go_ret2
                  exact ⟨by first | rfl | (simp; done) | (simp only [← hji22] <;> (first | rfl | simp)) | (simp [*]; done), by repeat (first | exact Drawn0.refl _ | apply Drawn0.step)⟩
                 ·rw [if_neg c25] at H
                  have c25b0 : decide (((rd_T82 l0 (ji22)).f1) < ((rd_T82 l0 x4_1).f1)) = false := decide_eq_false c25
                  clear c25
                  have H' := Aside0.mk H
                  clear H
                  have p219 : 0 ≤ (x4_1 : Int) := of_decide_eq_true as_
                  have q219 : x4_1 < (l0.length : Int) := of_decide_eq_true as_
                  obtain ⟨ad219, e219, hx219_0, hx219_1⟩ := at_T82 HR0.out x4_1 p219 q219
                  cases e219
                  replace p219 := eq_true p219
                  replace q219 := eq_true q219
                  have p220 : 0 ≤ ((ji22) : Int) := of_decide_eq_true as_
                  have q220 : (ji22) < (l0.length : Int) := of_decide_eq_true as_
                  obtain ⟨ad220, e220, hx220_0, hx220_1⟩ := at_T82 HR0.out (ji22) p220 q220
                  obtain rfl : ad219 = ad220 := (by injection e220)
                  replace p220 := eq_true p220
                  replace q220 := eq_true q220
                  go_wp2
                  repeat (go_quiet (fail); try go_wp2)
                  go_roundg kj10
                  case measure => have := HK1.out; have := HJ4.out; have := HJ10.out; omega
                  case rel => exact ⟨(wrap64 (x4_1 + 1)), sm_, H', ⟨by have := HK1.out; have := HJ4.out; have := HJ10.out; omega⟩, by repeat (first | exact Drawn0.refl _ | apply Drawn0.step)⟩
                ·rw [if_neg c24] at H
                 exact absurd H (by simp)
               ·rw [if_neg c23] at H
                exact absurd H (by simp)
              ·rw [if_neg c21] at H
               exact absurd H (by simp)
             ·rw [if_neg c20] at H
              exact absurd H (by simp)
            ·rw [if_neg c19] at H
             have c19b0 : decide (0 < x4_1) = false := decide_eq_false c19
             clear c19
             have H' := Aside0.mk H
             clear H
             go_wp2
             repeat (go_quiet (fail); try go_wp2)
             go_roundg kj10
             case measure => have := HK1.out; have := HJ4.out; have := HJ10.out; omega
             case rel => exact ⟨(wrap64 (x4_1 + 1)), sm_, H', ⟨by have := HK1.out; have := HJ4.out; have := HJ10.out; omega⟩, by repeat (first | exact Drawn0.refl _ | apply Drawn0.step)⟩
     ·rw [if_neg c4] at H
      have c4b0 : decide (x4_1 < (l0.length : Int)) = false := decide_eq_false c4
      clear c4
      by_cases c26 : 0 < (l0.length : Int)
      ·rw [if_pos c26] at H
       have c26b0 : decide (0 < (l0.length : Int)) = true := decide_eq_true c26
       have c26b1 : decide (0 < l0.length) = true := decide_eq_true (by omega)
       clear c26
       by_cases c27 : ((rd_T82 l0 0).f0) = 0
       ·rw [if_pos c27] at H
        have c27b0 : (((rd_T82 l0 0).f0) == 0) = true := beq_iff_eq.mpr c27
        have c27b1 : (((rd_T82 l0 0).f0) != 0) = false := bne_eq_false_iff_eq.mpr c27
        clear c27
        obtain ⟨ji28, hji28⟩ : ∃ j_ : Int, (wrap64 ((l0.length : Int) - 1)) = j_ := ⟨_, rfl⟩
        replace H : (if 0 ≤ (ji28) then (if (ji28) < (l0.length : Int) then (if ((rd_T82 l0 (ji28)).f0) = 10000 then (some ((-1), 0)) else (some (ji28, 10))) else (none)) else (none)) = some (r1, r2) := by first | (rw [hji28] at H; exact H) | (simp only [hji28] at H ⊢; exact H)
        have hji28w : (IntKind.i64.wrap ((l0.length : Int) - 1)) = ji28 := (i64_w _).trans hji28
        by_cases c29 : 0 ≤ (ji28)
        ·rw [if_pos c29] at H
         have c29b0 : decide (0 ≤ (ji28)) = true := decide_eq_true c29
         clear c29
         by_cases c30 : (ji28) < (l0.length : Int)
         ·rw [if_pos c30] at H
          have c30b0 : decide ((ji28) < (l0.length : Int)) = true := decide_eq_true c30
          clear c30
          by_cases c31 : ((rd_T82 l0 (ji28)).f0) = 10000
          ·rw [if_pos c31] at H
           have c31b0 : (((rd_T82 l0 (ji28)).f0) == 10000) = true := beq_iff_eq.mpr c31
           have c31b1 : (((rd_T82 l0 (ji28)).f0) != 10000) = false := bne_eq_false_iff_eq.mpr c31
           clear c31
           simp only [Option.some.injEq, Prod.mk.injEq] at H
           obtain ⟨rfl, rfl⟩ := H
           have p221 : 0 ≤ (0 : Int) := (by omega)
           have q221 : 0 < (l0.length : Int) := of_decide_eq_true as_
           obtain ⟨ad221, e221, hx221_0, hx221_1⟩ := at_T82 HR0.out 0 p221 q221
           cases e221
           have qi221 : (0 < l0.length) = True := eq_true (by omega)
           (try rw [show ((0 : Int)).toNat = 0 from rfl] at hx221_0)
           (try rw [show 0 * 2 = 0 from rfl] at hx221_0)
           (try rw [Addr.add_zero'] at hx221_0)
           (try rw [show ((0 : Int)).toNat = 0 from rfl] at hx221_1)
           (try rw [show 0 * 2 = 0 from rfl] at hx221_1)
           (try rw [Addr.add_zero'] at hx221_1)
           replace p221 := eq_true p221
           replace q221 := eq_true q221
           have p222 : 0 ≤ ((ji28) : Int) := of_decide_eq_true as_
           have q222 : (ji28) < (l0.length : Int) := of_decide_eq_true as_
           obtain ⟨ad222, e222, hx222_0, hx222_1⟩ := at_T82 HR0.out (ji28) p222 q222
           obtain rfl : ad221 = ad222 := (by injection e222)
           replace p222 := eq_true p222
           replace q222 := eq_true q222
           go_wp2
           repeat (go_quiet (fail); try go_wp2)
           go_ret2
           exact ⟨by first | rfl | (simp; done) | (simp only [← hji28] <;> (first | rfl | simp)) | (simp [*]; done), by repeat (first | exact Drawn0.refl _ | apply Drawn0.step)⟩
          ·rw [if_neg c31] at H
           have c31b0 : (((rd_T82 l0 (ji28)).f0) == 10000) = false := beq_eq_false_iff_ne.mpr c31
           have c31b1 : (((rd_T82 l0 (ji28)).f0) != 10000) = true := bne_iff_ne.mpr c31
           simp only [Option.some.injEq, Prod.mk.injEq] at H
           obtain ⟨rfl, rfl⟩ := H
           have p221 : 0 ≤ (0 : Int) := (by omega)
           have q221 : 0 < (l0.length : Int) := of_decide_eq_true as_
           obtain ⟨ad221, e221, hx221_0, hx221_1⟩ := at_T82 HR0.out 0 p221 q221
           cases e221
           have qi221 : (0 < l0.length) = True := eq_true (by omega)
           (try rw [show ((0 : Int)).toNat = 0 from rfl] at hx221_0)
           (try rw [show 0 * 2 = 0 from rfl] at hx221_0)
           (try rw [Addr.add_zero'] at hx221_0)
           (try rw [show ((0 : Int)).toNat = 0 from rfl] at hx221_1)
           (try rw [show 0 * 2 = 0 from rfl] at hx221_1)
           (try rw [Addr.add_zero'] at hx221_1)
           replace p221 := eq_true p221
           replace q221 := eq_true q221
           have p222 : 0 ≤ ((ji28) : Int) := of_decide_eq_true as_
           have q222 : (ji28) < (l0.length : Int) := of_decide_eq_true as_
           obtain ⟨ad222, e222, hx222_0, hx222_1⟩ := at_T82 HR0.out (ji28) p222 q222
           obtain rfl : ad221 = ad222 := (by injection e222)
           replace p222 := eq_true p222
           replace q222 := eq_true q222
           go_wp2
           repeat (go_quiet (fail); try go_wp2)
           go_ret2
           exact ⟨by first | rfl | (simp; done) | (simp only [← hji28] <;> (first | rfl | simp)) | (simp [*]; done), by repeat (first | exact Drawn0.refl _ | apply Drawn0.step)⟩
         ·rw [if_neg c30] at H
          exact absurd H (by simp)
        ·rw [if_neg c29] at H
         exact absurd H (by simp)
       ·rw [if_neg c27] at H
        have c27b0 : (((rd_T82 l0 0).f0) == 0) = false := beq_eq_false_iff_ne.mpr c27
        have c27b1 : (((rd_T82 l0 0).f0) != 0) = true := bne_iff_ne.mpr c27
        simp only [Option.some.injEq, Prod.mk.injEq] at H
        obtain ⟨rfl, rfl⟩ := H
        have p221 : 0 ≤ (0 : Int) := (by omega)
        have q221 : 0 < (l0.length : Int) := of_decide_eq_true as_
        obtain ⟨ad221, e221, hx221_0, hx221_1⟩ := at_T82 HR0.out 0 p221 q221
        cases e221
        have qi221 : (0 < l0.length) = True := eq_true (by omega)
        (try rw [show ((0 : Int)).toNat = 0 from rfl] at hx221_0)
        (try rw [show 0 * 2 = 0 from rfl] at hx221_0)
        (try rw [Addr.add_zero'] at hx221_0)
        (try rw [show ((0 : Int)).toNat = 0 from rfl] at hx221_1)
        (try rw [show 0 * 2 = 0 from rfl] at hx221_1)
        (try rw [Addr.add_zero'] at hx221_1)
        replace p221 := eq_true p221
        replace q221 := eq_true q221
        go_wp2
        repeat (go_quiet (fail); try go_wp2)
        go_ret2
        exact ⟨by first | rfl | (simp; done) | (simp [*]; done), by repeat (first | exact Drawn0.refl _ | apply Drawn0.step)⟩
      ·rw [if_neg c26] at H
       exact absurd H (by simp)
-- MAKING
theorem spileref16_Check.tail_plain (l : List S82) (h2 : 2 ≤ l.length) (hl : l.length ≤ 128) :
    (if 0 < (l.length : Int) then (if ((rd_T82 l 0).f0) = 0 then (if 0 ≤ (wrap64 ((l.length : Int) - 1)) then (if (wrap64 ((l.length : Int) - 1)) < (l.length : Int) then (if ((rd_T82 l (wrap64 ((l.length : Int) - 1))).f0) = 10000 then (some ((-1 : Int), (0 : Int))) else (some (wrap64 ((l.length : Int) - 1), 10))) else (none)) else (none)) else (some (0, 10))) else (none)) = some (dtail l) := density_Check.tail_plain l h2 hl
theorem spileref16_Check.loop_plain (l : List S82) (h2 : 2 ≤ l.length) (hl : l.length ≤ 128) (d : Nat) : ∀ (i k : Nat), i + d = l.length → 3 * d + 1 ≤ k → spileref16_Check.l0 k l i = some (dfrom l d i) := by
  induction d with
  | zero =>
    intro i k hi hk
    obtain ⟨k, rfl⟩ : ∃ m, k = m + 1 := ⟨k - 1, by omega⟩
    simp only [spileref16_Check.l0]
    rw [if_neg (by omega), spileref16_Check.tail_plain l h2 hl]
    rfl
  | succ d ih =>
    intro i k hi hk
    obtain ⟨q, rfl⟩ : ∃ m, k = m + 3 := ⟨k - 3, by omega⟩
    have e1 : wrap64 ((i : Int) + 1) = ((i + 1 : Nat) : Int) := by rw [w64_ (by omega) (by omega)]; omega
    have e2 : wrap64 ((i : Int) - 1) = (i : Int) - 1 := w64_ (by omega) (by omega)
    have hn := ih (i + 1) q (by omega) (by omega)
    rw [← e1] at hn
    have c0 : (0 : Int) ≤ i := by omega
    have c1 : (i : Int) < (l.length : Int) := by omega
    simp only [spileref16_Check.l0, spileref16_Check.j1, spileref16_Check.j2, if_pos c0, if_pos c1, e2, hn, dfrom, dfault]
    have c3 : (i : Int) - 1 < (l.length : Int) := by omega
    by_cases h0 : (rd_T82 l i).f0 < 0
    · simp [h0]
    by_cases h1 : (rd_T82 l i).f0 > 10000
    · simp [h0, h1]
    by_cases h2 : (rd_T82 l i).f1 < 50000
    · simp [h0, h1, h2]
    by_cases h3 : (rd_T82 l i).f1 > 120000
    · simp [h0, h1, h2, h3]
    by_cases h4 : 0 < i
    · have c2 : (0 : Int) ≤ (i : Int) - 1 := by omega
      have c4 : (i : Int) > 0 := by omega
      have c5 : (1 : Int) ≤ (i : Int) := by omega
      by_cases h5 : (rd_T82 l i).f0 ≤ (rd_T82 l ((i : Int) - 1)).f0
      · simp [h0, h1, h2, h3, h4, h5, c2, c3, c4, c5]
      by_cases h6 : (rd_T82 l i).f1 > (rd_T82 l ((i : Int) - 1)).f1
      · simp [h0, h1, h2, h3, h4, h5, h6, c2, c3, c4, c5]
      · simp [h0, h1, h2, h3, h4, h5, h6, c2, c3, c4, c5]
    · have c4 : ¬ ((i : Int) > 0) := by omega
      simp [h0, h1, h2, h3, h4, c4]
theorem spileref16_Check.plain (l : List S82) : spileref16_Check.f 600 l = some (dchk l) := by
  unfold spileref16_Check.f dchk
  by_cases h1 : 128 < l.length
  · rw [if_pos (by omega), if_pos h1]
  · rw [if_neg (by omega), if_neg h1]
    by_cases h2 : l.length < 2
    · rw [if_pos (by omega), if_pos h2]
    · rw [if_neg (by omega), if_neg h2]
      exact spileref16_Check.loop_plain l (by omega) (by omega) l.length 0 600 (by omega) (by omega)
def spileref16_Check_s.f (l0 : List S82) : Option (Int × Int) := some (dchk l0)
theorem spileref16_Check_s.calls (A0 : Option Addr) (c0 : Nat) (l0 : List S82) (r1 r2 : Int) (w : World) (hr0 : Kd.C k82 w A0 l0.length l0) (hc0 : l0.length ≤ c0) (h : spileref16_Check_s.f l0 = some (r1, r2)) :
    Calls Tryd.prog 76 #[.slice A0 l0.length c0] w fun e w' => e = .returned (.tuple #[.int .i64 r1, .int .i64 r2]) ∧ Below w.heap.size w w' :=
  (spileref16_Check.calls 600 A0 c0 l0 r1 r2 w hr0 hc0 ((spileref16_Check.plain l0).trans h)).mono fun _ _ ⟨h1, h2⟩ => ⟨h1, h2.below⟩

/-! ### spileref16_Right: function 58 -/
def spileref16_Right.f (l0 : List (S82)) : Option (Bool) := (spileref16_Check_s.f l0).bind fun bt223 => (some (bt223.2 == 0))
set_option maxHeartbeats 8000000 in
set_option maxRecDepth 100000 in
theorem spileref16_Right.calls (A0 : Option Addr) (c0 : Nat) (l0 : List (S82)) (r : Bool) (w : World) (hr0 : Kd.C k82 w A0 l0.length l0) (hc0 : l0.length ≤ c0) (h : spileref16_Right.f l0 = some r) :
  Calls Tryd.prog 58 #[.slice A0 l0.length c0] w fun e w' => e = .returned (.bool r) ∧ Below w.heap.size w w' := by
 have HR0 := Aside0.mk hr0
 have HC0 := Aside0.mk hc0
 clear hr0 hc0
 have HB := Aside0.mk (Below.refl w.heap.size w)
 have H : ((spileref16_Check_s.f l0).bind fun bt223 => (some (bt223.2 == 0))) = some r := h
 clear h
 replace H := Option.bind_eq_some_iff.mp H
 obtain ⟨⟨t223, t224⟩, A20, H⟩ := H
 replace H : (some (t224 == 0)) = some r := H
 have A2 := Aside0.mk A20
 clear A20
 obtain rfl := Option.some.inj H
 go_enter Tryd.func58, Tryd.ntmps58
 go_wp2_with (first | ((with_reducible refine gate_callee (f := 76) rfl ?_); refine gl_ (some 7) Tryd.func76 #[.slice A0 l0.length c0] ?_; (with_reducible refine (spileref16_Check_s.calls _ _ l0 t223 t224 _ ?side1 ?side2 A2.out).mono ?_); (case side1 => repeat (first | exact HR0.out | (with_reducible refine Kd.C_alloc ?_ _) | (with_reducible refine Kd.C_drewN ?_ _) | (with_reducible refine Kd.C_drew ?_))); (case side2 => exact HC0.out); rintro e w3 ⟨rfl, hb⟩; refine ⟨_, rfl, ?_⟩; have n0_ := Aside0.mk (below_step bl_ hb); clear HB; have HB := n0_; clear n0_; (try clear hb); (try clear hb2); (try clear hk); (try clear hi)))
 go_ret
 exact ⟨fin_, bl_⟩

end Go.Proofs.YtcdkbciagchlgaaDoor.PF
