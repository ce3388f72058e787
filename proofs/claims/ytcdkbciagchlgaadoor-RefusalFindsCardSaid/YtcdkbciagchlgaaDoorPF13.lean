-- Written by a program of this session (wip/pr.py) out of Lean's print of the translation; Lean checks it.
import Derived.Test.YtcdkbciagchlgaaDoorPF0
import Derived.Test.YtcdkbciagchlgaaDoorPF1
import Derived.Test.YtcdkbciagchlgaaDoorPF10
import Derived.Test.YtcdkbciagchlgaaDoorPF11
import Derived.Test.YtcdkbciagchlgaaDoorPF12
namespace Go.Proofs.YtcdkbciagchlgaaDoor.PF
open Go.RowKit Go.Proofs.YtcdkbciagchlgaaDoorW.PrintWords Go.Proofs.YtcdkbciagchlgaaDoorW.PrintLast Go.Proofs.YtcdkbciagchlgaaDoorW.PrintMore
attribute [local go_sem] max2_int min2_int max_two min_two max_three min_three max_four min_four   -- for this text's walks alone
set_option linter.unusedVariables false
set_option linter.unusedSimpArgs false

/-! ### spileref29_Check: function 30 -/
mutual
def spileref29_Check.l0 : Nat → List (S82) → Int → List (S45) → List Int → List Int → Int → Int → Int → Option (Int)
 | 0, _, _, _, _, _, _, _, _ => none
 | k + 1, x0, x6, x239000, x239001, x239002, x239003, x239004, x239005 => if x6 < (x239000.length : Int) then (if 0 ≤ x6 then ((spileref20_Check_s.f x0 ((rd_T45 x239000 x6).f0) ((rd_T45 x239000 x6).f1)).bind fun t242 => (if t242 = 0 then (if ((rd_T45 x239000 x6).f1) < 1 then (some 1) else (if ((rd_T45 x239000 x6).f1) > 1000000000 then (some 1) else (spileref29_Check.l0 k x0 (wrap64 (x6 + 1)) x239000 x239001 x239002 x239003 x239004 x239005))) else (some 1))) else (none)) else (spileref29_Check.l1 k 1 0 x239000 x239001 x239002 x239003 x239004 x239005)
def spileref29_Check.l1 : Nat → Int → Int → List (S45) → List Int → List Int → Int → Int → Int → Option (Int)
 | 0, _, _, _, _, _, _, _, _ => none
 | k + 1, x7, x8, x239000, x239001, x239002, x239003, x239004, x239005 => if x8 < (x239001.length : Int) then (if 0 ≤ x8 then (if (rd x239001 x8) < 0 then (some 2) else (if (rd x239001 x8) > 64 then (some 2) else (if x8 < (x239002.length : Int) then (if (rd x239002 x8) < 0 then (some 2) else (if (rd x239002 x8) > 1000000 then (some 2) else (spileref29_Check.l1 k (wrap64 (x7 * (wrap64 ((rd x239001 x8) + 1)))) (wrap64 (x8 + 1)) x239000 x239001 x239002 x239003 x239004 x239005))) else (none)))) else (none)) else (if x239003 < 0 then (spileref29_Check.j2 k x7 true) else (if x239004 > 10000 then (spileref29_Check.j2 k x7 true) else (if x239003 > x239004 then (spileref29_Check.j2 k x7 true) else (if x239005 < 1 then (spileref29_Check.j2 k x7 true) else (spileref29_Check.j2 k x7 (decide (x239005 > 256)))))))
def spileref29_Check.j2 : Nat → Int → Bool → Option (Int)
 | 0, _, _ => none
 | k + 1, x7, x119 => if x119 = true then (some 2) else (if x7 > 4096 then (some 8) else (some 0))
end
def spileref29_Check.f (k : Nat) (l0 : List (S82)) (l1_0 : List (S45)) (l1_1 : List Int) (l1_2 : List Int) (a1_3 : Int) (a1_4 : Int) (a1_5 : Int) : Option (Int) := (spileref16_Right.f l0).bind fun t239 => (if t239 = true then ((spileref29_sizes.f l1_0 l1_1 l1_2 a1_3 a1_4 a1_5).bind fun t240 => (if t240 = 0 then (spileref29_Check.l0 k l0 0 l1_0 l1_1 l1_2 a1_3 a1_4 a1_5) else (some t240))) else (some 1))
theorem spileref29_Check.mono_l : ∀ k, (∀ y0 y1 y2 y3 y4 y5 y6 y7, LeO (spileref29_Check.l0 k y0 y1 y2 y3 y4 y5 y6 y7) (spileref29_Check.l0 (k + 1) y0 y1 y2 y3 y4 y5 y6 y7)) ∧ (∀ y0 y1 y2 y3 y4 y5 y6 y7, LeO (spileref29_Check.l1 k y0 y1 y2 y3 y4 y5 y6 y7) (spileref29_Check.l1 (k + 1) y0 y1 y2 y3 y4 y5 y6 y7)) ∧ (∀ y0 y1, LeO (spileref29_Check.j2 k y0 y1) (spileref29_Check.j2 (k + 1) y0 y1))
 | 0 => ⟨fun _ _ _ _ _ _ _ _ r h => by simp [spileref29_Check.l0] at h, fun _ _ _ _ _ _ _ _ r h => by simp [spileref29_Check.l1] at h, fun _ _ r h => by simp [spileref29_Check.j2] at h⟩
 | k + 1 => by
  obtain ⟨ih0, ih1, ih2⟩ := spileref29_Check.mono_l k
  refine ⟨?_, ?_, ?_⟩
  ·intro y0 y1 y2 y3 y4 y5 y6 y7
   unfold spileref29_Check.l0
   repeat' first
   | (with_reducible exact ih0 _ _ _ _ _ _ _ _)
   | (with_reducible exact ih1 _ _ _ _ _ _ _ _)
   | (with_reducible exact ih2 _ _)
   | (with_reducible exact LeO.refl _)
   | (with_reducible exact LeO.none _)
   | (with_reducible refine LeO.ite ?_ ?_)
   | (with_reducible refine LeO.bind ?_ (fun _ => ?_))
   | exact ih0 _ _ _ _ _ _ _ _
   | exact ih1 _ _ _ _ _ _ _ _
   | exact ih2 _ _
   | exact LeO.none _
   | refine LeO.ite ?_ ?_
   | refine LeO.bind ?_ (fun _ => ?_)
  ·intro y0 y1 y2 y3 y4 y5 y6 y7
   unfold spileref29_Check.l1
   repeat' first
   | (with_reducible exact ih0 _ _ _ _ _ _ _ _)
   | (with_reducible exact ih1 _ _ _ _ _ _ _ _)
   | (with_reducible exact ih2 _ _)
   | (with_reducible exact LeO.refl _)
   | (with_reducible exact LeO.none _)
   | (with_reducible refine LeO.ite ?_ ?_)
   | (with_reducible refine LeO.bind ?_ (fun _ => ?_))
   | exact ih0 _ _ _ _ _ _ _ _
   | exact ih1 _ _ _ _ _ _ _ _
   | exact ih2 _ _
   | exact LeO.none _
   | refine LeO.ite ?_ ?_
   | refine LeO.bind ?_ (fun _ => ?_)
  ·intro y0 y1
   unfold spileref29_Check.j2
   repeat' first
   | (with_reducible exact ih0 _ _ _ _ _ _ _ _)
   | (with_reducible exact ih1 _ _ _ _ _ _ _ _)
   | (with_reducible exact ih2 _ _)
   | (with_reducible exact LeO.refl _)
   | (with_reducible exact LeO.none _)
   | (with_reducible refine LeO.ite ?_ ?_)
   | (with_reducible refine LeO.bind ?_ (fun _ => ?_))
   | exact ih0 _ _ _ _ _ _ _ _
   | exact ih1 _ _ _ _ _ _ _ _
   | exact ih2 _ _
   | exact LeO.none _
   | refine LeO.ite ?_ ?_
   | refine LeO.bind ?_ (fun _ => ?_)
theorem spileref29_Check.mono : ∀ a0 a1 a2 a3 a4 a5 a6 k, LeO (spileref29_Check.f k a0 a1 a2 a3 a4 a5 a6) (spileref29_Check.f (k + 1) a0 a1 a2 a3 a4 a5 a6) := by
 intro a0 a1 a2 a3 a4 a5 a6 k
 obtain ⟨ih0, ih1, ih2⟩ := spileref29_Check.mono_l k
 unfold spileref29_Check.f
 repeat' first
   | (with_reducible exact ih0 _ _ _ _ _ _ _ _)
   | (with_reducible exact ih1 _ _ _ _ _ _ _ _)
   | (with_reducible exact ih2 _ _)
   | (with_reducible exact LeO.refl _)
   | (with_reducible exact LeO.none _)
   | (with_reducible refine LeO.ite ?_ ?_)
   | (with_reducible refine LeO.bind ?_ (fun _ => ?_))
   | exact ih0 _ _ _ _ _ _ _ _
   | exact ih1 _ _ _ _ _ _ _ _
   | exact ih2 _ _
   | exact LeO.none _
   | refine LeO.ite ?_ ?_
   | refine LeO.bind ?_ (fun _ => ?_)
set_option maxHeartbeats 8000000 in
set_option maxRecDepth 100000 in
theorem spileref29_Check.calls (k : Nat) (A0 : Option Addr) (c0 : Nat) (l0 : List (S82)) (A1_0 : Option Addr) (c1_0 : Nat) (l1_0 : List (S45)) (A1_1 : Option Addr) (c1_1 : Nat) (l1_1 : List Int) (A1_2 : Option Addr) (c1_2 : Nat) (l1_2 : List Int) (a1_3 : Int) (a1_4 : Int) (a1_5 : Int) (r : Int) (w : World) (hr0 : Kd.C k82 w A0 l0.length l0) (hc0 : l0.length ≤ c0) (hr1_0 : Kd.C k45 w A1_0 l1_0.length l1_0) (hc1_0 : l1_0.length ≤ c1_0) (hr1_1 : Kd.C (Kd.int .i64) w A1_1 l1_1.length l1_1) (hc1_1 : l1_1.length ≤ c1_1) (hr1_2 : Kd.C (Kd.int .i64) w A1_2 l1_2.length l1_2) (hc1_2 : l1_2.length ≤ c1_2) (h : spileref29_Check.f k l0 l1_0 l1_1 l1_2 a1_3 a1_4 a1_5 = some r) :
  Calls Tryd.prog 30 #[.slice A0 l0.length c0, .agg #[.slice A1_0 l1_0.length c1_0, .slice A1_1 l1_1.length c1_1, .slice A1_2 l1_2.length c1_2, .int .i64 a1_3, .int .i64 a1_4, .int .i64 a1_5]] w fun e w' => e = .returned (.int .i64 r) ∧ Below w.heap.size w w' := by
 have hu26 := Tryd.underlying26
 have hu45 := Tryd.underlying45
 have HR0 := Aside0.mk hr0
 have HC0 := Aside0.mk hc0
 clear hr0 hc0
 have HR1_0 := Aside0.mk hr1_0
 have HC1_0 := Aside0.mk hc1_0
 clear hr1_0 hc1_0
 have HR1_1 := Aside0.mk hr1_1
 have HC1_1 := Aside0.mk hc1_1
 clear hr1_1 hc1_1
 have HR1_2 := Aside0.mk hr1_2
 have HC1_2 := Aside0.mk hc1_2
 clear hr1_2 hc1_2
 have HB := Aside0.mk (Below.refl w.heap.size w)
 have H : ((spileref16_Right.f l0).bind fun t239 => (if t239 = true then ((spileref29_sizes.f l1_0 l1_1 l1_2 a1_3 a1_4 a1_5).bind fun t240 => (if t240 = 0 then (spileref29_Check.l0 k l0 0 l1_0 l1_1 l1_2 a1_3 a1_4 a1_5) else (some t240))) else (some 1))) = some r := h
 clear h
 replace H := Option.bind_eq_some_iff.mp H
 obtain ⟨t239, A30, H⟩ := H
 replace H : (if t239 = true then ((spileref29_sizes.f l1_0 l1_1 l1_2 a1_3 a1_4 a1_5).bind fun t240 => (if t240 = 0 then (spileref29_Check.l0 k l0 0 l1_0 l1_1 l1_2 a1_3 a1_4 a1_5) else (some t240))) else (some 1)) = some r := H
 have A3 := Aside0.mk A30
 clear A30
 by_cases c4 : t239 = true
 ·subst c4
  have H1 : ((spileref29_sizes.f l1_0 l1_1 l1_2 a1_3 a1_4 a1_5).bind fun t240 => (if t240 = 0 then (spileref29_Check.l0 k l0 0 l1_0 l1_1 l1_2 a1_3 a1_4 a1_5) else (some t240))) = some r := by rw [if_pos rfl] at H; exact H
  clear H
  have H := H1
  clear H1
  replace H := Option.bind_eq_some_iff.mp H
  obtain ⟨t240, A50, H⟩ := H
  replace H : (if t240 = 0 then (spileref29_Check.l0 k l0 0 l1_0 l1_1 l1_2 a1_3 a1_4 a1_5) else (some t240)) = some r := H
  have A5 := Aside0.mk A50
  clear A50
  by_cases c6 : t240 = 0
  ·rw [if_pos c6] at H
   have c6b0 : (t240 == 0) = true := beq_iff_eq.mpr c6
   have c6b1 : (t240 != 0) = false := bne_eq_false_iff_eq.mpr c6
   clear c6
   have H' := Aside0.mk H
   clear H
   go_enter Tryd.func30, Tryd.ntmps30
   go_wp2_with (first | ((with_reducible refine gate_dst (N := 3) rfl ?_); refine be_ (N := 3) (cs := #[.slice A1_0 l1_0.length c1_0, .slice A1_1 l1_1.length c1_1, .slice A1_2 l1_2.length c1_2, .int .i64 a1_3, .int .i64 a1_4, .int .i64 a1_5]) (t := 26) ?_; intro gb238 hg w7 hbox hb; have n0_ := Aside0.mk (below_step bl_ hb); have n1_ := Aside0.mk (hbox); have n2_ := Aside0.mk ((by rw [hg]; exact (below_size bl_) : w.heap.size ≤ gb238)); have n3_ := Aside0.mk ((by rw [hg]; exact (below_size bl_) : w.heap.size ≤ gb238)); clear HB; have HB := n0_; have BK238 := n1_; have GW238 := n2_; have GE238 := n3_; clear n0_ n1_ n2_ n3_; clear hb hbox hg) | ((with_reducible refine gate_callee (f := 58) rfl ?_); refine gl_ (some 10) Tryd.func58 #[.slice A0 l0.length c0] ?_; (with_reducible refine (spileref16_Right.calls _ _ l0 true _ ?side1 ?side2 A3.out).mono ?_); (case side1 => exact kc_ HR0); (case side2 => exact HC0.out); rintro e w8 ⟨rfl, hb⟩; refine ⟨_, rfl, ?_⟩; have n0_ := Aside0.mk (blk_below (bkt_ BK238) hb); have n1_ := Aside0.mk (below_step bls_ hb); clear BK238; clear HB; have BK238 := n0_; have HB := n1_; clear n0_ n1_; (try clear hb); (try clear hb2); (try clear hk); (try clear hi); obtain ⟨hcz9_0, hcz9_1, hcz9_2, hcz9_3, hcz9_4, hcz9_5⟩ := bc6_ BK238; obtain ⟨hfz9_0, hfz9_1, hfz9_2, hfz9_3, hfz9_4⟩ := bf5_ BK238; have hfz9_5 := blk_frozen BK238.out 5) | ((with_reducible refine gate_callee (f := 59) rfl ?_); refine gl_ (some 13) Tryd.func59 #[.agg #[.slice A1_0 l1_0.length c1_0, .slice A1_1 l1_1.length c1_1, .slice A1_2 l1_2.length c1_2, .int .i64 a1_3, .int .i64 a1_4, .int .i64 a1_5]] ?_; (with_reducible refine (spileref29_sizes.calls _ _ l1_0 _ _ l1_1 _ _ l1_2 a1_3 a1_4 a1_5 t240 _ ?side1 ?side2 ?side3 ?side4 ?side5 ?side6 A5.out).mono ?_); (case side1 => exact kc_ HR1_0); (case side2 => exact HC1_0.out); (case side3 => exact kc_ HR1_1); (case side4 => exact HC1_1.out); (case side5 => exact kc_ HR1_2); (case side6 => exact HC1_2.out); rintro e w10 ⟨rfl, hb⟩; refine ⟨_, rfl, ?_⟩; have n0_ := Aside0.mk (blk_below (bkt_ BK238) hb); have n1_ := Aside0.mk (below_step bls_ hb); clear BK238; clear HB; have BK238 := n0_; have HB := n1_; clear n0_ n1_; (try clear hb); (try clear hb2); (try clear hk); (try clear hi)))
   go_loopg [6] k (fun kq v6 w' => ∃ (x6_1 : Int), v6 = .int .i64 x6_1 ∧ Aside0 (spileref29_Check.l0 kq l0 x6_1 l1_0 l1_1 l1_2 a1_3 a1_4 a1_5 = some r) ∧ Aside0 (kq ≤ k) ∧ Aside0 (w'.heap[gb238]? = some (.cells #[(.slice A1_0 l1_0.length c1_0), (.slice A1_1 l1_1.length c1_1), (.slice A1_2 l1_2.length c1_2), .int .i64 a1_3, .int .i64 a1_4, .int .i64 a1_5] 26 (0, 0))) ∧ Aside0 (Below w.heap.size w w'))
   case atStart => exact ⟨(0), sm_, H', ⟨Nat.le_refl _⟩, ⟨bkt_ BK238⟩, ⟨bls_⟩⟩
   case round =>
    clear H'
    try clear c1
    try clear p2
    try clear c3
    try clear c4
    try clear c5
    try clear c6
    try clear c6b0
    try clear c6b1
    try clear hcz9_0
    try clear hcz9_1
    try clear hcz9_2
    try clear hcz9_3
    try clear hcz9_4
    try clear hcz9_5
    try clear hfz9_0
    try clear hfz9_1
    try clear hfz9_2
    try clear hfz9_3
    try clear hfz9_4
    try clear hfz9_5
    obtain ⟨x6_1, rfl, HA, HK1, BK238, HB⟩ := hrel
    cases gk with
    | zero => exact absurd HA.out (by simp [spileref29_Check.l0])
    | succ k1 =>
     have H := HA.out
     clear HA
     simp only [spileref29_Check.l0] at H
     by_cases c11 : x6_1 < (l1_0.length : Int)
     ·rw [if_pos c11] at H
      have c11b0 : decide (x6_1 < (l1_0.length : Int)) = true := decide_eq_true c11
      clear c11
      by_cases c12 : 0 ≤ x6_1
      ·rw [if_pos c12] at H
       have c12b0 : decide (0 ≤ x6_1) = true := decide_eq_true c12
       clear c12
       replace H := Option.bind_eq_some_iff.mp H
       obtain ⟨t242, A130, H⟩ := H
       replace H : (if t242 = 0 then (if ((rd_T45 l1_0 x6_1).f1) < 1 then (some 1) else (if ((rd_T45 l1_0 x6_1).f1) > 1000000000 then (some 1) else (spileref29_Check.l0 k1 l0 (wrap64 (x6_1 + 1)) l1_0 l1_1 l1_2 a1_3 a1_4 a1_5))) else (some 1)) = some r := H
       have A13 := Aside0.mk A130
       clear A130
       by_cases c14 : t242 = 0
       ·rw [if_pos c14] at H
        have c14b0 : (t242 == 0) = true := beq_iff_eq.mpr c14
        have c14b1 : (t242 != 0) = false := bne_eq_false_iff_eq.mpr c14
        clear c14
        by_cases c15 : ((rd_T45 l1_0 x6_1).f1) < 1
        ·rw [if_pos c15] at H
         have c15b0 : decide (((rd_T45 l1_0 x6_1).f1) < 1) = true := decide_eq_true c15
         clear c15
         obtain rfl := Option.some.inj H
         obtain ⟨hcz16_0, hcz16_1, hcz16_2, hcz16_3, hcz16_4, hcz16_5⟩ := bc6_ BK238
         obtain ⟨hfz16_0, hfz16_1, hfz16_2, hfz16_3, hfz16_4, hfz16_5⟩ := bf6_ BK238
         have p241 : 0 ≤ (x6_1 : Int) := of_decide_eq_true as_
         have q241 : x6_1 < (l1_0.length : Int) := of_decide_eq_true as_
         obtain ⟨ad241, e241, hx241_0, hx241_1⟩ := at_T45 HR1_0.out x6_1 p241 q241
         cases e241
         replace hx241_0 := (HB.out.cell (World.block_lt_of_cell? w _ hx241_0)).trans hx241_0
         replace hx241_1 := (HB.out.cell (World.block_lt_of_cell? w _ hx241_1)).trans hx241_1
         replace p241 := eq_true p241
         replace q241 := eq_true q241
         go_wp2_with (first | ((with_reducible refine gate_callee (f := 60) rfl ?_); refine gl_ (some 30) Tryd.func60 #[.slice A0 l0.length c0, .agg #[.int .i64 ((rd_T45 l1_0 x6_1).f0), .int .i64 ((rd_T45 l1_0 x6_1).f1)]] ?_; (with_reducible refine (spileref20_Check_s.calls _ _ l0 ((rd_T45 l1_0 x6_1).f0) ((rd_T45 l1_0 x6_1).f1) t242 _ ?side1 ?side2 A13.out).mono ?_); (case side1 => exact kc_ HR0); (case side2 => exact HC0.out); rintro e w17 ⟨rfl, hb⟩; refine ⟨_, rfl, ?_⟩; have n0_ := Aside0.mk (blk_below (bkt_ BK238) hb); have n1_ := Aside0.mk (below_step bls_ hb); clear BK238; clear HB; have BK238 := n0_; have HB := n1_; clear n0_ n1_; (try clear hb); (try clear hb2); (try clear hk); (try clear hi); obtain ⟨hcz18_0, hcz18_1, hcz18_2, hcz18_3, hcz18_4, hcz18_5⟩ := bc6_ BK238; obtain ⟨hfz18_0, hfz18_1, hfz18_2, hfz18_3, hfz18_4, hfz18_5⟩ := bf6_ BK238; have p243 : 0 ≤ (x6_1 : Int) := of_decide_eq_true as_; have q243 : x6_1 < (l1_0.length : Int) := of_decide_eq_true as_; obtain ⟨ad243, e243, hx243_0, hx243_1⟩ := at_T45 HR1_0.out x6_1 p243 q243; obtain rfl : ad241 = ad243 := (by injection e243); replace hx243_0 := (HB.out.cell (World.block_lt_of_cell? w _ hx243_0)).trans hx243_0; replace hx243_1 := (HB.out.cell (World.block_lt_of_cell? w _ hx243_1)).trans hx243_1; replace p243 := eq_true p243; replace q243 := eq_true q243))
         go_ret
         exact ⟨fin_, bls_⟩
        ·rw [if_neg c15] at H
         have c15b0 : decide (((rd_T45 l1_0 x6_1).f1) < 1) = false := decide_eq_false c15
         clear c15
         by_cases c19 : ((rd_T45 l1_0 x6_1).f1) > 1000000000
         ·rw [if_pos c19] at H
          have c19b0 : decide (1000000000 < ((rd_T45 l1_0 x6_1).f1)) = true := decide_eq_true c19
          clear c19
          obtain rfl := Option.some.inj H
          obtain ⟨hcz20_0, hcz20_1, hcz20_2, hcz20_3, hcz20_4, hcz20_5⟩ := bc6_ BK238
          obtain ⟨hfz20_0, hfz20_1, hfz20_2, hfz20_3, hfz20_4, hfz20_5⟩ := bf6_ BK238
          have p241 : 0 ≤ (x6_1 : Int) := of_decide_eq_true as_
          have q241 : x6_1 < (l1_0.length : Int) := of_decide_eq_true as_
          obtain ⟨ad241, e241, hx241_0, hx241_1⟩ := at_T45 HR1_0.out x6_1 p241 q241
          cases e241
          replace hx241_0 := (HB.out.cell (World.block_lt_of_cell? w _ hx241_0)).trans hx241_0
          replace hx241_1 := (HB.out.cell (World.block_lt_of_cell? w _ hx241_1)).trans hx241_1
          replace p241 := eq_true p241
          replace q241 := eq_true q241
          go_wp2_with (first | ((with_reducible refine gate_callee (f := 60) rfl ?_); refine gl_ (some 30) Tryd.func60 #[.slice A0 l0.length c0, .agg #[.int .i64 ((rd_T45 l1_0 x6_1).f0), .int .i64 ((rd_T45 l1_0 x6_1).f1)]] ?_; (with_reducible refine (spileref20_Check_s.calls _ _ l0 ((rd_T45 l1_0 x6_1).f0) ((rd_T45 l1_0 x6_1).f1) t242 _ ?side1 ?side2 A13.out).mono ?_); (case side1 => exact kc_ HR0); (case side2 => exact HC0.out); rintro e w21 ⟨rfl, hb⟩; refine ⟨_, rfl, ?_⟩; have n0_ := Aside0.mk (blk_below (bkt_ BK238) hb); have n1_ := Aside0.mk (below_step bls_ hb); clear BK238; clear HB; have BK238 := n0_; have HB := n1_; clear n0_ n1_; (try clear hb); (try clear hb2); (try clear hk); (try clear hi); obtain ⟨hcz22_0, hcz22_1, hcz22_2, hcz22_3, hcz22_4, hcz22_5⟩ := bc6_ BK238; obtain ⟨hfz22_0, hfz22_1, hfz22_2, hfz22_3, hfz22_4, hfz22_5⟩ := bf6_ BK238; have p243 : 0 ≤ (x6_1 : Int) := of_decide_eq_true as_; have q243 : x6_1 < (l1_0.length : Int) := of_decide_eq_true as_; obtain ⟨ad243, e243, hx243_0, hx243_1⟩ := at_T45 HR1_0.out x6_1 p243 q243; obtain rfl : ad241 = ad243 := (by injection e243); replace hx243_0 := (HB.out.cell (World.block_lt_of_cell? w _ hx243_0)).trans hx243_0; replace hx243_1 := (HB.out.cell (World.block_lt_of_cell? w _ hx243_1)).trans hx243_1; replace p243 := eq_true p243; replace q243 := eq_true q243; have p244 : 0 ≤ (x6_1 : Int) := of_decide_eq_true as_; have q244 : x6_1 < (l1_0.length : Int) := of_decide_eq_true as_; obtain ⟨ad244, e244, hx244_0, hx244_1⟩ := at_T45 HR1_0.out x6_1 p244 q244; obtain rfl : ad241 = ad244 := (by injection e244); replace hx244_0 := (HB.out.cell (World.block_lt_of_cell? w _ hx244_0)).trans hx244_0; replace hx244_1 := (HB.out.cell (World.block_lt_of_cell? w _ hx244_1)).trans hx244_1; replace p244 := eq_true p244; replace q244 := eq_true q244))
          go_ret
          exact ⟨fin_, bls_⟩
         ·rw [if_neg c19] at H
          have c19b0 : decide (1000000000 < ((rd_T45 l1_0 x6_1).f1)) = false := decide_eq_false c19
          clear c19
          have H' := Aside0.mk H
          clear H
          obtain ⟨hcz23_0, hcz23_1, hcz23_2, hcz23_3, hcz23_4, hcz23_5⟩ := bc6_ BK238
          obtain ⟨hfz23_0, hfz23_1, hfz23_2, hfz23_3, hfz23_4, hfz23_5⟩ := bf6_ BK238
          have p241 : 0 ≤ (x6_1 : Int) := of_decide_eq_true as_
          have q241 : x6_1 < (l1_0.length : Int) := of_decide_eq_true as_
          obtain ⟨ad241, e241, hx241_0, hx241_1⟩ := at_T45 HR1_0.out x6_1 p241 q241
          cases e241
          replace hx241_0 := (HB.out.cell (World.block_lt_of_cell? w _ hx241_0)).trans hx241_0
          replace hx241_1 := (HB.out.cell (World.block_lt_of_cell? w _ hx241_1)).trans hx241_1
          replace p241 := eq_true p241
          replace q241 := eq_true q241
          go_wp2_with (first | ((with_reducible refine gate_callee (f := 60) rfl ?_); refine gl_ (some 30) Tryd.func60 #[.slice A0 l0.length c0, .agg #[.int .i64 ((rd_T45 l1_0 x6_1).f0), .int .i64 ((rd_T45 l1_0 x6_1).f1)]] ?_; (with_reducible refine (spileref20_Check_s.calls _ _ l0 ((rd_T45 l1_0 x6_1).f0) ((rd_T45 l1_0 x6_1).f1) t242 _ ?side1 ?side2 A13.out).mono ?_); (case side1 => exact kc_ HR0); (case side2 => exact HC0.out); rintro e w24 ⟨rfl, hb⟩; refine ⟨_, rfl, ?_⟩; have n0_ := Aside0.mk (blk_below (bkt_ BK238) hb); have n1_ := Aside0.mk (below_step bls_ hb); clear BK238; clear HB; have BK238 := n0_; have HB := n1_; clear n0_ n1_; (try clear hb); (try clear hb2); (try clear hk); (try clear hi); obtain ⟨hcz25_0, hcz25_1, hcz25_2, hcz25_3, hcz25_4, hcz25_5⟩ := bc6_ BK238; obtain ⟨hfz25_0, hfz25_1, hfz25_2, hfz25_3, hfz25_4, hfz25_5⟩ := bf6_ BK238; have p243 : 0 ≤ (x6_1 : Int) := of_decide_eq_true as_; have q243 : x6_1 < (l1_0.length : Int) := of_decide_eq_true as_; obtain ⟨ad243, e243, hx243_0, hx243_1⟩ := at_T45 HR1_0.out x6_1 p243 q243; obtain rfl : ad241 = ad243 := (by injection e243); replace hx243_0 := (HB.out.cell (World.block_lt_of_cell? w _ hx243_0)).trans hx243_0; replace hx243_1 := (HB.out.cell (World.block_lt_of_cell? w _ hx243_1)).trans hx243_1; replace p243 := eq_true p243; replace q243 := eq_true q243; have p244 : 0 ≤ (x6_1 : Int) := of_decide_eq_true as_; have q244 : x6_1 < (l1_0.length : Int) := of_decide_eq_true as_; obtain ⟨ad244, e244, hx244_0, hx244_1⟩ := at_T45 HR1_0.out x6_1 p244 q244; obtain rfl : ad241 = ad244 := (by injection e244); replace hx244_0 := (HB.out.cell (World.block_lt_of_cell? w _ hx244_0)).trans hx244_0; replace hx244_1 := (HB.out.cell (World.block_lt_of_cell? w _ hx244_1)).trans hx244_1; replace p244 := eq_true p244; replace q244 := eq_true q244))
          go_roundg k1
          case measure => have := HK1.out; omega
          case rel => exact ⟨(wrap64 (x6_1 + 1)), sm_, H', ⟨by have := HK1.out; omega⟩, ⟨bkt_ BK238⟩, ⟨bls_⟩⟩
       ·rw [if_neg c14] at H
        have c14b0 : (t242 == 0) = false := beq_eq_false_iff_ne.mpr c14
        have c14b1 : (t242 != 0) = true := bne_iff_ne.mpr c14
        obtain rfl := Option.some.inj H
        obtain ⟨hcz26_0, hcz26_1, hcz26_2, hcz26_3, hcz26_4, hcz26_5⟩ := bc6_ BK238
        obtain ⟨hfz26_0, hfz26_1, hfz26_2, hfz26_3, hfz26_4, hfz26_5⟩ := bf6_ BK238
        have p241 : 0 ≤ (x6_1 : Int) := of_decide_eq_true as_
        have q241 : x6_1 < (l1_0.length : Int) := of_decide_eq_true as_
        obtain ⟨ad241, e241, hx241_0, hx241_1⟩ := at_T45 HR1_0.out x6_1 p241 q241
        cases e241
        replace hx241_0 := (HB.out.cell (World.block_lt_of_cell? w _ hx241_0)).trans hx241_0
        replace hx241_1 := (HB.out.cell (World.block_lt_of_cell? w _ hx241_1)).trans hx241_1
        replace p241 := eq_true p241
        replace q241 := eq_true q241
        go_wp2_with (first | ((with_reducible refine gate_callee (f := 60) rfl ?_); refine gl_ (some 30) Tryd.func60 #[.slice A0 l0.length c0, .agg #[.int .i64 ((rd_T45 l1_0 x6_1).f0), .int .i64 ((rd_T45 l1_0 x6_1).f1)]] ?_; (with_reducible refine (spileref20_Check_s.calls _ _ l0 ((rd_T45 l1_0 x6_1).f0) ((rd_T45 l1_0 x6_1).f1) t242 _ ?side1 ?side2 A13.out).mono ?_); (case side1 => exact kc_ HR0); (case side2 => exact HC0.out); rintro e w27 ⟨rfl, hb⟩; refine ⟨_, rfl, ?_⟩; have n0_ := Aside0.mk (blk_below (bkt_ BK238) hb); have n1_ := Aside0.mk (below_step bls_ hb); clear BK238; clear HB; have BK238 := n0_; have HB := n1_; clear n0_ n1_; (try clear hb); (try clear hb2); (try clear hk); (try clear hi)))
        go_ret
        exact ⟨fin_, bls_⟩
      ·rw [if_neg c12] at H
       exact absurd H (by simp)
     ·rw [if_neg c11] at H
      have c11b0 : decide (x6_1 < (l1_0.length : Int)) = false := decide_eq_false c11
      clear c11
      have H' := Aside0.mk H
      clear H
      obtain ⟨hcz28_0, hcz28_1, hcz28_2, hcz28_3, hcz28_4, hcz28_5⟩ := bc6_ BK238
      obtain ⟨hfz28_0, hfz28_1, hfz28_2, hfz28_3, hfz28_4, hfz28_5⟩ := bf6_ BK238
      go_wp2
      go_loopg [7, 8] k1 (fun kq v7 v8 w' => ∃ (x7_2 : Int) (x8_2 : Int), v7 = .int .i64 x7_2 ∧ v8 = .int .i64 x8_2 ∧ Aside0 (spileref29_Check.l1 kq x7_2 x8_2 l1_0 l1_1 l1_2 a1_3 a1_4 a1_5 = some r) ∧ Aside0 (kq ≤ k1) ∧ Aside0 (w'.heap[gb238]? = some (.cells #[(.slice A1_0 l1_0.length c1_0), (.slice A1_1 l1_1.length c1_1), (.slice A1_2 l1_2.length c1_2), .int .i64 a1_3, .int .i64 a1_4, .int .i64 a1_5] 26 (0, 0))) ∧ Aside0 (Below w.heap.size w w'))
      case atStart => exact ⟨(1), (0), sm_, sm_, H', ⟨Nat.le_refl _⟩, ⟨bkt_ BK238⟩, ⟨bls_⟩⟩
      case round =>
       clear H'
       try clear c1
       try clear p2
       try clear q2
       try clear hx2
       try clear c3
       try clear c4
       try clear c5
       try clear c6
       try clear c6b0
       try clear c6b1
       try clear p6
       try clear c11
       try clear c11b0
       try clear c12
       try clear c12b0
       try clear c14
       try clear c14b0
       try clear c14b1
       try clear c15
       try clear c15b0
       try clear c19
       try clear c19b0
       try clear p24
       try clear q24
       try clear hx24
       try clear hcz16_0
       try clear hcz16_1
       try clear hcz16_2
       try clear hcz16_3
       try clear hcz16_4
       try clear hcz16_5
       try clear hcz18_0
       try clear hcz18_1
       try clear hcz18_2
       try clear hcz18_3
       try clear hcz18_4
       try clear hcz18_5
       try clear hcz20_0
       try clear hcz20_1
       try clear hcz20_2
       try clear hcz20_3
       try clear hcz20_4
       try clear hcz20_5
       try clear hcz22_0
       try clear hcz22_1
       try clear hcz22_2
       try clear hcz22_3
       try clear hcz22_4
       try clear hcz22_5
       try clear hcz23_0
       try clear hcz23_1
       try clear hcz23_2
       try clear hcz23_3
       try clear hcz23_4
       try clear hcz23_5
       try clear hcz25_0
       try clear hcz25_1
       try clear hcz25_2
       try clear hcz25_3
       try clear hcz25_4
       try clear hcz25_5
       try clear hcz26_0
       try clear hcz26_1
       try clear hcz26_2
       try clear hcz26_3
       try clear hcz26_4
       try clear hcz26_5
       try clear hcz28_0
       try clear hcz28_1
       try clear hcz28_2
       try clear hcz28_3
       try clear hcz28_4
       try clear hcz28_5
       try clear hcz9_0
       try clear hcz9_1
       try clear hcz9_2
       try clear hcz9_3
       try clear hcz9_4
       try clear hcz9_5
       try clear hfz16_0
       try clear hfz16_1
       try clear hfz16_2
       try clear hfz16_3
       try clear hfz16_4
       try clear hfz16_5
       try clear hfz18_0
       try clear hfz18_1
       try clear hfz18_2
       try clear hfz18_3
       try clear hfz18_4
       try clear hfz18_5
       try clear hfz20_0
       try clear hfz20_1
       try clear hfz20_2
       try clear hfz20_3
       try clear hfz20_4
       try clear hfz20_5
       try clear hfz22_0
       try clear hfz22_1
       try clear hfz22_2
       try clear hfz22_3
       try clear hfz22_4
       try clear hfz22_5
       try clear hfz23_0
       try clear hfz23_1
       try clear hfz23_2
       try clear hfz23_3
       try clear hfz23_4
       try clear hfz23_5
       try clear hfz25_0
       try clear hfz25_1
       try clear hfz25_2
       try clear hfz25_3
       try clear hfz25_4
       try clear hfz25_5
       try clear hfz26_0
       try clear hfz26_1
       try clear hfz26_2
       try clear hfz26_3
       try clear hfz26_4
       try clear hfz26_5
       try clear hfz28_0
       try clear hfz28_1
       try clear hfz28_2
       try clear hfz28_3
       try clear hfz28_4
       try clear hfz28_5
       try clear hfz9_0
       try clear hfz9_1
       try clear hfz9_2
       try clear hfz9_3
       try clear hfz9_4
       try clear hfz9_5
       try clear hx241_0
       try clear hx241_1
       try clear hx243_0
       try clear hx243_1
       try clear hx244_0
       try clear hx244_1
       try clear p2
       try clear p241
       try clear p243
       try clear p244
       try clear q241
       try clear q243
       try clear q244
       obtain ⟨x7_2, x8_2, rfl, rfl, HA, HK2, BK238, HB⟩ := hrel
       cases gk with
       | zero => exact absurd HA.out (by simp [spileref29_Check.l1])
       | succ k2 =>
        have H := HA.out
        clear HA
        simp only [spileref29_Check.l1] at H
        by_cases c29 : x8_2 < (l1_1.length : Int)
        ·rw [if_pos c29] at H
         have c29b0 : decide (x8_2 < (l1_1.length : Int)) = true := decide_eq_true c29
         clear c29
         by_cases c30 : 0 ≤ x8_2
         ·rw [if_pos c30] at H
          have c30b0 : decide (0 ≤ x8_2) = true := decide_eq_true c30
          clear c30
          by_cases c31 : (rd l1_1 x8_2) < 0
          ·rw [if_pos c31] at H
           have c31b0 : decide ((rd l1_1 x8_2) < 0) = true := decide_eq_true c31
           clear c31
           obtain rfl := Option.some.inj H
           obtain ⟨hcz32_0, hcz32_1, hcz32_2, hcz32_3, hcz32_4, hcz32_5⟩ := bc6_ BK238
           obtain ⟨hfz32_0, hfz32_1, hfz32_2, hfz32_3, hfz32_4, hfz32_5⟩ := bf6_ BK238
           have p245 : 0 ≤ (x8_2 : Int) := of_decide_eq_true as_
           have q245 : x8_2 < (l1_1.length : Int) := of_decide_eq_true as_
           obtain ⟨ad245, e245, hx245_0⟩ := Kd.at_int HR1_1.out x8_2 p245 q245
           cases e245
           replace hx245_0 := (HB.out.cell (World.block_lt_of_cell? w _ hx245_0)).trans hx245_0
           replace p245 := eq_true p245
           replace q245 := eq_true q245
           go_wp2
           go_ret
           exact ⟨fin_, bls_⟩
          ·rw [if_neg c31] at H
           have c31b0 : decide ((rd l1_1 x8_2) < 0) = false := decide_eq_false c31
           clear c31
           by_cases c33 : (rd l1_1 x8_2) > 64
           ·rw [if_pos c33] at H
            have c33b0 : decide (64 < (rd l1_1 x8_2)) = true := decide_eq_true c33
            clear c33
            obtain rfl := Option.some.inj H
            obtain ⟨hcz34_0, hcz34_1, hcz34_2, hcz34_3, hcz34_4, hcz34_5⟩ := bc6_ BK238
            obtain ⟨hfz34_0, hfz34_1, hfz34_2, hfz34_3, hfz34_4, hfz34_5⟩ := bf6_ BK238
            have p245 : 0 ≤ (x8_2 : Int) := of_decide_eq_true as_
            have q245 : x8_2 < (l1_1.length : Int) := of_decide_eq_true as_
            obtain ⟨ad245, e245, hx245_0⟩ := Kd.at_int HR1_1.out x8_2 p245 q245
            cases e245
            replace hx245_0 := (HB.out.cell (World.block_lt_of_cell? w _ hx245_0)).trans hx245_0
            replace p245 := eq_true p245
            replace q245 := eq_true q245
            have p246 : 0 ≤ (x8_2 : Int) := of_decide_eq_true as_
            have q246 : x8_2 < (l1_1.length : Int) := of_decide_eq_true as_
            obtain ⟨ad246, e246, hx246_0⟩ := Kd.at_int HR1_1.out x8_2 p246 q246
            obtain rfl : ad245 = ad246 := (by injection e246)
            replace hx246_0 := (HB.out.cell (World.block_lt_of_cell? w _ hx246_0)).trans hx246_0
            replace p246 := eq_true p246
            replace q246 := eq_true q246
            go_wp2
            go_ret
            exact ⟨fin_, bls_⟩
           ·rw [if_neg c33] at H
            have c33b0 : decide (64 < (rd l1_1 x8_2)) = false := decide_eq_false c33
            clear c33
            by_cases c35 : x8_2 < (l1_2.length : Int)
            ·rw [if_pos c35] at H
             have c35b0 : decide (x8_2 < (l1_2.length : Int)) = true := decide_eq_true c35
             clear c35
             by_cases c36 : (rd l1_2 x8_2) < 0
             ·rw [if_pos c36] at H
              have c36b0 : decide ((rd l1_2 x8_2) < 0) = true := decide_eq_true c36
              clear c36
              obtain rfl := Option.some.inj H
              obtain ⟨hcz37_0, hcz37_1, hcz37_2, hcz37_3, hcz37_4, hcz37_5⟩ := bc6_ BK238
              obtain ⟨hfz37_0, hfz37_1, hfz37_2, hfz37_3, hfz37_4, hfz37_5⟩ := bf6_ BK238
              have p245 : 0 ≤ (x8_2 : Int) := of_decide_eq_true as_
              have q245 : x8_2 < (l1_1.length : Int) := of_decide_eq_true as_
              obtain ⟨ad245, e245, hx245_0⟩ := Kd.at_int HR1_1.out x8_2 p245 q245
              cases e245
              replace hx245_0 := (HB.out.cell (World.block_lt_of_cell? w _ hx245_0)).trans hx245_0
              replace p245 := eq_true p245
              replace q245 := eq_true q245
              have p246 : 0 ≤ (x8_2 : Int) := of_decide_eq_true as_
              have q246 : x8_2 < (l1_1.length : Int) := of_decide_eq_true as_
              obtain ⟨ad246, e246, hx246_0⟩ := Kd.at_int HR1_1.out x8_2 p246 q246
              obtain rfl : ad245 = ad246 := (by injection e246)
              replace hx246_0 := (HB.out.cell (World.block_lt_of_cell? w _ hx246_0)).trans hx246_0
              replace p246 := eq_true p246
              replace q246 := eq_true q246
              have p247 : 0 ≤ (x8_2 : Int) := of_decide_eq_true as_
              have q247 : x8_2 < (l1_2.length : Int) := of_decide_eq_true as_
              obtain ⟨ad247, e247, hx247_0⟩ := Kd.at_int HR1_2.out x8_2 p247 q247
              cases e247
              replace hx247_0 := (HB.out.cell (World.block_lt_of_cell? w _ hx247_0)).trans hx247_0
              replace p247 := eq_true p247
              replace q247 := eq_true q247
              go_wp2
              go_ret
              exact ⟨fin_, bls_⟩
             ·rw [if_neg c36] at H
              have c36b0 : decide ((rd l1_2 x8_2) < 0) = false := decide_eq_false c36
              clear c36
              by_cases c38 : (rd l1_2 x8_2) > 1000000
              ·rw [if_pos c38] at H
               have c38b0 : decide (1000000 < (rd l1_2 x8_2)) = true := decide_eq_true c38
               clear c38
               obtain rfl := Option.some.inj H
               obtain ⟨hcz39_0, hcz39_1, hcz39_2, hcz39_3, hcz39_4, hcz39_5⟩ := bc6_ BK238
               obtain ⟨hfz39_0, hfz39_1, hfz39_2, hfz39_3, hfz39_4, hfz39_5⟩ := bf6_ BK238
               have p245 : 0 ≤ (x8_2 : Int) := of_decide_eq_true as_
               have q245 : x8_2 < (l1_1.length : Int) := of_decide_eq_true as_
               obtain ⟨ad245, e245, hx245_0⟩ := Kd.at_int HR1_1.out x8_2 p245 q245
               cases e245
               replace hx245_0 := (HB.out.cell (World.block_lt_of_cell? w _ hx245_0)).trans hx245_0
               replace p245 := eq_true p245
               replace q245 := eq_true q245
               have p246 : 0 ≤ (x8_2 : Int) := of_decide_eq_true as_
               have q246 : x8_2 < (l1_1.length : Int) := of_decide_eq_true as_
               obtain ⟨ad246, e246, hx246_0⟩ := Kd.at_int HR1_1.out x8_2 p246 q246
               obtain rfl : ad245 = ad246 := (by injection e246)
               replace hx246_0 := (HB.out.cell (World.block_lt_of_cell? w _ hx246_0)).trans hx246_0
               replace p246 := eq_true p246
               replace q246 := eq_true q246
               have p247 : 0 ≤ (x8_2 : Int) := of_decide_eq_true as_
               have q247 : x8_2 < (l1_2.length : Int) := of_decide_eq_true as_
               obtain ⟨ad247, e247, hx247_0⟩ := Kd.at_int HR1_2.out x8_2 p247 q247
               cases e247
               replace hx247_0 := (HB.out.cell (World.block_lt_of_cell? w _ hx247_0)).trans hx247_0
               replace p247 := eq_true p247
               replace q247 := eq_true q247
               have p248 : 0 ≤ (x8_2 : Int) := of_decide_eq_true as_
               have q248 : x8_2 < (l1_2.length : Int) := of_decide_eq_true as_
               obtain ⟨ad248, e248, hx248_0⟩ := Kd.at_int HR1_2.out x8_2 p248 q248
               obtain rfl : ad247 = ad248 := (by injection e248)
               replace hx248_0 := (HB.out.cell (World.block_lt_of_cell? w _ hx248_0)).trans hx248_0
               replace p248 := eq_true p248
               replace q248 := eq_true q248
               go_wp2
               go_ret
               exact ⟨fin_, bls_⟩
              ·rw [if_neg c38] at H
               have c38b0 : decide (1000000 < (rd l1_2 x8_2)) = false := decide_eq_false c38
               clear c38
               have H' := Aside0.mk H
               clear H
               obtain ⟨hcz40_0, hcz40_1, hcz40_2, hcz40_3, hcz40_4, hcz40_5⟩ := bc6_ BK238
               obtain ⟨hfz40_0, hfz40_1, hfz40_2, hfz40_3, hfz40_4, hfz40_5⟩ := bf6_ BK238
               have p245 : 0 ≤ (x8_2 : Int) := of_decide_eq_true as_
               have q245 : x8_2 < (l1_1.length : Int) := of_decide_eq_true as_
               obtain ⟨ad245, e245, hx245_0⟩ := Kd.at_int HR1_1.out x8_2 p245 q245
               cases e245
               replace hx245_0 := (HB.out.cell (World.block_lt_of_cell? w _ hx245_0)).trans hx245_0
               replace p245 := eq_true p245
               replace q245 := eq_true q245
               have p246 : 0 ≤ (x8_2 : Int) := of_decide_eq_true as_
               have q246 : x8_2 < (l1_1.length : Int) := of_decide_eq_true as_
               obtain ⟨ad246, e246, hx246_0⟩ := Kd.at_int HR1_1.out x8_2 p246 q246
               obtain rfl : ad245 = ad246 := (by injection e246)
               replace hx246_0 := (HB.out.cell (World.block_lt_of_cell? w _ hx246_0)).trans hx246_0
               replace p246 := eq_true p246
               replace q246 := eq_true q246
               have p247 : 0 ≤ (x8_2 : Int) := of_decide_eq_true as_
               have q247 : x8_2 < (l1_2.length : Int) := of_decide_eq_true as_
               obtain ⟨ad247, e247, hx247_0⟩ := Kd.at_int HR1_2.out x8_2 p247 q247
               cases e247
               replace hx247_0 := (HB.out.cell (World.block_lt_of_cell? w _ hx247_0)).trans hx247_0
               replace p247 := eq_true p247
               replace q247 := eq_true q247
               have p248 : 0 ≤ (x8_2 : Int) := of_decide_eq_true as_
               have q248 : x8_2 < (l1_2.length : Int) := of_decide_eq_true as_
               obtain ⟨ad248, e248, hx248_0⟩ := Kd.at_int HR1_2.out x8_2 p248 q248
               obtain rfl : ad247 = ad248 := (by injection e248)
               replace hx248_0 := (HB.out.cell (World.block_lt_of_cell? w _ hx248_0)).trans hx248_0
               replace p248 := eq_true p248
               replace q248 := eq_true q248
               have p249 : 0 ≤ (x8_2 : Int) := of_decide_eq_true as_
               have q249 : x8_2 < (l1_1.length : Int) := of_decide_eq_true as_
               obtain ⟨ad249, e249, hx249_0⟩ := Kd.at_int HR1_1.out x8_2 p249 q249
               obtain rfl : ad245 = ad249 := (by injection e249)
               replace hx249_0 := (HB.out.cell (World.block_lt_of_cell? w _ hx249_0)).trans hx249_0
               replace p249 := eq_true p249
               replace q249 := eq_true q249
               go_wp2
               go_roundg k2
               case measure => have := HK1.out; have := HK2.out; omega
               case rel => exact ⟨(wrap64 (x7_2 * (wrap64 ((rd l1_1 x8_2) + 1)))), (wrap64 (x8_2 + 1)), sm_, sm_, H', ⟨by have := HK1.out; have := HK2.out; omega⟩, ⟨bkt_ BK238⟩, ⟨bls_⟩⟩
            ·rw [if_neg c35] at H
             exact absurd H (by simp)
         ·rw [if_neg c30] at H
          exact absurd H (by simp)
        ·rw [if_neg c29] at H
         have c29b0 : decide (x8_2 < (l1_1.length : Int)) = false := decide_eq_false c29
         clear c29
         have HC41 := Aside0.mk H
         clear H
         obtain ⟨hcz42_0, hcz42_1, hcz42_2, hcz42_3, hcz42_4, hcz42_5⟩ := bc6_ BK238
         obtain ⟨hfz42_0, hfz42_1, hfz42_2, hfz42_3, hfz42_4, hfz42_5⟩ := bf6_ BK238
         go_upto_region 18 with (fail)
         go_cut [119] (fun v119 wc => ∃ (kq : Nat) (x119_40 : Bool), v119 = .bool x119_40 ∧ Aside0 (spileref29_Check.j2 kq x7_2 x119_40 = some r) ∧ Aside0 (kq ≤ k2) ∧ Aside0 (wc.heap[gb238]? = some (.cells #[(.slice A1_0 l1_0.length c1_0), (.slice A1_1 l1_1.length c1_1), (.slice A1_2 l1_2.length c1_2), .int .i64 a1_3, .int .i64 a1_4, .int .i64 a1_5] 26 (0, 0))) ∧ Aside0 (Below w.heap.size w wc))
         case first =>
          have H := HC41.out
          clear HC41
          by_cases c43 : a1_3 < 0
          ·rw [if_pos c43] at H
           have c43b0 : decide (a1_3 < 0) = true := decide_eq_true c43
           clear c43
           (first | rw [c43b0] | (simp only [i64_w, i32_w]; rw [c43b0]) | skip)
           have H' := Aside0.mk H
           clear H
           obtain ⟨hcz44_0, hcz44_1, hcz44_2, hcz44_3, hcz44_4, hcz44_5⟩ := bc6_ BK238
           obtain ⟨hfz44_0, hfz44_1, hfz44_2, hfz44_3, hfz44_4, hfz44_5⟩ := bf6_ BK238
           go_wp2
           go_meet
           case rel => exact ⟨_, (true), sm_, H', ⟨by have := HK1.out; have := HK2.out; first | omega | exact Nat.le_refl _⟩, ⟨bkt_ BK238⟩, ⟨bls_⟩⟩
          ·rw [if_neg c43] at H
           have c43b0 : decide (a1_3 < 0) = false := decide_eq_false c43
           clear c43
           (first | rw [c43b0] | (simp only [i64_w, i32_w]; rw [c43b0]) | skip)
           by_cases c45 : a1_4 > 10000
           ·rw [if_pos c45] at H
            have c45b0 : decide (10000 < a1_4) = true := decide_eq_true c45
            clear c45
            have H' := Aside0.mk H
            clear H
            obtain ⟨hcz46_0, hcz46_1, hcz46_2, hcz46_3, hcz46_4, hcz46_5⟩ := bc6_ BK238
            obtain ⟨hfz46_0, hfz46_1, hfz46_2, hfz46_3, hfz46_4, hfz46_5⟩ := bf6_ BK238
            go_wp2
            go_meet
            case rel => exact ⟨_, (true), sm_, H', ⟨by have := HK1.out; have := HK2.out; first | omega | exact Nat.le_refl _⟩, ⟨bkt_ BK238⟩, ⟨bls_⟩⟩
           ·rw [if_neg c45] at H
            have c45b0 : decide (10000 < a1_4) = false := decide_eq_false c45
            clear c45
            by_cases c47 : a1_3 > a1_4
            ·rw [if_pos c47] at H
             have c47b0 : decide (a1_4 < a1_3) = true := decide_eq_true c47
             clear c47
             have H' := Aside0.mk H
             clear H
             obtain ⟨hcz48_0, hcz48_1, hcz48_2, hcz48_3, hcz48_4, hcz48_5⟩ := bc6_ BK238
             obtain ⟨hfz48_0, hfz48_1, hfz48_2, hfz48_3, hfz48_4, hfz48_5⟩ := bf6_ BK238
             go_wp2
             go_meet
             case rel => exact ⟨_, (true), sm_, H', ⟨by have := HK1.out; have := HK2.out; first | omega | exact Nat.le_refl _⟩, ⟨bkt_ BK238⟩, ⟨bls_⟩⟩
            ·rw [if_neg c47] at H
             have c47b0 : decide (a1_4 < a1_3) = false := decide_eq_false c47
             clear c47
             by_cases c49 : a1_5 < 1
             ·rw [if_pos c49] at H
              have c49b0 : decide (a1_5 < 1) = true := decide_eq_true c49
              clear c49
              have H' := Aside0.mk H
              clear H
              obtain ⟨hcz50_0, hcz50_1, hcz50_2, hcz50_3, hcz50_4, hcz50_5⟩ := bc6_ BK238
              obtain ⟨hfz50_0, hfz50_1, hfz50_2, hfz50_3, hfz50_4, hfz50_5⟩ := bf6_ BK238
              go_wp2
              go_meet
              case rel => exact ⟨_, (true), sm_, H', ⟨by have := HK1.out; have := HK2.out; first | omega | exact Nat.le_refl _⟩, ⟨bkt_ BK238⟩, ⟨bls_⟩⟩
             ·rw [if_neg c49] at H
              have c49b0 : decide (a1_5 < 1) = false := decide_eq_false c49
              clear c49
              have H' := Aside0.mk H
              clear H
              obtain ⟨hcz51_0, hcz51_1, hcz51_2, hcz51_3, hcz51_4, hcz51_5⟩ := bc6_ BK238
              obtain ⟨hfz51_0, hfz51_1, hfz51_2, hfz51_3, hfz51_4, hfz51_5⟩ := bf6_ BK238
              go_wp2
              go_meet
              case rel => exact ⟨_, (decide (a1_5 > 256)), sm_, H', ⟨by have := HK1.out; have := HK2.out; first | omega | exact Nat.le_refl _⟩, ⟨bkt_ BK238⟩, ⟨bls_⟩⟩
         case rest =>
          clear HC41
          try clear c1
          try clear c2
          try clear p2
          try clear q2
          try clear hx2
          try clear c3
          try clear c4
          try clear c5
          try clear c6
          try clear c6b0
          try clear c6b1
          try clear p6
          try clear c11
          try clear c11b0
          try clear c12
          try clear c12b0
          try clear c14
          try clear c14b0
          try clear c14b1
          try clear c15
          try clear c15b0
          try clear c19
          try clear c19b0
          try clear p24
          try clear q24
          try clear hx24
          try clear c29
          try clear c29b0
          try clear c30
          try clear c30b0
          try clear c31
          try clear c31b0
          try clear c33
          try clear c33b0
          try clear c35
          try clear c35b0
          try clear c36
          try clear c36b0
          try clear c38
          try clear c38b0
          try clear c43
          try clear c43b0
          try clear c45
          try clear c45b0
          try clear c47
          try clear c47b0
          try clear c49
          try clear c49b0
          try clear hcz16_0
          try clear hcz16_1
          try clear hcz16_2
          try clear hcz16_3
          try clear hcz16_4
          try clear hcz16_5
          try clear hcz18_0
          try clear hcz18_1
          try clear hcz18_2
          try clear hcz18_3
          try clear hcz18_4
          try clear hcz18_5
          try clear hcz20_0
          try clear hcz20_1
          try clear hcz20_2
          try clear hcz20_3
          try clear hcz20_4
          try clear hcz20_5
          try clear hcz22_0
          try clear hcz22_1
          try clear hcz22_2
          try clear hcz22_3
          try clear hcz22_4
          try clear hcz22_5
          try clear hcz23_0
          try clear hcz23_1
          try clear hcz23_2
          try clear hcz23_3
          try clear hcz23_4
          try clear hcz23_5
          try clear hcz25_0
          try clear hcz25_1
          try clear hcz25_2
          try clear hcz25_3
          try clear hcz25_4
          try clear hcz25_5
          try clear hcz26_0
          try clear hcz26_1
          try clear hcz26_2
          try clear hcz26_3
          try clear hcz26_4
          try clear hcz26_5
          try clear hcz28_0
          try clear hcz28_1
          try clear hcz28_2
          try clear hcz28_3
          try clear hcz28_4
          try clear hcz28_5
          try clear hcz32_0
          try clear hcz32_1
          try clear hcz32_2
          try clear hcz32_3
          try clear hcz32_4
          try clear hcz32_5
          try clear hcz34_0
          try clear hcz34_1
          try clear hcz34_2
          try clear hcz34_3
          try clear hcz34_4
          try clear hcz34_5
          try clear hcz37_0
          try clear hcz37_1
          try clear hcz37_2
          try clear hcz37_3
          try clear hcz37_4
          try clear hcz37_5
          try clear hcz39_0
          try clear hcz39_1
          try clear hcz39_2
          try clear hcz39_3
          try clear hcz39_4
          try clear hcz39_5
          try clear hcz40_0
          try clear hcz40_1
          try clear hcz40_2
          try clear hcz40_3
          try clear hcz40_4
          try clear hcz40_5
          try clear hcz42_0
          try clear hcz42_1
          try clear hcz42_2
          try clear hcz42_3
          try clear hcz42_4
          try clear hcz42_5
          try clear hcz44_0
          try clear hcz44_1
          try clear hcz44_2
          try clear hcz44_3
          try clear hcz44_4
          try clear hcz44_5
          try clear hcz46_0
          try clear hcz46_1
          try clear hcz46_2
          try clear hcz46_3
          try clear hcz46_4
          try clear hcz46_5
          try clear hcz48_0
          try clear hcz48_1
          try clear hcz48_2
          try clear hcz48_3
          try clear hcz48_4
          try clear hcz48_5
          try clear hcz50_0
          try clear hcz50_1
          try clear hcz50_2
          try clear hcz50_3
          try clear hcz50_4
          try clear hcz50_5
          try clear hcz51_0
          try clear hcz51_1
          try clear hcz51_2
          try clear hcz51_3
          try clear hcz51_4
          try clear hcz51_5
          try clear hcz9_0
          try clear hcz9_1
          try clear hcz9_2
          try clear hcz9_3
          try clear hcz9_4
          try clear hcz9_5
          try clear hfz16_0
          try clear hfz16_1
          try clear hfz16_2
          try clear hfz16_3
          try clear hfz16_4
          try clear hfz16_5
          try clear hfz18_0
          try clear hfz18_1
          try clear hfz18_2
          try clear hfz18_3
          try clear hfz18_4
          try clear hfz18_5
          try clear hfz20_0
          try clear hfz20_1
          try clear hfz20_2
          try clear hfz20_3
          try clear hfz20_4
          try clear hfz20_5
          try clear hfz22_0
          try clear hfz22_1
          try clear hfz22_2
          try clear hfz22_3
          try clear hfz22_4
          try clear hfz22_5
          try clear hfz23_0
          try clear hfz23_1
          try clear hfz23_2
          try clear hfz23_3
          try clear hfz23_4
          try clear hfz23_5
          try clear hfz25_0
          try clear hfz25_1
          try clear hfz25_2
          try clear hfz25_3
          try clear hfz25_4
          try clear hfz25_5
          try clear hfz26_0
          try clear hfz26_1
          try clear hfz26_2
          try clear hfz26_3
          try clear hfz26_4
          try clear hfz26_5
          try clear hfz28_0
          try clear hfz28_1
          try clear hfz28_2
          try clear hfz28_3
          try clear hfz28_4
          try clear hfz28_5
          try clear hfz32_0
          try clear hfz32_1
          try clear hfz32_2
          try clear hfz32_3
          try clear hfz32_4
          try clear hfz32_5
          try clear hfz34_0
          try clear hfz34_1
          try clear hfz34_2
          try clear hfz34_3
          try clear hfz34_4
          try clear hfz34_5
          try clear hfz37_0
          try clear hfz37_1
          try clear hfz37_2
          try clear hfz37_3
          try clear hfz37_4
          try clear hfz37_5
          try clear hfz39_0
          try clear hfz39_1
          try clear hfz39_2
          try clear hfz39_3
          try clear hfz39_4
          try clear hfz39_5
          try clear hfz40_0
          try clear hfz40_1
          try clear hfz40_2
          try clear hfz40_3
          try clear hfz40_4
          try clear hfz40_5
          try clear hfz42_0
          try clear hfz42_1
          try clear hfz42_2
          try clear hfz42_3
          try clear hfz42_4
          try clear hfz42_5
          try clear hfz44_0
          try clear hfz44_1
          try clear hfz44_2
          try clear hfz44_3
          try clear hfz44_4
          try clear hfz44_5
          try clear hfz46_0
          try clear hfz46_1
          try clear hfz46_2
          try clear hfz46_3
          try clear hfz46_4
          try clear hfz46_5
          try clear hfz48_0
          try clear hfz48_1
          try clear hfz48_2
          try clear hfz48_3
          try clear hfz48_4
          try clear hfz48_5
          try clear hfz50_0
          try clear hfz50_1
          try clear hfz50_2
          try clear hfz50_3
          try clear hfz50_4
          try clear hfz50_5
          try clear hfz51_0
          try clear hfz51_1
          try clear hfz51_2
          try clear hfz51_3
          try clear hfz51_4
          try clear hfz51_5
          try clear hfz9_0
          try clear hfz9_1
          try clear hfz9_2
          try clear hfz9_3
          try clear hfz9_4
          try clear hfz9_5
          try clear hx241_0
          try clear hx241_1
          try clear hx243_0
          try clear hx243_1
          try clear hx244_0
          try clear hx244_1
          try clear hx245_0
          try clear hx246_0
          try clear hx247_0
          try clear hx248_0
          try clear hx249_0
          try clear p2
          try clear p24
          try clear p241
          try clear p243
          try clear p244
          try clear p245
          try clear p246
          try clear p247
          try clear p248
          try clear p249
          try clear p6
          try clear q2
          try clear q24
          try clear q241
          try clear q243
          try clear q244
          try clear q245
          try clear q246
          try clear q247
          try clear q248
          try clear q249
          obtain ⟨kq, x119_40, rfl, HA, HJ40, BK238, HB⟩ := hcut
          cases kq with
          | zero => exact absurd HA.out (by simp [spileref29_Check.j2])
          | succ kj40 =>
           have H := HA.out
           clear HA
           simp only [spileref29_Check.j2] at H
           by_cases c52 : x119_40 = true
           ·subst c52
            have H1 : (some 2) = some r := by rw [if_pos rfl] at H; exact H
            clear H
            have H := H1
            clear H1
            obtain rfl := Option.some.inj H
            go_wp2
            go_ret
            exact ⟨fin_, bls_⟩
           ·replace c52 := Bool.eq_false_iff.mpr c52
            subst c52
            have H1 : (if x7_2 > 4096 then (some 8) else (some 0)) = some r := by rw [if_neg (show ¬ (false = true) by decide)] at H; exact H
            clear H
            have H := H1
            clear H1
            by_cases c53 : x7_2 > 4096
            ·rw [if_pos c53] at H
             have c53b0 : decide (4096 < x7_2) = true := decide_eq_true c53
             clear c53
             obtain rfl := Option.some.inj H
             go_wp2
             go_ret
             exact ⟨fin_, bls_⟩
            ·rw [if_neg c53] at H
             have c53b0 : decide (4096 < x7_2) = false := decide_eq_false c53
             clear c53
             obtain rfl := Option.some.inj H
             go_wp2
             go_ret
             exact ⟨fin_, bls_⟩
  ·rw [if_neg c6] at H
   have c6b0 : (t240 == 0) = false := beq_eq_false_iff_ne.mpr c6
   have c6b1 : (t240 != 0) = true := bne_iff_ne.mpr c6
   obtain rfl := Option.some.inj H
   go_enter Tryd.func30, Tryd.ntmps30
   go_wp2_with (first | ((with_reducible refine gate_dst (N := 3) rfl ?_); refine be_ (N := 3) (cs := #[.slice A1_0 l1_0.length c1_0, .slice A1_1 l1_1.length c1_1, .slice A1_2 l1_2.length c1_2, .int .i64 a1_3, .int .i64 a1_4, .int .i64 a1_5]) (t := 26) ?_; intro gb238 hg w54 hbox hb; have n0_ := Aside0.mk (below_step bl_ hb); have n1_ := Aside0.mk (hbox); have n2_ := Aside0.mk ((by rw [hg]; exact (below_size bl_) : w.heap.size ≤ gb238)); have n3_ := Aside0.mk ((by rw [hg]; exact (below_size bl_) : w.heap.size ≤ gb238)); clear HB; have HB := n0_; have BK238 := n1_; have GW238 := n2_; have GE238 := n3_; clear n0_ n1_ n2_ n3_; clear hb hbox hg) | ((with_reducible refine gate_callee (f := 58) rfl ?_); refine gl_ (some 10) Tryd.func58 #[.slice A0 l0.length c0] ?_; (with_reducible refine (spileref16_Right.calls _ _ l0 true _ ?side1 ?side2 A3.out).mono ?_); (case side1 => exact kc_ HR0); (case side2 => exact HC0.out); rintro e w55 ⟨rfl, hb⟩; refine ⟨_, rfl, ?_⟩; have n0_ := Aside0.mk (blk_below (bkt_ BK238) hb); have n1_ := Aside0.mk (below_step bls_ hb); clear BK238; clear HB; have BK238 := n0_; have HB := n1_; clear n0_ n1_; (try clear hb); (try clear hb2); (try clear hk); (try clear hi); obtain ⟨hcz56_0, hcz56_1, hcz56_2, hcz56_3, hcz56_4, hcz56_5⟩ := bc6_ BK238; obtain ⟨hfz56_0, hfz56_1, hfz56_2, hfz56_3, hfz56_4⟩ := bf5_ BK238; have hfz56_5 := blk_frozen BK238.out 5) | ((with_reducible refine gate_callee (f := 59) rfl ?_); refine gl_ (some 13) Tryd.func59 #[.agg #[.slice A1_0 l1_0.length c1_0, .slice A1_1 l1_1.length c1_1, .slice A1_2 l1_2.length c1_2, .int .i64 a1_3, .int .i64 a1_4, .int .i64 a1_5]] ?_; (with_reducible refine (spileref29_sizes.calls _ _ l1_0 _ _ l1_1 _ _ l1_2 a1_3 a1_4 a1_5 t240 _ ?side1 ?side2 ?side3 ?side4 ?side5 ?side6 A5.out).mono ?_); (case side1 => exact kc_ HR1_0); (case side2 => exact HC1_0.out); (case side3 => exact kc_ HR1_1); (case side4 => exact HC1_1.out); (case side5 => exact kc_ HR1_2); (case side6 => exact HC1_2.out); rintro e w57 ⟨rfl, hb⟩; refine ⟨_, rfl, ?_⟩; have n0_ := Aside0.mk (blk_below (bkt_ BK238) hb); have n1_ := Aside0.mk (below_step bls_ hb); clear BK238; clear HB; have BK238 := n0_; have HB := n1_; clear n0_ n1_; (try clear hb); (try clear hb2); (try clear hk); (try clear hi)))
   go_ret
   exact ⟨fin_, bls_⟩
 ·replace c4 := Bool.eq_false_iff.mpr c4
  subst c4
  have H1 : (some 1) = some r := by rw [if_neg (show ¬ (false = true) by decide)] at H; exact H
  clear H
  have H := H1
  clear H1
  obtain rfl := Option.some.inj H
  go_enter Tryd.func30, Tryd.ntmps30
  go_wp2_with (first | ((with_reducible refine gate_dst (N := 3) rfl ?_); refine be_ (N := 3) (cs := #[.slice A1_0 l1_0.length c1_0, .slice A1_1 l1_1.length c1_1, .slice A1_2 l1_2.length c1_2, .int .i64 a1_3, .int .i64 a1_4, .int .i64 a1_5]) (t := 26) ?_; intro gb238 hg w58 hbox hb; have n0_ := Aside0.mk (below_step bl_ hb); have n1_ := Aside0.mk (hbox); have n2_ := Aside0.mk ((by rw [hg]; exact (below_size bl_) : w.heap.size ≤ gb238)); have n3_ := Aside0.mk ((by rw [hg]; exact (below_size bl_) : w.heap.size ≤ gb238)); clear HB; have HB := n0_; have BK238 := n1_; have GW238 := n2_; have GE238 := n3_; clear n0_ n1_ n2_ n3_; clear hb hbox hg) | ((with_reducible refine gate_callee (f := 58) rfl ?_); refine gl_ (some 10) Tryd.func58 #[.slice A0 l0.length c0] ?_; (with_reducible refine (spileref16_Right.calls _ _ l0 false _ ?side1 ?side2 A3.out).mono ?_); (case side1 => exact kc_ HR0); (case side2 => exact HC0.out); rintro e w59 ⟨rfl, hb⟩; refine ⟨_, rfl, ?_⟩; have n0_ := Aside0.mk (blk_below (bkt_ BK238) hb); have n1_ := Aside0.mk (below_step bls_ hb); clear BK238; clear HB; have BK238 := n0_; have HB := n1_; clear n0_ n1_; (try clear hb); (try clear hb2); (try clear hk); (try clear hi)))
  go_ret
  exact ⟨fin_, bls_⟩

end Go.Proofs.YtcdkbciagchlgaaDoor.PF
