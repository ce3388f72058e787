-- Written by a program of this session (wip/pr.py) out of Lean's print of the translation; Lean checks it.
import Derived.Test.YtcdkbciagchlgaaDoorPF0
import Derived.Test.YtcdkbciagchlgaaDoorPF1
import Derived.Test.YtcdkbciagchlgaaDoorPF6
import Derived.Test.YtcdkbciagchlgaaDoorPF7
import Derived.Test.YtcdkbciagchlgaaDoorPF9
import Derived.Test.YtcdkbciagchlgaaDoorPF13
import Derived.Test.YtcdkbciagchlgaaDoorPF14
namespace Go.Proofs.YtcdkbciagchlgaaDoor.PF
open Go.RowKit Go.Proofs.YtcdkbciagchlgaaDoorW.PrintWords Go.Proofs.YtcdkbciagchlgaaDoorW.PrintLast Go.Proofs.YtcdkbciagchlgaaDoorW.PrintMore
attribute [local go_sem] max2_int min2_int max_two min_two max_three min_three max_four min_four   -- for this text's walks alone
set_option linter.unusedVariables false
set_option linter.unusedSimpArgs false

/-! ### spileref30_right: function 37 -/
mutual
def spileref30_right.j0 : Nat → List Int → List Int → Bool → List (S45) → List Int → List Int → Int → Int → Int → List Int → Int → Int → Int → Option (Bool)
 | 0, _, _, _, _, _, _, _, _, _, _, _, _, _ => none
 | k + 1, x7, x8, x25, x290000, x290001, x290002, x290003, x290004, x290005, x291000, x291001, x291002, x291003 => if x25 = true then (some false) else ((spileref30_need.f k x7 x8 x291000 x291001 x291002 x291003).bind fun t297 => (spileref30_right.l0 k t297 0 0 x290000 x290001 x290002 x290003 x290004 x290005 x291000 x291001 x291002 x291003))
def spileref30_right.l0 : Nat → List Int → Int → Int → List (S45) → List Int → List Int → Int → Int → Int → List Int → Int → Int → Int → Option (Bool)
 | 0, _, _, _, _, _, _, _, _, _, _, _, _, _ => none
 | k + 1, x9, x10, x11, x290000, x290001, x290002, x290003, x290004, x290005, x291000, x291001, x291002, x291003 => if x11 < (x9.length : Int) then (if 0 ≤ x11 then (if x11 < (x291000.length : Int) then (if (rd x291000 x11) < (rd x9 x11) then (some false) else (if x11 < (x290001.length : Int) then (spileref30_right.l0 k x9 (wrap64 (x10 + (wrap64 ((rd x291000 x11) * (rd x290001 x11))))) (wrap64 (x11 + 1)) x290000 x290001 x290002 x290003 x290004 x290005 x291000 x291001 x291002 x291003) else (none))) else (none)) else (none)) else (some (decide (x10 < (wrap64 (x291002 + (wrap64 (x291003 * x290005)))))))
end
def spileref30_right.f (k : Nat) (l0 : List (S82)) (l1_0 : List (S45)) (l1_1 : List Int) (l1_2 : List Int) (a1_3 : Int) (a1_4 : Int) (a1_5 : Int) (l2_0 : List Int) (a2_1 : Int) (a2_2 : Int) (a2_3 : Int) : Option (Bool) := (spileref30_excess.f k l0 l1_0 l1_1 l1_2 a1_3 a1_4 a1_5).bind fun bt291 => (if a2_2 = 1 then (spileref30_right.j0 k bt291.1 bt291.2 ((bt291.2.length : Int) == 0) l1_0 l1_1 l1_2 a1_3 a1_4 a1_5 l2_0 a2_1 a2_2 a2_3) else (spileref30_right.j0 k bt291.1 bt291.2 false l1_0 l1_1 l1_2 a1_3 a1_4 a1_5 l2_0 a2_1 a2_2 a2_3))
theorem spileref30_right.mono_l : ∀ k, (∀ y0 y1 y2 y3 y4 y5 y6 y7 y8 y9 y10 y11 y12, LeO (spileref30_right.j0 k y0 y1 y2 y3 y4 y5 y6 y7 y8 y9 y10 y11 y12) (spileref30_right.j0 (k + 1) y0 y1 y2 y3 y4 y5 y6 y7 y8 y9 y10 y11 y12)) ∧ (∀ y0 y1 y2 y3 y4 y5 y6 y7 y8 y9 y10 y11 y12, LeO (spileref30_right.l0 k y0 y1 y2 y3 y4 y5 y6 y7 y8 y9 y10 y11 y12) (spileref30_right.l0 (k + 1) y0 y1 y2 y3 y4 y5 y6 y7 y8 y9 y10 y11 y12))
 | 0 => ⟨fun _ _ _ _ _ _ _ _ _ _ _ _ _ r h => by simp [spileref30_right.j0] at h, fun _ _ _ _ _ _ _ _ _ _ _ _ _ r h => by simp [spileref30_right.l0] at h⟩
 | k + 1 => by
  obtain ⟨ih0, ih1⟩ := spileref30_right.mono_l k
  refine ⟨?_, ?_⟩
  ·intro y0 y1 y2 y3 y4 y5 y6 y7 y8 y9 y10 y11 y12
   unfold spileref30_right.j0
   repeat' first
   | (with_reducible exact ih0 _ _ _ _ _ _ _ _ _ _ _ _ _)
   | (with_reducible exact ih1 _ _ _ _ _ _ _ _ _ _ _ _ _)
   | (with_reducible exact spileref30_excess.mono _ _ _ _ _ _ _ _)
   | (with_reducible exact spileref30_need.mono _ _ _ _ _ _ _)
   | (with_reducible exact LeO.refl _)
   | (with_reducible exact LeO.none _)
   | (with_reducible refine LeO.ite ?_ ?_)
   | (with_reducible refine LeO.bind ?_ (fun _ => ?_))
   | exact ih0 _ _ _ _ _ _ _ _ _ _ _ _ _
   | exact ih1 _ _ _ _ _ _ _ _ _ _ _ _ _
   | exact spileref30_excess.mono _ _ _ _ _ _ _ _
   | exact spileref30_need.mono _ _ _ _ _ _ _
   | exact LeO.none _
   | refine LeO.ite ?_ ?_
   | refine LeO.bind ?_ (fun _ => ?_)
  ·intro y0 y1 y2 y3 y4 y5 y6 y7 y8 y9 y10 y11 y12
   unfold spileref30_right.l0
   repeat' first
   | (with_reducible exact ih0 _ _ _ _ _ _ _ _ _ _ _ _ _)
   | (with_reducible exact ih1 _ _ _ _ _ _ _ _ _ _ _ _ _)
   | (with_reducible exact spileref30_excess.mono _ _ _ _ _ _ _ _)
   | (with_reducible exact spileref30_need.mono _ _ _ _ _ _ _)
   | (with_reducible exact LeO.refl _)
   | (with_reducible exact LeO.none _)
   | (with_reducible refine LeO.ite ?_ ?_)
   | (with_reducible refine LeO.bind ?_ (fun _ => ?_))
   | exact ih0 _ _ _ _ _ _ _ _ _ _ _ _ _
   | exact ih1 _ _ _ _ _ _ _ _ _ _ _ _ _
   | exact spileref30_excess.mono _ _ _ _ _ _ _ _
   | exact spileref30_need.mono _ _ _ _ _ _ _
   | exact LeO.none _
   | refine LeO.ite ?_ ?_
   | refine LeO.bind ?_ (fun _ => ?_)
theorem spileref30_right.mono : ∀ a0 a1 a2 a3 a4 a5 a6 a7 a8 a9 a10 k, LeO (spileref30_right.f k a0 a1 a2 a3 a4 a5 a6 a7 a8 a9 a10) (spileref30_right.f (k + 1) a0 a1 a2 a3 a4 a5 a6 a7 a8 a9 a10) := by
 intro a0 a1 a2 a3 a4 a5 a6 a7 a8 a9 a10 k
 obtain ⟨ih0, ih1⟩ := spileref30_right.mono_l k
 unfold spileref30_right.f
 repeat' first
   | (with_reducible exact ih0 _ _ _ _ _ _ _ _ _ _ _ _ _)
   | (with_reducible exact ih1 _ _ _ _ _ _ _ _ _ _ _ _ _)
   | (with_reducible exact spileref30_excess.mono _ _ _ _ _ _ _ _)
   | (with_reducible exact spileref30_need.mono _ _ _ _ _ _ _)
   | (with_reducible exact LeO.refl _)
   | (with_reducible exact LeO.none _)
   | (with_reducible refine LeO.ite ?_ ?_)
   | (with_reducible refine LeO.bind ?_ (fun _ => ?_))
   | exact ih0 _ _ _ _ _ _ _ _ _ _ _ _ _
   | exact ih1 _ _ _ _ _ _ _ _ _ _ _ _ _
   | exact spileref30_excess.mono _ _ _ _ _ _ _ _
   | exact spileref30_need.mono _ _ _ _ _ _ _
   | exact LeO.none _
   | refine LeO.ite ?_ ?_
   | refine LeO.bind ?_ (fun _ => ?_)
set_option maxHeartbeats 8000000 in
set_option maxRecDepth 100000 in
theorem spileref30_right.calls (k : Nat) (A0 : Option Addr) (c0 : Nat) (l0 : List (S82)) (A1_0 : Option Addr) (c1_0 : Nat) (l1_0 : List (S45)) (A1_1 : Option Addr) (c1_1 : Nat) (l1_1 : List Int) (A1_2 : Option Addr) (c1_2 : Nat) (l1_2 : List Int) (a1_3 : Int) (a1_4 : Int) (a1_5 : Int) (A2_0 : Option Addr) (c2_0 : Nat) (l2_0 : List Int) (a2_1 : Int) (a2_2 : Int) (a2_3 : Int) (r : Bool) (w : World) (hr0 : Kd.C k82 w A0 l0.length l0) (hc0 : l0.length ≤ c0) (hr1_0 : Kd.C k45 w A1_0 l1_0.length l1_0) (hc1_0 : l1_0.length ≤ c1_0) (hr1_1 : Kd.C (Kd.int .i64) w A1_1 l1_1.length l1_1) (hc1_1 : l1_1.length ≤ c1_1) (hr1_2 : Kd.C (Kd.int .i64) w A1_2 l1_2.length l1_2) (hc1_2 : l1_2.length ≤ c1_2) (hr2_0 : Kd.C (Kd.int .i64) w A2_0 l2_0.length l2_0) (hc2_0 : l2_0.length ≤ c2_0) (h : spileref30_right.f k l0 l1_0 l1_1 l1_2 a1_3 a1_4 a1_5 l2_0 a2_1 a2_2 a2_3 = some r) :
  Calls Tryd.prog 37 #[.slice A0 l0.length c0, .agg #[.slice A1_0 l1_0.length c1_0, .slice A1_1 l1_1.length c1_1, .slice A1_2 l1_2.length c1_2, .int .i64 a1_3, .int .i64 a1_4, .int .i64 a1_5], .agg #[.slice A2_0 l2_0.length c2_0, .int .i64 a2_1, .int .i64 a2_2, .int .i64 a2_3]] w fun e w' => e = .returned (.bool r) ∧ Below w.heap.size w w' := by
 have hu26 := Tryd.underlying26
 have hu30 := Tryd.underlying30
 have HR0 := Aside0.mk hr0
 have HC0 := Aside0.mk hc0
 clear hr0 hc0
 have HR1_0 := Aside0.mk hr1_0
 have HC1_0 := Aside0.mk hc1_0
 clear hr1_0 hc1_0
 have HR1_1 := Aside0.mk hr1_1
 have HC1_1 := Aside0.mk hc1_1
 clear hr1_1 hc1_1
 have HR1_2 := Aside0.mk hr1_2
 have HC1_2 := Aside0.mk hc1_2
 clear hr1_2 hc1_2
 have HR2_0 := Aside0.mk hr2_0
 have HC2_0 := Aside0.mk hc2_0
 clear hr2_0 hc2_0
 have HB := Aside0.mk (Below.refl w.heap.size w)
 have H : ((spileref30_excess.f k l0 l1_0 l1_1 l1_2 a1_3 a1_4 a1_5).bind fun bt291 => (if a2_2 = 1 then (spileref30_right.j0 k bt291.1 bt291.2 ((bt291.2.length : Int) == 0) l1_0 l1_1 l1_2 a1_3 a1_4 a1_5 l2_0 a2_1 a2_2 a2_3) else (spileref30_right.j0 k bt291.1 bt291.2 false l1_0 l1_1 l1_2 a1_3 a1_4 a1_5 l2_0 a2_1 a2_2 a2_3))) = some r := h
 clear h
 replace H := Option.bind_eq_some_iff.mp H
 obtain ⟨⟨t291, t294⟩, A40, H⟩ := H
 replace H : (if a2_2 = 1 then (spileref30_right.j0 k t291 t294 ((t294.length : Int) == 0) l1_0 l1_1 l1_2 a1_3 a1_4 a1_5 l2_0 a2_1 a2_2 a2_3) else (spileref30_right.j0 k t291 t294 false l1_0 l1_1 l1_2 a1_3 a1_4 a1_5 l2_0 a2_1 a2_2 a2_3)) = some r := H
 have A4 := Aside0.mk A40
 clear A40
 have HC5 := Aside0.mk H
 clear H
 go_enter Tryd.func37, Tryd.ntmps37
 go_upto_region 2 with (first | ((with_reducible refine gate_dst (N := 4) rfl ?_); (try (refine gate_guard (by rfl) ?_; dsimp only)); refine be_ (N := 4) (cs := #[.slice A1_0 l1_0.length c1_0, .slice A1_1 l1_1.length c1_1, .slice A1_2 l1_2.length c1_2, .int .i64 a1_3, .int .i64 a1_4, .int .i64 a1_5]) (t := 26) ?_; intro gb289 hg w6 hbox hb; have n0_ := Aside0.mk (below_step bl_ hb); have n1_ := Aside0.mk (hbox); have n2_ := Aside0.mk ((by rw [hg]; exact (below_size bl_) : w.heap.size ≤ gb289)); have n3_ := Aside0.mk ((by rw [hg]; exact (below_size bl_) : w.heap.size ≤ gb289)); clear HB; have HB := n0_; have BK289 := n1_; have GW289 := n2_; have GE289 := n3_; clear n0_ n1_ n2_ n3_; clear hb hbox hg) | ((with_reducible refine gate_dst (N := 5) rfl ?_); (try (refine gate_guard (by rfl) ?_; dsimp only)); refine be_ (N := 5) (cs := #[.slice A2_0 l2_0.length c2_0, .int .i64 a2_1, .int .i64 a2_2, .int .i64 a2_3]) (t := 30) ?_; intro gb290 hg w7 hbox hb; have n0_ := Aside0.mk (blk_below (bkt_ BK289) hb); have n1_ := Aside0.mk (below_step bls_ hb); have n2_ := Aside0.mk (hbox); have n3_ := Aside0.mk ((by rw [hg]; exact (below_size bls_) : w.heap.size ≤ gb290)); have n4_ := Aside0.mk ((by rw [hg]; exact (below_size bls_) : w.heap.size ≤ gb290)); have n5_ := Aside0.mk ((by rw [hg]; exact Nat.ne_of_lt (blk_lt (bkt_ BK289)) : gb289 ≠ gb290)); have n6_ := Aside0.mk ((by rw [hg]; exact Nat.ne_of_gt (blk_lt (bkt_ BK289)) : gb290 ≠ gb289)); clear BK289; clear HB; have BK289 := n0_; have HB := n1_; have BK290 := n2_; have GW290 := n3_; have GE290 := n4_; have NB289_290 := n5_; have NB290_289 := n6_; clear n0_ n1_ n2_ n3_ n4_ n5_ n6_; clear hb hbox hg; have hnb8 := NB289_290.out; have hnc8 := NB290_289.out; obtain ⟨hcz9_0, hcz9_1, hcz9_2, hcz9_3, hcz9_4, hcz9_5⟩ := bc6_ BK289; obtain ⟨hfz9_0, hfz9_1, hfz9_2, hfz9_3, hfz9_4⟩ := bf5_ BK289; have hfz9_5 := blk_frozen BK289.out 5) | (go_at_call 31; (with_reducible refine (spileref30_excess.calls k _ _ l0 _ _ l1_0 _ _ l1_1 _ _ l1_2 a1_3 a1_4 a1_5 t291 t294 _ ?side1 ?side2 ?side3 ?side4 ?side5 ?side6 ?side7 ?side8 A4.out).mono ?_); (case side1 => exact kc_ HR0); (case side2 => exact HC0.out); (case side3 => exact kc_ HR1_0); (case side4 => exact HC1_0.out); (case side5 => exact kc_ HR1_1); (case side6 => exact HC1_1.out); (case side7 => exact kc_ HR1_2); (case side8 => exact HC1_2.out); rintro e w10 ⟨v292, v295, rfl, ho0, ho1, hb⟩; have n0_ := Aside0.mk (Kd.R_lower ho0 (below_size bls_)); have n1_ := Aside0.mk (Kd.R_lower ho1 (below_size bls_)); have n2_ := Aside0.mk (blk_below (bkt_ BK289) hb); have n3_ := Aside0.mk (blk_below (bkt_ BK290) hb); have n4_ := Aside0.mk (below_step bls_ hb); clear BK289; clear BK290; clear HB; have HO293 := n0_; have HO296 := n1_; have BK289 := n2_; have BK290 := n3_; have HB := n4_; clear n0_ n1_ n2_ n3_ n4_; (try clear hb); (try clear hb2); (try clear hk); (try clear hi); (try clear ho0); (try clear ho1)))
 repeat (go_quiet (first | ((with_reducible refine gate_dst (N := 4) rfl ?_); (try (refine gate_guard (by rfl) ?_; dsimp only)); refine be_ (N := 4) (cs := #[.slice A1_0 l1_0.length c1_0, .slice A1_1 l1_1.length c1_1, .slice A1_2 l1_2.length c1_2, .int .i64 a1_3, .int .i64 a1_4, .int .i64 a1_5]) (t := 26) ?_; intro gb289 hg w6 hbox hb; have n0_ := Aside0.mk (below_step bl_ hb); have n1_ := Aside0.mk (hbox); have n2_ := Aside0.mk ((by rw [hg]; exact (below_size bl_) : w.heap.size ≤ gb289)); have n3_ := Aside0.mk ((by rw [hg]; exact (below_size bl_) : w.heap.size ≤ gb289)); clear HB; have HB := n0_; have BK289 := n1_; have GW289 := n2_; have GE289 := n3_; clear n0_ n1_ n2_ n3_; clear hb hbox hg) | ((with_reducible refine gate_dst (N := 5) rfl ?_); (try (refine gate_guard (by rfl) ?_; dsimp only)); refine be_ (N := 5) (cs := #[.slice A2_0 l2_0.length c2_0, .int .i64 a2_1, .int .i64 a2_2, .int .i64 a2_3]) (t := 30) ?_; intro gb290 hg w7 hbox hb; have n0_ := Aside0.mk (blk_below (bkt_ BK289) hb); have n1_ := Aside0.mk (below_step bls_ hb); have n2_ := Aside0.mk (hbox); have n3_ := Aside0.mk ((by rw [hg]; exact (below_size bls_) : w.heap.size ≤ gb290)); have n4_ := Aside0.mk ((by rw [hg]; exact (below_size bls_) : w.heap.size ≤ gb290)); have n5_ := Aside0.mk ((by rw [hg]; exact Nat.ne_of_lt (blk_lt (bkt_ BK289)) : gb289 ≠ gb290)); have n6_ := Aside0.mk ((by rw [hg]; exact Nat.ne_of_gt (blk_lt (bkt_ BK289)) : gb290 ≠ gb289)); clear BK289; clear HB; have BK289 := n0_; have HB := n1_; have BK290 := n2_; have GW290 := n3_; have GE290 := n4_; have NB289_290 := n5_; have NB290_289 := n6_; clear n0_ n1_ n2_ n3_ n4_ n5_ n6_; clear hb hbox hg; have hnb8 := NB289_290.out; have hnc8 := NB290_289.out; obtain ⟨hcz9_0, hcz9_1, hcz9_2, hcz9_3, hcz9_4, hcz9_5⟩ := bc6_ BK289; obtain ⟨hfz9_0, hfz9_1, hfz9_2, hfz9_3, hfz9_4⟩ := bf5_ BK289; have hfz9_5 := blk_frozen BK289.out 5) | (go_at_call 31; (with_reducible refine (spileref30_excess.calls k _ _ l0 _ _ l1_0 _ _ l1_1 _ _ l1_2 a1_3 a1_4 a1_5 t291 t294 _ ?side1 ?side2 ?side3 ?side4 ?side5 ?side6 ?side7 ?side8 A4.out).mono ?_); (case side1 => exact kc_ HR0); (case side2 => exact HC0.out); (case side3 => exact kc_ HR1_0); (case side4 => exact HC1_0.out); (case side5 => exact kc_ HR1_1); (case side6 => exact HC1_1.out); (case side7 => exact kc_ HR1_2); (case side8 => exact HC1_2.out); rintro e w10 ⟨v292, v295, rfl, ho0, ho1, hb⟩; have n0_ := Aside0.mk (Kd.R_lower ho0 (below_size bls_)); have n1_ := Aside0.mk (Kd.R_lower ho1 (below_size bls_)); have n2_ := Aside0.mk (blk_below (bkt_ BK289) hb); have n3_ := Aside0.mk (blk_below (bkt_ BK290) hb); have n4_ := Aside0.mk (below_step bls_ hb); clear BK289; clear BK290; clear HB; have HO293 := n0_; have HO296 := n1_; have BK289 := n2_; have BK290 := n3_; have HB := n4_; clear n0_ n1_ n2_ n3_ n4_; (try clear hb); (try clear hb2); (try clear hk); (try clear hi); (try clear ho0); (try clear ho1))); go_upto_region 2 with (first | ((with_reducible refine gate_dst (N := 4) rfl ?_); (try (refine gate_guard (by rfl) ?_; dsimp only)); refine be_ (N := 4) (cs := #[.slice A1_0 l1_0.length c1_0, .slice A1_1 l1_1.length c1_1, .slice A1_2 l1_2.length c1_2, .int .i64 a1_3, .int .i64 a1_4, .int .i64 a1_5]) (t := 26) ?_; intro gb289 hg w6 hbox hb; have n0_ := Aside0.mk (below_step bl_ hb); have n1_ := Aside0.mk (hbox); have n2_ := Aside0.mk ((by rw [hg]; exact (below_size bl_) : w.heap.size ≤ gb289)); have n3_ := Aside0.mk ((by rw [hg]; exact (below_size bl_) : w.heap.size ≤ gb289)); clear HB; have HB := n0_; have BK289 := n1_; have GW289 := n2_; have GE289 := n3_; clear n0_ n1_ n2_ n3_; clear hb hbox hg) | ((with_reducible refine gate_dst (N := 5) rfl ?_); (try (refine gate_guard (by rfl) ?_; dsimp only)); refine be_ (N := 5) (cs := #[.slice A2_0 l2_0.length c2_0, .int .i64 a2_1, .int .i64 a2_2, .int .i64 a2_3]) (t := 30) ?_; intro gb290 hg w7 hbox hb; have n0_ := Aside0.mk (blk_below (bkt_ BK289) hb); have n1_ := Aside0.mk (below_step bls_ hb); have n2_ := Aside0.mk (hbox); have n3_ := Aside0.mk ((by rw [hg]; exact (below_size bls_) : w.heap.size ≤ gb290)); have n4_ := Aside0.mk ((by rw [hg]; exact (below_size bls_) : w.heap.size ≤ gb290)); have n5_ := Aside0.mk ((by rw [hg]; exact Nat.ne_of_lt (blk_lt (bkt_ BK289)) : gb289 ≠ gb290)); have n6_ := Aside0.mk ((by rw [hg]; exact Nat.ne_of_gt (blk_lt (bkt_ BK289)) : gb290 ≠ gb289)); clear BK289; clear HB; have BK289 := n0_; have HB := n1_; have BK290 := n2_; have GW290 := n3_; have GE290 := n4_; have NB289_290 := n5_; have NB290_289 := n6_; clear n0_ n1_ n2_ n3_ n4_ n5_ n6_; clear hb hbox hg; have hnb8 := NB289_290.out; have hnc8 := NB290_289.out; obtain ⟨hcz9_0, hcz9_1, hcz9_2, hcz9_3, hcz9_4, hcz9_5⟩ := bc6_ BK289; obtain ⟨hfz9_0, hfz9_1, hfz9_2, hfz9_3, hfz9_4⟩ := bf5_ BK289; have hfz9_5 := blk_frozen BK289.out 5) | (go_at_call 31; (with_reducible refine (spileref30_excess.calls k _ _ l0 _ _ l1_0 _ _ l1_1 _ _ l1_2 a1_3 a1_4 a1_5 t291 t294 _ ?side1 ?side2 ?side3 ?side4 ?side5 ?side6 ?side7 ?side8 A4.out).mono ?_); (case side1 => exact kc_ HR0); (case side2 => exact HC0.out); (case side3 => exact kc_ HR1_0); (case side4 => exact HC1_0.out); (case side5 => exact kc_ HR1_1); (case side6 => exact HC1_1.out); (case side7 => exact kc_ HR1_2); (case side8 => exact HC1_2.out); rintro e w10 ⟨v292, v295, rfl, ho0, ho1, hb⟩; have n0_ := Aside0.mk (Kd.R_lower ho0 (below_size bls_)); have n1_ := Aside0.mk (Kd.R_lower ho1 (below_size bls_)); have n2_ := Aside0.mk (blk_below (bkt_ BK289) hb); have n3_ := Aside0.mk (blk_below (bkt_ BK290) hb); have n4_ := Aside0.mk (below_step bls_ hb); clear BK289; clear BK290; clear HB; have HO293 := n0_; have HO296 := n1_; have BK289 := n2_; have BK290 := n3_; have HB := n4_; clear n0_ n1_ n2_ n3_ n4_; (try clear hb); (try clear hb2); (try clear hk); (try clear hi); (try clear ho0); (try clear ho1))))
 (try simp only [Act.put, List.setIfInBounds_toArray, List.set_cons_zero, List.set_cons_succ])
 go_cut [25] (fun v25 wc => ∃ (kq : Nat) (x25_4 : Bool), v25 = .bool x25_4 ∧ Aside0 (spileref30_right.j0 kq t291 t294 x25_4 l1_0 l1_1 l1_2 a1_3 a1_4 a1_5 l2_0 a2_1 a2_2 a2_3 = some r) ∧ Aside0 (kq ≤ k) ∧ Aside0 (Kd.R (Kd.int .i64) 3 wc w.heap.size (fun k_ => some k_ ≠ (v295 : Value).ownBlock) v292 t291) ∧ Aside0 (Kd.R (Kd.int .i64) 3 wc w.heap.size (fun k_ => some k_ ≠ (v292 : Value).ownBlock) v295 t294) ∧ Aside0 (wc.heap[gb289]? = some (.cells #[(.slice A1_0 l1_0.length c1_0), (.slice A1_1 l1_1.length c1_1), (.slice A1_2 l1_2.length c1_2), .int .i64 a1_3, .int .i64 a1_4, .int .i64 a1_5] 26 (0, 0))) ∧ Aside0 (wc.heap[gb290]? = some (.cells #[(.slice A2_0 l2_0.length c2_0), .int .i64 a2_1, .int .i64 a2_2, .int .i64 a2_3] 30 (0, 0))) ∧ Aside0 (Below w.heap.size w wc))
 case first =>
  have H := HC5.out
  clear HC5
  by_cases c11 : a2_2 = 1
  ·rw [if_pos c11] at H
   have c11b0 : (a2_2 == 1) = true := beq_iff_eq.mpr c11
   have c11b1 : (a2_2 != 1) = false := bne_eq_false_iff_eq.mpr c11
   clear c11
   (first | rw [c11b0] | (simp only [i64_w, i32_w]; rw [c11b0]) | skip)
   have H' := Aside0.mk H
   clear H
   have hnb12 := NB290_289.out
   have hnc12 := NB289_290.out
   obtain ⟨hcz13_0, hcz13_1, hcz13_2, hcz13_3⟩ := bc4_ BK290
   obtain ⟨hfz13_0, hfz13_1, hfz13_2, hfz13_3⟩ := bf4_ BK290
   obtain ⟨Ao14, co14, eo14⟩ := Kd.R_slice HO296.out
   subst eo14
   go_wp2
   repeat (go_quiet (fail); try go_wp2)
   go_meet
   case rel => exact ⟨_, (((t294.length : Int) == 0)), sm_, H', ⟨by first | omega | exact Nat.le_refl _⟩, ⟨by (with_reducible repeat (first | apply Kd.R_alloc | apply Kd.R_drewN | apply Kd.R_drew)); exact HO293.out⟩, ⟨by (with_reducible repeat (first | apply Kd.R_alloc | apply Kd.R_drewN | apply Kd.R_drew)); exact HO296.out⟩, ⟨bkt_ BK289⟩, ⟨bkt_ BK290⟩, ⟨bls_⟩⟩
  ·rw [if_neg c11] at H
   have c11b0 : (a2_2 == 1) = false := beq_eq_false_iff_ne.mpr c11
   have c11b1 : (a2_2 != 1) = true := bne_iff_ne.mpr c11
   (first | rw [c11b0] | (simp only [i64_w, i32_w]; rw [c11b0]) | skip)
   have H' := Aside0.mk H
   clear H
   have hnb15 := NB290_289.out
   have hnc15 := NB289_290.out
   obtain ⟨hcz16_0, hcz16_1, hcz16_2, hcz16_3⟩ := bc4_ BK290
   obtain ⟨hfz16_0, hfz16_1, hfz16_2, hfz16_3⟩ := bf4_ BK290
   go_wp2
   repeat (go_quiet (fail); try go_wp2)
   go_meet
   case rel => exact ⟨_, (false), sm_, H', ⟨by first | omega | exact Nat.le_refl _⟩, ⟨by (with_reducible repeat (first | apply Kd.R_alloc | apply Kd.R_drewN | apply Kd.R_drew)); exact HO293.out⟩, ⟨by (with_reducible repeat (first | apply Kd.R_alloc | apply Kd.R_drewN | apply Kd.R_drew)); exact HO296.out⟩, ⟨bkt_ BK289⟩, ⟨bkt_ BK290⟩, ⟨bls_⟩⟩
 case rest =>
  clear HC5
  try clear c1
  try clear c2
  try clear p2
  try clear c3
  try clear c8
  try clear c11
  try clear c11b0
  try clear c11b1
  try clear c12
  try clear c15
  try clear hcz13_0
  try clear hcz13_1
  try clear hcz13_2
  try clear hcz13_3
  try clear hcz16_0
  try clear hcz16_1
  try clear hcz16_2
  try clear hcz16_3
  try clear hcz9_0
  try clear hcz9_1
  try clear hcz9_2
  try clear hcz9_3
  try clear hcz9_4
  try clear hcz9_5
  try clear hfz13_0
  try clear hfz13_1
  try clear hfz13_2
  try clear hfz13_3
  try clear hfz16_0
  try clear hfz16_1
  try clear hfz16_2
  try clear hfz16_3
  try clear hfz9_0
  try clear hfz9_1
  try clear hfz9_2
  try clear hfz9_3
  try clear hfz9_4
  try clear hfz9_5
  obtain ⟨kq, x25_4, rfl, HA, HJ4, HO_7, HO_8, BK289, BK290, HB⟩ := hcut
  cases kq with
  | zero => exact absurd HA.out (by simp [spileref30_right.j0])
  | succ kj4 =>
   have H := HA.out
   clear HA
   simp only [spileref30_right.j0] at H
   by_cases c17 : x25_4 = true
   ·subst c17
    have H1 : (some false) = some r := by rw [if_pos rfl] at H; exact H
    clear H
    have H := H1
    clear H1
    obtain rfl := Option.some.inj H
    go_wp2
    repeat (go_quiet (fail); try go_wp2)
    go_ret
    exact ⟨fin_, bls_⟩
   ·replace c17 := Bool.eq_false_iff.mpr c17
    subst c17
    have H1 : ((spileref30_need.f kj4 t291 t294 l2_0 a2_1 a2_2 a2_3).bind fun t297 => (spileref30_right.l0 kj4 t297 0 0 l1_0 l1_1 l1_2 a1_3 a1_4 a1_5 l2_0 a2_1 a2_2 a2_3)) = some r := by rw [if_neg (show ¬ (false = true) by decide)] at H; exact H
    clear H
    have H := H1
    clear H1
    replace H := Option.bind_eq_some_iff.mp H
    obtain ⟨t297, A180, H⟩ := H
    replace H : (spileref30_right.l0 kj4 t297 0 0 l1_0 l1_1 l1_2 a1_3 a1_4 a1_5 l2_0 a2_1 a2_2 a2_3) = some r := H
    have A18 := Aside0.mk A180
    clear A180
    have H' := Aside0.mk H
    clear H
    have hnb19 := NB290_289.out
    have hnc19 := NB289_290.out
    obtain ⟨hcz20_0, hcz20_1, hcz20_2, hcz20_3⟩ := bc4_ BK290
    obtain ⟨hfz20_0, hfz20_1, hfz20_2, hfz20_3⟩ := bf4_ BK290
    obtain ⟨Ao21, co21, eo21⟩ := Kd.R_slice HO_7.out
    subst eo21
    obtain ⟨Ao22, co22, eo22⟩ := Kd.R_slice HO_8.out
    subst eo22
    go_wp2_with (first | (go_at_call 36; (with_reducible refine (spileref30_need.calls kj4 _ _ t291 _ _ t294 _ _ l2_0 a2_1 a2_2 a2_3 t297 _ ?side1 ?side2 ?side3 ?side4 ?side5 ?side6 A18.out).mono ?_); (case side1 => repeat (first | exact (Kd.R_reads' HO_7.out).2.2 | (with_reducible refine Kd.C_alloc ?_ _) | (with_reducible refine Kd.C_drewN ?_ _) | (with_reducible refine Kd.C_drew ?_))); (case side2 => exact (Kd.R_reads' HO_7.out).2.1); (case side3 => repeat (first | exact (Kd.R_reads' HO_8.out).2.2 | (with_reducible refine Kd.C_alloc ?_ _) | (with_reducible refine Kd.C_drewN ?_ _) | (with_reducible refine Kd.C_drew ?_))); (case side4 => exact (Kd.R_reads' HO_8.out).2.1); (case side5 => exact kc_ HR2_0); (case side6 => exact HC2_0.out); rintro e w23 ⟨v298, rfl, ho0, hb⟩; have n0_ := Aside0.mk (Kd.R_elder' (kr_ HO_7) (Kd.R_base ho0) hb); have n1_ := Aside0.mk (Kd.R_elder' (kr_ HO_8) (Kd.R_base ho0) hb); have n2_ := Aside0.mk (Kd.R_lower (Kd.R_new' (Kd.R_new' ho0 (Kd.R_lt (kr_ HO_7))) (Kd.R_lt (kr_ HO_8))) (below_size bls_)); have n3_ := Aside0.mk (blk_below (bkt_ BK289) hb); have n4_ := Aside0.mk (blk_below (bkt_ BK290) hb); have n5_ := Aside0.mk (below_step bls_ hb); clear HO_7; clear HO_8; clear BK289; clear BK290; clear HB; have HO_7 := n0_; have HO_8 := n1_; have HO299 := n2_; have BK289 := n3_; have BK290 := n4_; have HB := n5_; clear n0_ n1_ n2_ n3_ n4_ n5_; (try clear hb); (try clear hb2); (try clear hk); (try clear hi); (try clear ho0)))
    repeat (go_quiet (first | (go_at_call 36; (with_reducible refine (spileref30_need.calls kj4 _ _ t291 _ _ t294 _ _ l2_0 a2_1 a2_2 a2_3 t297 _ ?side1 ?side2 ?side3 ?side4 ?side5 ?side6 A18.out).mono ?_); (case side1 => repeat (first | exact (Kd.R_reads' HO_7.out).2.2 | (with_reducible refine Kd.C_alloc ?_ _) | (with_reducible refine Kd.C_drewN ?_ _) | (with_reducible refine Kd.C_drew ?_))); (case side2 => exact (Kd.R_reads' HO_7.out).2.1); (case side3 => repeat (first | exact (Kd.R_reads' HO_8.out).2.2 | (with_reducible refine Kd.C_alloc ?_ _) | (with_reducible refine Kd.C_drewN ?_ _) | (with_reducible refine Kd.C_drew ?_))); (case side4 => exact (Kd.R_reads' HO_8.out).2.1); (case side5 => exact kc_ HR2_0); (case side6 => exact HC2_0.out); rintro e w23 ⟨v298, rfl, ho0, hb⟩; have n0_ := Aside0.mk (Kd.R_elder' (kr_ HO_7) (Kd.R_base ho0) hb); have n1_ := Aside0.mk (Kd.R_elder' (kr_ HO_8) (Kd.R_base ho0) hb); have n2_ := Aside0.mk (Kd.R_lower (Kd.R_new' (Kd.R_new' ho0 (Kd.R_lt (kr_ HO_7))) (Kd.R_lt (kr_ HO_8))) (below_size bls_)); have n3_ := Aside0.mk (blk_below (bkt_ BK289) hb); have n4_ := Aside0.mk (blk_below (bkt_ BK290) hb); have n5_ := Aside0.mk (below_step bls_ hb); clear HO_7; clear HO_8; clear BK289; clear BK290; clear HB; have HO_7 := n0_; have HO_8 := n1_; have HO299 := n2_; have BK289 := n3_; have BK290 := n4_; have HB := n5_; clear n0_ n1_ n2_ n3_ n4_ n5_; (try clear hb); (try clear hb2); (try clear hk); (try clear hi); (try clear ho0))); try go_wp2_with (first | (go_at_call 36; (with_reducible refine (spileref30_need.calls kj4 _ _ t291 _ _ t294 _ _ l2_0 a2_1 a2_2 a2_3 t297 _ ?side1 ?side2 ?side3 ?side4 ?side5 ?side6 A18.out).mono ?_); (case side1 => repeat (first | exact (Kd.R_reads' HO_7.out).2.2 | (with_reducible refine Kd.C_alloc ?_ _) | (with_reducible refine Kd.C_drewN ?_ _) | (with_reducible refine Kd.C_drew ?_))); (case side2 => exact (Kd.R_reads' HO_7.out).2.1); (case side3 => repeat (first | exact (Kd.R_reads' HO_8.out).2.2 | (with_reducible refine Kd.C_alloc ?_ _) | (with_reducible refine Kd.C_drewN ?_ _) | (with_reducible refine Kd.C_drew ?_))); (case side4 => exact (Kd.R_reads' HO_8.out).2.1); (case side5 => exact kc_ HR2_0); (case side6 => exact HC2_0.out); rintro e w23 ⟨v298, rfl, ho0, hb⟩; have n0_ := Aside0.mk (Kd.R_elder' (kr_ HO_7) (Kd.R_base ho0) hb); have n1_ := Aside0.mk (Kd.R_elder' (kr_ HO_8) (Kd.R_base ho0) hb); have n2_ := Aside0.mk (Kd.R_lower (Kd.R_new' (Kd.R_new' ho0 (Kd.R_lt (kr_ HO_7))) (Kd.R_lt (kr_ HO_8))) (below_size bls_)); have n3_ := Aside0.mk (blk_below (bkt_ BK289) hb); have n4_ := Aside0.mk (blk_below (bkt_ BK290) hb); have n5_ := Aside0.mk (below_step bls_ hb); clear HO_7; clear HO_8; clear BK289; clear BK290; clear HB; have HO_7 := n0_; have HO_8 := n1_; have HO299 := n2_; have BK289 := n3_; have BK290 := n4_; have HB := n5_; clear n0_ n1_ n2_ n3_ n4_ n5_; (try clear hb); (try clear hb2); (try clear hk); (try clear hi); (try clear ho0))))
    go_loopg [10, 11] kj4 (fun kq v10 v11 w' => ∃ (x10_2 : Int) (x11_2 : Int), v10 = .int .i64 x10_2 ∧ v11 = .int .i64 x11_2 ∧ Aside0 (spileref30_right.l0 kq t297 x10_2 x11_2 l1_0 l1_1 l1_2 a1_3 a1_4 a1_5 l2_0 a2_1 a2_2 a2_3 = some r) ∧ Aside0 (kq ≤ kj4) ∧ Aside0 (Kd.R (Kd.int .i64) 3 w' w.heap.size (fun _ => True) v298 t297) ∧ Aside0 (w'.heap[gb289]? = some (.cells #[(.slice A1_0 l1_0.length c1_0), (.slice A1_1 l1_1.length c1_1), (.slice A1_2 l1_2.length c1_2), .int .i64 a1_3, .int .i64 a1_4, .int .i64 a1_5] 26 (0, 0))) ∧ Aside0 (w'.heap[gb290]? = some (.cells #[(.slice A2_0 l2_0.length c2_0), .int .i64 a2_1, .int .i64 a2_2, .int .i64 a2_3] 30 (0, 0))) ∧ Aside0 (Below w.heap.size w w'))
    case atStart => exact ⟨(0), (0), sm_, sm_, H', ⟨Nat.le_refl _⟩, ⟨by (with_reducible repeat (first | apply Kd.R_alloc | apply Kd.R_drewN | apply Kd.R_drew)); exact Kd.R_mono HO299.out (fun _ hk => trivial)⟩, ⟨bkt_ BK289⟩, ⟨bkt_ BK290⟩, ⟨bls_⟩⟩
    case round =>
     clear H'
     try clear c1
     try clear c2
     try clear p2
     try clear c3
     try clear c8
     try clear c11
     try clear c11b0
     try clear c11b1
     try clear c12
     try clear c15
     try clear c17
     try clear c19
     try clear hcz13_0
     try clear hcz13_1
     try clear hcz13_2
     try clear hcz13_3
     try clear hcz16_0
     try clear hcz16_1
     try clear hcz16_2
     try clear hcz16_3
     try clear hcz20_0
     try clear hcz20_1
     try clear hcz20_2
     try clear hcz20_3
     try clear hcz9_0
     try clear hcz9_1
     try clear hcz9_2
     try clear hcz9_3
     try clear hcz9_4
     try clear hcz9_5
     try clear hfz13_0
     try clear hfz13_1
     try clear hfz13_2
     try clear hfz13_3
     try clear hfz16_0
     try clear hfz16_1
     try clear hfz16_2
     try clear hfz16_3
     try clear hfz20_0
     try clear hfz20_1
     try clear hfz20_2
     try clear hfz20_3
     try clear hfz9_0
     try clear hfz9_1
     try clear hfz9_2
     try clear hfz9_3
     try clear hfz9_4
     try clear hfz9_5
     try clear p2
     obtain ⟨x10_2, x11_2, rfl, rfl, HA, HK2, HO_9, BK289, BK290, HB⟩ := hrel
     cases gk with
     | zero => exact absurd HA.out (by simp [spileref30_right.l0])
     | succ k2 =>
      have H := HA.out
      clear HA
      simp only [spileref30_right.l0] at H
      by_cases c24 : x11_2 < (t297.length : Int)
      ·rw [if_pos c24] at H
       have c24b0 : decide (x11_2 < (t297.length : Int)) = true := decide_eq_true c24
       clear c24
       by_cases c25 : 0 ≤ x11_2
       ·rw [if_pos c25] at H
        have c25b0 : decide (0 ≤ x11_2) = true := decide_eq_true c25
        clear c25
        by_cases c26 : x11_2 < (l2_0.length : Int)
        ·rw [if_pos c26] at H
         have c26b0 : decide (x11_2 < (l2_0.length : Int)) = true := decide_eq_true c26
         clear c26
         by_cases c27 : (rd l2_0 x11_2) < (rd t297 x11_2)
         ·rw [if_pos c27] at H
          have c27b0 : decide ((rd l2_0 x11_2) < (rd t297 x11_2)) = true := decide_eq_true c27
          clear c27
          obtain rfl := Option.some.inj H
          obtain ⟨Ao28, co28, eo28⟩ := Kd.R_slice HO_9.out
          subst eo28
          have hnb29 := NB290_289.out
          have hnc29 := NB289_290.out
          obtain ⟨hcz30_0, hcz30_1, hcz30_2, hcz30_3⟩ := bc4_ BK290
          obtain ⟨hfz30_0, hfz30_1, hfz30_2, hfz30_3⟩ := bf4_ BK290
          have p300 : 0 ≤ (x11_2 : Int) := of_decide_eq_true as_
          have q300 : x11_2 < (l2_0.length : Int) := of_decide_eq_true as_
          obtain ⟨ad300, e300, hx300_0⟩ := Kd.at_int HR2_0.out x11_2 p300 q300
          cases e300
          replace hx300_0 := (HB.out.cell (World.block_lt_of_cell? w _ hx300_0)).trans hx300_0
          replace p300 := eq_true p300
          replace q300 := eq_true q300
          have p301 : 0 ≤ (x11_2 : Int) := of_decide_eq_true as_
          have q301 : x11_2 < (t297.length : Int) := of_decide_eq_true as_
          obtain ⟨ad301, e301, hx301_0⟩ := Kd.at_int (Kd.R_reads' HO_9.out).2.2 x11_2 p301 q301
          cases e301
          replace p301 := eq_true p301
          replace q301 := eq_true q301
          go_wp2
          repeat (go_quiet (fail); try go_wp2)
          go_ret
          exact ⟨fin_, bls_⟩
         ·rw [if_neg c27] at H
          have c27b0 : decide ((rd l2_0 x11_2) < (rd t297 x11_2)) = false := decide_eq_false c27
          clear c27
          by_cases c31 : x11_2 < (l1_1.length : Int)
          ·rw [if_pos c31] at H
           have c31b0 : decide (x11_2 < (l1_1.length : Int)) = true := decide_eq_true c31
           clear c31
           have H' := Aside0.mk H
           clear H
           obtain ⟨Ao32, co32, eo32⟩ := Kd.R_slice HO_9.out
           subst eo32
           have hnb33 := NB290_289.out
           have hnc33 := NB289_290.out
           obtain ⟨hcz34_0, hcz34_1, hcz34_2, hcz34_3⟩ := bc4_ BK290
           obtain ⟨hfz34_0, hfz34_1, hfz34_2, hfz34_3⟩ := bf4_ BK290
           have p300 : 0 ≤ (x11_2 : Int) := of_decide_eq_true as_
           have q300 : x11_2 < (l2_0.length : Int) := of_decide_eq_true as_
           obtain ⟨ad300, e300, hx300_0⟩ := Kd.at_int HR2_0.out x11_2 p300 q300
           cases e300
           replace hx300_0 := (HB.out.cell (World.block_lt_of_cell? w _ hx300_0)).trans hx300_0
           replace p300 := eq_true p300
           replace q300 := eq_true q300
           have p301 : 0 ≤ (x11_2 : Int) := of_decide_eq_true as_
           have q301 : x11_2 < (t297.length : Int) := of_decide_eq_true as_
           obtain ⟨ad301, e301, hx301_0⟩ := Kd.at_int (Kd.R_reads' HO_9.out).2.2 x11_2 p301 q301
           cases e301
           replace p301 := eq_true p301
           replace q301 := eq_true q301
           have p302 : 0 ≤ (x11_2 : Int) := of_decide_eq_true as_
           have q302 : x11_2 < (l2_0.length : Int) := of_decide_eq_true as_
           obtain ⟨ad302, e302, hx302_0⟩ := Kd.at_int HR2_0.out x11_2 p302 q302
           obtain rfl : ad300 = ad302 := (by injection e302)
           replace hx302_0 := (HB.out.cell (World.block_lt_of_cell? w _ hx302_0)).trans hx302_0
           replace p302 := eq_true p302
           replace q302 := eq_true q302
           obtain ⟨hcz35_0, hcz35_1, hcz35_2, hcz35_3, hcz35_4, hcz35_5⟩ := bc6_ BK289
           obtain ⟨hfz35_0, hfz35_1, hfz35_2, hfz35_3, hfz35_4, hfz35_5⟩ := bf6_ BK289
           have p303 : 0 ≤ (x11_2 : Int) := of_decide_eq_true as_
           have q303 : x11_2 < (l1_1.length : Int) := of_decide_eq_true as_
           obtain ⟨ad303, e303, hx303_0⟩ := Kd.at_int HR1_1.out x11_2 p303 q303
           cases e303
           replace hx303_0 := (HB.out.cell (World.block_lt_of_cell? w _ hx303_0)).trans hx303_0
           replace p303 := eq_true p303
           replace q303 := eq_true q303
           go_wp2
           repeat (go_quiet (fail); try go_wp2)
           go_roundg k2
           case measure => have := HJ4.out; have := HK2.out; omega
           case rel => exact ⟨(wrap64 (x10_2 + (wrap64 ((rd l2_0 x11_2) * (rd l1_1 x11_2))))), (wrap64 (x11_2 + 1)), sm_, sm_, H', ⟨by have := HJ4.out; have := HK2.out; omega⟩, ⟨by (with_reducible repeat (first | apply Kd.R_alloc | apply Kd.R_drewN | apply Kd.R_drew)); exact HO_9.out⟩, ⟨bkt_ BK289⟩, ⟨bkt_ BK290⟩, ⟨bls_⟩⟩
          ·rw [if_neg c31] at H
           exact absurd H (by simp)
        ·rw [if_neg c26] at H
         exact absurd H (by simp)
       ·rw [if_neg c25] at H
        exact absurd H (by simp)
      ·rw [if_neg c24] at H
       have c24b0 : decide (x11_2 < (t297.length : Int)) = false := decide_eq_false c24
       clear c24
       obtain rfl := Option.some.inj H
       obtain ⟨Ao36, co36, eo36⟩ := Kd.R_slice HO_9.out
       subst eo36
       have hnb37 := NB290_289.out
       have hnc37 := NB289_290.out
       obtain ⟨hcz38_0, hcz38_1, hcz38_2, hcz38_3⟩ := bc4_ BK290
       obtain ⟨hfz38_0, hfz38_1, hfz38_2, hfz38_3⟩ := bf4_ BK290
       obtain ⟨hcz39_0, hcz39_1, hcz39_2, hcz39_3, hcz39_4, hcz39_5⟩ := bc6_ BK289
       obtain ⟨hfz39_0, hfz39_1, hfz39_2, hfz39_3, hfz39_4, hfz39_5⟩ := bf6_ BK289
       go_wp2
       repeat (go_quiet (fail); try go_wp2)
       go_ret
       exact ⟨fin_, bls_⟩

/-! ### spileref30_Refuse: function 14 -/
-- MAKING
-- ROUNDS
-- behind 13 30 31 35 36 37
/-- A candidate tried by the reference: the refusal with its units, and whether it is right. -/
def rtryC (k : Nat) (l0 : List S82) (l1_0 : List S45) (l1_1 l1_2 : List Int) (a1_3 a1_4 a1_5 : Int) (lo hi : List Int) (c : S30) : Option (S30 × Bool) :=
  (spileref30_need.f k lo hi [] c.f1 c.f2 c.f3).bind fun u => if u.length ≤ 5000 then (spileref30_right.f k l0 l1_0 l1_1 l1_2 a1_3 a1_4 a1_5 (u.map up0) c.f1 c.f2 c.f3).bind fun b => some (⟨u.map up0, c.f1, c.f2, c.f3⟩, b) else none
theorem rtryC_some {k : Nat} {l0 : List S82} {l1_0 : List S45} {l1_1 l1_2 : List Int} {a1_3 a1_4 a1_5 : Int} {lo hi : List Int} {c : S30} {r : S30 × Bool} (h : rtryC k l0 l1_0 l1_1 l1_2 a1_3 a1_4 a1_5 lo hi c = some r) :
    ∃ u, spileref30_need.f k lo hi [] c.f1 c.f2 c.f3 = some u ∧ u.length ≤ 5000 ∧ r.1 = ⟨u.map up0, c.f1, c.f2, c.f3⟩ ∧ spileref30_right.f k l0 l1_0 l1_1 l1_2 a1_3 a1_4 a1_5 (u.map up0) c.f1 c.f2 c.f3 = some r.2 := by
  unfold rtryC at h
  obtain ⟨u, hu, h⟩ := Option.bind_eq_some_iff.1 h
  by_cases hl : u.length ≤ 5000
  case neg => rw [if_neg hl] at h; cases h
  rw [if_pos hl] at h
  obtain ⟨b, hb, h⟩ := Option.bind_eq_some_iff.1 h
  cases h
  exact ⟨u, hu, hl, rfl, hb⟩
def spileref30_Refuse.f (k : Nat) (l0 : List S82) (l1_0 : List S45) (l1_1 l1_2 : List Int) (a1_3 a1_4 a1_5 : Int) : Option (List Int × Int × Int × Int × Int) :=
  (spileref29_Check.f k l0 l1_0 l1_1 l1_2 a1_3 a1_4 a1_5).bind fun e => if e = 0 then (spileref30_excess.f k l0 l1_0 l1_1 l1_2 a1_3 a1_4 a1_5).bind fun x => (spileref30_candidates.f k x.1 x.2).bind fun cs => if cs.length ≤ 5000 then (cs.mapM (rtryC k l0 l1_0 l1_1 l1_2 a1_3 a1_4 a1_5 x.1 x.2)).bind fun rs => some (refuseR rs) else none else some ([], 0, 0, 0, 1)
theorem rtryC.mono (k : Nat) (l0 : List S82) (l1_0 : List S45) (l1_1 l1_2 : List Int) (a1_3 a1_4 a1_5 : Int) (lo hi : List Int) (c : S30) : LeO (rtryC k l0 l1_0 l1_1 l1_2 a1_3 a1_4 a1_5 lo hi c) (rtryC (k + 1) l0 l1_0 l1_1 l1_2 a1_3 a1_4 a1_5 lo hi c) := by
  unfold rtryC
  refine LeO.bind (spileref30_need.mono _ _ _ _ _ _ _) (fun u => ?_)
  split
  · exact LeO.bind (spileref30_right.mono _ _ _ _ _ _ _ _ _ _ _ _) (fun t => LeO.refl _)
  · exact LeO.refl _
theorem spileref30_Refuse.mono : ∀ a0 a1 a2 a3 a4 a5 a6 k, LeO (spileref30_Refuse.f k a0 a1 a2 a3 a4 a5 a6) (spileref30_Refuse.f (k + 1) a0 a1 a2 a3 a4 a5 a6) := by
  intro a0 a1 a2 a3 a4 a5 a6 k
  unfold spileref30_Refuse.f
  refine LeO.bind (spileref29_Check.mono _ _ _ _ _ _ _ _) (fun e => ?_)
  split
  · refine LeO.bind (spileref30_excess.mono _ _ _ _ _ _ _ _) (fun x => LeO.bind (spileref30_candidates.mono _ _ _) (fun cs => ?_))
    split
    · exact LeO.bind (mapM_leO (fun x => rtryC.mono k _ _ _ _ _ _ _ _ _ x) _) (fun rs => LeO.refl _)
    · exact LeO.refl _
  · exact LeO.refl _
theorem S_R {α : Type} {d : Kd α} {e base : Nat} {w : World} {ok : Nat → Prop} {v : Value} {xs : List α} (h : Kd.S d e w base ok v xs) : d.R e w base ok v xs := by
  obtain ⟨f, h0, inner, ho, hr⟩ := h
  refine ⟨h0, inner, by rw [List.length_zipIdx] at ho; exact ho, by have := hr.1; rwa [List.length_zipIdx] at this, fun j x hj => ?_⟩
  have := hr.2 j (x, j) (by rw [List.getElem?_zipIdx, hj]; simp)
  exact d.M_mono (fun _ hk => hk.1) this
theorem box4 {X : World} {b : Nat} {q0 q1 q2 q3 : Value} (p0 p1 p2 p3 : Value) (h1 : X.heap[b]? = some (.cells #[q0, q1, q2, q3] 30 (0, 0))) :
    ((((X.setCell ⟨b, 0, none⟩ p0).setCell ⟨b, 1, none⟩ p1).setCell ⟨b, 2, none⟩ p2).setCell ⟨b, 3, none⟩ p3).heap[b]? = some (.cells #[p0, p1, p2, p3] 30 (0, 0)) ∧
    (∀ {base : Nat} {ok : Nat → Prop} {v : Value} {xs : List Int}, Kd.R (Kd.int .i64) 3 X base ok v xs → Kd.R (Kd.int .i64) 3 ((((X.setCell ⟨b, 0, none⟩ p0).setCell ⟨b, 1, none⟩ p1).setCell ⟨b, 2, none⟩ p2).setCell ⟨b, 3, none⟩ p3) base ok v xs) ∧
    (∀ {w : World}, Below w.heap.size w X → w.heap.size ≤ b → Below w.heap.size w ((((X.setCell ⟨b, 0, none⟩ p0).setCell ⟨b, 1, none⟩ p1).setCell ⟨b, 2, none⟩ p2).setCell ⟨b, 3, none⟩ p3)) := by
  have g1 := blk_put h1 0 p0 rfl
  have g2 := blk_put g1 1 p1 rfl
  have g3 := blk_put g2 2 p2 rfl
  have g4 := blk_put g3 3 p3 rfl
  refine ⟨g4, fun h => ?_, fun h hb => below_set (below_set (below_set (below_set h hb) hb) hb) hb⟩
  exact unit_R_other (unit_R_other (unit_R_other (unit_R_other h h1 (by decide) 0 _) g1 (by decide) 1 _) g2 (by decide) 2 _) g3 (by decide) 3 _
/-- unit_push, the row grown from a world that has drawn. -/
theorem unit_push2 {wq w1 wr w' : World} {rb : Nat} {A : Option Addr} {ca : Nat} {L u : List Int} {f1 f2 f3 y : Int} {vu v' : Value}
    (h1 : wr.heap[rb]? = some (.cells #[.slice A L.length ca, .int .i64 f1, .int .i64 f2, .int .i64 f3] 30 (0, 0))) (h2 : Kd.R (Kd.int .i64) 3 wr w1.heap.size (fun _ => True) (.slice A L.length ca) L)
    (h3 : Kd.R (Kd.int .i64) 3 wr (rb + 1) (fun q => q < w1.heap.size) vu u) (h4 : Below wq.heap.size wq wr) (h5 : w1.heap.size ≤ wr.heap.size) (hq : wq.heap.size ≤ rb) (hr : rb < w1.heap.size)
    (hown : w'.ownsRow w1.heap.size 3 1 v' (L.length + 1) (encs (Value.int .i64) L ++ [.int .i64 y])) (hg : wr.drew.grownBy w' (Value.slice A L.length ca).ownBlock) :
    ∃ A' c' nn, v' = .slice A' nn c' ∧ nn = (L ++ [y]).length ∧ w'.heap[rb]? = some (.cells #[.slice A L.length ca, .int .i64 f1, .int .i64 f2, .int .i64 f3] 30 (0, 0)) ∧
      (w'.setCell ⟨rb, 0, none⟩ (.slice A' nn c')).heap[rb]? = some (.cells #[.slice A' nn c', .int .i64 f1, .int .i64 f2, .int .i64 f3] 30 (0, 0)) ∧ Kd.R (Kd.int .i64) 3 (w'.setCell ⟨rb, 0, none⟩ (.slice A' nn c')) w1.heap.size (fun _ => True) (.slice A' nn c') (L ++ [y]) ∧
      Kd.R (Kd.int .i64) 3 (w'.setCell ⟨rb, 0, none⟩ (.slice A' nn c')) (rb + 1) (fun q => q < w1.heap.size) vu u ∧ (Below wq.heap.size wq (w'.setCell ⟨rb, 0, none⟩ (.slice A' nn c')) ∧ w1.heap.size ≤ (w'.setCell ⟨rb, 0, none⟩ (.slice A' nn c')).heap.size) := by
  have hgW := hg
  have hRn := unit_row hown
  obtain ⟨A', c', hv'⟩ := Kd.R_slice hRn
  obtain ⟨nn, hnn⟩ : ∃ nn, nn = (L ++ [y]).length := ⟨_, rfl⟩
  rw [← hnn] at hv'
  subst hv'
  have h1 : wr.drew.heap[rb]? = _ := h1
  have h2 := Kd.R_drew h2
  have h3 := Kd.R_drew h3
  have h4 := below_drew h4
  have h5 : w1.heap.size ≤ wr.drew.heap.size := h5
  generalize wr.drew = wr at h1 h2 h3 h4 h5 hgW
  have hO : w'.heap[rb]? = some (.cells #[.slice A L.length ca, .int .i64 f1, .int .i64 f2, .int .i64 f3] 30 (0, 0)) :=
    (hgW.block rb (by omega) (fun e => by have := Kd.R_base h2 rb e.symm; omega)).trans h1
  have h3' : Kd.R (Kd.int .i64) 3 w' (rb + 1) (fun q => q < w1.heap.size) vu u :=
    Kd.R_mono (Kd.R_step (Kd.R_bound h3) (fun k hk hlt => hgW.block k hlt (fun e2 => by have := Kd.R_base h2 k e2.symm; have := hk.1; omega))) (fun _ hk => hk.1)
  refine ⟨A', c', nn, rfl, hnn, hO, blk_put hO 0 _ rfl, unit_R_other hRn hO (by decide) 0 _, unit_R_other h3' hO (by decide) 0 _, below_set (h4.grown hgW h4.size (fun k hk => by have := Kd.R_base h2 k hk; omega)) hq, ?_⟩
  rw [World.size_setCell]
  have := hgW.size
  omega
set_option maxHeartbeats 8000000 in
set_option maxRecDepth 100000 in
theorem spileref30_Refuse.calls (k : Nat) (A0 : Option Addr) (c0 : Nat) (l0 : List S82) (A1_0 : Option Addr) (c1_0 : Nat) (l1_0 : List S45) (A1_1 : Option Addr) (c1_1 : Nat) (l1_1 : List Int) (A1_2 : Option Addr) (c1_2 : Nat) (l1_2 : List Int) (a1_3 a1_4 a1_5 : Int) (r1_0 : List Int) (r1_1 r1_2 r1_3 r2 : Int) (w : World)
    (hr0 : Kd.C k82 w A0 l0.length l0) (hc0 : l0.length ≤ c0) (hr1_0 : Kd.C k45 w A1_0 l1_0.length l1_0) (hc1_0 : l1_0.length ≤ c1_0) (hr1_1 : Kd.C (Kd.int .i64) w A1_1 l1_1.length l1_1) (hc1_1 : l1_1.length ≤ c1_1) (hr1_2 : Kd.C (Kd.int .i64) w A1_2 l1_2.length l1_2) (hc1_2 : l1_2.length ≤ c1_2)
    (h : spileref30_Refuse.f k l0 l1_0 l1_1 l1_2 a1_3 a1_4 a1_5 = some (r1_0, r1_1, r1_2, r1_3, r2)) :
    Calls Tryd.prog 14 #[.slice A0 l0.length c0, .agg #[.slice A1_0 l1_0.length c1_0, .slice A1_1 l1_1.length c1_1, .slice A1_2 l1_2.length c1_2, .int .i64 a1_3, .int .i64 a1_4, .int .i64 a1_5]] w fun e w' => ∃ v0_ : Value, e = .returned (.tuple #[.agg #[v0_, .int .i64 r1_1, .int .i64 r1_2, .int .i64 r1_3], .int .i64 r2]) ∧ Kd.R (Kd.int .i64) 3 w' w.heap.size (fun _ => True) v0_ r1_0 ∧ Below w.heap.size w w' := by
  have hu := Tryd.underlying30
  have hu2 := Tryd.underlying26
  unfold spileref30_Refuse.f at h
  obtain ⟨er, hE, h⟩ := Option.bind_eq_some_iff.1 h
  have HCK := Aside0.mk (fun (W : World) (hb : Below w.heap.size w W) => spileref29_Check.calls k A0 c0 l0 A1_0 c1_0 l1_0 A1_1 c1_1 l1_1 A1_2 c1_2 l1_2 a1_3 a1_4 a1_5 er W (Kd.C_below hr0 hb) hc0 (Kd.C_below hr1_0 hb) hc1_0 (Kd.C_below hr1_1 hb) hc1_1 (Kd.C_below hr1_2 hb) hc1_2 hE)
  have HEXC := Aside0.mk (fun (lo hi : List Int) (hx : spileref30_excess.f k l0 l1_0 l1_1 l1_2 a1_3 a1_4 a1_5 = some (lo, hi)) (W : World) (hb : Below w.heap.size w W) => spileref30_excess.calls k A0 c0 l0 A1_0 c1_0 l1_0 A1_1 c1_1 l1_1 A1_2 c1_2 l1_2 a1_3 a1_4 a1_5 lo hi W (Kd.C_below hr0 hb) hc0 (Kd.C_below hr1_0 hb) hc1_0 (Kd.C_below hr1_1 hb) hc1_1 (Kd.C_below hr1_2 hb) hc1_2 hx)
  have HRGT := Aside0.mk (fun (A : Option Addr) (c : Nat) (u : List Int) (f1 f2 f3 : Int) (b : Bool) (hx : spileref30_right.f k l0 l1_0 l1_1 l1_2 a1_3 a1_4 a1_5 u f1 f2 f3 = some b) (W : World) (hb : Below w.heap.size w W) (hu : Kd.C (Kd.int .i64) W A u.length u) (hcu : u.length ≤ c) => spileref30_right.calls k A0 c0 l0 A1_0 c1_0 l1_0 A1_1 c1_1 l1_1 A1_2 c1_2 l1_2 a1_3 a1_4 a1_5 A c u f1 f2 f3 b W (Kd.C_below hr0 hb) hc0 (Kd.C_below hr1_0 hb) hc1_0 (Kd.C_below hr1_1 hb) hc1_1 (Kd.C_below hr1_2 hb) hc1_2 hu hcu hx)
  clear hr0 hc0 hr1_0 hr1_1 hr1_2 hc1_0 hc1_1 hc1_2 hE
  have HH := Aside0.mk h
  clear h
  go_enter Tryd.func14, Tryd.ntmps14
  go_wp2_with fail
  obtain ⟨W3, hW3⟩ : ∃ W3, W3 = (w.alloc (.cells #[.slice A1_0 l1_0.length c1_0, .slice A1_1 l1_1.length c1_1, .slice A1_2 l1_2.length c1_2, .int .i64 a1_3, .int .i64 a1_4, .int .i64 a1_5] 26)).alloc (.cells #[.slice none 0 0, .int .i64 0, .int .i64 0, .int .i64 0] 30) := ⟨_, rfl⟩
  have HB3 := Aside0.mk (show Below w.heap.size w W3 by rw [hW3]; exact below_alloc (below_alloc (Below.refl _ _) _) _)
  have bO : W3.heap[w.heap.size]? = some (.cells #[.slice A1_0 l1_0.length c1_0, .slice A1_1 l1_1.length c1_1, .slice A1_2 l1_2.length c1_2, .int .i64 a1_3, .int .i64 a1_4, .int .i64 a1_5] 26 (0, 0)) := by rw [hW3]; exact blk_alloc (blk_new w _) _
  have bR : W3.heap[w.heap.size + 1]? = some (.cells #[.slice none 0 0, .int .i64 0, .int .i64 0, .int .i64 0] 30 (0, 0)) := by
    have h1 := blk_new (w.alloc (.cells #[.slice A1_0 l1_0.length c1_0, .slice A1_1 l1_1.length c1_1, .slice A1_2 l1_2.length c1_2, .int .i64 a1_3, .int .i64 a1_4, .int .i64 a1_5] 26)) (.cells #[.slice none 0 0, .int .i64 0, .int .i64 0, .int .i64 0] 30)
    rw [World.size_alloc] at h1
    rw [hW3]; exact h1
  rw [← hW3]
  clear hW3
  refine (HCK.out _ HB3.out).mono ?_
  rintro e w1 ⟨rfl, hb⟩
  have BO := Aside0.mk (blk_below bO hb)
  have BR := Aside0.mk (blk_below bR hb)
  have HB := Aside0.mk (below_step HB3.out hb)
  clear hb HB3 bO bR HCK
  have HBO := Aside0.mk (Nat.le_succ w.heap.size)
  by_cases he : er = 0
  case neg =>
    have b1 : (er != 0) = true := bne_iff_ne.mpr he
    have hh := HH.out
    rw [if_neg he] at hh
    cases hh
    clear he
    have z0 : w1.cell? ⟨w.heap.size + 1, 0, none⟩ = some (.slice none 0 0) := blk_cell BR.out 0
    have z1 : w1.cell? ⟨w.heap.size + 1, 1, none⟩ = some (.int .i64 0) := blk_cell BR.out 1
    have z2 : w1.cell? ⟨w.heap.size + 1, 2, none⟩ = some (.int .i64 0) := blk_cell BR.out 2
    have z3 : w1.cell? ⟨w.heap.size + 1, 3, none⟩ = some (.int .i64 0) := blk_cell BR.out 3
    have f0 : w1.frozen? ⟨w.heap.size + 1, 0, none⟩ = false := blk_frozen BR.out 0
    have f1 : w1.frozen? ⟨w.heap.size + 1, 1, none⟩ = false := blk_frozen BR.out 1
    have f2 : w1.frozen? ⟨w.heap.size + 1, 2, none⟩ = false := blk_frozen BR.out 2
    have f3 : w1.frozen? ⟨w.heap.size + 1, 3, none⟩ = false := blk_frozen BR.out 3
    go_wp2
    have HP := box4 (.slice none 0 0) (.int .i64 0) (.int .i64 0) (.int .i64 0) BR.out
    refine bodyPost_ret (results_ct rfl _ _ (w.heap.size + 1) 30 #[.slice none 0 0, .int .i64 0, .int .i64 0, .int .i64 0] (0, 0) _ rfl HP.1 hu rfl (by kernel_rfl)) rfl ?_
    exact ⟨_, rfl, Kd.R_nil _ _ _ _ _, HP.2.2 HB.out HBO.out⟩
  subst he
  have b1 : ((0 : Int) != 0) = false := rfl
  have hh := HH.out
  rw [if_pos rfl] at hh
  obtain ⟨⟨lo, hi⟩, hx, hh⟩ := Option.bind_eq_some_iff.1 hh
  simp only at hh
  obtain ⟨cs, hcs, hh⟩ := Option.bind_eq_some_iff.1 hh
  by_cases hbd : cs.length ≤ 5000
  case neg => rw [if_neg hbd] at hh; cases hh
  rw [if_pos hbd] at hh
  obtain ⟨rs, hrs, hh⟩ := Option.bind_eq_some_iff.1 hh
  have HRES := Aside0.mk (Option.some.inj hh)
  have HBD := Aside0.mk hbd
  have HRS := Aside0.mk (mapM_at hrs)
  have HX := Aside0.mk (HEXC.out lo hi hx)
  have HCS := Aside0.mk hcs
  clear hh hbd hrs HH HEXC hx hcs
  have d0 : w1.cell? ⟨w.heap.size, 0, none⟩ = some (.slice A1_0 l1_0.length c1_0) := blk_cell BO.out 0
  have d1 : w1.cell? ⟨w.heap.size, 1, none⟩ = some (.slice A1_1 l1_1.length c1_1) := blk_cell BO.out 1
  have d2 : w1.cell? ⟨w.heap.size, 2, none⟩ = some (.slice A1_2 l1_2.length c1_2) := blk_cell BO.out 2
  have d3 : w1.cell? ⟨w.heap.size, 3, none⟩ = some (.int .i64 a1_3) := blk_cell BO.out 3
  have d4 : w1.cell? ⟨w.heap.size, 4, none⟩ = some (.int .i64 a1_4) := blk_cell BO.out 4
  have d5 : w1.cell? ⟨w.heap.size, 5, none⟩ = some (.int .i64 a1_5) := blk_cell BO.out 5
  go_wp2_with fail
  refine (HX.out _ HB.out).mono ?_
  rintro e w2 ⟨v0, v1, rfl, hRl, hRh, hb⟩
  obtain ⟨Al, cl, rfl⟩ := Kd.R_slice hRl
  obtain ⟨Ah, ch, rfl⟩ := Kd.R_slice hRh
  have HLH := Aside0.mk (⟨Kd.R_reads' hRl, Kd.R_reads' hRh⟩ : _ ∧ _)
  replace BO := Aside0.mk (blk_below BO.out hb)
  replace BR := Aside0.mk (blk_below BR.out hb)
  replace HB := Aside0.mk (below_step HB.out hb)
  clear hb hRl hRh HX d0 d1 d2 d3 d4 d5
  go_wp2_with fail
  refine (spileref30_candidates.calls k Al cl lo Ah ch hi cs _ HLH.out.1.2.2 HLH.out.1.2.1 HLH.out.2.2.2 HLH.out.2.2.1 HCS.out).mono ?_
  rintro e w3 ⟨vk, rfl, hS, hb⟩
  have hK := S_R hS
  obtain ⟨Ak, ck, rfl⟩ := Kd.R_slice hK
  have HKC := Aside0.mk (Kd.R_reads' hK)
  have HLC := Aside0.mk (⟨⟨HLH.out.1.2.1, Kd.C_below HLH.out.1.2.2 hb⟩, HLH.out.2.2.1, Kd.C_below HLH.out.2.2.2 hb⟩ : (_ ∧ _) ∧ (_ ∧ _))
  replace BO := Aside0.mk (blk_below BO.out hb)
  replace BR := Aside0.mk (blk_below BR.out hb)
  replace HB := Aside0.mk (below_step HB.out hb)
  clear hb hS hK HLH HCS
  have HTRY := Aside0.mk (fun (j : Nat) (hj : j < cs.length) => rtryC_some (HRS.out.2 j zQ zR hj))
  have HLEN := Aside0.mk HRS.out.1
  clear HRS
  have HSZ := Aside0.mk (show w.heap.size + 1 < w3.heap.size from blk_lt BR.out)
  go_wp2_with fail
  go_loopg [9] (cs.length + 1) (fun g s9 wr => ∃ (x : Int), s9 = .int .i64 x ∧ Aside0 (∃ j : Nat, x = (j : Int) ∧ j ≤ cs.length ∧ cs.length + 1 - j ≤ g ∧ ∀ i, i < j → (rs.getD i zR).2 = false) ∧ Aside0 (Below w3.heap.size w3 wr))
  case atStart => exact ⟨0, rfl, ⟨0, rfl, Nat.zero_le _, by omega, fun i hi_ => absurd hi_ (Nat.not_lt_zero _)⟩, ⟨Below.refl _ _⟩⟩
  case round =>
    obtain ⟨x, rfl, HJ0, HB3⟩ := hrel
    obtain ⟨wq, hwq⟩ : ∃ x, x = wr := ⟨_, rfl⟩
    subst hwq
    obtain ⟨j, hxj, hjl, hjg, hno⟩ := HJ0.out
    have HJ := Aside0.mk (⟨hxj, hjl, hjg⟩ : _ ∧ _ ∧ _)
    have HNO := Aside0.mk hno
    clear HJ0 hno hjg
    by_cases hlt : j < cs.length
    case neg =>
      have hltc : decide (x < (cs.length : Int)) = false := decide_eq_false (by omega)
      have HL := Aside0.mk hlt
      have BQ := Aside0.mk (blk_below BR.out HB3.out)
      have z0 : wq.cell? ⟨w.heap.size + 1, 0, none⟩ = some (Value.slice none 0 0) := blk_cell BQ.out 0
      have z1 : wq.cell? ⟨w.heap.size + 1, 1, none⟩ = some (Value.int .i64 0) := blk_cell BQ.out 1
      have z2 : wq.cell? ⟨w.heap.size + 1, 2, none⟩ = some (Value.int .i64 0) := blk_cell BQ.out 2
      have z3 : wq.cell? ⟨w.heap.size + 1, 3, none⟩ = some (Value.int .i64 0) := blk_cell BQ.out 3
      have f0 : wq.frozen? ⟨w.heap.size + 1, 0, none⟩ = false := blk_frozen BQ.out 0
      have f1 : wq.frozen? ⟨w.heap.size + 1, 1, none⟩ = false := blk_frozen BQ.out 1
      have f2 : wq.frozen? ⟨w.heap.size + 1, 2, none⟩ = false := blk_frozen BQ.out 2
      have f3 : wq.frozen? ⟨w.heap.size + 1, 3, none⟩ = false := blk_frozen BQ.out 3
      clear hlt hxj hjl
      go_wp2
      have HP := box4 (.slice none 0 0) (.int .i64 0) (.int .i64 0) (.int .i64 0) BQ.out
      have hres := HRES.out
      rw [refuseR_none (fun i hi_ => HNO.out i (by have := HL.out; have := HJ.out.2.1; rw [HLEN.out] at hi_; omega))] at hres
      cases hres
      refine bodyPost_ret (results_ct rfl _ _ (w.heap.size + 1) 30 #[.slice none 0 0, .int .i64 0, .int .i64 0, .int .i64 0] (0, 0) _ rfl HP.1 hu rfl (by kernel_rfl)) rfl ?_
      exact ⟨_, rfl, Kd.R_nil _ _ _ _ _, HP.2.2 (below_step HB.out HB3.out) HBO.out⟩
    have hltc : decide (x < (cs.length : Int)) = true := decide_eq_true (by omega)
    have p1 : (0 ≤ x) = True := eq_true (by omega)
    have p2 : (x < (cs.length : Int)) = True := eq_true (by omega)
    obtain ⟨ad, e, t0, t1, t2, t3⟩ := at_Q (Kd.C_below HKC.out.2.2 HB3.out) x (by omega) (by omega)
    cases e
    obtain ⟨u, hn, hul, hr1, hr2⟩ := HTRY.out j hlt
    obtain ⟨c, hc⟩ : ∃ c, cs.getD j zQ = c := ⟨_, rfl⟩
    have hg : cs.getD x.toNat zQ = c := by rw [show x.toNat = j by omega]; exact hc
    rw [hg] at t1 t2 t3
    rw [hc] at hn hr1 hr2
    have HND := Aside0.mk (fun (W : World) (hb : Below w3.heap.size w3 W) => spileref30_need.calls k Al cl lo Ah ch hi none 0 [] c.f1 c.f2 c.f3 u W (Kd.C_below HLC.out.1.2 hb) HLC.out.1.1 (Kd.C_below HLC.out.2.2 hb) HLC.out.2.1 (Kd.C_nil _ _) (Nat.le_refl _) hn)
    have HR := Aside0.mk (⟨hr1, hr2⟩ : _ ∧ _)
    have HUL := Aside0.mk hul
    have HLT := Aside0.mk hlt
    have hw' : wrap64 (x + 1) = x + 1 := w64_ (by omega) (by have := HBD.out; omega)
    have HW := Aside0.mk (⟨by rw [i64_w]; exact hw', hw'⟩ : IntKind.i64.wrap (x + 1) = x + 1 ∧ wrap64 (x + 1) = x + 1)
    clear hlt hw' hc hg hn hr1 hr2 hul hxj hjl
    go_wp2_with fail
    refine (HND.out _ (below_alloc HB3.out _)).mono ?_
    rintro e w4 ⟨v, rfl, hR, hb1⟩
    obtain ⟨Av, cv, rfl⟩ := Kd.R_slice hR
    obtain ⟨rb, hrb⟩ : ∃ rb, rb = wq.heap.size := ⟨_, rfl⟩
    have RB : w4.heap[rb]? = some (.cells #[.slice none 0 0, .int .i64 c.f1, .int .i64 c.f2, .int .i64 c.f3] 30 (0, 0)) := by rw [hrb]; exact blk_below (blk_new wq _) hb1
    rw [← hrb]
    have hbw : Below wq.heap.size wq w4 := below_step (below_alloc (Below.refl _ _) _) hb1
    have hR1 : Kd.R (Kd.int .i64) 3 w4 (rb + 1) (fun q => q < w4.heap.size) (.slice Av u.length cv) u := by
      have h0 := Kd.R_mono (Kd.R_bound hR) (ok' := fun q => q < w4.heap.size) (fun q hq => hq.2.2.1)
      rw [World.size_alloc, ← hrb] at h0
      exact h0
    have HRB := Aside0.mk (show wq.heap.size ≤ rb ∧ rb < w4.heap.size from ⟨by omega, blk_lt RB⟩)
    have HJ0 := Aside0.mk (⟨RB, hR1, hbw⟩ : _ ∧ _ ∧ _)
    clear hR hb1 RB hR1 hbw t0 t1 t2 t3 hrb HND
    go_wp2_with fail
    go_loopg [12] (u.length + 1) (fun g s12 wz => ∃ (y : Int), s12 = .int .i64 y ∧ Aside0 (∃ i : Nat, y = (i : Int) ∧ i ≤ u.length ∧ u.length + 1 - i ≤ g ∧ ∃ A ca, wz.heap[rb]? = some (.cells #[.slice A ((u.take i).map up0).length ca, .int .i64 c.f1, .int .i64 c.f2, .int .i64 c.f3] 30 (0, 0)) ∧ Kd.R (Kd.int .i64) 3 wz w4.heap.size (fun _ => True) (.slice A ((u.take i).map up0).length ca) ((u.take i).map up0)) ∧ Aside0 (Kd.R (Kd.int .i64) 3 wz (rb + 1) (fun q => q < w4.heap.size) (.slice Av u.length cv) u ∧ Below wq.heap.size wq wz ∧ w4.heap.size ≤ wz.heap.size))
    case atStart => exact ⟨0, rfl, ⟨0, rfl, Nat.zero_le _, by omega, none, 0, HJ0.out.1, Kd.R_nil _ _ _ _ _⟩, ⟨HJ0.out.2.1, HJ0.out.2.2, Nat.le_refl _⟩⟩
    case round =>
      clear HJ0
      obtain ⟨y, rfl, HI0, HZ⟩ := hrel
      obtain ⟨i, hyi, hil, hig, A, ca, hA1, hA2⟩ := HI0.out
      have HI := Aside0.mk (⟨hyi, hil, hig⟩ : _ ∧ _ ∧ _)
      clear HI0 hig
      by_cases hli : i < u.length
      case neg =>
        have ht : u.take i = u := List.take_of_length_le (by omega)
        rw [ht] at hA1 hA2
        have d1 : decide (y < (u.length : Int)) = false := decide_eq_false (by omega)
        have HBW := Aside0.mk (below_step HB3.out HZ.out.2.1)
        have BOw := Aside0.mk (blk_below BO.out HBW.out)
        have BRw := Aside0.mk (blk_below BR.out HBW.out)
        have s0 : wr.cell? ⟨rb, 0, none⟩ = some (.slice A (u.map up0).length ca) := blk_cell hA1 0
        have s1 : wr.cell? ⟨rb, 1, none⟩ = some (.int .i64 c.f1) := blk_cell hA1 1
        have s2 : wr.cell? ⟨rb, 2, none⟩ = some (.int .i64 c.f2) := blk_cell hA1 2
        have s3 : wr.cell? ⟨rb, 3, none⟩ = some (.int .i64 c.f3) := blk_cell hA1 3
        have d2_0 : wr.cell? ⟨w.heap.size, 0, none⟩ = some (.slice A1_0 l1_0.length c1_0) := blk_cell BOw.out 0
        have d2_1 : wr.cell? ⟨w.heap.size, 1, none⟩ = some (.slice A1_1 l1_1.length c1_1) := blk_cell BOw.out 1
        have d2_2 : wr.cell? ⟨w.heap.size, 2, none⟩ = some (.slice A1_2 l1_2.length c1_2) := blk_cell BOw.out 2
        have d2_3 : wr.cell? ⟨w.heap.size, 3, none⟩ = some (.int .i64 a1_3) := blk_cell BOw.out 3
        have d2_4 : wr.cell? ⟨w.heap.size, 4, none⟩ = some (.int .i64 a1_4) := blk_cell BOw.out 4
        have d2_5 : wr.cell? ⟨w.heap.size, 5, none⟩ = some (.int .i64 a1_5) := blk_cell BOw.out 5
        clear ht hli hyi hil
        obtain ⟨b, hb⟩ : ∃ b, b = (rs.getD j zR).2 := ⟨_, rfl⟩
        have hr2 := HR.out.2
        rw [← hb] at hr2
        have HRI := Aside0.mk (HRGT.out A ca (u.map up0) c.f1 c.f2 c.f3 b hr2 wr (below_step HB.out HBW.out) (Kd.R_reads' hA2).2.2 (Kd.R_reads' hA2).2.1)
        have HB2 := Aside0.mk hb
        have HA1 := Aside0.mk hA1
        have HA2 := Aside0.mk hA2
        clear hr2 hb hA1 hA2
        have HRI := Aside0.mk (by have h := HRI.out; rw [List.length_map] at h; exact h)
        go_wp2_with fail
        refine HRI.out.mono ?_
        rintro e w5 ⟨rfl, hb5⟩
        clear s0 s1 s2 s3 d2_0 d2_1 d2_2 d2_3 d2_4 d2_5 HRI
        have HB5 := Aside0.mk (below_step HBW.out hb5)
        have hA1' := blk_below HA1.out hb5
        have hA2' := Kd.R_below HA2.out hb5
        have BR5 := Aside0.mk (blk_below BRw.out hb5)
        rw [List.length_map] at hA1' hA2'
        have s0 : w5.cell? ⟨rb, 0, none⟩ = some (.slice A u.length ca) := blk_cell hA1' 0
        have s1 : w5.cell? ⟨rb, 1, none⟩ = some (.int .i64 c.f1) := blk_cell hA1' 1
        have s2 : w5.cell? ⟨rb, 2, none⟩ = some (.int .i64 c.f2) := blk_cell hA1' 2
        have s3 : w5.cell? ⟨rb, 3, none⟩ = some (.int .i64 c.f3) := blk_cell hA1' 3
        have z0 : w5.cell? ⟨w.heap.size + 1, 0, none⟩ = some (Value.slice none 0 0) := blk_cell BR5.out 0
        have z1 : w5.cell? ⟨w.heap.size + 1, 1, none⟩ = some (Value.int .i64 0) := blk_cell BR5.out 1
        have z2 : w5.cell? ⟨w.heap.size + 1, 2, none⟩ = some (Value.int .i64 0) := blk_cell BR5.out 2
        have z3 : w5.cell? ⟨w.heap.size + 1, 3, none⟩ = some (Value.int .i64 0) := blk_cell BR5.out 3
        have f0 : w5.frozen? ⟨w.heap.size + 1, 0, none⟩ = false := blk_frozen BR5.out 0
        have f1 : w5.frozen? ⟨w.heap.size + 1, 1, none⟩ = false := blk_frozen BR5.out 1
        have f2 : w5.frozen? ⟨w.heap.size + 1, 2, none⟩ = false := blk_frozen BR5.out 2
        have f3 : w5.frozen? ⟨w.heap.size + 1, 3, none⟩ = false := blk_frozen BR5.out 3
        have HA5 := Aside0.mk hA2'
        clear hb5 hA1' hA2'
        cases b
        case false =>
          go_wp2
          go_roundg (cs.length + 1 - (j + 1))
          case measure => have := HJ.out; have := HLT.out; omega
          case rel =>
            refine ⟨x + 1, by first | rfl | (rw [HW.out.2]), ⟨j + 1, by rw [HJ.out.1]; rfl, HLT.out, Nat.le_refl _, fun i hi_ => ?_⟩, HB5⟩
            rcases Nat.lt_or_ge i j with hh | hh
            · exact HNO.out i hh
            · obtain rfl : i = j := by omega
              exact HB2.out.symm
        case true =>
          go_wp2
          have HP := box4 (.slice A u.length ca) (.int .i64 c.f1) (.int .i64 c.f2) (.int .i64 c.f3) BR5.out
          have hres := HRES.out
          rw [refuseR_some (by rw [HLEN.out]; exact HLT.out) HNO.out HB2.out.symm, HR.out.1] at hres
          cases hres
          refine bodyPost_ret (results_ct rfl _ _ (w.heap.size + 1) 30 #[.slice A u.length ca, .int .i64 c.f1, .int .i64 c.f2, .int .i64 c.f3] (0, 0) _ rfl HP.1 hu rfl (by kernel_rfl)) rfl ?_
          exact ⟨_, rfl, HP.2.1 (Kd.R_lower HA5.out (by have := HB.out.size; have := HB3.out.size; have := HRB.out; omega)), HP.2.2 (below_step HB.out HB5.out) HBO.out⟩
      have d1 : decide (y < (u.length : Int)) = true := decide_eq_true (by omega)
      have p5 : (0 ≤ y) = True := eq_true (by omega)
      have p6 : (y < (u.length : Int)) = True := eq_true (by omega)
      obtain ⟨ad2, e2, x0⟩ := Kd.at_int (Kd.R_reads' HZ.out.1).2.2 y (by omega) (by omega)
      cases e2
      have hrd : rd u y = rd u (i : Int) := by rw [hyi]
      have hts : u.take (i + 1) = u.take i ++ [rd u (i : Int)] := by
        rw [List.take_succ_eq_append_getElem hli]
        unfold rd
        rw [Int.toNat_natCast, List.getD_eq_getElem?_getD, List.getElem?_eq_getElem hli]
        rfl
      rw [hrd] at x0
      generalize rd u (i : Int) = z at x0 hts
      obtain ⟨L, hL⟩ : ∃ L, L = (u.take i).map up0 := ⟨_, rfl⟩
      rw [← hL] at hA1 hA2
      have hLn : L.length ≤ 5000 := by rw [hL, List.length_map, List.length_take]; have := HUL.out; omega
      have HL2 := Aside0.mk (show (u.take (i + 1)).map up0 = L ++ [up0 z] by rw [hts, List.map_append, hL]; rfl)
      obtain ⟨i0, hi0, hz0, hz1, hz2⟩ : ∃ i0, Tryd.prog.info? 3 = some i0 ∧ i0.zero = some (.int .i64 0) ∧ i0.size = 1 ∧ i0.bytes = 8 := by
        have hinfo : (Tryd.prog.info? 3).map (fun i => (i.zero, i.size, i.bytes)) = some (some (.int .i64 0), 1, 8) := by kernel_rfl
        cases hq : Tryd.prog.info? 3 with
        | none => rw [hq] at hinfo; simp at hinfo
        | some i0 => rw [hq] at hinfo; simp at hinfo; exact ⟨i0, rfl, hinfo.1, hinfo.2.1, hinfo.2.2⟩
      have HZI := Aside0.mk (⟨hi0, hz0, hz1, hz2⟩ : _ ∧ _ ∧ _ ∧ _)
      have HA1 := Aside0.mk hA1
      have HA2 := Aside0.mk hA2
      have HLN2 := Aside0.mk hLn
      have HLI := Aside0.mk hli
      have s0 : wr.cell? ⟨rb, 0, none⟩ = some (.slice A L.length ca) := blk_cell hA1 0
      clear hL hts hi0 hz0 hz1 hz2 hA1 hA2 hLn hli hrd
      have hwy : wrap64 (y + 1) = y + 1 := w64_ (by omega) (by have := HUL.out; omega)
      have HWI := Aside0.mk (⟨by rw [i64_w]; exact hwy, hwy⟩ : IntKind.i64.wrap (y + 1) = y + 1 ∧ wrap64 (y + 1) = y + 1)
      clear hwy hyi hil
      by_cases hx0 : z < 0
      case pos =>
        have HUP := Aside0.mk (show up0 z = 0 by unfold up0; exact if_pos hx0)
        have p8 : (z < 0) = True := eq_true hx0
        have p9 : (0 ≤ z) = False := eq_false (by omega)
        have HE4 : Aside0 ((u.take (y.toNat + 1)).map up0 = L ++ [0]) := ⟨by rw [show y.toNat = i by have := HI.out.1; omega, HL2.out, HUP.out]⟩
        clear hx0
        go_upto_block 3 with fail
        go_cut [] (fun wc => Aside0 (∃ A ca, wc.heap[rb]? = some (.cells #[.slice A ((u.take (y.toNat + 1)).map up0).length ca, .int .i64 c.f1, .int .i64 c.f2, .int .i64 c.f3] 30 (0, 0)) ∧ Kd.R (Kd.int .i64) 3 wc w4.heap.size (fun _ => True) (.slice A ((u.take (y.toNat + 1)).map up0).length ca) ((u.take (y.toNat + 1)).map up0)) ∧ Aside0 (Kd.R (Kd.int .i64) 3 wc (rb + 1) (fun q => q < w4.heap.size) (.slice (some ad2) u.length cv) u ∧ Below wq.heap.size wq wc ∧ w4.heap.size ≤ wc.heap.size))
        case first =>
          have s0d : wr.drew.cell? ⟨rb, 0, none⟩ = some (.slice A L.length ca) := s0
          have s0a : ∀ o, (wr.alloc o).drew.cell? ⟨rb, 0, none⟩ = some (.slice A L.length ca) := fun o => pw_cell_alloc o s0
          have x0d : wr.drew.cell? (ad2.add y.toNat) = some (.int .i64 z) := x0
          have s0b : ∀ o, (wr.drew.alloc o).cell? ⟨rb, 0, none⟩ = some (.slice A L.length ca) := fun o => pw_cell_alloc o s0d
          have HOW := Aside0.mk (show wr.drew.ownsRow w4.heap.size 3 1 (.slice A L.length ca) L.length (encs (Value.int .i64) L) from Kd.own_of_R (Kd.R_drew HA2.out))
          have HLX := Aside0.mk (show (L.length + 1) * 8 ≤ 140737488355328 by have := HLN2.out; omega)
          go_upto_region 13 with fail
          go_region_law (refine step_append_cells (w0 := wr) (W := wr.drew) w4.heap.size (by rfl) (.tmp 48) (.tmp 54) 24 3 (.int .i64 0) 1 8 rfl Tryd.underlying24 info3 rfl (by decide) (by decide) (.slice A L.length ca) L.length (encs (Value.int .i64) L) [.int .i64 0] rfl rfl rfl (fun u hu => by rw [List.mem_singleton] at hu; rw [hu]; rfl) HOW.out (below_drew (Below.refl _ _)) HZ.out.2.2 HLX.out ?_; intro v' w' hown hbb hg hat; have HP := Aside0.mk (unit_push2 HA1.out HA2.out HZ.out.1 HZ.out.2.1 HZ.out.2.2 HRB.out.1 HRB.out.2 hown hg); clear hown hbb hg hat; obtain ⟨A', c', nn, rfl, -, hO', -, -, -, -⟩ := id HP.out; have s0' := blk_cell hO' 0; have s1' := blk_frozen hO' 0; clear hO')
          all_goals go_wp2
          all_goals go_meet
          all_goals (refine ⟨⟨A', c', ?_⟩, ?_⟩; (· obtain ⟨_, _, _, e5, hnn, -, q1, q2, -, -⟩ := HP.out; cases e5; rw [HE4.out, ← hnn]; exact ⟨q1, q2⟩); (· obtain ⟨_, _, _, e5, -, -, -, -, q3, q4⟩ := HP.out; cases e5; exact ⟨q3, q4⟩))
        obtain ⟨HQ1, HQ2⟩ := hcut
        clear s0 x0
        go_wp2
        go_roundg (u.length + 1 - (i + 1))
        case measure => have := HI.out; have := HLI.out; omega
        case rel =>
          have ei : y.toNat = i := by have := HI.out.1; omega
          have q := HQ1.out
          rw [ei] at q
          exact ⟨y + 1, by first | rfl | (rw [HWI.out.2]), ⟨i + 1, by rw [HI.out.1]; rfl, HLI.out, Nat.le_refl _, q⟩, HQ2⟩
      case neg =>
        have HUP := Aside0.mk (show up0 z = z by unfold up0; exact if_neg hx0)
        have p8 : (z < 0) = False := eq_false hx0
        have p9 : (0 ≤ z) = True := eq_true (by omega)
        have HE4 : Aside0 ((u.take (y.toNat + 1)).map up0 = L ++ [z]) := ⟨by rw [show y.toNat = i by have := HI.out.1; omega, HL2.out, HUP.out]⟩
        clear hx0
        go_upto_block 3 with fail
        go_cut [] (fun wc => Aside0 (∃ A ca, wc.heap[rb]? = some (.cells #[.slice A ((u.take (y.toNat + 1)).map up0).length ca, .int .i64 c.f1, .int .i64 c.f2, .int .i64 c.f3] 30 (0, 0)) ∧ Kd.R (Kd.int .i64) 3 wc w4.heap.size (fun _ => True) (.slice A ((u.take (y.toNat + 1)).map up0).length ca) ((u.take (y.toNat + 1)).map up0)) ∧ Aside0 (Kd.R (Kd.int .i64) 3 wc (rb + 1) (fun q => q < w4.heap.size) (.slice (some ad2) u.length cv) u ∧ Below wq.heap.size wq wc ∧ w4.heap.size ≤ wc.heap.size))
        case first =>
          have s0d : wr.drew.cell? ⟨rb, 0, none⟩ = some (.slice A L.length ca) := s0
          have s0a : ∀ o, (wr.alloc o).drew.cell? ⟨rb, 0, none⟩ = some (.slice A L.length ca) := fun o => pw_cell_alloc o s0
          have x0d : wr.drew.cell? (ad2.add y.toNat) = some (.int .i64 z) := x0
          have s0b : ∀ o, (wr.drew.alloc o).cell? ⟨rb, 0, none⟩ = some (.slice A L.length ca) := fun o => pw_cell_alloc o s0d
          have HOW := Aside0.mk (show wr.drew.ownsRow w4.heap.size 3 1 (.slice A L.length ca) L.length (encs (Value.int .i64) L) from Kd.own_of_R (Kd.R_drew HA2.out))
          have HLX := Aside0.mk (show (L.length + 1) * 8 ≤ 140737488355328 by have := HLN2.out; omega)
          go_upto_region 13 with fail
          go_region_law (refine step_append_cells (w0 := wr) (W := wr.drew) w4.heap.size (by rfl) (.tmp 48) (.tmp 54) 24 3 (.int .i64 0) 1 8 rfl Tryd.underlying24 info3 rfl (by decide) (by decide) (.slice A L.length ca) L.length (encs (Value.int .i64) L) [.int .i64 z] rfl rfl rfl (fun u hu => by rw [List.mem_singleton] at hu; rw [hu]; rfl) HOW.out (below_drew (Below.refl _ _)) HZ.out.2.2 HLX.out ?_; intro v' w' hown hbb hg hat; have HP := Aside0.mk (unit_push2 HA1.out HA2.out HZ.out.1 HZ.out.2.1 HZ.out.2.2 HRB.out.1 HRB.out.2 hown hg); clear hown hbb hg hat; obtain ⟨A', c', nn, rfl, -, hO', -, -, -, -⟩ := id HP.out; have s0' := blk_cell hO' 0; have s1' := blk_frozen hO' 0; clear hO')
          all_goals go_wp2
          all_goals go_meet
          all_goals (refine ⟨⟨A', c', ?_⟩, ?_⟩; (· obtain ⟨_, _, _, e5, hnn, -, q1, q2, -, -⟩ := HP.out; cases e5; rw [HE4.out, ← hnn]; exact ⟨q1, q2⟩); (· obtain ⟨_, _, _, e5, -, -, -, -, q3, q4⟩ := HP.out; cases e5; exact ⟨q3, q4⟩))
        obtain ⟨HQ1, HQ2⟩ := hcut
        clear s0 x0
        go_wp2
        go_roundg (u.length + 1 - (i + 1))
        case measure => have := HI.out; have := HLI.out; omega
        case rel =>
          have ei : y.toNat = i := by have := HI.out.1; omega
          have q := HQ1.out
          rw [ei] at q
          exact ⟨y + 1, by first | rfl | (rw [HWI.out.2]), ⟨i + 1, by rw [HI.out.1]; rfl, HLI.out, Nat.le_refl _, q⟩, HQ2⟩

end Go.Proofs.YtcdkbciagchlgaaDoor.PF
