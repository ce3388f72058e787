-- Written by a program of this session (wip/pr.py) out of Lean's print of the translation; Lean checks it.
import Derived.Test.YtcdkbciagchlgaaDoorPF0
import Derived.Test.YtcdkbciagchlgaaDoorPF1
import Derived.Test.YtcdkbciagchlgaaDoorPF14
namespace Go.Proofs.YtcdkbciagchlgaaDoor.PF
open Go.RowKit Go.Proofs.YtcdkbciagchlgaaDoorW.PrintWords Go.Proofs.YtcdkbciagchlgaaDoorW.PrintLast Go.Proofs.YtcdkbciagchlgaaDoorW.PrintMore
attribute [local go_sem] max2_int min2_int max_two min_two max_three min_three max_four min_four   -- for this text's walks alone
set_option linter.unusedVariables false
set_option linter.unusedSimpArgs false

/-! ### spileref30_right: function 37 -/
mutual
def spileref30_right.j0 : Nat → List Int → List Int → Bool → List (S45) → List Int → List Int → Int → Int → Int → List Int → Int → Int → Int → Option (Bool)
 | 0, _, _, _, _, _, _, _, _, _, _, _, _, _ => none
 | k + 1, x7, x8, x25, x290000, x290001, x290002, x290003, x290004, x290005, x291000, x291001, x291002, x291003 => if x25 = true then (some false) else ((spileref30_need.f k x7 x8 x291000 x291001 x291002 x291003).bind fun t297 => (spileref30_right.l0 k t297 0 0 x290000 x290001 x290002 x290003 x290004 x290005 x291000 x291001 x291002 x291003))
def spileref30_right.l0 : Nat → List Int → Int → Int → List (S45) → List Int → List Int → Int → Int → Int → List Int → Int → Int → Int → Option (Bool)
 | 0, _, _, _, _, _, _, _, _, _, _, _, _, _ => none
 | k + 1, x9, x10, x11, x290000, x290001, x290002, x290003, x290004, x290005, x291000, x291001, x291002, x291003 => if x11 < (x9.length : Int) then (if 0 ≤ x11 then (if x11 < (x291000.length : Int) then (if (rd x291000 x11) < (rd x9 x11) then (some false) else (if x11 < (x290001.length : Int) then (spileref30_right.l0 k x9 (wrap64 (x10 + (wrap64 ((rd x291000 x11) * (rd x290001 x11))))) (wrap64 (x11 + 1)) x290000 x290001 x290002 x290003 x290004 x290005 x291000 x291001 x291002 x291003) else (none))) else (none)) else (none)) else (some (decide (x10 < (wrap64 (x291002 + (wrap64 (x291003 * x290005)))))))
end
def spileref30_right.f (k : Nat) (l0 : List (S82)) (l1_0 : List (S45)) (l1_1 : List Int) (l1_2 : List Int) (a1_3 : Int) (a1_4 : Int) (a1_5 : Int) (l2_0 : List Int) (a2_1 : Int) (a2_2 : Int) (a2_3 : Int) : Option (Bool) := (spileref30_excess.f k l0 l1_0 l1_1 l1_2 a1_3 a1_4 a1_5).bind fun bt291 => (if a2_2 = 1 then (spileref30_right.j0 k bt291.1 bt291.2 ((bt291.2.length : Int) == 0) l1_0 l1_1 l1_2 a1_3 a1_4 a1_5 l2_0 a2_1 a2_2 a2_3) else (spileref30_right.j0 k bt291.1 bt291.2 false l1_0 l1_1 l1_2 a1_3 a1_4 a1_5 l2_0 a2_1 a2_2 a2_3))
theorem spileref30_right.mono_l : ∀ k, (∀ y0 y1 y2 y3 y4 y5 y6 y7 y8 y9 y10 y11 y12, LeO (spileref30_right.j0 k y0 y1 y2 y3 y4 y5 y6 y7 y8 y9 y10 y11 y12) (spileref30_right.j0 (k + 1) y0 y1 y2 y3 y4 y5 y6 y7 y8 y9 y10 y11 y12)) ∧ (∀ y0 y1 y2 y3 y4 y5 y6 y7 y8 y9 y10 y11 y12, LeO (spileref30_right.l0 k y0 y1 y2 y3 y4 y5 y6 y7 y8 y9 y10 y11 y12) (spileref30_right.l0 (k + 1) y0 y1 y2 y3 y4 y5 y6 y7 y8 y9 y10 y11 y12))
 | 0 => ⟨fun _ _ _ _ _ _ _ _ _ _ _ _ _ r h => by simp [spileref30_right.j0] at h, fun _ _ _ _ _ _ _ _ _ _ _ _ _ r h => by simp [spileref30_right.l0] at h⟩
 | k + 1 => by
  obtain ⟨ih0, ih1⟩ := spileref30_right.mono_l k
  refine ⟨?_, ?_⟩
  ·intro y0 y1 y2 y3 y4 y5 y6 y7 y8 y9 y10 y11 y12
   unfold spileref30_right.j0
   repeat' first
   | (with_reducible exact ih0 _ _ _ _ _ _ _ _ _ _ _ _ _)
   | (with_reducible exact ih1 _ _ _ _ _ _ _ _ _ _ _ _ _)
   | (with_reducible exact spileref30_excess.mono _ _ _ _ _ _ _ _)
   | (with_reducible exact spileref30_need.mono _ _ _ _ _ _ _)
   | (with_reducible exact LeO.refl _)
   | (with_reducible exact LeO.none _)
   | (with_reducible refine LeO.ite ?_ ?_)
   | (with_reducible refine LeO.bind ?_ (fun _ => ?_))
   | exact ih0 _ _ _ _ _ _ _ _ _ _ _ _ _
   | exact ih1 _ _ _ _ _ _ _ _ _ _ _ _ _
   | exact spileref30_excess.mono _ _ _ _ _ _ _ _
   | exact spileref30_need.mono _ _ _ _ _ _ _
   | exact LeO.none _
   | refine LeO.ite ?_ ?_
   | refine LeO.bind ?_ (fun _ => ?_)
  ·intro y0 y1 y2 y3 y4 y5 y6 y7 y8 y9 y10 y11 y12
   unfold spileref30_right.l0
   repeat' first
   | (with_reducible exact ih0 _ _ _ _ _ _ _ _ _ _ _ _ _)
   | (with_reducible exact ih1 _ _ _ _ _ _ _ _ _ _ _ _ _)
   | (with_reducible exact spileref30_excess.mono _ _ _ _ _ _ _ _)
   | (with_reducible exact spileref30_need.mono _ _ _ _ _ _ _)
   | (with_reducible exact LeO.refl _)
   | (with_reducible exact LeO.none _)
   | (with_reducible refine LeO.ite ?_ ?_)
   | (with_reducible refine LeO.bind ?_ (fun _ => ?_))
   | exact ih0 _ _ _ _ _ _ _ _ _ _ _ _ _
   | exact ih1 _ _ _ _ _ _ _ _ _ _ _ _ _
   | exact spileref30_excess.mono _ _ _ _ _ _ _ _
   | exact spileref30_need.mono _ _ _ _ _ _ _
   | exact LeO.none _
   | refine LeO.ite ?_ ?_
   | refine LeO.bind ?_ (fun _ => ?_)
theorem spileref30_right.mono : ∀ a0 a1 a2 a3 a4 a5 a6 a7 a8 a9 a10 k, LeO (spileref30_right.f k a0 a1 a2 a3 a4 a5 a6 a7 a8 a9 a10) (spileref30_right.f (k + 1) a0 a1 a2 a3 a4 a5 a6 a7 a8 a9 a10) := by
 intro a0 a1 a2 a3 a4 a5 a6 a7 a8 a9 a10 k
 obtain ⟨ih0, ih1⟩ := spileref30_right.mono_l k
 unfold spileref30_right.f
 repeat' first
   | (with_reducible exact ih0 _ _ _ _ _ _ _ _ _ _ _ _ _)
   | (with_reducible exact ih1 _ _ _ _ _ _ _ _ _ _ _ _ _)
   | (with_reducible exact spileref30_excess.mono _ _ _ _ _ _ _ _)
   | (with_reducible exact spileref30_need.mono _ _ _ _ _ _ _)
   | (with_reducible exact LeO.refl _)
   | (with_reducible exact LeO.none _)
   | (with_reducible refine LeO.ite ?_ ?_)
   | (with_reducible refine LeO.bind ?_ (fun _ => ?_))
   | exact ih0 _ _ _ _ _ _ _ _ _ _ _ _ _
   | exact ih1 _ _ _ _ _ _ _ _ _ _ _ _ _
   | exact spileref30_excess.mono _ _ _ _ _ _ _ _
   | exact spileref30_need.mono _ _ _ _ _ _ _
   | exact LeO.none _
   | refine LeO.ite ?_ ?_
   | refine LeO.bind ?_ (fun _ => ?_)
set_option maxHeartbeats 8000000 in
set_option maxRecDepth 100000 in
theorem spileref30_right.calls (k : Nat) (A0 : Option Addr) (c0 : Nat) (l0 : List (S82)) (A1_0 : Option Addr) (c1_0 : Nat) (l1_0 : List (S45)) (A1_1 : Option Addr) (c1_1 : Nat) (l1_1 : List Int) (A1_2 : Option Addr) (c1_2 : Nat) (l1_2 : List Int) (a1_3 : Int) (a1_4 : Int) (a1_5 : Int) (A2_0 : Option Addr) (c2_0 : Nat) (l2_0 : List Int) (a2_1 : Int) (a2_2 : Int) (a2_3 : Int) (r : Bool) (w : World) (hr0 : Kd.C k82 w A0 l0.length l0) (hc0 : l0.length ≤ c0) (hr1_0 : Kd.C k45 w A1_0 l1_0.length l1_0) (hc1_0 : l1_0.length ≤ c1_0) (hr1_1 : Kd.C (Kd.int .i64) w A1_1 l1_1.length l1_1) (hc1_1 : l1_1.length ≤ c1_1) (hr1_2 : Kd.C (Kd.int .i64) w A1_2 l1_2.length l1_2) (hc1_2 : l1_2.length ≤ c1_2) (hr2_0 : Kd.C (Kd.int .i64) w A2_0 l2_0.length l2_0) (hc2_0 : l2_0.length ≤ c2_0) (h : spileref30_right.f k l0 l1_0 l1_1 l1_2 a1_3 a1_4 a1_5 l2_0 a2_1 a2_2 a2_3 = some r) :
  Calls Tryd.prog 37 #[.slice A0 l0.length c0, .agg #[.slice A1_0 l1_0.length c1_0, .slice A1_1 l1_1.length c1_1, .slice A1_2 l1_2.length c1_2, .int .i64 a1_3, .int .i64 a1_4, .int .i64 a1_5], .agg #[.slice A2_0 l2_0.length c2_0, .int .i64 a2_1, .int .i64 a2_2, .int .i64 a2_3]] w fun e w' => e = .returned (.bool r) ∧ Below w.heap.size w w' := by
 have hu26 := Tryd.underlying26
 have hu30 := Tryd.underlying30
 have HR0 := Aside0.mk hr0
 have HC0 := Aside0.mk hc0
 clear hr0 hc0
 have HR1_0 := Aside0.mk hr1_0
 have HC1_0 := Aside0.mk hc1_0
 clear hr1_0 hc1_0
 have HR1_1 := Aside0.mk hr1_1
 have HC1_1 := Aside0.mk hc1_1
 clear hr1_1 hc1_1
 have HR1_2 := Aside0.mk hr1_2
 have HC1_2 := Aside0.mk hc1_2
 clear hr1_2 hc1_2
 have HR2_0 := Aside0.mk hr2_0
 have HC2_0 := Aside0.mk hc2_0
 clear hr2_0 hc2_0
 have HB := Aside0.mk (Below.refl w.heap.size w)
 have H : ((spileref30_excess.f k l0 l1_0 l1_1 l1_2 a1_3 a1_4 a1_5).bind fun bt291 => (if a2_2 = 1 then (spileref30_right.j0 k bt291.1 bt291.2 ((bt291.2.length : Int) == 0) l1_0 l1_1 l1_2 a1_3 a1_4 a1_5 l2_0 a2_1 a2_2 a2_3) else (spileref30_right.j0 k bt291.1 bt291.2 false l1_0 l1_1 l1_2 a1_3 a1_4 a1_5 l2_0 a2_1 a2_2 a2_3))) = some r := h
 clear h
 replace H := Option.bind_eq_some_iff.mp H
 obtain ⟨⟨t291, t294⟩, A40, H⟩ := H
 replace H : (if a2_2 = 1 then (spileref30_right.j0 k t291 t294 ((t294.length : Int) == 0) l1_0 l1_1 l1_2 a1_3 a1_4 a1_5 l2_0 a2_1 a2_2 a2_3) else (spileref30_right.j0 k t291 t294 false l1_0 l1_1 l1_2 a1_3 a1_4 a1_5 l2_0 a2_1 a2_2 a2_3)) = some r := H
 have A4 := Aside0.mk A40
 clear A40
 have HC5 := Aside0.mk H
 clear H
 go_enter Tryd.func37, Tryd.ntmps37
 go_upto_region 2 with (first | ((with_reducible refine gate_dst (N := 4) rfl ?_); (try (refine gate_guard (by rfl) ?_; dsimp only)); refine be_ (N := 4) (cs := #[.slice A1_0 l1_0.length c1_0, .slice A1_1 l1_1.length c1_1, .slice A1_2 l1_2.length c1_2, .int .i64 a1_3, .int .i64 a1_4, .int .i64 a1_5]) (t := 26) ?_; intro gb289 hg w6 hbox hb; have n0_ := Aside0.mk (below_step bl_ hb); have n1_ := Aside0.mk (hbox); have n2_ := Aside0.mk ((by rw [hg]; exact (below_size bl_) : w.heap.size ≤ gb289)); have n3_ := Aside0.mk ((by rw [hg]; exact (below_size bl_) : w.heap.size ≤ gb289)); clear HB; have HB := n0_; have BK289 := n1_; have GW289 := n2_; have GE289 := n3_; clear n0_ n1_ n2_ n3_; clear hb hbox hg) | ((with_reducible refine gate_dst (N := 5) rfl ?_); (try (refine gate_guard (by rfl) ?_; dsimp only)); refine be_ (N := 5) (cs := #[.slice A2_0 l2_0.length c2_0, .int .i64 a2_1, .int .i64 a2_2, .int .i64 a2_3]) (t := 30) ?_; intro gb290 hg w7 hbox hb; have n0_ := Aside0.mk (blk_below (bkt_ BK289) hb); have n1_ := Aside0.mk (below_step bls_ hb); have n2_ := Aside0.mk (hbox); have n3_ := Aside0.mk ((by rw [hg]; exact (below_size bls_) : w.heap.size ≤ gb290)); have n4_ := Aside0.mk ((by rw [hg]; exact (below_size bls_) : w.heap.size ≤ gb290)); have n5_ := Aside0.mk ((by rw [hg]; exact Nat.ne_of_lt (blk_lt (bkt_ BK289)) : gb289 ≠ gb290)); have n6_ := Aside0.mk ((by rw [hg]; exact Nat.ne_of_gt (blk_lt (bkt_ BK289)) : gb290 ≠ gb289)); clear BK289; clear HB; have BK289 := n0_; have HB := n1_; have BK290 := n2_; have GW290 := n3_; have GE290 := n4_; have NB289_290 := n5_; have NB290_289 := n6_; clear n0_ n1_ n2_ n3_ n4_ n5_ n6_; clear hb hbox hg; have hnb8 := NB289_290.out; have hnc8 := NB290_289.out; obtain ⟨hcz9_0, hcz9_1, hcz9_2, hcz9_3, hcz9_4, hcz9_5⟩ := bc6_ BK289; obtain ⟨hfz9_0, hfz9_1, hfz9_2, hfz9_3, hfz9_4⟩ := bf5_ BK289; have hfz9_5 := blk_frozen BK289.out 5) | (go_at_call 31; (with_reducible refine (spileref30_excess.calls k _ _ l0 _ _ l1_0 _ _ l1_1 _ _ l1_2 a1_3 a1_4 a1_5 t291 t294 _ ?side1 ?side2 ?side3 ?side4 ?side5 ?side6 ?side7 ?side8 A4.out).mono ?_); (case side1 => exact kc_ HR0); (case side2 => exact HC0.out); (case side3 => exact kc_ HR1_0); (case side4 => exact HC1_0.out); (case side5 => exact kc_ HR1_1); (case side6 => exact HC1_1.out); (case side7 => exact kc_ HR1_2); (case side8 => exact HC1_2.out); rintro e w10 ⟨v292, v295, rfl, ho0, ho1, hb⟩; have n0_ := Aside0.mk (Kd.R_lower ho0 (below_size bls_)); have n1_ := Aside0.mk (Kd.R_lower ho1 (below_size bls_)); have n2_ := Aside0.mk (blk_below (bkt_ BK289) hb); have n3_ := Aside0.mk (blk_below (bkt_ BK290) hb); have n4_ := Aside0.mk (below_step bls_ hb); clear BK289; clear BK290; clear HB; have HO293 := n0_; have HO296 := n1_; have BK289 := n2_; have BK290 := n3_; have HB := n4_; clear n0_ n1_ n2_ n3_ n4_; (try clear hb); (try clear hb2); (try clear hk); (try clear hi); (try clear ho0); (try clear ho1)))
 repeat (go_quiet (first | ((with_reducible refine gate_dst (N := 4) rfl ?_); (try (refine gate_guard (by rfl) ?_; dsimp only)); refine be_ (N := 4) (cs := #[.slice A1_0 l1_0.length c1_0, .slice A1_1 l1_1.length c1_1, .slice A1_2 l1_2.length c1_2, .int .i64 a1_3, .int .i64 a1_4, .int .i64 a1_5]) (t := 26) ?_; intro gb289 hg w6 hbox hb; have n0_ := Aside0.mk (below_step bl_ hb); have n1_ := Aside0.mk (hbox); have n2_ := Aside0.mk ((by rw [hg]; exact (below_size bl_) : w.heap.size ≤ gb289)); have n3_ := Aside0.mk ((by rw [hg]; exact (below_size bl_) : w.heap.size ≤ gb289)); clear HB; have HB := n0_; have BK289 := n1_; have GW289 := n2_; have GE289 := n3_; clear n0_ n1_ n2_ n3_; clear hb hbox hg) | ((with_reducible refine gate_dst (N := 5) rfl ?_); (try (refine gate_guard (by rfl) ?_; dsimp only)); refine be_ (N := 5) (cs := #[.slice A2_0 l2_0.length c2_0, .int .i64 a2_1, .int .i64 a2_2, .int .i64 a2_3]) (t := 30) ?_; intro gb290 hg w7 hbox hb; have n0_ := Aside0.mk (blk_below (bkt_ BK289) hb); have n1_ := Aside0.mk (below_step bls_ hb); have n2_ := Aside0.mk (hbox); have n3_ := Aside0.mk ((by rw [hg]; exact (below_size bls_) : w.heap.size ≤ gb290)); have n4_ := Aside0.mk ((by rw [hg]; exact (below_size bls_) : w.heap.size ≤ gb290)); have n5_ := Aside0.mk ((by rw [hg]; exact Nat.ne_of_lt (blk_lt (bkt_ BK289)) : gb289 ≠ gb290)); have n6_ := Aside0.mk ((by rw [hg]; exact Nat.ne_of_gt (blk_lt (bkt_ BK289)) : gb290 ≠ gb289)); clear BK289; clear HB; have BK289 := n0_; have HB := n1_; have BK290 := n2_; have GW290 := n3_; have GE290 := n4_; have NB289_290 := n5_; have NB290_289 := n6_; clear n0_ n1_ n2_ n3_ n4_ n5_ n6_; clear hb hbox hg; have hnb8 := NB289_290.out; have hnc8 := NB290_289.out; obtain ⟨hcz9_0, hcz9_1, hcz9_2, hcz9_3, hcz9_4, hcz9_5⟩ := bc6_ BK289; obtain ⟨hfz9_0, hfz9_1, hfz9_2, hfz9_3, hfz9_4⟩ := bf5_ BK289; have hfz9_5 := blk_frozen BK289.out 5) | (go_at_call 31; (with_reducible refine (spileref30_excess.calls k _ _ l0 _ _ l1_0 _ _ l1_1 _ _ l1_2 a1_3 a1_4 a1_5 t291 t294 _ ?side1 ?side2 ?side3 ?side4 ?side5 ?side6 ?side7 ?side8 A4.out).mono ?_); (case side1 => exact kc_ HR0); (case side2 => exact HC0.out); (case side3 => exact kc_ HR1_0); (case side4 => exact HC1_0.out); (case side5 => exact kc_ HR1_1); (case side6 => exact HC1_1.out); (case side7 => exact kc_ HR1_2); (case side8 => exact HC1_2.out); rintro e w10 ⟨v292, v295, rfl, ho0, ho1, hb⟩; have n0_ := Aside0.mk (Kd.R_lower ho0 (below_size bls_)); have n1_ := Aside0.mk (Kd.R_lower ho1 (below_size bls_)); have n2_ := Aside0.mk (blk_below (bkt_ BK289) hb); have n3_ := Aside0.mk (blk_below (bkt_ BK290) hb); have n4_ := Aside0.mk (below_step bls_ hb); clear BK289; clear BK290; clear HB; have HO293 := n0_; have HO296 := n1_; have BK289 := n2_; have BK290 := n3_; have HB := n4_; clear n0_ n1_ n2_ n3_ n4_; (try clear hb); (try clear hb2); (try clear hk); (try clear hi); (try clear ho0); (try clear ho1))); go_upto_region 2 with (first | ((with_reducible refine gate_dst (N := 4) rfl ?_); (try (refine gate_guard (by rfl) ?_; dsimp only)); refine be_ (N := 4) (cs := #[.slice A1_0 l1_0.length c1_0, .slice A1_1 l1_1.length c1_1, .slice A1_2 l1_2.length c1_2, .int .i64 a1_3, .int .i64 a1_4, .int .i64 a1_5]) (t := 26) ?_; intro gb289 hg w6 hbox hb; have n0_ := Aside0.mk (below_step bl_ hb); have n1_ := Aside0.mk (hbox); have n2_ := Aside0.mk ((by rw [hg]; exact (below_size bl_) : w.heap.size ≤ gb289)); have n3_ := Aside0.mk ((by rw [hg]; exact (below_size bl_) : w.heap.size ≤ gb289)); clear HB; have HB := n0_; have BK289 := n1_; have GW289 := n2_; have GE289 := n3_; clear n0_ n1_ n2_ n3_; clear hb hbox hg) | ((with_reducible refine gate_dst (N := 5) rfl ?_); (try (refine gate_guard (by rfl) ?_; dsimp only)); refine be_ (N := 5) (cs := #[.slice A2_0 l2_0.length c2_0, .int .i64 a2_1, .int .i64 a2_2, .int .i64 a2_3]) (t := 30) ?_; intro gb290 hg w7 hbox hb; have n0_ := Aside0.mk (blk_below (bkt_ BK289) hb); have n1_ := Aside0.mk (below_step bls_ hb); have n2_ := Aside0.mk (hbox); have n3_ := Aside0.mk ((by rw [hg]; exact (below_size bls_) : w.heap.size ≤ gb290)); have n4_ := Aside0.mk ((by rw [hg]; exact (below_size bls_) : w.heap.size ≤ gb290)); have n5_ := Aside0.mk ((by rw [hg]; exact Nat.ne_of_lt (blk_lt (bkt_ BK289)) : gb289 ≠ gb290)); have n6_ := Aside0.mk ((by rw [hg]; exact Nat.ne_of_gt (blk_lt (bkt_ BK289)) : gb290 ≠ gb289)); clear BK289; clear HB; have BK289 := n0_; have HB := n1_; have BK290 := n2_; have GW290 := n3_; have GE290 := n4_; have NB289_290 := n5_; have NB290_289 := n6_; clear n0_ n1_ n2_ n3_ n4_ n5_ n6_; clear hb hbox hg; have hnb8 := NB289_290.out; have hnc8 := NB290_289.out; obtain ⟨hcz9_0, hcz9_1, hcz9_2, hcz9_3, hcz9_4, hcz9_5⟩ := bc6_ BK289; obtain ⟨hfz9_0, hfz9_1, hfz9_2, hfz9_3, hfz9_4⟩ := bf5_ BK289; have hfz9_5 := blk_frozen BK289.out 5) | (go_at_call 31; (with_reducible refine (spileref30_excess.calls k _ _ l0 _ _ l1_0 _ _ l1_1 _ _ l1_2 a1_3 a1_4 a1_5 t291 t294 _ ?side1 ?side2 ?side3 ?side4 ?side5 ?side6 ?side7 ?side8 A4.out).mono ?_); (case side1 => exact kc_ HR0); (case side2 => exact HC0.out); (case side3 => exact kc_ HR1_0); (case side4 => exact HC1_0.out); (case side5 => exact kc_ HR1_1); (case side6 => exact HC1_1.out); (case side7 => exact kc_ HR1_2); (case side8 => exact HC1_2.out); rintro e w10 ⟨v292, v295, rfl, ho0, ho1, hb⟩; have n0_ := Aside0.mk (Kd.R_lower ho0 (below_size bls_)); have n1_ := Aside0.mk (Kd.R_lower ho1 (below_size bls_)); have n2_ := Aside0.mk (blk_below (bkt_ BK289) hb); have n3_ := Aside0.mk (blk_below (bkt_ BK290) hb); have n4_ := Aside0.mk (below_step bls_ hb); clear BK289; clear BK290; clear HB; have HO293 := n0_; have HO296 := n1_; have BK289 := n2_; have BK290 := n3_; have HB := n4_; clear n0_ n1_ n2_ n3_ n4_; (try clear hb); (try clear hb2); (try clear hk); (try clear hi); (try clear ho0); (try clear ho1))))
 (try simp only [Act.put, List.setIfInBounds_toArray, List.set_cons_zero, List.set_cons_succ])
 go_cut [25] (fun v25 wc => ∃ (kq : Nat) (x25_4 : Bool), v25 = .bool x25_4 ∧ Aside0 (spileref30_right.j0 kq t291 t294 x25_4 l1_0 l1_1 l1_2 a1_3 a1_4 a1_5 l2_0 a2_1 a2_2 a2_3 = some r) ∧ Aside0 (kq ≤ k) ∧ Aside0 (Kd.R (Kd.int .i64) 3 wc w.heap.size (fun k_ => some k_ ≠ (v295 : Value).ownBlock) v292 t291) ∧ Aside0 (Kd.R (Kd.int .i64) 3 wc w.heap.size (fun k_ => some k_ ≠ (v292 : Value).ownBlock) v295 t294) ∧ Aside0 (wc.heap[gb289]? = some (.cells #[(.slice A1_0 l1_0.length c1_0), (.slice A1_1 l1_1.length c1_1), (.slice A1_2 l1_2.length c1_2), .int .i64 a1_3, .int .i64 a1_4, .int .i64 a1_5] 26 (0, 0))) ∧ Aside0 (wc.heap[gb290]? = some (.cells #[(.slice A2_0 l2_0.length c2_0), .int .i64 a2_1, .int .i64 a2_2, .int .i64 a2_3] 30 (0, 0))) ∧ Aside0 (Below w.heap.size w wc))
 case first =>
  have H := HC5.out
  clear HC5
  by_cases c11 : a2_2 = 1
  ·rw [if_pos c11] at H
   have c11b0 : (a2_2 == 1) = true := beq_iff_eq.mpr c11
   have c11b1 : (a2_2 != 1) = false := bne_eq_false_iff_eq.mpr c11
   clear c11
   (first | rw [c11b0] | (simp only [i64_w, i32_w]; rw [c11b0]) | skip)
   have H' := Aside0.mk H
   clear H
   have hnb12 := NB290_289.out
   have hnc12 := NB289_290.out
   obtain ⟨hcz13_0, hcz13_1, hcz13_2, hcz13_3⟩ := bc4_ BK290
   obtain ⟨hfz13_0, hfz13_1, hfz13_2, hfz13_3⟩ := bf4_ BK290
   obtain ⟨Ao14, co14, eo14⟩ := Kd.R_slice HO296.out
   subst eo14
   go_wp2
   repeat (go_quiet (fail); try go_wp2)
   go_meet
   case rel => exact ⟨_, (((t294.length : Int) == 0)), sm_, H', ⟨by first | omega | exact Nat.le_refl _⟩, ⟨by (with_reducible repeat (first | apply Kd.R_alloc | apply Kd.R_drewN | apply Kd.R_drew)); exact HO293.out⟩, ⟨by (with_reducible repeat (first | apply Kd.R_alloc | apply Kd.R_drewN | apply Kd.R_drew)); exact HO296.out⟩, ⟨bkt_ BK289⟩, ⟨bkt_ BK290⟩, ⟨bls_⟩⟩
  ·rw [if_neg c11] at H
   have c11b0 : (a2_2 == 1) = false := beq_eq_false_iff_ne.mpr c11
   have c11b1 : (a2_2 != 1) = true := bne_iff_ne.mpr c11
   (first | rw [c11b0] | (simp only [i64_w, i32_w]; rw [c11b0]) | skip)
   have H' := Aside0.mk H
   clear H
   have hnb15 := NB290_289.out
   have hnc15 := NB289_290.out
   obtain ⟨hcz16_0, hcz16_1, hcz16_2, hcz16_3⟩ := bc4_ BK290
   obtain ⟨hfz16_0, hfz16_1, hfz16_2, hfz16_3⟩ := bf4_ BK290
   go_wp2
   repeat (go_quiet (fail); try go_wp2)
   go_meet
   case rel => exact ⟨_, (false), sm_, H', ⟨by first | omega | exact Nat.le_refl _⟩, ⟨by (with_reducible repeat (first | apply Kd.R_alloc | apply Kd.R_drewN | apply Kd.R_drew)); exact HO293.out⟩, ⟨by (with_reducible repeat (first | apply Kd.R_alloc | apply Kd.R_drewN | apply Kd.R_drew)); exact HO296.out⟩, ⟨bkt_ BK289⟩, ⟨bkt_ BK290⟩, ⟨bls_⟩⟩
 case rest =>
  clear HC5
  try clear c1
  try clear c2
  try clear p2
  try clear c3
  try clear c8
  try clear c11
  try clear c11b0
  try clear c11b1
  try clear c12
  try clear c15
  try clear hcz13_0
  try clear hcz13_1
  try clear hcz13_2
  try clear hcz13_3
  try clear hcz16_0
  try clear hcz16_1
  try clear hcz16_2
  try clear hcz16_3
  try clear hcz9_0
  try clear hcz9_1
  try clear hcz9_2
  try clear hcz9_3
  try clear hcz9_4
  try clear hcz9_5
  try clear hfz13_0
  try clear hfz13_1
  try clear hfz13_2
  try clear hfz13_3
  try clear hfz16_0
  try clear hfz16_1
  try clear hfz16_2
  try clear hfz16_3
  try clear hfz9_0
  try clear hfz9_1
  try clear hfz9_2
  try clear hfz9_3
  try clear hfz9_4
  try clear hfz9_5
  obtain ⟨kq, x25_4, rfl, HA, HJ4, HO_7, HO_8, BK289, BK290, HB⟩ := hcut
  cases kq with
  | zero => exact absurd HA.out (by simp [spileref30_right.j0])
  | succ kj4 =>
   have H := HA.out
   clear HA
   simp only [spileref30_right.j0] at H
   by_cases c17 : x25_4 = true
   ·subst c17
    have H1 : (some false) = some r := by rw [if_pos rfl] at H; exact H
    clear H
    have H := H1
    clear H1
    obtain rfl := Option.some.inj H
    go_wp2
    repeat (go_quiet (fail); try go_wp2)
    go_ret
    exact ⟨fin_, bls_⟩
   ·replace c17 := Bool.eq_false_iff.mpr c17
    subst c17
    have H1 : ((spileref30_need.f kj4 t291 t294 l2_0 a2_1 a2_2 a2_3).bind fun t297 => (spileref30_right.l0 kj4 t297 0 0 l1_0 l1_1 l1_2 a1_3 a1_4 a1_5 l2_0 a2_1 a2_2 a2_3)) = some r := by rw [if_neg (show ¬ (false = true) by decide)] at H; exact H
    clear H
    have H := H1
    clear H1
    replace H := Option.bind_eq_some_iff.mp H
    obtain ⟨t297, A180, H⟩ := H
    replace H : (spileref30_right.l0 kj4 t297 0 0 l1_0 l1_1 l1_2 a1_3 a1_4 a1_5 l2_0 a2_1 a2_2 a2_3) = some r := H
    have A18 := Aside0.mk A180
    clear A180
    have H' := Aside0.mk H
    clear H
    have hnb19 := NB290_289.out
    have hnc19 := NB289_290.out
    obtain ⟨hcz20_0, hcz20_1, hcz20_2, hcz20_3⟩ := bc4_ BK290
    obtain ⟨hfz20_0, hfz20_1, hfz20_2, hfz20_3⟩ := bf4_ BK290
    obtain ⟨Ao21, co21, eo21⟩ := Kd.R_slice HO_7.out
    subst eo21
    obtain ⟨Ao22, co22, eo22⟩ := Kd.R_slice HO_8.out
    subst eo22
    go_wp2_with (first | (go_at_call 36; (with_reducible refine (spileref30_need.calls kj4 _ _ t291 _ _ t294 _ _ l2_0 a2_1 a2_2 a2_3 t297 _ ?side1 ?side2 ?side3 ?side4 ?side5 ?side6 A18.out).mono ?_); (case side1 => repeat (first | exact (Kd.R_reads' HO_7.out).2.2 | (with_reducible refine Kd.C_alloc ?_ _) | (with_reducible refine Kd.C_drewN ?_ _) | (with_reducible refine Kd.C_drew ?_))); (case side2 => exact (Kd.R_reads' HO_7.out).2.1); (case side3 => repeat (first | exact (Kd.R_reads' HO_8.out).2.2 | (with_reducible refine Kd.C_alloc ?_ _) | (with_reducible refine Kd.C_drewN ?_ _) | (with_reducible refine Kd.C_drew ?_))); (case side4 => exact (Kd.R_reads' HO_8.out).2.1); (case side5 => exact kc_ HR2_0); (case side6 => exact HC2_0.out); rintro e w23 ⟨v298, rfl, ho0, hb⟩; have n0_ := Aside0.mk (Kd.R_elder' (kr_ HO_7) (Kd.R_base ho0) hb); have n1_ := Aside0.mk (Kd.R_elder' (kr_ HO_8) (Kd.R_base ho0) hb); have n2_ := Aside0.mk (Kd.R_lower (Kd.R_new' (Kd.R_new' ho0 (Kd.R_lt (kr_ HO_7))) (Kd.R_lt (kr_ HO_8))) (below_size bls_)); have n3_ := Aside0.mk (blk_below (bkt_ BK289) hb); have n4_ := Aside0.mk (blk_below (bkt_ BK290) hb); have n5_ := Aside0.mk (below_step bls_ hb); clear HO_7; clear HO_8; clear BK289; clear BK290; clear HB; have HO_7 := n0_; have HO_8 := n1_; have HO299 := n2_; have BK289 := n3_; have BK290 := n4_; have HB := n5_; clear n0_ n1_ n2_ n3_ n4_ n5_; (try clear hb); (try clear hb2); (try clear hk); (try clear hi); (try clear ho0)))
    repeat (go_quiet (first | (go_at_call 36; (with_reducible refine (spileref30_need.calls kj4 _ _ t291 _ _ t294 _ _ l2_0 a2_1 a2_2 a2_3 t297 _ ?side1 ?side2 ?side3 ?side4 ?side5 ?side6 A18.out).mono ?_); (case side1 => repeat (first | exact (Kd.R_reads' HO_7.out).2.2 | (with_reducible refine Kd.C_alloc ?_ _) | (with_reducible refine Kd.C_drewN ?_ _) | (with_reducible refine Kd.C_drew ?_))); (case side2 => exact (Kd.R_reads' HO_7.out).2.1); (case side3 => repeat (first | exact (Kd.R_reads' HO_8.out).2.2 | (with_reducible refine Kd.C_alloc ?_ _) | (with_reducible refine Kd.C_drewN ?_ _) | (with_reducible refine Kd.C_drew ?_))); (case side4 => exact (Kd.R_reads' HO_8.out).2.1); (case side5 => exact kc_ HR2_0); (case side6 => exact HC2_0.out); rintro e w23 ⟨v298, rfl, ho0, hb⟩; have n0_ := Aside0.mk (Kd.R_elder' (kr_ HO_7) (Kd.R_base ho0) hb); have n1_ := Aside0.mk (Kd.R_elder' (kr_ HO_8) (Kd.R_base ho0) hb); have n2_ := Aside0.mk (Kd.R_lower (Kd.R_new' (Kd.R_new' ho0 (Kd.R_lt (kr_ HO_7))) (Kd.R_lt (kr_ HO_8))) (below_size bls_)); have n3_ := Aside0.mk (blk_below (bkt_ BK289) hb); have n4_ := Aside0.mk (blk_below (bkt_ BK290) hb); have n5_ := Aside0.mk (below_step bls_ hb); clear HO_7; clear HO_8; clear BK289; clear BK290; clear HB; have HO_7 := n0_; have HO_8 := n1_; have HO299 := n2_; have BK289 := n3_; have BK290 := n4_; have HB := n5_; clear n0_ n1_ n2_ n3_ n4_ n5_; (try clear hb); (try clear hb2); (try clear hk); (try clear hi); (try clear ho0))); try go_wp2_with (first | (go_at_call 36; (with_reducible refine (spileref30_need.calls kj4 _ _ t291 _ _ t294 _ _ l2_0 a2_1 a2_2 a2_3 t297 _ ?side1 ?side2 ?side3 ?side4 ?side5 ?side6 A18.out).mono ?_); (case side1 => repeat (first | exact (Kd.R_reads' HO_7.out).2.2 | (with_reducible refine Kd.C_alloc ?_ _) | (with_reducible refine Kd.C_drewN ?_ _) | (with_reducible refine Kd.C_drew ?_))); (case side2 => exact (Kd.R_reads' HO_7.out).2.1); (case side3 => repeat (first | exact (Kd.R_reads' HO_8.out).2.2 | (with_reducible refine Kd.C_alloc ?_ _) | (with_reducible refine Kd.C_drewN ?_ _) | (with_reducible refine Kd.C_drew ?_))); (case side4 => exact (Kd.R_reads' HO_8.out).2.1); (case side5 => exact kc_ HR2_0); (case side6 => exact HC2_0.out); rintro e w23 ⟨v298, rfl, ho0, hb⟩; have n0_ := Aside0.mk (Kd.R_elder' (kr_ HO_7) (Kd.R_base ho0) hb); have n1_ := Aside0.mk (Kd.R_elder' (kr_ HO_8) (Kd.R_base ho0) hb); have n2_ := Aside0.mk (Kd.R_lower (Kd.R_new' (Kd.R_new' ho0 (Kd.R_lt (kr_ HO_7))) (Kd.R_lt (kr_ HO_8))) (below_size bls_)); have n3_ := Aside0.mk (blk_below (bkt_ BK289) hb); have n4_ := Aside0.mk (blk_below (bkt_ BK290) hb); have n5_ := Aside0.mk (below_step bls_ hb); clear HO_7; clear HO_8; clear BK289; clear BK290; clear HB; have HO_7 := n0_; have HO_8 := n1_; have HO299 := n2_; have BK289 := n3_; have BK290 := n4_; have HB := n5_; clear n0_ n1_ n2_ n3_ n4_ n5_; (try clear hb); (try clear hb2); (try clear hk); (try clear hi); (try clear ho0))))
    go_loopg [10, 11] kj4 (fun kq v10 v11 w' => ∃ (x10_2 : Int) (x11_2 : Int), v10 = .int .i64 x10_2 ∧ v11 = .int .i64 x11_2 ∧ Aside0 (spileref30_right.l0 kq t297 x10_2 x11_2 l1_0 l1_1 l1_2 a1_3 a1_4 a1_5 l2_0 a2_1 a2_2 a2_3 = some r) ∧ Aside0 (kq ≤ kj4) ∧ Aside0 (Kd.R (Kd.int .i64) 3 w' w.heap.size (fun _ => True) v298 t297) ∧ Aside0 (w'.heap[gb289]? = some (.cells #[(.slice A1_0 l1_0.length c1_0), (.slice A1_1 l1_1.length c1_1), (.slice A1_2 l1_2.length c1_2), .int .i64 a1_3, .int .i64 a1_4, .int .i64 a1_5] 26 (0, 0))) ∧ Aside0 (w'.heap[gb290]? = some (.cells #[(.slice A2_0 l2_0.length c2_0), .int .i64 a2_1, .int .i64 a2_2, .int .i64 a2_3] 30 (0, 0))) ∧ Aside0 (Below w.heap.size w w'))
    case atStart => exact ⟨(0), (0), sm_, sm_, H', ⟨Nat.le_refl _⟩, ⟨by (with_reducible repeat (first | apply Kd.R_alloc | apply Kd.R_drewN | apply Kd.R_drew)); exact Kd.R_mono HO299.out (fun _ hk => trivial)⟩, ⟨bkt_ BK289⟩, ⟨bkt_ BK290⟩, ⟨bls_⟩⟩
    case round =>
     clear H'
     try clear c1
     try clear c2
     try clear p2
     try clear c3
     try clear c8
     try clear c11
     try clear c11b0
     try clear c11b1
     try clear c12
     try clear c15
     try clear c17
     try clear c19
     try clear hcz13_0
     try clear hcz13_1
     try clear hcz13_2
     try clear hcz13_3
     try clear hcz16_0
     try clear hcz16_1
     try clear hcz16_2
     try clear hcz16_3
     try clear hcz20_0
     try clear hcz20_1
     try clear hcz20_2
     try clear hcz20_3
     try clear hcz9_0
     try clear hcz9_1
     try clear hcz9_2
     try clear hcz9_3
     try clear hcz9_4
     try clear hcz9_5
     try clear hfz13_0
     try clear hfz13_1
     try clear hfz13_2
     try clear hfz13_3
     try clear hfz16_0
     try clear hfz16_1
     try clear hfz16_2
     try clear hfz16_3
     try clear hfz20_0
     try clear hfz20_1
     try clear hfz20_2
     try clear hfz20_3
     try clear hfz9_0
     try clear hfz9_1
     try clear hfz9_2
     try clear hfz9_3
     try clear hfz9_4
     try clear hfz9_5
     try clear p2
     obtain ⟨x10_2, x11_2, rfl, rfl, HA, HK2, HO_9, BK289, BK290, HB⟩ := hrel
     cases gk with
     | zero => exact absurd HA.out (by simp [spileref30_right.l0])
     | succ k2 =>
      have H := HA.out
      clear HA
      simp only [spileref30_right.l0] at H
      by_cases c24 : x11_2 < (t297.length : Int)
      ·rw [if_pos c24] at H
       have c24b0 : decide (x11_2 < (t297.length : Int)) = true := decide_eq_true c24
       clear c24
       by_cases c25 : 0 ≤ x11_2
       ·rw [if_pos c25] at H
        have c25b0 : decide (0 ≤ x11_2) = true := decide_eq_true c25
        clear c25
        by_cases c26 : x11_2 < (l2_0.length : Int)
        ·rw [if_pos c26] at H
         have c26b0 : decide (x11_2 < (l2_0.length : Int)) = true := decide_eq_true c26
         clear c26
         by_cases c27 : (rd l2_0 x11_2) < (rd t297 x11_2)
         ·rw [if_pos c27] at H
          have c27b0 : decide ((rd l2_0 x11_2) < (rd t297 x11_2)) = true := decide_eq_true c27
          clear c27
          obtain rfl := Option.some.inj H
          obtain ⟨Ao28, co28, eo28⟩ := Kd.R_slice HO_9.out
          subst eo28
          have hnb29 := NB290_289.out
          have hnc29 := NB289_290.out
          obtain ⟨hcz30_0, hcz30_1, hcz30_2, hcz30_3⟩ := bc4_ BK290
          obtain ⟨hfz30_0, hfz30_1, hfz30_2, hfz30_3⟩ := bf4_ BK290
          have p300 : 0 ≤ (x11_2 : Int) := of_decide_eq_true as_
          have q300 : x11_2 < (l2_0.length : Int) := of_decide_eq_true as_
          obtain ⟨ad300, e300, hx300_0⟩ := Kd.at_int HR2_0.out x11_2 p300 q300
          cases e300
          replace hx300_0 := (HB.out.cell (World.block_lt_of_cell? w _ hx300_0)).trans hx300_0
          replace p300 := eq_true p300
          replace q300 := eq_true q300
          have p301 : 0 ≤ (x11_2 : Int) := of_decide_eq_true as_
          have q301 : x11_2 < (t297.length : Int) := of_decide_eq_true as_
          obtain ⟨ad301, e301, hx301_0⟩ := Kd.at_int (Kd.R_reads' HO_9.out).2.2 x11_2 p301 q301
          cases e301
          replace p301 := eq_true p301
          replace q301 := eq_true q301
          go_wp2
          repeat (go_quiet (fail); try go_wp2)
          go_ret
          exact ⟨fin_, bls_⟩
         ·rw [if_neg c27] at H
          have c27b0 : decide ((rd l2_0 x11_2) < (rd t297 x11_2)) = false := decide_eq_false c27
          clear c27
          by_cases c31 : x11_2 < (l1_1.length : Int)
          ·rw [if_pos c31] at H
           have c31b0 : decide (x11_2 < (l1_1.length : Int)) = true := decide_eq_true c31
           clear c31
           have H' := Aside0.mk H
           clear H
           obtain ⟨Ao32, co32, eo32⟩ := Kd.R_slice HO_9.out
           subst eo32
           have hnb33 := NB290_289.out
           have hnc33 := NB289_290.out
           obtain ⟨hcz34_0, hcz34_1, hcz34_2, hcz34_3⟩ := bc4_ BK290
           obtain ⟨hfz34_0, hfz34_1, hfz34_2, hfz34_3⟩ := bf4_ BK290
           have p300 : 0 ≤ (x11_2 : Int) := of_decide_eq_true as_
           have q300 : x11_2 < (l2_0.length : Int) := of_decide_eq_true as_
           obtain ⟨ad300, e300, hx300_0⟩ := Kd.at_int HR2_0.out x11_2 p300 q300
           cases e300
           replace hx300_0 := (HB.out.cell (World.block_lt_of_cell? w _ hx300_0)).trans hx300_0
           replace p300 := eq_true p300
           replace q300 := eq_true q300
           have p301 : 0 ≤ (x11_2 : Int) := of_decide_eq_true as_
           have q301 : x11_2 < (t297.length : Int) := of_decide_eq_true as_
           obtain ⟨ad301, e301, hx301_0⟩ := Kd.at_int (Kd.R_reads' HO_9.out).2.2 x11_2 p301 q301
           cases e301
           replace p301 := eq_true p301
           replace q301 := eq_true q301
           have p302 : 0 ≤ (x11_2 : Int) := of_decide_eq_true as_
           have q302 : x11_2 < (l2_0.length : Int) := of_decide_eq_true as_
           obtain ⟨ad302, e302, hx302_0⟩ := Kd.at_int HR2_0.out x11_2 p302 q302
           obtain rfl : ad300 = ad302 := (by injection e302)
           replace hx302_0 := (HB.out.cell (World.block_lt_of_cell? w _ hx302_0)).trans hx302_0
           replace p302 := eq_true p302
           replace q302 := eq_true q302
           obtain ⟨hcz35_0, hcz35_1, hcz35_2, hcz35_3, hcz35_4, hcz35_5⟩ := bc6_ BK289
           obtain ⟨hfz35_0, hfz35_1, hfz35_2, hfz35_3, hfz35_4, hfz35_5⟩ := bf6_ BK289
           have p303 : 0 ≤ (x11_2 : Int) := of_decide_eq_true as_
           have q303 : x11_2 < (l1_1.length : Int) := of_decide_eq_true as_
           obtain ⟨ad303, e303, hx303_0⟩ := Kd.at_int HR1_1.out x11_2 p303 q303
           cases e303
           replace hx303_0 := (HB.out.cell (World.block_lt_of_cell? w _ hx303_0)).trans hx303_0
           replace p303 := eq_true p303
           replace q303 := eq_true q303
           go_wp2
           repeat (go_quiet (fail); try go_wp2)
           go_roundg k2
           case measure => have := HJ4.out; have := HK2.out; omega
           case rel => exact ⟨(wrap64 (x10_2 + (wrap64 ((rd l2_0 x11_2) * (rd l1_1 x11_2))))), (wrap64 (x11_2 + 1)), sm_, sm_, H', ⟨by have := HJ4.out; have := HK2.out; omega⟩, ⟨by (with_reducible repeat (first | apply Kd.R_alloc | apply Kd.R_drewN | apply Kd.R_drew)); exact HO_9.out⟩, ⟨bkt_ BK289⟩, ⟨bkt_ BK290⟩, ⟨bls_⟩⟩
          ·rw [if_neg c31] at H
           exact absurd H (by simp)
        ·rw [if_neg c26] at H
         exact absurd H (by simp)
       ·rw [if_neg c25] at H
        exact absurd H (by simp)
      ·rw [if_neg c24] at H
       have c24b0 : decide (x11_2 < (t297.length : Int)) = false := decide_eq_false c24
       clear c24
       obtain rfl := Option.some.inj H
       obtain ⟨Ao36, co36, eo36⟩ := Kd.R_slice HO_9.out
       subst eo36
       have hnb37 := NB290_289.out
       have hnc37 := NB289_290.out
       obtain ⟨hcz38_0, hcz38_1, hcz38_2, hcz38_3⟩ := bc4_ BK290
       obtain ⟨hfz38_0, hfz38_1, hfz38_2, hfz38_3⟩ := bf4_ BK290
       obtain ⟨hcz39_0, hcz39_1, hcz39_2, hcz39_3, hcz39_4, hcz39_5⟩ := bc6_ BK289
       obtain ⟨hfz39_0, hfz39_1, hfz39_2, hfz39_3, hfz39_4, hfz39_5⟩ := bf6_ BK289
       go_wp2
       repeat (go_quiet (fail); try go_wp2)
       go_ret
       exact ⟨fin_, bls_⟩

-- NOT PRINTED: function 14 (spileref30_Refuse)

/-! ### spileref30_Same: function 16 -/
mutual
def spileref30_Same.j0 : Nat → Bool → List Int → Int → Int → Int → List Int → Int → Int → Int → Option (Bool)
 | 0, _, _, _, _, _, _, _, _, _ => none
 | k + 1, x33, x327000, x327001, x327002, x327003, x328000, x328001, x328002, x328003 => if x33 = true then (some false) else (spileref30_Same.l0 k 0 x327000 x327001 x327002 x327003 x328000 x328001 x328002 x328003)
def spileref30_Same.l0 : Nat → Int → List Int → Int → Int → Int → List Int → Int → Int → Int → Option (Bool)
 | 0, _, _, _, _, _, _, _, _, _ => none
 | k + 1, x5, x327000, x327001, x327002, x327003, x328000, x328001, x328002, x328003 => if x5 < (x327000.length : Int) then (if 0 ≤ x5 then (if x5 < (x328000.length : Int) then (if (rd x327000 x5) = (rd x328000 x5) then (spileref30_Same.l0 k (wrap64 (x5 + 1)) x327000 x327001 x327002 x327003 x328000 x328001 x328002 x328003) else (some false)) else (none)) else (none)) else (some true)
end
def spileref30_Same.f (k : Nat) (l0_0 : List Int) (a0_1 : Int) (a0_2 : Int) (a0_3 : Int) (l1_0 : List Int) (a1_1 : Int) (a1_2 : Int) (a1_3 : Int) : Option (Bool) := if (l0_0.length : Int) = (l1_0.length : Int) then (if a0_1 = a1_1 then (if a0_2 = a1_2 then (spileref30_Same.j0 k (a0_3 != a1_3) l0_0 a0_1 a0_2 a0_3 l1_0 a1_1 a1_2 a1_3) else (spileref30_Same.j0 k true l0_0 a0_1 a0_2 a0_3 l1_0 a1_1 a1_2 a1_3)) else (spileref30_Same.j0 k true l0_0 a0_1 a0_2 a0_3 l1_0 a1_1 a1_2 a1_3)) else (spileref30_Same.j0 k true l0_0 a0_1 a0_2 a0_3 l1_0 a1_1 a1_2 a1_3)
theorem spileref30_Same.mono_l : ∀ k, (∀ y0 y1 y2 y3 y4 y5 y6 y7 y8, LeO (spileref30_Same.j0 k y0 y1 y2 y3 y4 y5 y6 y7 y8) (spileref30_Same.j0 (k + 1) y0 y1 y2 y3 y4 y5 y6 y7 y8)) ∧ (∀ y0 y1 y2 y3 y4 y5 y6 y7 y8, LeO (spileref30_Same.l0 k y0 y1 y2 y3 y4 y5 y6 y7 y8) (spileref30_Same.l0 (k + 1) y0 y1 y2 y3 y4 y5 y6 y7 y8))
 | 0 => ⟨fun _ _ _ _ _ _ _ _ _ r h => by simp [spileref30_Same.j0] at h, fun _ _ _ _ _ _ _ _ _ r h => by simp [spileref30_Same.l0] at h⟩
 | k + 1 => by
  obtain ⟨ih0, ih1⟩ := spileref30_Same.mono_l k
  refine ⟨?_, ?_⟩
  ·intro y0 y1 y2 y3 y4 y5 y6 y7 y8
   unfold spileref30_Same.j0
   repeat' first
   | (with_reducible exact ih0 _ _ _ _ _ _ _ _ _)
   | (with_reducible exact ih1 _ _ _ _ _ _ _ _ _)
   | (with_reducible exact LeO.refl _)
   | (with_reducible exact LeO.none _)
   | (with_reducible refine LeO.ite ?_ ?_)
   | (with_reducible refine LeO.bind ?_ (fun _ => ?_))
   | exact ih0 _ _ _ _ _ _ _ _ _
   | exact ih1 _ _ _ _ _ _ _ _ _
   | exact LeO.none _
   | refine LeO.ite ?_ ?_
   | refine LeO.bind ?_ (fun _ => ?_)
  ·intro y0 y1 y2 y3 y4 y5 y6 y7 y8
   unfold spileref30_Same.l0
   repeat' first
   | (with_reducible exact ih0 _ _ _ _ _ _ _ _ _)
   | (with_reducible exact ih1 _ _ _ _ _ _ _ _ _)
   | (with_reducible exact LeO.refl _)
   | (with_reducible exact LeO.none _)
   | (with_reducible refine LeO.ite ?_ ?_)
   | (with_reducible refine LeO.bind ?_ (fun _ => ?_))
   | exact ih0 _ _ _ _ _ _ _ _ _
   | exact ih1 _ _ _ _ _ _ _ _ _
   | exact LeO.none _
   | refine LeO.ite ?_ ?_
   | refine LeO.bind ?_ (fun _ => ?_)
theorem spileref30_Same.mono : ∀ a0 a1 a2 a3 a4 a5 a6 a7 k, LeO (spileref30_Same.f k a0 a1 a2 a3 a4 a5 a6 a7) (spileref30_Same.f (k + 1) a0 a1 a2 a3 a4 a5 a6 a7) := by
 intro a0 a1 a2 a3 a4 a5 a6 a7 k
 obtain ⟨ih0, ih1⟩ := spileref30_Same.mono_l k
 unfold spileref30_Same.f
 repeat' first
   | (with_reducible exact ih0 _ _ _ _ _ _ _ _ _)
   | (with_reducible exact ih1 _ _ _ _ _ _ _ _ _)
   | (with_reducible exact LeO.refl _)
   | (with_reducible exact LeO.none _)
   | (with_reducible refine LeO.ite ?_ ?_)
   | (with_reducible refine LeO.bind ?_ (fun _ => ?_))
   | exact ih0 _ _ _ _ _ _ _ _ _
   | exact ih1 _ _ _ _ _ _ _ _ _
   | exact LeO.none _
   | refine LeO.ite ?_ ?_
   | refine LeO.bind ?_ (fun _ => ?_)
set_option maxHeartbeats 8000000 in
set_option maxRecDepth 100000 in
theorem spileref30_Same.calls (k : Nat) (A0_0 : Option Addr) (c0_0 : Nat) (l0_0 : List Int) (a0_1 : Int) (a0_2 : Int) (a0_3 : Int) (A1_0 : Option Addr) (c1_0 : Nat) (l1_0 : List Int) (a1_1 : Int) (a1_2 : Int) (a1_3 : Int) (r : Bool) (w : World) (hr0_0 : Kd.C (Kd.int .i64) w A0_0 l0_0.length l0_0) (hc0_0 : l0_0.length ≤ c0_0) (hr1_0 : Kd.C (Kd.int .i64) w A1_0 l1_0.length l1_0) (hc1_0 : l1_0.length ≤ c1_0) (h : spileref30_Same.f k l0_0 a0_1 a0_2 a0_3 l1_0 a1_1 a1_2 a1_3 = some r) :
  Calls Tryd.prog 16 #[.agg #[.slice A0_0 l0_0.length c0_0, .int .i64 a0_1, .int .i64 a0_2, .int .i64 a0_3], .agg #[.slice A1_0 l1_0.length c1_0, .int .i64 a1_1, .int .i64 a1_2, .int .i64 a1_3]] w fun e w' => e = .returned (.bool r) ∧ Below w.heap.size w w' := by
 have hu30 := Tryd.underlying30
 have HR0_0 := Aside0.mk hr0_0
 have HC0_0 := Aside0.mk hc0_0
 clear hr0_0 hc0_0
 have HR1_0 := Aside0.mk hr1_0
 have HC1_0 := Aside0.mk hc1_0
 clear hr1_0 hc1_0
 have HB := Aside0.mk (Below.refl w.heap.size w)
 have H : (if (l0_0.length : Int) = (l1_0.length : Int) then (if a0_1 = a1_1 then (if a0_2 = a1_2 then (spileref30_Same.j0 k (a0_3 != a1_3) l0_0 a0_1 a0_2 a0_3 l1_0 a1_1 a1_2 a1_3) else (spileref30_Same.j0 k true l0_0 a0_1 a0_2 a0_3 l1_0 a1_1 a1_2 a1_3)) else (spileref30_Same.j0 k true l0_0 a0_1 a0_2 a0_3 l1_0 a1_1 a1_2 a1_3)) else (spileref30_Same.j0 k true l0_0 a0_1 a0_2 a0_3 l1_0 a1_1 a1_2 a1_3)) = some r := h
 clear h
 have HC3 := Aside0.mk H
 clear H
 go_enter Tryd.func16, Tryd.ntmps16
 go_upto_region 1 with (first | ((with_reducible refine gate_dst (N := 2) rfl ?_); refine be_ (N := 2) (cs := #[.slice A0_0 l0_0.length c0_0, .int .i64 a0_1, .int .i64 a0_2, .int .i64 a0_3]) (t := 30) ?_; intro gb326 hg w4 hbox hb; have n0_ := Aside0.mk (below_step bl_ hb); have n1_ := Aside0.mk (hbox); have n2_ := Aside0.mk ((by rw [hg]; exact (below_size bl_) : w.heap.size ≤ gb326)); have n3_ := Aside0.mk ((by rw [hg]; exact (below_size bl_) : w.heap.size ≤ gb326)); clear HB; have HB := n0_; have BK326 := n1_; have GW326 := n2_; have GE326 := n3_; clear n0_ n1_ n2_ n3_; clear hb hbox hg) | ((with_reducible refine gate_dst (N := 3) rfl ?_); refine be_ (N := 3) (cs := #[.slice A1_0 l1_0.length c1_0, .int .i64 a1_1, .int .i64 a1_2, .int .i64 a1_3]) (t := 30) ?_; intro gb327 hg w5 hbox hb; have n0_ := Aside0.mk (blk_below (bkt_ BK326) hb); have n1_ := Aside0.mk (below_step bls_ hb); have n2_ := Aside0.mk (hbox); have n3_ := Aside0.mk ((by rw [hg]; exact (below_size bls_) : w.heap.size ≤ gb327)); have n4_ := Aside0.mk ((by rw [hg]; exact (below_size bls_) : w.heap.size ≤ gb327)); have n5_ := Aside0.mk ((by rw [hg]; exact Nat.ne_of_lt (blk_lt (bkt_ BK326)) : gb326 ≠ gb327)); have n6_ := Aside0.mk ((by rw [hg]; exact Nat.ne_of_gt (blk_lt (bkt_ BK326)) : gb327 ≠ gb326)); clear BK326; clear HB; have BK326 := n0_; have HB := n1_; have BK327 := n2_; have GW327 := n3_; have GE327 := n4_; have NB326_327 := n5_; have NB327_326 := n6_; clear n0_ n1_ n2_ n3_ n4_ n5_ n6_; clear hb hbox hg))
 repeat (go_quiet (first | ((with_reducible refine gate_dst (N := 2) rfl ?_); refine be_ (N := 2) (cs := #[.slice A0_0 l0_0.length c0_0, .int .i64 a0_1, .int .i64 a0_2, .int .i64 a0_3]) (t := 30) ?_; intro gb326 hg w4 hbox hb; have n0_ := Aside0.mk (below_step bl_ hb); have n1_ := Aside0.mk (hbox); have n2_ := Aside0.mk ((by rw [hg]; exact (below_size bl_) : w.heap.size ≤ gb326)); have n3_ := Aside0.mk ((by rw [hg]; exact (below_size bl_) : w.heap.size ≤ gb326)); clear HB; have HB := n0_; have BK326 := n1_; have GW326 := n2_; have GE326 := n3_; clear n0_ n1_ n2_ n3_; clear hb hbox hg) | ((with_reducible refine gate_dst (N := 3) rfl ?_); refine be_ (N := 3) (cs := #[.slice A1_0 l1_0.length c1_0, .int .i64 a1_1, .int .i64 a1_2, .int .i64 a1_3]) (t := 30) ?_; intro gb327 hg w5 hbox hb; have n0_ := Aside0.mk (blk_below (bkt_ BK326) hb); have n1_ := Aside0.mk (below_step bls_ hb); have n2_ := Aside0.mk (hbox); have n3_ := Aside0.mk ((by rw [hg]; exact (below_size bls_) : w.heap.size ≤ gb327)); have n4_ := Aside0.mk ((by rw [hg]; exact (below_size bls_) : w.heap.size ≤ gb327)); have n5_ := Aside0.mk ((by rw [hg]; exact Nat.ne_of_lt (blk_lt (bkt_ BK326)) : gb326 ≠ gb327)); have n6_ := Aside0.mk ((by rw [hg]; exact Nat.ne_of_gt (blk_lt (bkt_ BK326)) : gb327 ≠ gb326)); clear BK326; clear HB; have BK326 := n0_; have HB := n1_; have BK327 := n2_; have GW327 := n3_; have GE327 := n4_; have NB326_327 := n5_; have NB327_326 := n6_; clear n0_ n1_ n2_ n3_ n4_ n5_ n6_; clear hb hbox hg)); go_upto_region 1 with (first | ((with_reducible refine gate_dst (N := 2) rfl ?_); refine be_ (N := 2) (cs := #[.slice A0_0 l0_0.length c0_0, .int .i64 a0_1, .int .i64 a0_2, .int .i64 a0_3]) (t := 30) ?_; intro gb326 hg w4 hbox hb; have n0_ := Aside0.mk (below_step bl_ hb); have n1_ := Aside0.mk (hbox); have n2_ := Aside0.mk ((by rw [hg]; exact (below_size bl_) : w.heap.size ≤ gb326)); have n3_ := Aside0.mk ((by rw [hg]; exact (below_size bl_) : w.heap.size ≤ gb326)); clear HB; have HB := n0_; have BK326 := n1_; have GW326 := n2_; have GE326 := n3_; clear n0_ n1_ n2_ n3_; clear hb hbox hg) | ((with_reducible refine gate_dst (N := 3) rfl ?_); refine be_ (N := 3) (cs := #[.slice A1_0 l1_0.length c1_0, .int .i64 a1_1, .int .i64 a1_2, .int .i64 a1_3]) (t := 30) ?_; intro gb327 hg w5 hbox hb; have n0_ := Aside0.mk (blk_below (bkt_ BK326) hb); have n1_ := Aside0.mk (below_step bls_ hb); have n2_ := Aside0.mk (hbox); have n3_ := Aside0.mk ((by rw [hg]; exact (below_size bls_) : w.heap.size ≤ gb327)); have n4_ := Aside0.mk ((by rw [hg]; exact (below_size bls_) : w.heap.size ≤ gb327)); have n5_ := Aside0.mk ((by rw [hg]; exact Nat.ne_of_lt (blk_lt (bkt_ BK326)) : gb326 ≠ gb327)); have n6_ := Aside0.mk ((by rw [hg]; exact Nat.ne_of_gt (blk_lt (bkt_ BK326)) : gb327 ≠ gb326)); clear BK326; clear HB; have BK326 := n0_; have HB := n1_; have BK327 := n2_; have GW327 := n3_; have GE327 := n4_; have NB326_327 := n5_; have NB327_326 := n6_; clear n0_ n1_ n2_ n3_ n4_ n5_ n6_; clear hb hbox hg)))
 (try simp only [Act.put, List.setIfInBounds_toArray, List.set_cons_zero, List.set_cons_succ])
 go_cut [33] (fun v33 wc => ∃ (kq : Nat) (x33_2 : Bool), v33 = .bool x33_2 ∧ Aside0 (spileref30_Same.j0 kq x33_2 l0_0 a0_1 a0_2 a0_3 l1_0 a1_1 a1_2 a1_3 = some r) ∧ Aside0 (kq ≤ k) ∧ Aside0 (wc.heap[gb326]? = some (.cells #[(.slice A0_0 l0_0.length c0_0), .int .i64 a0_1, .int .i64 a0_2, .int .i64 a0_3] 30 (0, 0))) ∧ Aside0 (wc.heap[gb327]? = some (.cells #[(.slice A1_0 l1_0.length c1_0), .int .i64 a1_1, .int .i64 a1_2, .int .i64 a1_3] 30 (0, 0))) ∧ Aside0 (Below w.heap.size w wc))
 case first =>
  have H := HC3.out
  clear HC3
  by_cases c6 : (l0_0.length : Int) = (l1_0.length : Int)
  ·rw [if_pos c6] at H
   have c6b0 : ((l0_0.length : Int) == (l1_0.length : Int)) = true := beq_iff_eq.mpr c6
   have c6b1 : ((l0_0.length : Int) != (l1_0.length : Int)) = false := bne_eq_false_iff_eq.mpr c6
   have c6b2 : (l0_0.length == l1_0.length) = true := by first | simpa using c6 | (simp at c6 ⊢; omega)
   clear c6
   (first | rw [c6b0] | (simp only [i64_w, i32_w]; rw [c6b0]) | skip)
   by_cases c7 : a0_1 = a1_1
   ·rw [if_pos c7] at H
    have c7b0 : (a0_1 == a1_1) = true := beq_iff_eq.mpr c7
    have c7b1 : (a0_1 != a1_1) = false := bne_eq_false_iff_eq.mpr c7
    clear c7
    by_cases c8 : a0_2 = a1_2
    ·rw [if_pos c8] at H
     have c8b0 : (a0_2 == a1_2) = true := beq_iff_eq.mpr c8
     have c8b1 : (a0_2 != a1_2) = false := bne_eq_false_iff_eq.mpr c8
     clear c8
     have H' := Aside0.mk H
     clear H
     have hnb9 := NB326_327.out
     have hnc9 := NB327_326.out
     obtain ⟨hcz10_0, hcz10_1, hcz10_2, hcz10_3⟩ := bc4_ BK326
     obtain ⟨hfz10_0, hfz10_1, hfz10_2, hfz10_3⟩ := bf4_ BK326
     obtain ⟨hcz11_0, hcz11_1, hcz11_2, hcz11_3⟩ := bc4_ BK327
     obtain ⟨hfz11_0, hfz11_1, hfz11_2, hfz11_3⟩ := bf4_ BK327
     go_wp2
     repeat (go_quiet (fail); try go_wp2)
     go_meet
     case rel => exact ⟨_, ((a0_3 != a1_3)), sm_, H', ⟨by first | omega | exact Nat.le_refl _⟩, ⟨bkt_ BK326⟩, ⟨bkt_ BK327⟩, ⟨bls_⟩⟩
    ·rw [if_neg c8] at H
     have c8b0 : (a0_2 == a1_2) = false := beq_eq_false_iff_ne.mpr c8
     have c8b1 : (a0_2 != a1_2) = true := bne_iff_ne.mpr c8
     have H' := Aside0.mk H
     clear H
     have hnb12 := NB326_327.out
     have hnc12 := NB327_326.out
     obtain ⟨hcz13_0, hcz13_1, hcz13_2, hcz13_3⟩ := bc4_ BK326
     obtain ⟨hfz13_0, hfz13_1, hfz13_2, hfz13_3⟩ := bf4_ BK326
     obtain ⟨hcz14_0, hcz14_1, hcz14_2, hcz14_3⟩ := bc4_ BK327
     obtain ⟨hfz14_0, hfz14_1, hfz14_2, hfz14_3⟩ := bf4_ BK327
     go_wp2
     repeat (go_quiet (fail); try go_wp2)
     go_meet
     case rel => exact ⟨_, (true), sm_, H', ⟨by first | omega | exact Nat.le_refl _⟩, ⟨bkt_ BK326⟩, ⟨bkt_ BK327⟩, ⟨bls_⟩⟩
   ·rw [if_neg c7] at H
    have c7b0 : (a0_1 == a1_1) = false := beq_eq_false_iff_ne.mpr c7
    have c7b1 : (a0_1 != a1_1) = true := bne_iff_ne.mpr c7
    have H' := Aside0.mk H
    clear H
    have hnb15 := NB326_327.out
    have hnc15 := NB327_326.out
    obtain ⟨hcz16_0, hcz16_1, hcz16_2, hcz16_3⟩ := bc4_ BK326
    obtain ⟨hfz16_0, hfz16_1, hfz16_2, hfz16_3⟩ := bf4_ BK326
    obtain ⟨hcz17_0, hcz17_1, hcz17_2, hcz17_3⟩ := bc4_ BK327
    obtain ⟨hfz17_0, hfz17_1, hfz17_2, hfz17_3⟩ := bf4_ BK327
    go_wp2
    repeat (go_quiet (fail); try go_wp2)
    go_meet
    case rel => exact ⟨_, (true), sm_, H', ⟨by first | omega | exact Nat.le_refl _⟩, ⟨bkt_ BK326⟩, ⟨bkt_ BK327⟩, ⟨bls_⟩⟩
  ·rw [if_neg c6] at H
   have c6b0 : ((l0_0.length : Int) == (l1_0.length : Int)) = false := beq_eq_false_iff_ne.mpr c6
   have c6b1 : ((l0_0.length : Int) != (l1_0.length : Int)) = true := bne_iff_ne.mpr c6
   have c6b2 : (l0_0.length == l1_0.length) = false := by first | simpa using c6 | (simp at c6 ⊢; omega)
   (first | rw [c6b0] | (simp only [i64_w, i32_w]; rw [c6b0]) | skip)
   have H' := Aside0.mk H
   clear H
   have hnb18 := NB326_327.out
   have hnc18 := NB327_326.out
   obtain ⟨hcz19_0, hcz19_1, hcz19_2, hcz19_3⟩ := bc4_ BK326
   obtain ⟨hfz19_0, hfz19_1, hfz19_2, hfz19_3⟩ := bf4_ BK326
   obtain ⟨hcz20_0, hcz20_1, hcz20_2, hcz20_3⟩ := bc4_ BK327
   obtain ⟨hfz20_0, hfz20_1, hfz20_2, hfz20_3⟩ := bf4_ BK327
   go_wp2
   repeat (go_quiet (fail); try go_wp2)
   go_meet
   case rel => exact ⟨_, (true), sm_, H', ⟨by first | omega | exact Nat.le_refl _⟩, ⟨bkt_ BK326⟩, ⟨bkt_ BK327⟩, ⟨bls_⟩⟩
 case rest =>
  clear HC3
  try clear c1
  try clear p2
  try clear c6
  try clear c6b0
  try clear c6b1
  try clear c6b2
  try clear c7
  try clear c7b0
  try clear c7b1
  try clear c8
  try clear c8b0
  try clear c8b1
  try clear c9
  try clear c12
  try clear c15
  try clear c16
  try clear c18
  try clear hcz10_0
  try clear hcz10_1
  try clear hcz10_2
  try clear hcz10_3
  try clear hcz11_0
  try clear hcz11_1
  try clear hcz11_2
  try clear hcz11_3
  try clear hcz13_0
  try clear hcz13_1
  try clear hcz13_2
  try clear hcz13_3
  try clear hcz14_0
  try clear hcz14_1
  try clear hcz14_2
  try clear hcz14_3
  try clear hcz16_0
  try clear hcz16_1
  try clear hcz16_2
  try clear hcz16_3
  try clear hcz17_0
  try clear hcz17_1
  try clear hcz17_2
  try clear hcz17_3
  try clear hcz19_0
  try clear hcz19_1
  try clear hcz19_2
  try clear hcz19_3
  try clear hcz20_0
  try clear hcz20_1
  try clear hcz20_2
  try clear hcz20_3
  try clear hfz10_0
  try clear hfz10_1
  try clear hfz10_2
  try clear hfz10_3
  try clear hfz11_0
  try clear hfz11_1
  try clear hfz11_2
  try clear hfz11_3
  try clear hfz13_0
  try clear hfz13_1
  try clear hfz13_2
  try clear hfz13_3
  try clear hfz14_0
  try clear hfz14_1
  try clear hfz14_2
  try clear hfz14_3
  try clear hfz16_0
  try clear hfz16_1
  try clear hfz16_2
  try clear hfz16_3
  try clear hfz17_0
  try clear hfz17_1
  try clear hfz17_2
  try clear hfz17_3
  try clear hfz19_0
  try clear hfz19_1
  try clear hfz19_2
  try clear hfz19_3
  try clear hfz20_0
  try clear hfz20_1
  try clear hfz20_2
  try clear hfz20_3
  obtain ⟨kq, x33_2, rfl, HA, HJ2, BK326, BK327, HB⟩ := hcut
  cases kq with
  | zero => exact absurd HA.out (by simp [spileref30_Same.j0])
  | succ kj2 =>
   have H := HA.out
   clear HA
   simp only [spileref30_Same.j0] at H
   by_cases c21 : x33_2 = true
   ·subst c21
    have H1 : (some false) = some r := by rw [if_pos rfl] at H; exact H
    clear H
    have H := H1
    clear H1
    obtain rfl := Option.some.inj H
    go_wp2
    repeat (go_quiet (fail); try go_wp2)
    go_ret
    exact ⟨fin_, bls_⟩
   ·replace c21 := Bool.eq_false_iff.mpr c21
    subst c21
    have H1 : (spileref30_Same.l0 kj2 0 l0_0 a0_1 a0_2 a0_3 l1_0 a1_1 a1_2 a1_3) = some r := by rw [if_neg (show ¬ (false = true) by decide)] at H; exact H
    clear H
    have H := H1
    clear H1
    have H' := Aside0.mk H
    clear H
    go_wp2
    repeat (go_quiet (fail); try go_wp2)
    go_loopg [5] kj2 (fun kq v5 w' => ∃ (x5_2 : Int), v5 = .int .i64 x5_2 ∧ Aside0 (spileref30_Same.l0 kq x5_2 l0_0 a0_1 a0_2 a0_3 l1_0 a1_1 a1_2 a1_3 = some r) ∧ Aside0 (kq ≤ kj2) ∧ Aside0 (w'.heap[gb326]? = some (.cells #[(.slice A0_0 l0_0.length c0_0), .int .i64 a0_1, .int .i64 a0_2, .int .i64 a0_3] 30 (0, 0))) ∧ Aside0 (w'.heap[gb327]? = some (.cells #[(.slice A1_0 l1_0.length c1_0), .int .i64 a1_1, .int .i64 a1_2, .int .i64 a1_3] 30 (0, 0))) ∧ Aside0 (Below w.heap.size w w'))
    case atStart => exact ⟨(0), sm_, H', ⟨Nat.le_refl _⟩, ⟨bkt_ BK326⟩, ⟨bkt_ BK327⟩, ⟨bls_⟩⟩
    case round =>
     clear H'
     try clear c1
     try clear c2
     try clear p2
     try clear c6
     try clear c6b0
     try clear c6b1
     try clear c6b2
     try clear c7
     try clear c7b0
     try clear c7b1
     try clear c8
     try clear c8b0
     try clear c8b1
     try clear c9
     try clear c12
     try clear c15
     try clear c16
     try clear c18
     try clear c21
     try clear hcz10_0
     try clear hcz10_1
     try clear hcz10_2
     try clear hcz10_3
     try clear hcz11_0
     try clear hcz11_1
     try clear hcz11_2
     try clear hcz11_3
     try clear hcz13_0
     try clear hcz13_1
     try clear hcz13_2
     try clear hcz13_3
     try clear hcz14_0
     try clear hcz14_1
     try clear hcz14_2
     try clear hcz14_3
     try clear hcz16_0
     try clear hcz16_1
     try clear hcz16_2
     try clear hcz16_3
     try clear hcz17_0
     try clear hcz17_1
     try clear hcz17_2
     try clear hcz17_3
     try clear hcz19_0
     try clear hcz19_1
     try clear hcz19_2
     try clear hcz19_3
     try clear hcz20_0
     try clear hcz20_1
     try clear hcz20_2
     try clear hcz20_3
     try clear hfz10_0
     try clear hfz10_1
     try clear hfz10_2
     try clear hfz10_3
     try clear hfz11_0
     try clear hfz11_1
     try clear hfz11_2
     try clear hfz11_3
     try clear hfz13_0
     try clear hfz13_1
     try clear hfz13_2
     try clear hfz13_3
     try clear hfz14_0
     try clear hfz14_1
     try clear hfz14_2
     try clear hfz14_3
     try clear hfz16_0
     try clear hfz16_1
     try clear hfz16_2
     try clear hfz16_3
     try clear hfz17_0
     try clear hfz17_1
     try clear hfz17_2
     try clear hfz17_3
     try clear hfz19_0
     try clear hfz19_1
     try clear hfz19_2
     try clear hfz19_3
     try clear hfz20_0
     try clear hfz20_1
     try clear hfz20_2
     try clear hfz20_3
     try clear p2
     obtain ⟨x5_2, rfl, HA, HK2, BK326, BK327, HB⟩ := hrel
     cases gk with
     | zero => exact absurd HA.out (by simp [spileref30_Same.l0])
     | succ k2 =>
      have H := HA.out
      clear HA
      simp only [spileref30_Same.l0] at H
      by_cases c22 : x5_2 < (l0_0.length : Int)
      ·rw [if_pos c22] at H
       have c22b0 : decide (x5_2 < (l0_0.length : Int)) = true := decide_eq_true c22
       clear c22
       by_cases c23 : 0 ≤ x5_2
       ·rw [if_pos c23] at H
        have c23b0 : decide (0 ≤ x5_2) = true := decide_eq_true c23
        clear c23
        by_cases c24 : x5_2 < (l1_0.length : Int)
        ·rw [if_pos c24] at H
         have c24b0 : decide (x5_2 < (l1_0.length : Int)) = true := decide_eq_true c24
         clear c24
         by_cases c25 : (rd l0_0 x5_2) = (rd l1_0 x5_2)
         ·rw [if_pos c25] at H
          have c25b0 : ((rd l0_0 x5_2) == (rd l1_0 x5_2)) = true := beq_iff_eq.mpr c25
          have c25b1 : ((rd l0_0 x5_2) != (rd l1_0 x5_2)) = false := bne_eq_false_iff_eq.mpr c25
          clear c25
          have H' := Aside0.mk H
          clear H
          have hnb26 := NB326_327.out
          have hnc26 := NB327_326.out
          obtain ⟨hcz27_0, hcz27_1, hcz27_2, hcz27_3⟩ := bc4_ BK326
          obtain ⟨hfz27_0, hfz27_1, hfz27_2, hfz27_3⟩ := bf4_ BK326
          have p328 : 0 ≤ (x5_2 : Int) := of_decide_eq_true as_
          have q328 : x5_2 < (l0_0.length : Int) := of_decide_eq_true as_
          obtain ⟨ad328, e328, hx328_0⟩ := Kd.at_int HR0_0.out x5_2 p328 q328
          cases e328
          replace hx328_0 := (HB.out.cell (World.block_lt_of_cell? w _ hx328_0)).trans hx328_0
          replace p328 := eq_true p328
          replace q328 := eq_true q328
          obtain ⟨hcz28_0, hcz28_1, hcz28_2, hcz28_3⟩ := bc4_ BK327
          obtain ⟨hfz28_0, hfz28_1, hfz28_2, hfz28_3⟩ := bf4_ BK327
          have p329 : 0 ≤ (x5_2 : Int) := of_decide_eq_true as_
          have q329 : x5_2 < (l1_0.length : Int) := of_decide_eq_true as_
          obtain ⟨ad329, e329, hx329_0⟩ := Kd.at_int HR1_0.out x5_2 p329 q329
          cases e329
          replace hx329_0 := (HB.out.cell (World.block_lt_of_cell? w _ hx329_0)).trans hx329_0
          replace p329 := eq_true p329
          replace q329 := eq_true q329
          go_wp2
          repeat (go_quiet (fail); try go_wp2)
          go_roundg k2
          case measure => have := HJ2.out; have := HK2.out; omega
          case rel => exact ⟨(wrap64 (x5_2 + 1)), sm_, H', ⟨by have := HJ2.out; have := HK2.out; omega⟩, ⟨bkt_ BK326⟩, ⟨bkt_ BK327⟩, ⟨bls_⟩⟩
         ·rw [if_neg c25] at H
          have c25b0 : ((rd l0_0 x5_2) == (rd l1_0 x5_2)) = false := beq_eq_false_iff_ne.mpr c25
          have c25b1 : ((rd l0_0 x5_2) != (rd l1_0 x5_2)) = true := bne_iff_ne.mpr c25
          obtain rfl := Option.some.inj H
          have hnb29 := NB326_327.out
          have hnc29 := NB327_326.out
          obtain ⟨hcz30_0, hcz30_1, hcz30_2, hcz30_3⟩ := bc4_ BK326
          obtain ⟨hfz30_0, hfz30_1, hfz30_2, hfz30_3⟩ := bf4_ BK326
          have p328 : 0 ≤ (x5_2 : Int) := of_decide_eq_true as_
          have q328 : x5_2 < (l0_0.length : Int) := of_decide_eq_true as_
          obtain ⟨ad328, e328, hx328_0⟩ := Kd.at_int HR0_0.out x5_2 p328 q328
          cases e328
          replace hx328_0 := (HB.out.cell (World.block_lt_of_cell? w _ hx328_0)).trans hx328_0
          replace p328 := eq_true p328
          replace q328 := eq_true q328
          obtain ⟨hcz31_0, hcz31_1, hcz31_2, hcz31_3⟩ := bc4_ BK327
          obtain ⟨hfz31_0, hfz31_1, hfz31_2, hfz31_3⟩ := bf4_ BK327
          have p329 : 0 ≤ (x5_2 : Int) := of_decide_eq_true as_
          have q329 : x5_2 < (l1_0.length : Int) := of_decide_eq_true as_
          obtain ⟨ad329, e329, hx329_0⟩ := Kd.at_int HR1_0.out x5_2 p329 q329
          cases e329
          replace hx329_0 := (HB.out.cell (World.block_lt_of_cell? w _ hx329_0)).trans hx329_0
          replace p329 := eq_true p329
          replace q329 := eq_true q329
          go_wp2
          repeat (go_quiet (fail); try go_wp2)
          go_ret
          exact ⟨fin_, bls_⟩
        ·rw [if_neg c24] at H
         exact absurd H (by simp)
       ·rw [if_neg c23] at H
        exact absurd H (by simp)
      ·rw [if_neg c22] at H
       have c22b0 : decide (x5_2 < (l0_0.length : Int)) = false := decide_eq_false c22
       clear c22
       obtain rfl := Option.some.inj H
       have hnb32 := NB326_327.out
       have hnc32 := NB327_326.out
       obtain ⟨hcz33_0, hcz33_1, hcz33_2, hcz33_3⟩ := bc4_ BK326
       obtain ⟨hfz33_0, hfz33_1, hfz33_2, hfz33_3⟩ := bf4_ BK326
       go_wp2
       repeat (go_quiet (fail); try go_wp2)
       go_ret
       exact ⟨fin_, bls_⟩

-- NOT PRINTED: function 3 (spilelaw30_RefusalFinds)

end Go.Proofs.YtcdkbciagchlgaaDoor.PF
