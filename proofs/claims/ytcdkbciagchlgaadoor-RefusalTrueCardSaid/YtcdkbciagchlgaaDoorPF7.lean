-- Written by a program of this session (wip/pr.py) out of Lean's print of the translation; Lean checks it.
import Derived.Test.YtcdkbciagchlgaaDoorPF0
import Derived.Test.YtcdkbciagchlgaaDoorPF1
import Derived.Test.YtcdkbciagchlgaaDoorPF6
namespace Go.Proofs.YtcdkbciagchlgaaDoor.PF
open Go.RowKit Go.Proofs.YtcdkbciagchlgaaDoorW.PrintWords Go.Proofs.YtcdkbciagchlgaaDoorW.PrintLast Go.Proofs.YtcdkbciagchlgaaDoorW.PrintMore
attribute [local go_sem] max2_int min2_int max_two min_two max_three min_three max_four min_four   
set_option linter.unusedVariables false
set_option linter.unusedSimpArgs false
def refusal_leasts.l0 : Nat → List Int → List Int → List Int → Int → Int → List Int → Int → Int → Int → Option (List Int)
 | 0, _, _, _, _, _, _, _, _, _ => none
 | k + 1, x0, x1, x7, x11, x12, x167000, x167001, x167002, x167003 => if x12 < x11 then (if 0 ≤ x12 then (if x12 < (x0.length : Int) then (if x167002 = 1 then (if x12 < (x1.length : Int) then (if x7.length < 17592186044416 then (refusal_leasts.l0 k x0 x1 (x7 ++ [wrap64 ((wrap64 ((wrap64 (x167001 * (rd x0 x12))) + x167003)) - (rd x1 x12))]) x11 (wrap64 (x12 + 1)) x167000 x167001 x167002 x167003) else (none)) else (none)) else (if x7.length < 17592186044416 then (refusal_leasts.l0 k x0 x1 (x7 ++ [wrap64 ((wrap64 (x167001 * (rd x0 x12))) + x167003)]) x11 (wrap64 (x12 + 1)) x167000 x167001 x167002 x167003) else (none))) else (none)) else (none)) else (some x7)
def refusal_leasts.f (k : Nat) (l0 : List Int) (l1 : List Int) (l2_0 : List Int) (a2_1 : Int) (a2_2 : Int) (a2_3 : Int) : Option (List Int) := refusal_leasts.l0 k l0 l1 ([] : List Int) (l0.length : Int) 0 l2_0 a2_1 a2_2 a2_3
theorem refusal_leasts.mono_l : ∀ k, (∀ y0 y1 y2 y3 y4 y5 y6 y7 y8, LeO (refusal_leasts.l0 k y0 y1 y2 y3 y4 y5 y6 y7 y8) (refusal_leasts.l0 (k + 1) y0 y1 y2 y3 y4 y5 y6 y7 y8))
 | 0 => fun _ _ _ _ _ _ _ _ _ r h => by simp [refusal_leasts.l0] at h
 | k + 1 => by
  have ih0 := refusal_leasts.mono_l k
  ·intro y0 y1 y2 y3 y4 y5 y6 y7 y8
   unfold refusal_leasts.l0
   repeat' first
   | (with_reducible exact ih0 _ _ _ _ _ _ _ _ _)
   | (with_reducible exact LeO.refl _)
   | (with_reducible exact LeO.none _)
   | (with_reducible refine LeO.ite ?_ ?_)
   | (with_reducible refine LeO.bind ?_ (fun _ => ?_))
   | exact ih0 _ _ _ _ _ _ _ _ _
   | exact LeO.none _
   | refine LeO.ite ?_ ?_
   | refine LeO.bind ?_ (fun _ => ?_)
theorem refusal_leasts.mono : ∀ a0 a1 a2 a3 a4 a5 k, LeO (refusal_leasts.f k a0 a1 a2 a3 a4 a5) (refusal_leasts.f (k + 1) a0 a1 a2 a3 a4 a5) := by
 intro a0 a1 a2 a3 a4 a5 k
 have ih0 := refusal_leasts.mono_l k
 unfold refusal_leasts.f
 repeat' first
   | (with_reducible exact ih0 _ _ _ _ _ _ _ _ _)
   | (with_reducible exact LeO.refl _)
   | (with_reducible exact LeO.none _)
   | (with_reducible refine LeO.ite ?_ ?_)
   | (with_reducible refine LeO.bind ?_ (fun _ => ?_))
   | exact ih0 _ _ _ _ _ _ _ _ _
   | exact LeO.none _
   | refine LeO.ite ?_ ?_
   | refine LeO.bind ?_ (fun _ => ?_)
set_option maxHeartbeats 8000000 in
set_option maxRecDepth 100000 in
theorem refusal_leasts.calls (k : Nat) (A0 : Option Addr) (c0 : Nat) (l0 : List Int) (A1 : Option Addr) (c1 : Nat) (l1 : List Int) (A2_0 : Option Addr) (c2_0 : Nat) (l2_0 : List Int) (a2_1 : Int) (a2_2 : Int) (a2_3 : Int) (r : List Int) (w : World) (hr0 : Kd.C (Kd.int .i64) w A0 l0.length l0) (hc0 : l0.length ≤ c0) (hr1 : Kd.C (Kd.int .i64) w A1 l1.length l1) (hc1 : l1.length ≤ c1) (hr2_0 : Kd.C (Kd.int .i64) w A2_0 l2_0.length l2_0) (hc2_0 : l2_0.length ≤ c2_0) (h : refusal_leasts.f k l0 l1 l2_0 a2_1 a2_2 a2_3 = some r) :
  Calls Tryd.prog 63 #[.slice A0 l0.length c0, .slice A1 l1.length c1, .agg #[.slice A2_0 l2_0.length c2_0, .int .i64 a2_1, .int .i64 a2_2, .int .i64 a2_3]] w fun e w' => ∃ v0_ : Value, e = .returned (v0_) ∧ Kd.R (Kd.int .i64) 3 w' w.heap.size (fun _ => True) v0_ r ∧ Below w.heap.size w w' := by
 have hu30 := Tryd.underlying30
 have HR0 := Aside0.mk hr0
 have HC0 := Aside0.mk hc0
 clear hr0 hc0
 have HR1 := Aside0.mk hr1
 have HC1 := Aside0.mk hc1
 clear hr1 hc1
 have HR2_0 := Aside0.mk hr2_0
 have HC2_0 := Aside0.mk hc2_0
 clear hr2_0 hc2_0
 have HB := Aside0.mk (Below.refl w.heap.size w)
 have H : (refusal_leasts.l0 k l0 l1 ([] : List Int) (l0.length : Int) 0 l2_0 a2_1 a2_2 a2_3) = some r := h
 clear h
 have H' := Aside0.mk H
 clear H
 go_enter Tryd.func63, Tryd.ntmps63
 go_wp2_with (first | ((with_reducible refine gate_dst (N := 5) rfl ?_); refine be_ (N := 5) (cs := #[.slice A2_0 l2_0.length c2_0, .int .i64 a2_1, .int .i64 a2_2, .int .i64 a2_3]) (t := 30) ?_; intro gb166 hg w4 hbox hb; have n0_ := Aside0.mk (below_step bl_ hb); have n1_ := Aside0.mk (hbox); have n2_ := Aside0.mk ((by rw [hg]; exact (below_size bl_) : w.heap.size ≤ gb166)); have n3_ := Aside0.mk ((by rw [hg]; exact (below_size bl_) : w.heap.size ≤ gb166)); clear HB; have HB := n0_; have BK166 := n1_; have GW166 := n2_; have GE166 := n3_; clear n0_ n1_ n2_ n3_; clear hb hbox hg))
 repeat (go_quiet (first | ((with_reducible refine gate_dst (N := 5) rfl ?_); refine be_ (N := 5) (cs := #[.slice A2_0 l2_0.length c2_0, .int .i64 a2_1, .int .i64 a2_2, .int .i64 a2_3]) (t := 30) ?_; intro gb166 hg w4 hbox hb; have n0_ := Aside0.mk (below_step bl_ hb); have n1_ := Aside0.mk (hbox); have n2_ := Aside0.mk ((by rw [hg]; exact (below_size bl_) : w.heap.size ≤ gb166)); have n3_ := Aside0.mk ((by rw [hg]; exact (below_size bl_) : w.heap.size ≤ gb166)); clear HB; have HB := n0_; have BK166 := n1_; have GW166 := n2_; have GE166 := n3_; clear n0_ n1_ n2_ n3_; clear hb hbox hg)); try go_wp2_with (first | ((with_reducible refine gate_dst (N := 5) rfl ?_); refine be_ (N := 5) (cs := #[.slice A2_0 l2_0.length c2_0, .int .i64 a2_1, .int .i64 a2_2, .int .i64 a2_3]) (t := 30) ?_; intro gb166 hg w4 hbox hb; have n0_ := Aside0.mk (below_step bl_ hb); have n1_ := Aside0.mk (hbox); have n2_ := Aside0.mk ((by rw [hg]; exact (below_size bl_) : w.heap.size ≤ gb166)); have n3_ := Aside0.mk ((by rw [hg]; exact (below_size bl_) : w.heap.size ≤ gb166)); clear HB; have HB := n0_; have BK166 := n1_; have GW166 := n2_; have GE166 := n3_; clear n0_ n1_ n2_ n3_; clear hb hbox hg)))
 go_loopg [7, 12] k (fun kq v7 v12 w' => ∃ (x7_1 : List Int) (x12_1 : Int), v12 = .int .i64 x12_1 ∧ Aside0 (refusal_leasts.l0 kq l0 l1 x7_1 (l0.length : Int) x12_1 l2_0 a2_1 a2_2 a2_3 = some r) ∧ Aside0 (kq ≤ k) ∧ Aside0 (Kd.R (Kd.int .i64) 3 w' w.heap.size (fun _ => True) v7 x7_1) ∧ Aside0 (w'.heap[gb166]? = some (.cells #[(.slice A2_0 l2_0.length c2_0), .int .i64 a2_1, .int .i64 a2_2, .int .i64 a2_3] 30 (0, 0))) ∧ Aside0 (Below w.heap.size w w'))
 case atStart => exact ⟨(([] : List Int)), (0), sm_, H', ⟨Nat.le_refl _⟩, ⟨by first | exact Kd.R_nil _ _ _ _ _ | exact Kd.N_nil _ _ _ _ _ | exact Kd.V_nil _ _ _ _ _ | exact Kd.Q_nil _ _ _ _ _ | exact Kd.S_nil _ _ _ _ _⟩, ⟨bkt_ BK166⟩, ⟨bls_⟩⟩
 case round =>
  clear H'
  try clear c1
  try clear c2
  try clear p2
  obtain ⟨x7_1, x12_1, rfl, HA, HK1, HO_7, BK166, HB⟩ := hrel
  cases gk with
  | zero => exact absurd HA.out (by simp [refusal_leasts.l0])
  | succ k1 =>
   have H := HA.out
   clear HA
   simp only [refusal_leasts.l0] at H
   by_cases c5 : x12_1 < (l0.length : Int)
   ·rw [if_pos c5] at H
    have c5b0 : decide (x12_1 < (l0.length : Int)) = true := decide_eq_true c5
    clear c5
    by_cases c6 : 0 ≤ x12_1
    ·rw [if_pos c6] at H
     have c6b0 : decide (0 ≤ x12_1) = true := decide_eq_true c6
     clear c6
     by_cases c7 : x12_1 < (l0.length : Int)
     ·rw [if_pos c7] at H
      have c7b0 : decide (x12_1 < (l0.length : Int)) = true := decide_eq_true c7
      clear c7
      by_cases c8 : a2_2 = 1
      ·rw [if_pos c8] at H
       have c8b0 : (a2_2 == 1) = true := beq_iff_eq.mpr c8
       have c8b1 : (a2_2 != 1) = false := bne_eq_false_iff_eq.mpr c8
       clear c8
       by_cases c9 : x12_1 < (l1.length : Int)
       ·rw [if_pos c9] at H
        have c9b0 : decide (x12_1 < (l1.length : Int)) = true := decide_eq_true c9
        clear c9
        by_cases c10 : x7_1.length < 17592186044416
        ·rw [if_pos c10] at H
         have LMc10 := Aside0.mk c10
         clear c10
         obtain ⟨y169, hy169⟩ : ∃ y_ : List Int, y_ = (x7_1 ++ [wrap64 ((wrap64 ((wrap64 (a2_1 * (rd l0 x12_1))) + a2_3)) - (rd l1 x12_1))]) := ⟨_, rfl⟩
         replace H : (refusal_leasts.l0 k1 l0 l1 y169 (l0.length : Int) (wrap64 (x12_1 + 1)) l2_0 a2_1 a2_2 a2_3) = some r := by first | (rw [hy169]; with_reducible exact H) | (have H2_ := (Option.bind_some _ _).symm.trans H; rw [hy169]; with_reducible exact H2_) | (have H2_ := (Option.bind_some _ _).symm.trans H; with_reducible exact H2_) | with_reducible exact H | (rw [hy169]; exact H) | exact H
         have Ny169 := Aside0.mk hy169
         clear hy169
         have H' := Aside0.mk H
         clear H
         obtain ⟨hcz11_0, hcz11_1, hcz11_2, hcz11_3⟩ := bc4_ BK166
         obtain ⟨hfz11_0, hfz11_1, hfz11_2, hfz11_3⟩ := bf4_ BK166
         have p167 : 0 ≤ (x12_1 : Int) := of_decide_eq_true as_
         have q167 : x12_1 < (l0.length : Int) := of_decide_eq_true as_
         obtain ⟨ad167, e167, hx167_0⟩ := Kd.at_int HR0.out x12_1 p167 q167
         cases e167
         replace hx167_0 := (HB.out.cell (World.block_lt_of_cell? w _ hx167_0)).trans hx167_0
         replace p167 := eq_true p167
         replace q167 := eq_true q167
         have p168 : 0 ≤ (x12_1 : Int) := of_decide_eq_true as_
         have q168 : x12_1 < (l1.length : Int) := of_decide_eq_true as_
         obtain ⟨ad168, e168, hx168_0⟩ := Kd.at_int HR1.out x12_1 p168 q168
         cases e168
         replace hx168_0 := (HB.out.cell (World.block_lt_of_cell? w _ hx168_0)).trans hx168_0
         replace p168 := eq_true p168
         replace q168 := eq_true q168
         go_wp2_with (first | ((with_reducible refine gate_builtin (b := .append) (xs := #[.tmp 34, .tmp 36]) rfl ?_); at_builtin; refine Kd.R_append (Kd.int .i64) (w0 := w) w.heap.size rfl (.tmp 34) (.tmp 36) 24 3 (.int .i64 0) 8 rfl Tryd.underlying24 info3 rfl (by decide) (by omega) u7 x7_1 (wrap64 ((wrap64 ((wrap64 (a2_1 * (rd l0 x12_1))) + a2_3)) - (rd l1 x12_1))) [.int .i64 (wrap64 ((wrap64 ((wrap64 (a2_1 * (rd l0 x12_1))) + a2_3)) - (rd l1 x12_1)))] (fun _ => True) (fun _ => False) rfl rfl ?aP (fun _ hk => hk.elim) ?aF ?aO ?aB ?aS ?aL ?_; (case aP => exact rfl); (case aB => exact bls_); (case aF => exact (fun _ _ => trivial)); (case aO => exact (kr_ HO_7)); (case aS => exact (below_size bls_)); (case aL => have := LMc10.out; omega); intro v170 w12 ho hb hg hat; rw [← Ny169.out] at ho; have n0_ := Aside0.mk (blk_grown (bkt_ BK166) hg (Kd.R_ne HO_7.out BK166.out (by decide))); have n1_ := Aside0.mk (hb); have n2_ := Aside0.mk (ho); clear BK166; clear HB; clear HO_7; have BK166 := n0_; have HB := n1_; have HO171 := n2_; clear n0_ n1_ n2_; clear ho hb hg hat))
         repeat (go_quiet (first | ((with_reducible refine gate_builtin (b := .append) (xs := #[.tmp 34, .tmp 36]) rfl ?_); at_builtin; refine Kd.R_append (Kd.int .i64) (w0 := w) w.heap.size rfl (.tmp 34) (.tmp 36) 24 3 (.int .i64 0) 8 rfl Tryd.underlying24 info3 rfl (by decide) (by omega) u7 x7_1 (wrap64 ((wrap64 ((wrap64 (a2_1 * (rd l0 x12_1))) + a2_3)) - (rd l1 x12_1))) [.int .i64 (wrap64 ((wrap64 ((wrap64 (a2_1 * (rd l0 x12_1))) + a2_3)) - (rd l1 x12_1)))] (fun _ => True) (fun _ => False) rfl rfl ?aP (fun _ hk => hk.elim) ?aF ?aO ?aB ?aS ?aL ?_; (case aP => exact rfl); (case aB => exact bls_); (case aF => exact (fun _ _ => trivial)); (case aO => exact (kr_ HO_7)); (case aS => exact (below_size bls_)); (case aL => have := LMc10.out; omega); intro v170 w12 ho hb hg hat; rw [← Ny169.out] at ho; have n0_ := Aside0.mk (blk_grown (bkt_ BK166) hg (Kd.R_ne HO_7.out BK166.out (by decide))); have n1_ := Aside0.mk (hb); have n2_ := Aside0.mk (ho); clear BK166; clear HB; clear HO_7; have BK166 := n0_; have HB := n1_; have HO171 := n2_; clear n0_ n1_ n2_; clear ho hb hg hat)); try go_wp2_with (first | ((with_reducible refine gate_builtin (b := .append) (xs := #[.tmp 34, .tmp 36]) rfl ?_); at_builtin; refine Kd.R_append (Kd.int .i64) (w0 := w) w.heap.size rfl (.tmp 34) (.tmp 36) 24 3 (.int .i64 0) 8 rfl Tryd.underlying24 info3 rfl (by decide) (by omega) u7 x7_1 (wrap64 ((wrap64 ((wrap64 (a2_1 * (rd l0 x12_1))) + a2_3)) - (rd l1 x12_1))) [.int .i64 (wrap64 ((wrap64 ((wrap64 (a2_1 * (rd l0 x12_1))) + a2_3)) - (rd l1 x12_1)))] (fun _ => True) (fun _ => False) rfl rfl ?aP (fun _ hk => hk.elim) ?aF ?aO ?aB ?aS ?aL ?_; (case aP => exact rfl); (case aB => exact bls_); (case aF => exact (fun _ _ => trivial)); (case aO => exact (kr_ HO_7)); (case aS => exact (below_size bls_)); (case aL => have := LMc10.out; omega); intro v170 w12 ho hb hg hat; rw [← Ny169.out] at ho; have n0_ := Aside0.mk (blk_grown (bkt_ BK166) hg (Kd.R_ne HO_7.out BK166.out (by decide))); have n1_ := Aside0.mk (hb); have n2_ := Aside0.mk (ho); clear BK166; clear HB; clear HO_7; have BK166 := n0_; have HB := n1_; have HO171 := n2_; clear n0_ n1_ n2_; clear ho hb hg hat)))
         go_roundg k1
         case measure => have := HK1.out; omega
         case rel => exact ⟨(y169), (wrap64 (x12_1 + 1)), sm_, H', ⟨by have := HK1.out; omega⟩, ⟨by (with_reducible repeat (first | apply Kd.R_alloc | apply Kd.R_drewN | apply Kd.R_drew)); exact HO171.out⟩, ⟨bkt_ BK166⟩, ⟨bls_⟩⟩
        ·rw [if_neg c10] at H
         exact absurd H (by simp)
       ·rw [if_neg c9] at H
        exact absurd H (by simp)
      ·rw [if_neg c8] at H
       have c8b0 : (a2_2 == 1) = false := beq_eq_false_iff_ne.mpr c8
       have c8b1 : (a2_2 != 1) = true := bne_iff_ne.mpr c8
       by_cases c13 : x7_1.length < 17592186044416
       ·rw [if_pos c13] at H
        have LMc13 := Aside0.mk c13
        clear c13
        obtain ⟨y172, hy172⟩ : ∃ y_ : List Int, y_ = (x7_1 ++ [wrap64 ((wrap64 (a2_1 * (rd l0 x12_1))) + a2_3)]) := ⟨_, rfl⟩
        replace H : (refusal_leasts.l0 k1 l0 l1 y172 (l0.length : Int) (wrap64 (x12_1 + 1)) l2_0 a2_1 a2_2 a2_3) = some r := by first | (rw [hy172]; with_reducible exact H) | (have H2_ := (Option.bind_some _ _).symm.trans H; rw [hy172]; with_reducible exact H2_) | (have H2_ := (Option.bind_some _ _).symm.trans H; with_reducible exact H2_) | with_reducible exact H | (rw [hy172]; exact H) | exact H
        have Ny172 := Aside0.mk hy172
        clear hy172
        have H' := Aside0.mk H
        clear H
        obtain ⟨hcz14_0, hcz14_1, hcz14_2, hcz14_3⟩ := bc4_ BK166
        obtain ⟨hfz14_0, hfz14_1, hfz14_2, hfz14_3⟩ := bf4_ BK166
        have p167 : 0 ≤ (x12_1 : Int) := of_decide_eq_true as_
        have q167 : x12_1 < (l0.length : Int) := of_decide_eq_true as_
        obtain ⟨ad167, e167, hx167_0⟩ := Kd.at_int HR0.out x12_1 p167 q167
        cases e167
        replace hx167_0 := (HB.out.cell (World.block_lt_of_cell? w _ hx167_0)).trans hx167_0
        replace p167 := eq_true p167
        replace q167 := eq_true q167
        go_wp2_with (first | ((with_reducible refine gate_builtin (b := .append) (xs := #[.tmp 34, .tmp 36]) rfl ?_); at_builtin; refine Kd.R_append (Kd.int .i64) (w0 := w) w.heap.size rfl (.tmp 34) (.tmp 36) 24 3 (.int .i64 0) 8 rfl Tryd.underlying24 info3 rfl (by decide) (by omega) u7 x7_1 (wrap64 ((wrap64 (a2_1 * (rd l0 x12_1))) + a2_3)) [.int .i64 (wrap64 ((wrap64 (a2_1 * (rd l0 x12_1))) + a2_3))] (fun _ => True) (fun _ => False) rfl rfl ?aP (fun _ hk => hk.elim) ?aF ?aO ?aB ?aS ?aL ?_; (case aP => exact rfl); (case aB => exact bls_); (case aF => exact (fun _ _ => trivial)); (case aO => exact (kr_ HO_7)); (case aS => exact (below_size bls_)); (case aL => have := LMc13.out; omega); intro v173 w15 ho hb hg hat; rw [← Ny172.out] at ho; have n0_ := Aside0.mk (blk_grown (bkt_ BK166) hg (Kd.R_ne HO_7.out BK166.out (by decide))); have n1_ := Aside0.mk (hb); have n2_ := Aside0.mk (ho); clear BK166; clear HB; clear HO_7; have BK166 := n0_; have HB := n1_; have HO174 := n2_; clear n0_ n1_ n2_; clear ho hb hg hat))
        repeat (go_quiet (first | ((with_reducible refine gate_builtin (b := .append) (xs := #[.tmp 34, .tmp 36]) rfl ?_); at_builtin; refine Kd.R_append (Kd.int .i64) (w0 := w) w.heap.size rfl (.tmp 34) (.tmp 36) 24 3 (.int .i64 0) 8 rfl Tryd.underlying24 info3 rfl (by decide) (by omega) u7 x7_1 (wrap64 ((wrap64 (a2_1 * (rd l0 x12_1))) + a2_3)) [.int .i64 (wrap64 ((wrap64 (a2_1 * (rd l0 x12_1))) + a2_3))] (fun _ => True) (fun _ => False) rfl rfl ?aP (fun _ hk => hk.elim) ?aF ?aO ?aB ?aS ?aL ?_; (case aP => exact rfl); (case aB => exact bls_); (case aF => exact (fun _ _ => trivial)); (case aO => exact (kr_ HO_7)); (case aS => exact (below_size bls_)); (case aL => have := LMc13.out; omega); intro v173 w15 ho hb hg hat; rw [← Ny172.out] at ho; have n0_ := Aside0.mk (blk_grown (bkt_ BK166) hg (Kd.R_ne HO_7.out BK166.out (by decide))); have n1_ := Aside0.mk (hb); have n2_ := Aside0.mk (ho); clear BK166; clear HB; clear HO_7; have BK166 := n0_; have HB := n1_; have HO174 := n2_; clear n0_ n1_ n2_; clear ho hb hg hat)); try go_wp2_with (first | ((with_reducible refine gate_builtin (b := .append) (xs := #[.tmp 34, .tmp 36]) rfl ?_); at_builtin; refine Kd.R_append (Kd.int .i64) (w0 := w) w.heap.size rfl (.tmp 34) (.tmp 36) 24 3 (.int .i64 0) 8 rfl Tryd.underlying24 info3 rfl (by decide) (by omega) u7 x7_1 (wrap64 ((wrap64 (a2_1 * (rd l0 x12_1))) + a2_3)) [.int .i64 (wrap64 ((wrap64 (a2_1 * (rd l0 x12_1))) + a2_3))] (fun _ => True) (fun _ => False) rfl rfl ?aP (fun _ hk => hk.elim) ?aF ?aO ?aB ?aS ?aL ?_; (case aP => exact rfl); (case aB => exact bls_); (case aF => exact (fun _ _ => trivial)); (case aO => exact (kr_ HO_7)); (case aS => exact (below_size bls_)); (case aL => have := LMc13.out; omega); intro v173 w15 ho hb hg hat; rw [← Ny172.out] at ho; have n0_ := Aside0.mk (blk_grown (bkt_ BK166) hg (Kd.R_ne HO_7.out BK166.out (by decide))); have n1_ := Aside0.mk (hb); have n2_ := Aside0.mk (ho); clear BK166; clear HB; clear HO_7; have BK166 := n0_; have HB := n1_; have HO174 := n2_; clear n0_ n1_ n2_; clear ho hb hg hat)))
        go_roundg k1
        case measure => have := HK1.out; omega
        case rel => exact ⟨(y172), (wrap64 (x12_1 + 1)), sm_, H', ⟨by have := HK1.out; omega⟩, ⟨by (with_reducible repeat (first | apply Kd.R_alloc | apply Kd.R_drewN | apply Kd.R_drew)); exact HO174.out⟩, ⟨bkt_ BK166⟩, ⟨bls_⟩⟩
       ·rw [if_neg c13] at H
        exact absurd H (by simp)
     ·rw [if_neg c7] at H
      exact absurd H (by simp)
    ·rw [if_neg c6] at H
     exact absurd H (by simp)
   ·rw [if_neg c5] at H
    have c5b0 : decide (x12_1 < (l0.length : Int)) = false := decide_eq_false c5
    clear c5
    obtain rfl := Option.some.inj H
    go_wp2
    repeat (go_quiet (fail); try go_wp2)
    go_ret
    exact ⟨_, fin_, by (with_reducible repeat (first | apply Kd.R_alloc | apply Kd.R_drewN | apply Kd.R_drew)); exact HO_7.out, bls_⟩
def candL (low : List Int) : List S30 := (low.filter (fun n => decide (n < 0))).map (fun n => ⟨[], 1, 0, wrap64 (-n)⟩)
def candH (high : List Int) : List S30 := (high.filter (fun n => decide (n > 0))).map (fun n => ⟨[], 0, 1, n⟩)
def candS (low high : List Int) (nil : Bool) : List S30 := [⟨[], 0, 0, 1⟩] ++ candL low ++ (if nil = true then [] else [⟨[], 0, 1, 0⟩]) ++ candH high
theorem candL_step {low : List Int} {i : Nat} (hi : i < low.length) : candL (low.take (i + 1)) = candL (low.take i) ++ (if rd low (i : Int) < 0 then [⟨[], 1, 0, wrap64 (-(rd low (i : Int)))⟩] else []) := by
  have e : rd low (i : Int) = low[i] := by unfold rd; rw [Int.toNat_natCast, List.getD_eq_getElem?_getD, List.getElem?_eq_getElem hi]; rfl
  unfold candL
  rw [List.take_succ_eq_append_getElem hi, List.filter_append, List.map_append, e]
  by_cases h : low[i] < 0
  · rw [if_pos h]; simp [h]
  · rw [if_neg h]; simp [h]
theorem candH_step {high : List Int} {i : Nat} (hi : i < high.length) : candH (high.take (i + 1)) = candH (high.take i) ++ (if rd high (i : Int) > 0 then [⟨[], 0, 1, rd high (i : Int)⟩] else []) := by
  have e : rd high (i : Int) = high[i] := by unfold rd; rw [Int.toNat_natCast, List.getD_eq_getElem?_getD, List.getElem?_eq_getElem hi]; rfl
  unfold candH
  rw [List.take_succ_eq_append_getElem hi, List.filter_append, List.map_append, e]
  by_cases h : high[i] > 0
  · rw [if_pos h]; simp [h]
  · rw [if_neg h]; simp [h]
theorem candL_len (low : List Int) : (candL low).length ≤ low.length := by unfold candL; rw [List.length_map]; exact List.length_filter_le _ _
theorem candH_len (high : List Int) : (candH high).length ≤ high.length := by unfold candH; rw [List.length_map]; exact List.length_filter_le _ _
set_option maxHeartbeats 8000000 in
set_option maxRecDepth 100000 in
theorem refusal_candidates.known (A0 : Option Addr) (c0 : Nat) (l0 : List Int) (A1 : Option Addr) (c1 : Nat) (l1 : List Int) (w : World) (hr0 : Kd.C (Kd.int .i64) w A0 l0.length l0) (hc0 : l0.length ≤ c0) (hr1 : Kd.C (Kd.int .i64) w A1 l1.length l1) (hc1 : l1.length ≤ c1) (hn0 : l0.length ≤ 1000) (hn1 : l1.length ≤ 1000) :
    Calls Tryd.prog 32 #[.slice A0 l0.length c0, .slice A1 l1.length c1] w fun e w' => ∃ kb lb hb kv, e = .returned (.func (.func 62) #[] #[.pointer (some ⟨kb, 0, none⟩), .pointer (some ⟨lb, 0, none⟩), .pointer (some ⟨hb, 0, none⟩)]) ∧ w'.heap[kb]? = some (.cells #[kv] 65 (0, 0)) ∧ w'.heap[lb]? = some (.cells #[.slice A0 l0.length c0] 24 (0, 0)) ∧ w'.heap[hb]? = some (.cells #[.slice A1 l1.length c1] 24 (0, 0)) ∧
      Kd.R kQ 30 w' w.heap.size (fun _ => True) kv (candS l0 l1 A1.isNone) ∧ Below w.heap.size w w' := by
  have HB := Aside0.mk (Below.refl w.heap.size w)
  have HR0 := Aside0.mk hr0
  have HR1 := Aside0.mk hr1
  have HN := Aside0.mk (⟨hn0, hn1⟩ : _ ∧ _)
  have HCC := Aside0.mk (⟨hc0, hc1⟩ : _ ∧ _)
  clear hr0 hr1 hn0 hn1 hc0 hc1
  have hu := Tryd.underlying30
  go_enter Tryd.func32, Tryd.ntmps32
  go_upto_region 2 with (first
    | ((with_reducible refine gate_dst (N := 2) rfl ?_); refine be_ (N := 2) (cs := #[.slice A0 l0.length c0]) (t := 24) ?_; intro lb hlb w1 hbox hb; subst hlb; have BL := Aside0.mk hbox; replace HB := Aside0.mk (below_step HB.out hb); clear hb hbox)
    | ((with_reducible refine gate_dst (N := 3) rfl ?_); refine be_ (N := 3) (cs := #[.slice A1 l1.length c1]) (t := 24) ?_; intro hb_ hhb w2 hbox hb; subst hhb; have BH := Aside0.mk hbox; replace BL := Aside0.mk (blk_below BL.out hb); replace HB := Aside0.mk (below_step HB.out hb); clear hb hbox)
    | ((with_reducible refine gate_dst (N := 11) rfl ?_); refine Kd.R_lit kQ _ 30 ?hg (N := 11) ?hd (xs := ([(⟨([] : List Int), 0, 0, 1⟩ : S30)] : List (S30))) (inner := [.slice none 0 0, .int .i64 0, .int .i64 0, .int .i64 1]) (ok := fun _ => True) (okp := fun _ => True) ?hr ?hp (fun _ hk => hk) trivial (Below.refl _ _) (Nat.le_refl _) (by simp) ?_; (case hd => rfl); (case hg => rfl); (case hr => first | (go_simp; done) | (go_simp; rfl)); (case hp => exact (Reps.c4 (show Kd.M kQ _ _ _ (⟨([] : List Int), 0, 0, 1⟩ : S30) [.slice none 0 0, .int .i64 0, .int .i64 0, .int .i64 1] from (kQ_mkM _ _ _ (⟨([] : List Int), 0, 0, 1⟩ : S30) (Kd.R_nil _ _ _ _ _))) (Reps.none _ _))); intro kv w3 ho hb hg_ hnew_; clear hg_ hnew_; obtain ⟨Ak, ck, rfl⟩ := Kd.R_slice ho; have HO := Aside0.mk ho; have BB := Aside0.mk (⟨blk_lt BL.out, blk_lt BH.out⟩ : _ ∧ _); have SZ23 := Aside0.mk hb.size; replace BL := Aside0.mk (blk_below BL.out hb); replace BH := Aside0.mk (blk_below BH.out hb); replace HB := Aside0.mk (below_step HB.out hb); clear hb ho))
  have HBB := Aside0.mk (show w.heap.size ≤ w2.heap.size from Nat.le_of_lt BB.out.1)
  replace HO := Aside0.mk (Kd.R_alloc (Kd.R_elderB HO.out w3.heap.size (Nat.le_refl _)) (Obj.cells #[Value.slice Ak 1 ck] 65))
  replace BL := Aside0.mk (blk_alloc BL.out (Obj.cells #[Value.slice Ak 1 ck] 65))
  replace BH := Aside0.mk (blk_alloc BH.out (Obj.cells #[Value.slice Ak 1 ck] 65))
  have BK := Aside0.mk (blk_new w3 (Obj.cells #[Value.slice Ak 1 ck] 65))
  have HKB := Aside0.mk (show w.heap.size ≤ w3.heap.size ∧ w.heap.size ≠ w3.heap.size ∧ w1.heap.size ≠ w3.heap.size from ⟨HB.out.size, by have := blk_lt BK.out; have := BB.out; have := HB.out.size; have h2 : w2.heap.size ≤ w3.heap.size := SZ23.out; omega, by have := BB.out; have h2 : w2.heap.size ≤ w3.heap.size := SZ23.out; omega⟩)
  replace HB := Aside0.mk (below_alloc HB.out (Obj.cells #[Value.slice Ak 1 ck] 65))
  clear SZ23
  generalize w3.alloc (Obj.cells #[Value.slice Ak 1 ck] 65) = W at HO BL BH BK HB ⊢
  generalize w3.heap.size = kb at HO BK HKB ⊢
  generalize w1.heap.size = hb at BH BB HKB ⊢
  generalize w2.heap.size = B at HO BB HBB
  have d2 : W.cell? ⟨w.heap.size, 0, none⟩ = some (.slice A0 l0.length c0) := (blk_cell BL.out 0).trans rfl
  go_upto_region 3 with fail
  clear d2
  obtain ⟨Lp, hLp⟩ : ∃ Lp : List S30, Lp = [⟨[], 0, 0, 1⟩] := ⟨_, rfl⟩
  have HLE := Aside0.mk hLp
  have HLP := Aside0.mk (show 1 ≤ Lp.length ∧ Lp.length ≤ 1 by rw [hLp]; exact ⟨Nat.le_refl _, Nat.le_refl _⟩)
  replace HO : Aside0 (Kd.R kQ 30 W B (fun k => True ∧ k ≠ kb) (.slice Ak Lp.length ck) Lp) := ⟨by rw [hLp]; exact HO.out⟩
  replace BK : Aside0 (W.heap[kb]? = some (.cells #[.slice Ak Lp.length ck] 65 (0, 0))) := ⟨by rw [hLp]; exact BK.out⟩
  clear hLp
  have BX := Aside0.mk (⟨BL.out, BH.out⟩ : _ ∧ _)
  skip
  go_loopg [14] 1000 (fun kx vI wr => ∃ x : Int, vI = .int .i64 x ∧ Aside0 (∃ i : Nat, x = (i : Int) ∧ i ≤ l0.length ∧ l0.length - i ≤ kx ∧ ∃ Ar cr, wr.heap[kb]? = some (.cells #[.slice Ar (Lp ++ candL (l0.take i)).length cr] 65 (0, 0)) ∧ Kd.R kQ 30 wr B (fun k => True ∧ k ≠ kb) (.slice Ar (Lp ++ candL (l0.take i)).length cr) (Lp ++ candL (l0.take i))) ∧ Aside0 (wr.heap[w.heap.size]? = some (.cells #[.slice A0 l0.length c0] 24 (0, 0)) ∧ wr.heap[hb]? = some (.cells #[.slice A1 l1.length c1] 24 (0, 0))) ∧ Aside0 (Below w.heap.size w wr))
  case atStart => exact ⟨0, rfl, ⟨0, rfl, Nat.zero_le _, by have := HN.out.1; omega, Ak, ck, by rw [List.take_zero, show candL [] = [] from rfl, List.append_nil]; exact BK.out, by rw [List.take_zero, show candL [] = [] from rfl, List.append_nil]; exact HO.out⟩, BX, HB⟩
  case round =>
    clear HB HO BK BX
    obtain ⟨x, rfl, HI0, BX, HB⟩ := hrel
    obtain ⟨i, hxi, hil, hk, Ar, cr, bk, ho⟩ := HI0.out
    have HI := Aside0.mk (⟨hxi, hil, hk⟩ : _ ∧ _ ∧ _)
    have BK := Aside0.mk bk
    have HO := Aside0.mk ho
    clear HI0 bk ho hk
    by_cases hlt : i < l0.length
    · have q1 : decide (x < (l0.length : Int)) = true := decide_eq_true (by omega)
      obtain ⟨ad, e, hx⟩ := Kd.at_int (Kd.C_below HR0.out HB.out) x (by omega) (by omega)
      cases e
      have p4 := eq_true (show (0 : Int) ≤ x by omega)
      have q4 := eq_true (show x < (l0.length : Int) by omega)
      have w1_ : wrap64 (x + 1) = x + 1 := by have := HN.out; exact w64_ (by omega) (by omega)
      have HS := Aside0.mk (candL_step hlt)
      rw [← hxi] at HS
      have HLT := Aside0.mk hlt
      clear hlt hxi hil
      by_cases hneg : rd l0 x < 0
      · have b1 : decide (rd l0 x < 0) = true := decide_eq_true hneg
        have HS2 : Aside0 (Lp ++ candL (l0.take (i + 1)) = (Lp ++ candL (l0.take i)) ++ [(⟨([] : List Int), 1, 0, wrap64 (-(rd l0 x))⟩ : S30)]) := ⟨by rw [HS.out, if_pos hneg, List.append_assoc]⟩
        clear hneg HS
        have HLN := Aside0.mk (show (Lp ++ candL (l0.take i)).length ≤ 2100 by have h_ := candL_len (l0.take i); rw [List.length_take] at h_; have := HN.out; have := HLP.out; rw [List.length_append]; omega)
        have HP : 0 < (Lp ++ candL (l0.take i)).length := by have := HLP.out; rw [List.length_append]; omega
        generalize (Lp ++ candL (l0.take i)) = L at HO BK HS2 HLN HP
        have hne : ∀ gg, (∃ cells t, wr.heap[gg]? = some (.cells cells t (0, 0)) ∧ t ≠ 30) → some gg ≠ (Value.slice Ar L.length cr).ownBlock := fun gg ⟨cells, t, hc, ht⟩ e => by
          obtain ⟨g, cap, ev, -, -, cs_, hgc⟩ := Kd.R_form HO.out HP
          rw [ev] at e
          obtain rfl : gg = g := by simpa [Value.ownBlock] using e
          rw [hc] at hgc
          injection hgc with h1
          injection h1 with h2 h3
          exact ht h3
        have HNE := Aside0.mk hne
        have HGI : Aside0 (B ≤ wr.heap.size ∧ ∀ k, (Value.slice Ar L.length cr).ownBlock = some k → w.heap.size ≤ k) := ⟨by
          obtain ⟨g, cap, ev, h1, h2, cs_, hgc⟩ := Kd.R_form HO.out HP
          refine ⟨by omega, fun k hk => ?_⟩
          rw [ev] at hk
          obtain rfl : g = k := by simpa [Value.ownBlock] using hk
          have := HBB.out
          omega⟩
        have d5 : wr.cell? ⟨kb, 0, none⟩ = some (.slice Ar L.length cr) := (blk_cell BK.out 0).trans rfl
        clear hne HP
        go_wp2_with (first | ((with_reducible refine gate_builtin (b := .append) (xs := #[.tmp 20, .tmp 24]) rfl ?_); at_builtin; refine Kd.R_append kQ (w0 := wr) B rfl (.tmp 20) (.tmp 24) 65 30 (.agg #[(.slice none 0 0), (.int .i64 0), (.int .i64 0), (.int .i64 0)]) 48 rfl Tryd.underlying65 info30 rfl (by decide) (by decide) (.slice Ar L.length cr) L (⟨([] : List Int), 1, 0, wrap64 (-(rd l0 x))⟩ : S30) [.slice none 0 0, .int .i64 1, .int .i64 0, .int .i64 (wrap64 (-(rd l0 x)))] (fun k => True ∧ k ≠ kb) (fun _ => False) rfl rfl ?aP (fun k_ hk_ => hk_.elim) ?aF ?aO (Below.refl _ _) ?aS ?aL ?_; (case aP => exact kQ_mkM _ _ _ (⟨([] : List Int), 1, 0, wrap64 (-(rd l0 x))⟩ : S30) (Kd.R_nil _ _ _ _ _)); (case aF => exact fun k hk => ⟨trivial, by have := blk_lt BK.out; omega⟩); (case aO => exact HO.out); (case aS => exact HGI.out.1); (case aL => have := HLN.out; omega); intro v1 w5 ho hb5 hg5 hat5; obtain ⟨A5, c5, rfl⟩ := Kd.R_slice ho; have HO5 := Aside0.mk ho; have BK5 := Aside0.mk (blk_grown BK.out hg5 (HNE.out kb ⟨_, _, BK.out, by decide⟩)); have BX5 := Aside0.mk (⟨blk_grown BX.out.1 hg5 (HNE.out _ ⟨_, _, BX.out.1, by decide⟩), blk_grown BX.out.2 hg5 (HNE.out _ ⟨_, _, BX.out.2, by decide⟩)⟩ : _ ∧ _); have HB5 := Aside0.mk (Below.grown HB.out hg5 HB.out.size HGI.out.2); have d6 := blk_cell BK5.out 0; have f6 := blk_frozen BK5.out 0; clear ho hb5 hg5 hat5))
        go_roundg (l0.length - (i + 1))
        case measure => have := HI.out; have := HLT.out; omega
        case rel =>
          refine ⟨x + 1, by first | rfl | (rw [w1_]), ⟨i + 1, by rw [HI.out.1]; rfl, HLT.out, Nat.le_refl _, A5, c5, ?_, ?_⟩, ⟨blk_far BX5.out.1 (fun e => HKB.out.2.1 e) _, blk_far BX5.out.2 (fun e => HKB.out.2.2 e) _⟩, ⟨below_set HB5.out HKB.out.1⟩⟩
          · rw [HS2.out]; exact blk_put BK5.out 0 _ (by rw [List.length_append]; rfl)
          · rw [HS2.out]; exact Kd.R_far HO5.out (fun k hk => hk.2) _
      · have b1 : decide (rd l0 x < 0) = false := decide_eq_false hneg
        have HS2 : Aside0 (candL (l0.take (i + 1)) = candL (l0.take i)) := ⟨by rw [HS.out, if_neg hneg, List.append_nil]⟩
        clear hneg HS
        go_wp2
        go_roundg (l0.length - (i + 1))
        case measure => have := HI.out; have := HLT.out; omega
        case rel => exact ⟨x + 1, by first | rfl | (rw [w1_]), ⟨i + 1, by rw [HI.out.1]; rfl, HLT.out, Nat.le_refl _, Ar, cr, by rw [HS2.out]; exact BK.out, by rw [HS2.out]; exact HO.out⟩, BX, HB⟩
    · have q1 : decide (x < (l0.length : Int)) = false := decide_eq_false (by omega)
      rw [show l0.take i = l0 from List.take_of_length_le (by omega)] at BK HO
      clear hlt hxi hil HI
      have d3 : wr.cell? ⟨hb, 0, none⟩ = some (.slice A1 l1.length c1) := (blk_cell BX.out.2 0).trans rfl
      rcases A1 with _ | a1
      · have HZ : Aside0 (l1.length = 0) := ⟨by rcases Nat.eq_zero_or_pos l1.length with h | h; exact h; obtain ⟨ad, e, -⟩ := Kd.at_int HR1.out 0 (by omega) (by omega); cases e⟩
        go_upto_region 11 with fail
        obtain ⟨Lq, hLq⟩ : ∃ Lq : List S30, Lq = (Lp ++ candL l0) := ⟨_, rfl⟩
        have HLE2 := Aside0.mk hLq
        have HLQ := Aside0.mk (show 1 ≤ Lq.length ∧ Lq.length ≤ 1002 by rw [hLq]; have h_ := candL_len l0; have := HN.out; have := HLP.out; rw [List.length_append]; omega)
        replace HO : Aside0 (Kd.R kQ 30 wr B (fun k => True ∧ k ≠ kb) (.slice Ar Lq.length cr) Lq) := ⟨by rw [hLq]; exact HO.out⟩
        replace BK : Aside0 (wr.heap[kb]? = some (.cells #[.slice Ar Lq.length cr] 65 (0, 0))) := ⟨by rw [hLq]; exact BK.out⟩
        clear hLq
        go_loopg [35] 1000 (fun kx vI wr => ∃ x : Int, vI = .int .i64 x ∧ Aside0 (∃ i : Nat, x = (i : Int) ∧ i ≤ l1.length ∧ l1.length - i ≤ kx ∧ ∃ Ar cr, wr.heap[kb]? = some (.cells #[.slice Ar (Lq ++ candH (l1.take i)).length cr] 65 (0, 0)) ∧ Kd.R kQ 30 wr B (fun k => True ∧ k ≠ kb) (.slice Ar (Lq ++ candH (l1.take i)).length cr) (Lq ++ candH (l1.take i))) ∧ Aside0 (wr.heap[w.heap.size]? = some (.cells #[.slice A0 l0.length c0] 24 (0, 0)) ∧ wr.heap[hb]? = some (.cells #[.slice (none : Option Addr) l1.length c1] 24 (0, 0))) ∧ Aside0 (Below w.heap.size w wr))
        case atStart => exact ⟨0, rfl, ⟨0, rfl, Nat.zero_le _, by have := HN.out.2; omega, Ar, cr, by rw [List.take_zero, show candH [] = [] from rfl, List.append_nil]; exact BK.out, by rw [List.take_zero, show candH [] = [] from rfl, List.append_nil]; exact HO.out⟩, BX, HB⟩
        case round =>
          clear HB HO BK BX
          obtain ⟨x, rfl, HI0, BX, HB⟩ := hrel
          obtain ⟨i, hxi, hil, hk, Ar, cr, bk, ho⟩ := HI0.out
          have HI := Aside0.mk (⟨hxi, hil, hk⟩ : _ ∧ _ ∧ _)
          have BK := Aside0.mk bk
          have HO := Aside0.mk ho
          clear HI0 bk ho hk
          by_cases hlt : i < l1.length
          · exact absurd hlt (by have := HZ.out; omega)
          · have q1 : decide (x < (l1.length : Int)) = false := decide_eq_false (by omega)
            rw [show l1.take i = l1 from List.take_of_length_le (by omega)] at BK HO
            clear hlt hxi hil HI
            go_wp2
            go_ret
            exact ⟨kb, w.heap.size, hb, _, rfl, BK.out, BX.out.1, BX.out.2, by have := Kd.R_mono (Kd.R_lower HO.out HBB.out) (ok' := fun _ => True) (fun _ _ => trivial); rw [show candS l0 l1 (none : Option Addr).isNone = Lq ++ candH l1 by rw [HLE2.out, HLE.out]; unfold candS; simp]; exact this, HB.out⟩
      · have HLN := Aside0.mk (show (Lp ++ candL l0).length ≤ 1001 by have h_ := candL_len l0; have := HN.out; have := HLP.out; rw [List.length_append]; omega)
        have HP : 0 < (Lp ++ candL l0).length := by have := HLP.out; rw [List.length_append]; omega
        obtain ⟨L, hL⟩ : ∃ L, L = Lp ++ candL l0 := ⟨_, rfl⟩
        rw [← hL] at HO BK HLN HP
        have HC := Aside0.mk hL
        clear hL
        have hne : ∀ gg, (∃ cells t, wr.heap[gg]? = some (.cells cells t (0, 0)) ∧ t ≠ 30) → some gg ≠ (Value.slice Ar L.length cr).ownBlock := fun gg ⟨cells, t, hc, ht⟩ e => by
          obtain ⟨g, cap, ev, -, -, cs_, hgc⟩ := Kd.R_form HO.out HP
          rw [ev] at e
          obtain rfl : gg = g := by simpa [Value.ownBlock] using e
          rw [hc] at hgc
          injection hgc with h1
          injection h1 with h2 h3
          exact ht h3
        have HNE := Aside0.mk hne
        have HGI : Aside0 (B ≤ wr.heap.size ∧ ∀ k, (Value.slice Ar L.length cr).ownBlock = some k → w.heap.size ≤ k) := ⟨by
          obtain ⟨g, cap, ev, h1, h2, cs_, hgc⟩ := Kd.R_form HO.out HP
          refine ⟨by omega, fun k hk => ?_⟩
          rw [ev] at hk
          obtain rfl : g = k := by simpa [Value.ownBlock] using hk
          have := HBB.out
          omega⟩
        have d5 : wr.cell? ⟨kb, 0, none⟩ = some (.slice Ar L.length cr) := (blk_cell BK.out 0).trans rfl
        clear hne HP
        go_upto_region 11 with (first | ((with_reducible refine gate_builtin (b := .append) (xs := #[.tmp 29, .tmp 31]) rfl ?_); at_builtin; refine Kd.R_append kQ (w0 := wr) B rfl (.tmp 29) (.tmp 31) 65 30 (.agg #[(.slice none 0 0), (.int .i64 0), (.int .i64 0), (.int .i64 0)]) 48 rfl Tryd.underlying65 info30 rfl (by decide) (by decide) (.slice Ar L.length cr) L (⟨([] : List Int), 0, 1, 0⟩ : S30) [.slice none 0 0, .int .i64 0, .int .i64 1, .int .i64 0] (fun k => True ∧ k ≠ kb) (fun _ => False) rfl rfl ?aP (fun k_ hk_ => hk_.elim) ?aF ?aO (Below.refl _ _) ?aS ?aL ?_; (case aP => exact kQ_mkM _ _ _ (⟨([] : List Int), 0, 1, 0⟩ : S30) (Kd.R_nil _ _ _ _ _)); (case aF => exact fun k hk => ⟨trivial, by have := blk_lt BK.out; omega⟩); (case aO => exact HO.out); (case aS => exact HGI.out.1); (case aL => have := HLN.out; omega); intro v1 w5 ho hb5 hg5 hat5; obtain ⟨A5, c5, rfl⟩ := Kd.R_slice ho; have HO5 := Aside0.mk ho; have BK5 := Aside0.mk (blk_grown BK.out hg5 (HNE.out kb ⟨_, _, BK.out, by decide⟩)); have BX5 := Aside0.mk (⟨blk_grown BX.out.1 hg5 (HNE.out _ ⟨_, _, BX.out.1, by decide⟩), blk_grown BX.out.2 hg5 (HNE.out _ ⟨_, _, BX.out.2, by decide⟩)⟩ : _ ∧ _); have HB5 := Aside0.mk (Below.grown HB.out hg5 HB.out.size HGI.out.2); have d6 := blk_cell BK5.out 0; have f6 := blk_frozen BK5.out 0; have d7 : (w5.setCell ⟨kb, 0, none⟩ (Value.slice A5 (L.length + 1) c5)).cell? ⟨hb, 0, none⟩ = some (.slice (some a1) l1.length c1) := (blk_cell (blk_far BX5.out.2 (fun e => HKB.out.2.2 e) _) 0).trans rfl; clear ho hb5 hg5 hat5))
        obtain ⟨Lq, hLq⟩ : ∃ Lq : List S30, Lq = (L ++ [(⟨([] : List Int), 0, 1, 0⟩ : S30)]) := ⟨_, rfl⟩
        have HLE2 := Aside0.mk hLq
        have HLQ := Aside0.mk (show 1 ≤ Lq.length ∧ Lq.length ≤ 1002 by rw [hLq]; rw [List.length_append]; have : ([(⟨([] : List Int), 0, 1, 0⟩ : S30)]).length = 1 := rfl; have := HLN.out; omega)
        clear hLq
        go_loopg [35] 1000 (fun kx vI wr => ∃ x : Int, vI = .int .i64 x ∧ Aside0 (∃ i : Nat, x = (i : Int) ∧ i ≤ l1.length ∧ l1.length - i ≤ kx ∧ ∃ Ar cr, wr.heap[kb]? = some (.cells #[.slice Ar (Lq ++ candH (l1.take i)).length cr] 65 (0, 0)) ∧ Kd.R kQ 30 wr B (fun k => True ∧ k ≠ kb) (.slice Ar (Lq ++ candH (l1.take i)).length cr) (Lq ++ candH (l1.take i))) ∧ Aside0 (wr.heap[w.heap.size]? = some (.cells #[.slice A0 l0.length c0] 24 (0, 0)) ∧ wr.heap[hb]? = some (.cells #[.slice (some a1) l1.length c1] 24 (0, 0))) ∧ Aside0 (Below w.heap.size w wr))
        case atStart => exact ⟨0, rfl, ⟨0, rfl, Nat.zero_le _, by have := HN.out.2; omega, A5, c5, by rw [List.take_zero, show candH [] = [] from rfl, List.append_nil]; exact (by rw [HLE2.out]; exact blk_put BK5.out 0 _ (by rw [List.length_append]; rfl)), by rw [List.take_zero, show candH [] = [] from rfl, List.append_nil]; exact (by rw [HLE2.out]; exact Kd.R_far HO5.out (fun k hk => hk.2) _)⟩, ⟨blk_far BX5.out.1 (fun e => HKB.out.2.1 e) _, blk_far BX5.out.2 (fun e => HKB.out.2.2 e) _⟩, ⟨below_set HB5.out HKB.out.1⟩⟩
        case round =>
          clear HB HO BK BX
          obtain ⟨x, rfl, HI0, BX, HB⟩ := hrel
          obtain ⟨i, hxi, hil, hk, Ar, cr, bk, ho⟩ := HI0.out
          have HI := Aside0.mk (⟨hxi, hil, hk⟩ : _ ∧ _ ∧ _)
          have BK := Aside0.mk bk
          have HO := Aside0.mk ho
          clear HI0 bk ho hk
          by_cases hlt : i < l1.length
          · have q1 : decide (x < (l1.length : Int)) = true := decide_eq_true (by omega)
            obtain ⟨ad, e, hx⟩ := Kd.at_int (Kd.C_below HR1.out HB.out) x (by omega) (by omega)
            cases e
            have p4 := eq_true (show (0 : Int) ≤ x by omega)
            have q4 := eq_true (show x < (l1.length : Int) by omega)
            have w1_ : wrap64 (x + 1) = x + 1 := by have := HN.out; exact w64_ (by omega) (by omega)
            have HS := Aside0.mk (candH_step hlt)
            rw [← hxi] at HS
            have HLT := Aside0.mk hlt
            clear hlt hxi hil
            by_cases hneg : rd l1 x > 0
            · have b1 : decide (0 < rd l1 x) = true := decide_eq_true hneg
              have HS2 : Aside0 (Lq ++ candH (l1.take (i + 1)) = (Lq ++ candH (l1.take i)) ++ [(⟨([] : List Int), 0, 1, rd l1 x⟩ : S30)]) := ⟨by rw [HS.out, if_pos hneg, List.append_assoc]⟩
              clear hneg HS
              have HLN := Aside0.mk (show (Lq ++ candH (l1.take i)).length ≤ 2100 by have h_ := candH_len (l1.take i); rw [List.length_take] at h_; have := HN.out; have := HLQ.out; rw [List.length_append]; omega)
              have HP : 0 < (Lq ++ candH (l1.take i)).length := by have := HLQ.out; rw [List.length_append]; omega
              generalize (Lq ++ candH (l1.take i)) = L at HO BK HS2 HLN HP
              have hne : ∀ gg, (∃ cells t, wr.heap[gg]? = some (.cells cells t (0, 0)) ∧ t ≠ 30) → some gg ≠ (Value.slice Ar L.length cr).ownBlock := fun gg ⟨cells, t, hc, ht⟩ e => by
                obtain ⟨g, cap, ev, -, -, cs_, hgc⟩ := Kd.R_form HO.out HP
                rw [ev] at e
                obtain rfl : gg = g := by simpa [Value.ownBlock] using e
                rw [hc] at hgc
                injection hgc with h1
                injection h1 with h2 h3
                exact ht h3
              have HNE := Aside0.mk hne
              have HGI : Aside0 (B ≤ wr.heap.size ∧ ∀ k, (Value.slice Ar L.length cr).ownBlock = some k → w.heap.size ≤ k) := ⟨by
                obtain ⟨g, cap, ev, h1, h2, cs_, hgc⟩ := Kd.R_form HO.out HP
                refine ⟨by omega, fun k hk => ?_⟩
                rw [ev] at hk
                obtain rfl : g = k := by simpa [Value.ownBlock] using hk
                have := HBB.out
                omega⟩
              have d5 : wr.cell? ⟨kb, 0, none⟩ = some (.slice Ar L.length cr) := (blk_cell BK.out 0).trans rfl
              clear hne HP
              go_wp2_with (first | ((with_reducible refine gate_builtin (b := .append) (xs := #[.tmp 41, .tmp 44]) rfl ?_); at_builtin; refine Kd.R_append kQ (w0 := wr) B rfl (.tmp 41) (.tmp 44) 65 30 (.agg #[(.slice none 0 0), (.int .i64 0), (.int .i64 0), (.int .i64 0)]) 48 rfl Tryd.underlying65 info30 rfl (by decide) (by decide) (.slice Ar L.length cr) L (⟨([] : List Int), 0, 1, rd l1 x⟩ : S30) [.slice none 0 0, .int .i64 0, .int .i64 1, .int .i64 (rd l1 x)] (fun k => True ∧ k ≠ kb) (fun _ => False) rfl rfl ?aP (fun k_ hk_ => hk_.elim) ?aF ?aO (Below.refl _ _) ?aS ?aL ?_; (case aP => exact kQ_mkM _ _ _ (⟨([] : List Int), 0, 1, rd l1 x⟩ : S30) (Kd.R_nil _ _ _ _ _)); (case aF => exact fun k hk => ⟨trivial, by have := blk_lt BK.out; omega⟩); (case aO => exact HO.out); (case aS => exact HGI.out.1); (case aL => have := HLN.out; omega); intro v1 w5 ho hb5 hg5 hat5; obtain ⟨A5, c5, rfl⟩ := Kd.R_slice ho; have HO5 := Aside0.mk ho; have BK5 := Aside0.mk (blk_grown BK.out hg5 (HNE.out kb ⟨_, _, BK.out, by decide⟩)); have BX5 := Aside0.mk (⟨blk_grown BX.out.1 hg5 (HNE.out _ ⟨_, _, BX.out.1, by decide⟩), blk_grown BX.out.2 hg5 (HNE.out _ ⟨_, _, BX.out.2, by decide⟩)⟩ : _ ∧ _); have HB5 := Aside0.mk (Below.grown HB.out hg5 HB.out.size HGI.out.2); have d6 := blk_cell BK5.out 0; have f6 := blk_frozen BK5.out 0; clear ho hb5 hg5 hat5))
              go_roundg (l1.length - (i + 1))
              case measure => have := HI.out; have := HLT.out; omega
              case rel =>
                refine ⟨x + 1, by first | rfl | (rw [w1_]), ⟨i + 1, by rw [HI.out.1]; rfl, HLT.out, Nat.le_refl _, A5, c5, ?_, ?_⟩, ⟨blk_far BX5.out.1 (fun e => HKB.out.2.1 e) _, blk_far BX5.out.2 (fun e => HKB.out.2.2 e) _⟩, ⟨below_set HB5.out HKB.out.1⟩⟩
                · rw [HS2.out]; exact blk_put BK5.out 0 _ (by rw [List.length_append]; rfl)
                · rw [HS2.out]; exact Kd.R_far HO5.out (fun k hk => hk.2) _
            · have b1 : decide (0 < rd l1 x) = false := decide_eq_false hneg
              have HS2 : Aside0 (candH (l1.take (i + 1)) = candH (l1.take i)) := ⟨by rw [HS.out, if_neg hneg, List.append_nil]⟩
              clear hneg HS
              go_wp2
              go_roundg (l1.length - (i + 1))
              case measure => have := HI.out; have := HLT.out; omega
              case rel => exact ⟨x + 1, by first | rfl | (rw [w1_]), ⟨i + 1, by rw [HI.out.1]; rfl, HLT.out, Nat.le_refl _, Ar, cr, by rw [HS2.out]; exact BK.out, by rw [HS2.out]; exact HO.out⟩, BX, HB⟩
          · have q1 : decide (x < (l1.length : Int)) = false := decide_eq_false (by omega)
            rw [show l1.take i = l1 from List.take_of_length_le (by omega)] at BK HO
            clear hlt hxi hil HI
            go_wp2
            go_ret
            exact ⟨kb, w.heap.size, hb, _, rfl, BK.out, BX.out.1, BX.out.2, by have := Kd.R_mono (Kd.R_lower HO.out HBB.out) (ok' := fun _ => True) (fun _ _ => trivial); rw [show candS l0 l1 (some a1).isNone = Lq ++ candH l1 by rw [HLE2.out, HC.out, HLE.out]; unfold candS; simp]; exact this, HB.out⟩
def CellsOnly (X Y : World) : Prop := ∃ row, X.grownBy Y row ∧ ∀ r, row = some r → ∃ o : Obj, X.heap[r]? = some o ∧ o.isCells = true
theorem cellsOnly_book {X Y : World} (h : CellsOnly X Y) {k : Nat} {o : Obj} (hk : X.heap[k]? = some o) (ho : o.isCells = false) : Y.heap[k]? = some o := by
  obtain ⟨row, hg, hr⟩ := h
  refine (hg.block k (Array.getElem?_eq_some_iff.1 hk).1 fun e => ?_).trans hk
  obtain ⟨o', h1, h2⟩ := hr k e.symm
  rw [hk] at h1
  cases h1
  rw [ho] at h2
  cases h2
def BookWord (Bk : Bool → World → Prop) : Prop := ∀ b X Y, Bk b X → CellsOnly X Y → Bk b Y
def leaves {α : Type} (R : List α → World → Prop) (c : Code) (xs : List α) (W : World) : Prop := c = .ret ∧ R xs W
def IterG {α : Type} (F : Fence) (n : Nat) (P : Program) (gf : Nat) (lb : Array Value) (encs : α → Array Value) (S Sp : List α → Prop) (N : Nat) (Kp : World → World → Prop) (St : World → Prop) (I R : List α → World → Prop) (G : List α → α → World → Prop) : Prop :=
  ∀ (l : Nat) (Bk : Bool → World → Prop) (W : World), BookWord Bk → I [] W → St W → Bk true W →
    (∀ pre x W1, I pre W1 → G pre x W1 → Bk true W1 → pre.length < N → YieldAt F (n - 1) P l (encs x) W1 fun e W' => (e = .returned (.bool true) ∧ I (pre ++ [x]) W' ∧ Bk true W' ∧ Kp W1 W') ∨ (e = .returned (.bool false) ∧ R (pre ++ [x]) W' ∧ Bk false W')) →
    CallsIn F n P gf (#[.func (.yield l) #[] #[]] ++ lb) W fun e W' => (∃ v, e = .returned v) ∧ ((∃ xs, S xs ∧ I xs W' ∧ Bk true W') ∨ (∃ pre, Sp pre ∧ R pre W' ∧ Bk false W'))
theorem range_g {F : Fence} {n : Nat} {P : Program} {α : Type} {g : Operand} {ps : Array Tmp} {assign body : Code} {Q : Exit → Act → World → Prop} {a : Act} {w : World}
    (hro : F.round = none) (h1 : 1 ≤ n) {gf : Nat} {lb : Array Value} (hg : a.eval g = .func (.func gf) #[] lb) (hFg : F.fn gf) (eg : ∀ args w, (callFunc gf args).run P w = .ok (.enter gf args) w)
    (encs : α → Array Value) (S Sp : List α → Prop) (N : Nat) (Kp : World → World → Prop) (St : World → Prop) (I R : List α → World → Prop) (G : List α → α → World → Prop) (Ax : List α → α → Act → World → Prop) (hit : IterG F (n - 1) P gf lb encs S Sp N Kp St I R G)
    (hKt : ∀ {A B C : World}, Kp A B → Kp B C → Kp A C) (hKb : ∀ (W : World) (l : Nat) (o o' : Obj), w.heap.size ≤ l → W.heap[l]? = some o → o.isCells = false → Kp W (W.putObj l o')) (hps : ∀ x, (encs x).size = ps.size)
    (hI : OwnFrom w.heap.size I) (hR : OwnFrom w.heap.size R) (hAx : ∀ pre x a', OwnFrom w.heap.size (fun (_ : Unit) W => Ax pre x a' W)) (h0 : I [] w) (hSt : ∀ o o', St ((w.alloc o).alloc o'))
    (hassign : ∀ (l : Nat) (pre : List α) (x : α) (W : World) (K : Act → World → Prop), I pre W → G pre x W → (∀ a' W', KeepsFrom w.heap.size W W' → Kp W W' → I pre W' → Ax pre x a' W' → K a' W') →
      assign.wpIn (F.inRound l) (n - 1 - 1) P (Exit.then K (fun _ _ _ => False)) { tmps := (ps.zip (encs x)).foldl (fun t (p, v) => t.setIfInBounds p v) a.tmps, defers := [] } W)
    (hbody : ∀ (l : Nat) (pre : List α) (x : α) (a' : Act) (W : World), I pre W → Ax pre x a' W → pre.length < N → body.wpIn (F.inRound l) (n - 1 - 1) P (ownPostG w.heap.size Kp I (leaves R) (pre ++ [x]) W) a' W)
    (hdone : ∀ (xs : List α) (W : World), S xs → I xs W → W.heap[w.heap.size]? = some (.deferred (some [])) → Q .normal { a with defers := { target := .collected w.heap.size, args := #[] } :: a.defers } W)
    (hstop : ∀ (pre : List α) (W : World), Sp pre → R pre W → W.heap[w.heap.size]? = some (.deferred (some [])) → Code.ret.wpIn F n P Q { a with defers := { target := .collected w.heap.size, args := #[] } :: a.defers } W) :
    (Code.rangeFunc g ps assign body).wpIn F n P Q a w := by
  refine wpIn_rangeFunc fun fn hfn => ?_
  rw [hro]
  obtain ⟨lp, hlp⟩ : ∃ lp : LoopState → Option Code → Loop, lp = fun st pe => { state := st, pending := pe, fn, tmps := a.tmps, params := ps, assign, body, defers := w.heap.size } := ⟨_, rfl⟩
  obtain ⟨L, hL⟩ : ∃ L, L = w.heap.size + 1 := ⟨_, rfl⟩
  obtain ⟨W1, hW1⟩ : ∃ W1, W1 = (w.alloc (.deferred (some []))).alloc (.loop (lp .ready none)) := ⟨_, rfl⟩
  obtain ⟨Bk, hBk⟩ : ∃ Bk : Bool → World → Prop, Bk = fun b W => W.heap[L]? = some (.loop (if b = true then lp .ready none else lp .done (some .ret))) ∧ W.heap[w.heap.size]? = some (.deferred (some [])) := ⟨_, rfl⟩
  have hbook : BookWord Bk := fun b X Y h hc => by
    rw [hBk] at h ⊢
    exact ⟨cellsOnly_book hc h.1 rfl, cellsOnly_book hc h.2 rfl⟩
  have hI1 : I [] W1 := by rw [hW1]; exact hI.alloc _ (hI.alloc _ h0)
  have hB1 : Bk true W1 := by
    rw [hBk, hW1, hL]
    refine ⟨?_, (Below.heap_alloc _ _ _ (by simp)).trans (World.alloc_heap_new w _)⟩
    have := World.alloc_heap_new (w.alloc (.deferred (some []))) (.loop (lp .ready none))
    rwa [World.size_alloc] at this
  refine ⟨L, [{ target := .collected w.heap.size, args := #[] }], W1, { target := .fn (.func gf) lb, args := #[.func (.yield L) #[] #[]] }, W1, gf, #[.func (.yield L) #[] #[]] ++ lb, W1, ?_, ?_, ?_, ?_, fun _ => h1, ?_⟩
  · rw [hW1, hlp, hL]
    exact run_enterLoop_outer _ _ _ _ _
  · simp only [resolve, hg]
    simp [go_sem]
  · intro f' hf'
    simp [Target.leads] at hf'
    subst hf'
    exact hFg
  · simp [invoke, go_sem, eg]
  refine (hit L Bk W1 hbook hI1 (by rw [hW1]; exact hSt _ _) hB1 ?_).mono ?_
  · intro pre x W hi hgg hb hlen
    rw [hBk] at hb
    obtain ⟨hl, hd⟩ := hb
    simp only [if_true] at hl
    have hy := run_yield (P := P) (args := encs x) hl (by rw [hlp]; exact hps x)
    rw [hlp] at hy
    refine ⟨fn, _, assign, body, hy, roundIn_of_wpIn hfn (hassign _ pre x W _ hi hgg fun a' W' hk hkp hi' hax => ?_)⟩
    have hl' := hk.same _ _ (by omega) hl rfl
    have hd' := hk.same _ _ (Nat.le_refl _) hd rfl
    have hlt : L < W'.heap.size := (Array.getElem?_eq_some_iff.1 hl').1
    refine ⟨_, run_beginRound hl' (by rw [hlp]), ?_⟩
    obtain ⟨W2, hW2⟩ : ∃ W2, W2 = W'.putObj L (.loop { lp .ready none with state := .busy }) := ⟨_, rfl⟩
    rw [← hW2]
    have g1 : W2.heap[L]? = some (.loop { lp .ready none with state := .busy }) := by rw [hW2]; exact World.putObj_heap_same hlt
    have g2 : W2.heap[w.heap.size]? = some (.deferred (some [])) := by rw [hW2]; exact (World.putObj_heap_other (by omega)).trans hd'
    have g3 : I pre W2 := by rw [hW2]; exact hI.putObj _ hi' (by omega) hl' rfl
    have g5 : Kp W' W2 := by rw [hW2]; exact hKb _ _ _ _ (by omega) hl' rfl
    have g4 : Ax pre x a' W2 := by rw [hW2]; exact (hAx pre x a').putObj (s := ()) _ hax (by omega) hl' rfl
    have fin : ∀ (jump : Option Code) (W3 : World), KeepsFrom w.heap.size W2 W3 →
        W3.heap[L]? = some (.loop { lp .ready none with state := .busy }) ∧ ∃ W4, (Instr.endRound L jump).run P W3 = .ok (.bool jump.isNone) W4 ∧ W4 = W3.putObj L (.loop (lp (if jump.isNone then .ready else .done) jump)) ∧
        W4.heap[L]? = some (.loop (lp (if jump.isNone then .ready else .done) jump)) ∧ W4.heap[w.heap.size]? = some (.deferred (some [])) := fun jump W3 hk3 => by
      have q1 := hk3.same _ _ (by omega) g1 rfl
      have q2 := hk3.same _ _ (Nat.le_refl _) g2 rfl
      have q3 := run_endRound (P := P) jump q1
      refine ⟨q1, _, q3, ?_, ?_, (World.putObj_heap_other (by omega)).trans q2⟩
      · rw [hlp]
      · rw [World.putObj_heap_same (Array.getElem?_eq_some_iff.1 q1).1, hlp]
    refine wpIn_mono (hbody _ pre x a' W2 g3 g4 hlen) ?_
    rintro e a3 W3 hp
    cases e with
    | normal =>
      obtain ⟨hk3, hkp3, hi3⟩ := hp
      obtain ⟨q1, W4, q2, q3, q4, q5⟩ := fin none W3 hk3
      refine ⟨_, W4, q2, .inl ⟨rfl, ?_, ?_, ?_⟩⟩
      · rw [q3]; exact hI.putObj _ hi3 (by omega) q1 rfl
      · rw [hBk]; exact ⟨q4, q5⟩
      · rw [q3]; exact hKt hkp (hKt g5 (hKt hkp3 (hKb _ _ _ _ (by omega) q1 rfl)))
    | ret =>
      obtain ⟨hk3, hl3⟩ := hp
      obtain ⟨q1, W4, q2, q3, q4, q5⟩ := fin (some .ret) W3 hk3
      refine ⟨_, W4, q2, .inr ⟨rfl, ?_, ?_⟩⟩
      · rw [q3]; exact hR.putObj _ hl3.2 (by omega) q1 rfl
      · rw [hBk]; exact ⟨q4, q5⟩
    | exit id => obtain ⟨-, h, -⟩ := hp; cases h
    | goto t => obtain ⟨-, h, -⟩ := hp; cases h
    | panic ch => exact hp.elim
    | outgrown => exact hp.elim
  · rintro e W2 ⟨⟨v, rfl⟩, (⟨xs, hS, hi, hb⟩ | ⟨pre, hsp, hi, hb⟩)⟩
    · rw [hBk] at hb
      obtain ⟨hl, hd⟩ := hb
      simp only [if_true] at hl
      have q := run_endLoop (P := P) hl (by rw [hlp]; simp)
      rw [hlp] at q
      exact ⟨none, _, q, hdone xs _ hS (hI.putObj _ hi (by omega) hl rfl) ((World.putObj_heap_other (by omega)).trans hd)⟩
    · rw [hBk] at hb
      obtain ⟨hl, hd⟩ := hb
      simp only [Bool.false_eq_true, if_false] at hl
      have q := run_endLoop (P := P) hl (by rw [hlp]; simp)
      rw [hlp] at q
      exact ⟨some .ret, _, q, hstop pre _ hsp (hR.putObj _ hi (by omega) hl rfl) ((World.putObj_heap_other (by omega)).trans hd)⟩
def zQ : S30 := ⟨[], 0, 0, 0⟩
theorem at_Q {w : World} {A : Option Addr} {n : Nat} {xs : List S30} (h : Kd.C kQ w A n xs) (i : Int) (h0 : 0 ≤ i) (h1 : i < n) : ∃ ad, A = some ad ∧ w.cell? (ad.add (i.toNat * 4)) = some (.slice none 0 0) ∧
    w.cell? ⟨(ad.add (i.toNat * 4)).block, (ad.add (i.toNat * 4)).off + 1, none⟩ = some (.int .i64 (xs.getD i.toNat zQ).f1) ∧ w.cell? ⟨(ad.add (i.toNat * 4)).block, (ad.add (i.toNat * 4)).off + 2, none⟩ = some (.int .i64 (xs.getD i.toNat zQ).f2) ∧ w.cell? ⟨(ad.add (i.toNat * 4)).block, (ad.add (i.toNat * 4)).off + 3, none⟩ = some (.int .i64 (xs.getD i.toNat zQ).f3) := by
  obtain ⟨ad, c, e, _, hK, hc0⟩ := Kd.C_get h zQ i h0 h1
  have hc : ∀ j u, c[j]? = some u → w.cell? (ad.add (i.toNat * 4 + j)) = some u := hc0
  obtain ⟨-, rfl⟩ := hK
  exact ⟨ad, e, hc 0 _ rfl, by rw [← add_field _ _ 1 (by omega)]; exact hc 1 _ rfl, by rw [← add_field _ _ 2 (by omega)]; exact hc 2 _ rfl, by rw [← add_field _ _ 3 (by omega)]; exact hc 3 _ rfl⟩
def GQ (w0 : World) (c : S30) (u : List Int) (v : Value) (W : World) : Prop := ∃ A ca, v = .agg #[.slice A u.length ca, .int .i64 c.f1, .int .i64 c.f2, .int .i64 c.f3] ∧ Kd.R (Kd.int .i64) 3 W w0.heap.size (fun _ => True) (.slice A u.length ca) u
theorem cellsOnly_below {X Y : World} (h : Below X.heap.size X Y) : CellsOnly X Y := ⟨none, grown_of_below h none, fun r e => by cases e⟩
def up0 (n : Int) : Int := if n < 0 then 0 else n
theorem unit_R_other {base : Nat} {ok : Nat → Prop} {v : Value} {xs : List Int} {X : World} (h : Kd.R (Kd.int .i64) 3 X base ok v xs) {g ty : Nat} {cs : Array Value} (hb : X.heap[g]? = some (.cells cs ty (0, 0))) (ht : ty ≠ 3) (i : Nat) (u : Value) : Kd.R (Kd.int .i64) 3 (X.setCell ⟨g, i, none⟩ u) base ok v xs :=
  Kd.R_mono (Kd.R_step (Kd.R_bound h) (fun k hk _ => Below.heap_setCell X ⟨g, i, none⟩ u k (fun e => by
    obtain ⟨_, _, _, q, hq, cells, hc⟩ := hk
    have e' : k = g := e
    subst e'
    rw [hb] at hc
    injection hc with hc
    injection hc with _ hc
    have hq' : q = 3 := by simpa [Kd.int, Kd.scalar] using hq
    exact ht (hc.trans hq')))) (fun _ hk => hk.1)
theorem unit_row {W : World} {base : Nat} {v : Value} {xs : List Int} {x : Int} (h : W.ownsRow base 3 1 v (xs.length + 1) (encs (Value.int .i64) xs ++ [.int .i64 x])) : Kd.R (Kd.int .i64) 3 W base (fun _ => True) v (xs ++ [x]) :=
  Kd.R_of_own (enc := Value.int .i64) (h1 := fun _ => rfl) (xs := xs ++ [x]) (by
    have e : encs (Value.int .i64) (xs ++ [x]) = encs (Value.int .i64) xs ++ [.int .i64 x] := by simp [encs]
    rw [e, List.length_append]
    exact h) (fun _ _ => trivial)
theorem unit_push {wq w1 wr w' : World} {rb : Nat} {A : Option Addr} {ca : Nat} {L u : List Int} {f1 f2 f3 y : Int} {vu v' : Value}
    (h1 : wr.heap[rb]? = some (.cells #[.slice A L.length ca, .int .i64 f1, .int .i64 f2, .int .i64 f3] 30 (0, 0))) (h2 : Kd.R (Kd.int .i64) 3 wr w1.heap.size (fun _ => True) (.slice A L.length ca) L)
    (h3 : Kd.R (Kd.int .i64) 3 wr (rb + 1) (fun q => q < w1.heap.size) vu u) (h4 : Below wq.heap.size wq wr) (h5 : w1.heap.size ≤ wr.heap.size) (hq : wq.heap.size ≤ rb) (hr : rb < w1.heap.size)
    (hown : w'.ownsRow w1.heap.size 3 1 v' (L.length + 1) (encs (Value.int .i64) L ++ [.int .i64 y])) (hg : (wr.alloc (.cells #[.int .i64 y] 3)).grownBy w' (Value.slice A L.length ca).ownBlock) :
    ∃ A' c' nn, v' = .slice A' nn c' ∧ nn = (L ++ [y]).length ∧ w'.heap[rb]? = some (.cells #[.slice A L.length ca, .int .i64 f1, .int .i64 f2, .int .i64 f3] 30 (0, 0)) ∧
      (w'.setCell ⟨rb, 0, none⟩ (.slice A' nn c')).heap[rb]? = some (.cells #[.slice A' nn c', .int .i64 f1, .int .i64 f2, .int .i64 f3] 30 (0, 0)) ∧ Kd.R (Kd.int .i64) 3 (w'.setCell ⟨rb, 0, none⟩ (.slice A' nn c')) w1.heap.size (fun _ => True) (.slice A' nn c') (L ++ [y]) ∧
      Kd.R (Kd.int .i64) 3 (w'.setCell ⟨rb, 0, none⟩ (.slice A' nn c')) (rb + 1) (fun q => q < w1.heap.size) vu u ∧ (Below wq.heap.size wq (w'.setCell ⟨rb, 0, none⟩ (.slice A' nn c')) ∧ w1.heap.size ≤ (w'.setCell ⟨rb, 0, none⟩ (.slice A' nn c')).heap.size) := by
  have hgW := World.grownBy.trans (World.grownBy_alloc wr (.cells #[.int .i64 y] 3) (Value.slice A L.length ca).ownBlock) hg
  have hRn := unit_row hown
  obtain ⟨A', c', hv'⟩ := Kd.R_slice hRn
  obtain ⟨nn, hnn⟩ : ∃ nn, nn = (L ++ [y]).length := ⟨_, rfl⟩
  rw [← hnn] at hv'
  subst hv'
  have hO : w'.heap[rb]? = some (.cells #[.slice A L.length ca, .int .i64 f1, .int .i64 f2, .int .i64 f3] 30 (0, 0)) :=
    (hgW.block rb (by omega) (fun e => by have := Kd.R_base h2 rb e.symm; omega)).trans h1
  have h3' : Kd.R (Kd.int .i64) 3 w' (rb + 1) (fun q => q < w1.heap.size) vu u :=
    Kd.R_mono (Kd.R_step (Kd.R_bound h3) (fun k hk hlt => hgW.block k hlt (fun e2 => by have := Kd.R_base h2 k e2.symm; have := hk.1; omega))) (fun _ hk => hk.1)
  refine ⟨A', c', nn, rfl, hnn, hO, blk_put hO 0 _ rfl, unit_R_other hRn hO (by decide) 0 _, unit_R_other h3' hO (by decide) 0 _, below_set (h4.grown hgW h4.size (fun k hk => by have := Kd.R_base h2 k hk; omega)) hq, ?_⟩
  rw [World.size_setCell]
  have := hgW.size
  omega
attribute [local go_sem] Oper.semAt_some
set_option maxHeartbeats 4000000 in
set_option maxRecDepth 100000 in
theorem cands.iter (n : Nat) (w0 : World) (kb lb hb : Nat) (A0 A1 Ak : Option Addr) (c0 c1 ck : Nat) (low high : List Int) (k : Nat) (l : List S30) (us : Nat → List Int)
    (hk : w0.heap[kb]? = some (.cells #[.slice Ak l.length ck] 65 (0, 0))) (hl : w0.heap[lb]? = some (.cells #[.slice A0 low.length c0] 24 (0, 0))) (hh : w0.heap[hb]? = some (.cells #[.slice A1 high.length c1] 24 (0, 0)))
    (hkv : Kd.C kQ w0 Ak l.length l) (hck : l.length ≤ ck) (h1 : Kd.C (Kd.int .i64) w0 A0 low.length low) (hc1 : low.length ≤ c0) (h2 : Kd.C (Kd.int .i64) w0 A1 high.length high) (hc2 : high.length ≤ c1)
    (hlen : l.length ≤ 5000) (hus : ∀ j, j < l.length → refusal_leasts.f k low high [] (l.getD j zQ).f1 (l.getD j zQ).f2 (l.getD j zQ).f3 = some (us j)) (hul : ∀ j, (us j).length ≤ 5000)
    (I R : List Value → World → Prop) (hE : ∀ pre W, I pre W → Below w0.heap.size w0 W) (hIb : ∀ pre X Y, I pre X → Below X.heap.size X Y → I pre Y) :
    IterG Fence.wide n Tryd.prog 62 #[.pointer (some ⟨kb, 0, none⟩), .pointer (some ⟨lb, 0, none⟩), .pointer (some ⟨hb, 0, none⟩)] (fun v => #[v]) (fun xs => xs.length = l.length) (fun _ => True) l.length
      (fun _ _ => True) (fun _ => True) I R (fun pre v W => GQ w0 (l.getD pre.length zQ) ((us pre.length).map up0) v W) := by
  intro lp Bk W hbook hI0 _ hB0 hY
  have HY := Aside0.mk hY
  have HBK := Aside0.mk hbook
  have HIE := Aside0.mk hE
  have HIB := Aside0.mk hIb
  have HLS := Aside0.mk (fun (j : Nat) (hj : j < l.length) (W' : World) (hb' : Below w0.heap.size w0 W') => refusal_leasts.calls k A0 c0 low A1 c1 high none 0 [] (l.getD j zQ).f1 (l.getD j zQ).f2 (l.getD j zQ).f3 (us j) W' (Kd.C_below h1 hb') hc1 (Kd.C_below h2 hb') hc2 (Kd.C_nil _ _) (Nat.le_refl _) (hus j hj))
  have HAT := Aside0.mk (fun (W' : World) (hb' : Below w0.heap.size w0 W') => at_Q (Kd.C_below hkv hb'))
  have HBX := Aside0.mk (⟨hk, hl, hh⟩ : _ ∧ _ ∧ _)
  have HLN := Aside0.mk (⟨hlen, hul⟩ : _ ∧ _)
  have HCK := Aside0.mk hck
  have HI0 := Aside0.mk (⟨hI0, hB0, hE _ _ hI0⟩ : _ ∧ _ ∧ _)
  have hu := Tryd.underlying30
  have e1 : W.cell? ⟨kb, 0, none⟩ = some (.slice Ak l.length ck) := blk_cell (blk_below hk HI0.out.2.2) 0
  clear hY hbook hE hIb h1 h2 hc1 hc2 hI0 hB0 hk hl hh hkv hck hlen hus hul
  refine callsIn_of_wp Tryd.func62 rfl trivial ?_ rfl
  simp only [Tryd.ntmps62, List.size_toArray, List.length_cons, List.length_nil, Nat.reduceAdd, Nat.reduceSub, Array.replicate_succ, Array.replicate_zero, List.push_toArray, List.append_toArray, List.nil_append, List.cons_append]
  gi_wp2
  gi_loopg [11] (l.length + 1) (fun g s11 wr => ∃ (j : Nat) (pre : List Value), s11 = .int .i64 (j : Int) ∧ Aside0 (j ≤ l.length ∧ l.length + 1 - j ≤ g ∧ pre.length = j) ∧ Aside0 (I pre wr ∧ Bk true wr ∧ Below w0.heap.size w0 wr))
  case atStart => exact ⟨0, [], by rfl, ⟨by omega, by omega, rfl⟩, HI0⟩
  case round =>
    clear e1 HI0
    obtain ⟨j, pre, rfl, HJ, HN⟩ := hrel
    obtain ⟨wq, hwq⟩ : ∃ x, x = wr := ⟨_, rfl⟩
    subst hwq
    by_cases hlt : j < l.length
    case neg =>
      have hltb : decide (j < l.length) = false := decide_eq_false hlt
      have hltc : decide ((j : Int) < (l.length : Int)) = false := decide_eq_false (by omega)
      have HL := Aside0.mk hlt
      clear hlt
      gi_wp2
      go_end0
      exact ⟨⟨_, rfl⟩, .inl ⟨pre, by have := HJ.out; have := HL.out; show pre.length = l.length; omega, HN.out.1, HN.out.2.1⟩⟩
    have hltb : decide (j < l.length) = true := decide_eq_true hlt
    have hltc : decide ((j : Int) < (l.length : Int)) = true := decide_eq_true (by omega)
    have p1 : (0 ≤ (j : Int)) = True := eq_true (by omega)
    have p2 : ((j : Int) < (l.length : Int)) = True := eq_true (by omega)
    have p3 : (j < l.length) = True := eq_true hlt
    obtain ⟨ad, e, t0, t1, t2, t3⟩ := HAT.out wq HN.out.2.2 (j : Int) (by omega) (by omega)
    cases e
    rw [Int.toNat_natCast] at t0 t1 t2 t3
    obtain ⟨c, hc⟩ : ∃ c, l.getD j zQ = c := ⟨_, rfl⟩
    have hls := HLS.out j hlt
    rw [hc] at t1 t2 t3 hls
    have HLSj := Aside0.mk hls
    have HGJ := Aside0.mk hc
    have hw' : wrap64 ((j : Int) + 1) = (j : Int) + 1 := w64_ (by omega) (by have := HLN.out.1; omega)
    have hw : IntKind.i64.wrap ((j : Int) + 1) = (j : Int) + 1 := by rw [i64_w]; exact hw'
    have HW := Aside0.mk (⟨hw, hw'⟩ : _ ∧ _)
    have HLT := Aside0.mk hlt
    have e2 : ∀ o, (wq.alloc o).cell? ⟨lb, 0, none⟩ = some (.slice A0 low.length c0) := fun o => blk_cell (blk_alloc (blk_below HBX.out.2.1 HN.out.2.2) o) 0
    have e3 : ∀ o, (wq.alloc o).cell? ⟨hb, 0, none⟩ = some (.slice A1 high.length c1) := fun o => blk_cell (blk_alloc (blk_below HBX.out.2.2 HN.out.2.2) o) 0
    clear hlt hw hw' hc hls
    gi_wp2_with fail
    refine ⟨trivial, fun h => (by cases h), (callsIn_wide.2 (HLSj.out _ (below_alloc HN.out.2.2 _))).mono ?_⟩
    rintro e w1 ⟨v, rfl, hR, hb1⟩
    obtain ⟨Av, cv, rfl⟩ := Kd.R_slice hR
    obtain ⟨u, hu_⟩ : ∃ u, us j = u := ⟨_, rfl⟩
    have hul := HLN.out.2 j
    rw [hu_] at hR hul
    simp only [hu_]
    have HU := Aside0.mk hu_
    have HUL := Aside0.mk hul
    obtain ⟨rb, hrb⟩ : ∃ rb, rb = wq.heap.size := ⟨_, rfl⟩
    have RB : w1.heap[rb]? = some (.cells #[.slice none 0 0, .int .i64 c.f1, .int .i64 c.f2, .int .i64 c.f3] 30 (0, 0)) := by rw [hrb]; exact blk_below (blk_new wq _) hb1
    rw [← hrb]
    have hbw : Below wq.heap.size wq w1 := below_step (below_alloc (Below.refl _ _) _) hb1
    have hR1 : Kd.R (Kd.int .i64) 3 w1 (rb + 1) (fun q => q < w1.heap.size) (.slice Av u.length cv) u := by
      have h0 := Kd.R_mono (Kd.R_bound hR) (ok' := fun q => q < w1.heap.size) (fun q hq => hq.2.2.1)
      rw [World.size_alloc, ← hrb] at h0
      exact h0
    have HRB := Aside0.mk (show wq.heap.size ≤ rb ∧ rb < w1.heap.size from ⟨by omega, blk_lt RB⟩)
    have HJ0 := Aside0.mk (⟨RB, hR1, hbw⟩ : _ ∧ _ ∧ _)
    clear hR hb1 hu_ hul RB hR1 hbw t0 t1 t2 t3 e2 e3 hrb
    gi_wp2_with fail
    gi_loopg [20] (u.length + 1) (fun g s20 wz => ∃ (i : Nat), s20 = .int .i64 (i : Int) ∧ Aside0 (i ≤ u.length ∧ u.length + 1 - i ≤ g) ∧ Aside0 (∃ A ca, wz.heap[rb]? = some (.cells #[.slice A ((u.take i).map up0).length ca, .int .i64 c.f1, .int .i64 c.f2, .int .i64 c.f3] 30 (0, 0)) ∧ Kd.R (Kd.int .i64) 3 wz w1.heap.size (fun _ => True) (.slice A ((u.take i).map up0).length ca) ((u.take i).map up0)) ∧ Aside0 (Kd.R (Kd.int .i64) 3 wz (rb + 1) (fun q => q < w1.heap.size) (.slice Av u.length cv) u ∧ Below wq.heap.size wq wz ∧ w1.heap.size ≤ wz.heap.size))
    case atStart => exact ⟨0, by rfl, ⟨by omega, by omega⟩, ⟨none, 0, HJ0.out.1, Kd.R_nil _ _ _ _ _⟩, ⟨HJ0.out.2.1, HJ0.out.2.2, Nat.le_refl _⟩⟩
    case round =>
      clear HJ0
      obtain ⟨i, rfl, HI, HA, HZ⟩ := hrel
      obtain ⟨A, ca, hA1, hA2⟩ := HA.out
      clear HA
      by_cases hli : i < u.length
      case neg =>
        have ht : u.take i = u := List.take_of_length_le (by omega)
        rw [ht] at hA1 hA2
        have d1 : decide ((i : Int) < (u.length : Int)) = false := decide_eq_false (by omega)
        have d2 : decide (i < u.length) = false := decide_eq_false hli
        have s0 : wr.cell? ⟨rb, 0, none⟩ = some (.slice A (u.map up0).length ca) := blk_cell hA1 0
        have s1 : wr.cell? ⟨rb, 1, none⟩ = some (.int .i64 c.f1) := blk_cell hA1 1
        have s2 : wr.cell? ⟨rb, 2, none⟩ = some (.int .i64 c.f2) := blk_cell hA1 2
        have s3 : wr.cell? ⟨rb, 3, none⟩ = some (.int .i64 c.f3) := blk_cell hA1 3
        obtain ⟨X, hX⟩ : ∃ X : Value, X = .agg #[.slice A (u.map up0).length ca, .int .i64 c.f1, .int .i64 c.f2, .int .i64 c.f3] := ⟨_, rfl⟩
        obtain ⟨fn, tmps, assign, body, hy, hR⟩ := HY.out pre X wr (HIB.out _ _ _ HN.out.1 HZ.out.2.1) (by rw [HJ.out.2.2, HGJ.out, HU.out]; exact ⟨A, ca, hX, Kd.R_lower hA2 (by have := HN.out.2.2.size; have := HRB.out; omega)⟩) (HBK.out _ _ _ HN.out.2.1 (cellsOnly_below HZ.out.2.1)) (by rw [HJ.out.2.2]; exact HLT.out)
        have HXX := Aside0.mk hX
        rw [hX] at hy
        have HR := Aside0.mk hR
        clear hR hX hA1 hA2 ht hli
        generalize (u.map up0).length = un at *
        gi_wp2_with fail
        refine ⟨fun h => (by cases h), ?_⟩
        refine HR.out.mono ?_
        rintro e w3 h3
        obtain ⟨b, rfl, h6⟩ : ∃ b : Bool, e = .returned (.bool b) ∧ (if b = true then I (pre ++ [X]) w3 ∧ Bk true w3 else R (pre ++ [X]) w3 ∧ Bk false w3) := by
          rcases h3 with ⟨rfl, h4, h5, _⟩ | ⟨rfl, h4, h5⟩
          · exact ⟨true, rfl, by rw [if_pos rfl]; exact ⟨h4, h5⟩⟩
          · exact ⟨false, rfl, by rw [if_neg (by decide)]; exact ⟨h4, h5⟩⟩
        have H3 := Aside0.mk h6
        clear h6 h3 hy s0 s1 s2 s3
        cases b
        · have h4 := H3.out
          rw [if_neg (by decide)] at h4
          have H4 := Aside0.mk h4
          clear h4 H3
          gi_wp2
          refine bodyPost_ret (results_none rfl _ _ _) rfl ?_
          exact ⟨⟨_, rfl⟩, .inr ⟨_, trivial, H4.out.1, H4.out.2⟩⟩
        · have h4 := H3.out
          rw [if_pos rfl] at h4
          have H4 := Aside0.mk h4
          clear h4 H3
          gi_wp2
          gi_roundg (l.length + 1 - (j + 1))
          case measure => have := HJ.out; have := HLT.out; omega
          case rel => exact ⟨j + 1, pre ++ [X], by first | rfl | (rw [HW.out.1]; rfl) | (rw [HW.out.2]; rfl), ⟨HLT.out, Nat.le_refl _, by rw [List.length_append, HJ.out.2.2]; rfl⟩, ⟨H4.out.1, H4.out.2, HIE.out _ _ H4.out.1⟩⟩
      have d1 : decide ((i : Int) < (u.length : Int)) = true := decide_eq_true (by omega)
      have d2 : decide (i < u.length) = true := decide_eq_true hli
      have p5 : (0 ≤ (i : Int)) = True := eq_true (by omega)
      have p6 : ((i : Int) < (u.length : Int)) = True := eq_true (by omega)
      have p7 : (i < u.length) = True := eq_true hli
      obtain ⟨ad2, e2, x0⟩ := Kd.at_int (Kd.R_reads' HZ.out.1).2.2 (i : Int) (by omega) (by omega)
      cases e2
      rw [Int.toNat_natCast] at x0
      have hts : u.take (i + 1) = u.take i ++ [rd u (i : Int)] := by
        rw [List.take_succ_eq_append_getElem hli]
        unfold rd
        rw [Int.toNat_natCast, List.getD_eq_getElem?_getD, List.getElem?_eq_getElem hli]
        rfl
      generalize rd u (i : Int) = x at x0 hts
      obtain ⟨L, hL⟩ : ∃ L, L = (u.take i).map up0 := ⟨_, rfl⟩
      rw [← hL] at hA1 hA2
      have hLn : L.length ≤ 5000 := by rw [hL, List.length_map, List.length_take]; have := HUL.out; omega
      have HL2 := Aside0.mk (show (u.take (i + 1)).map up0 = L ++ [up0 x] by rw [hts, List.map_append, hL]; rfl)
      obtain ⟨i0, hi0, hz0, hz1, hz2⟩ : ∃ i0, Tryd.prog.info? 3 = some i0 ∧ i0.zero = some (.int .i64 0) ∧ i0.size = 1 ∧ i0.bytes = 8 := by
        have hinfo : (Tryd.prog.info? 3).map (fun i => (i.zero, i.size, i.bytes)) = some (some (.int .i64 0), 1, 8) := by kernel_rfl
        cases hq : Tryd.prog.info? 3 with
        | none => rw [hq] at hinfo; simp at hinfo
        | some i0 => rw [hq] at hinfo; simp at hinfo; exact ⟨i0, rfl, hinfo.1, hinfo.2.1, hinfo.2.2⟩
      have HZI := Aside0.mk (⟨hi0, hz0, hz1, hz2⟩ : _ ∧ _ ∧ _ ∧ _)
      have HA1 := Aside0.mk hA1
      have HA2 := Aside0.mk hA2
      have HLN2 := Aside0.mk hLn
      have HLI := Aside0.mk hli
      have s0 : wr.cell? ⟨rb, 0, none⟩ = some (.slice A L.length ca) := blk_cell hA1 0
      clear hL hts hi0 hz0 hz1 hz2 hA1 hA2 hLn hli
      have HWI := Aside0.mk (⟨by rw [i64_w]; exact w64_ (by omega) (by have := HUL.out; have := HLI.out; omega), w64_ (by omega) (by have := HUL.out; have := HLI.out; omega)⟩ : IntKind.i64.wrap ((i : Int) + 1) = (i : Int) + 1 ∧ wrap64 ((i : Int) + 1) = (i : Int) + 1)
      by_cases hx0 : x < 0
      case pos =>
        have HUP := Aside0.mk (show up0 x = 0 by unfold up0; exact if_pos hx0)
        have p8 : (x < 0) = True := eq_true hx0
        have p9 : (0 ≤ x) = False := eq_false (by omega)
        clear hx0
        gi_wp2_with (gi_at_builtin; refine wpListIn_append_own _ rfl (.tmp 25) (.tmp 28) 24 rfl w1.heap.size 3 i0 (.int .i64 0) 1 8 Tryd.underlying24 HZI.out.1 HZI.out.2.1 HZI.out.2.2.1 HZI.out.2.2.2 rfl (by decide) (.slice A L.length ca) L.length (encs (Value.int .i64) L) rfl ?hown ⟨wr.heap.size, 0, none⟩ 1 1 [.int .i64 0] rfl rfl ?hc ?h1c ?b1 ?b2 ?b3 ?_; (case hown => exact (Kd.own_of_R HA2.out).alloc _); (case hc => simpa using World.news_of_block (cs := #[.int .i64 0]) (t := 3) (fr := (0, 0)) (heap_alloc_new wr (.cells #[.int .i64 0] 3))); (case h1c => exact fun u hu => by rw [List.mem_singleton] at hu; rw [hu]; rfl); (case b1 => have := HLN2.out; simp only [maxLen]; omega); (case b2 => have := HLN2.out; omega); (case b3 => have := HZ.out.2.2; rw [World.size_alloc]; omega); intro v' w' hown hg hat; have HP := Aside0.mk (unit_push HA1.out HA2.out HZ.out.1 HZ.out.2.1 HZ.out.2.2 HRB.out.1 HRB.out.2 hown hg); clear hown hg hat; obtain ⟨A', c', nn, rfl, -, hO', -, -, -, -⟩ := id HP.out; have s0' := blk_cell hO' 0; have s1' := blk_frozen hO' 0; clear hO')
        gi_roundg (u.length + 1 - (i + 1))
        case measure => have := HI.out; have := HLI.out; omega
        case rel =>
          have e4 : (u.take (i + 1)).map up0 = L ++ [0] := by rw [HL2.out, HUP.out]
          refine ⟨i + 1, by first | rfl | (rw [HWI.out.1]; rfl) | (rw [HWI.out.2]; rfl), ⟨HLI.out, Nat.le_refl _⟩, ⟨A', c', ?_⟩, ?_⟩
          · obtain ⟨_, _, _, e5, hnn, -, q1, q2, -, -⟩ := HP.out
            cases e5
            rw [e4, ← hnn]
            exact ⟨q1, q2⟩
          · obtain ⟨_, _, _, e5, -, -, -, -, q3, q4⟩ := HP.out
            cases e5
            exact ⟨q3, q4⟩
      case neg =>
        have HUP := Aside0.mk (show up0 x = x by unfold up0; exact if_neg hx0)
        have p8 : (x < 0) = False := eq_false hx0
        have p9 : (0 ≤ x) = True := eq_true (by omega)
        clear hx0
        gi_wp2_with (gi_at_builtin; refine wpListIn_append_own _ rfl (.tmp 25) (.tmp 28) 24 rfl w1.heap.size 3 i0 (.int .i64 0) 1 8 Tryd.underlying24 HZI.out.1 HZI.out.2.1 HZI.out.2.2.1 HZI.out.2.2.2 rfl (by decide) (.slice A L.length ca) L.length (encs (Value.int .i64) L) rfl ?hown ⟨wr.heap.size, 0, none⟩ 1 1 [.int .i64 x] rfl rfl ?hc ?h1c ?b1 ?b2 ?b3 ?_; (case hown => exact (Kd.own_of_R HA2.out).alloc _); (case hc => simpa using World.news_of_block (cs := #[.int .i64 x]) (t := 3) (fr := (0, 0)) (heap_alloc_new wr (.cells #[.int .i64 x] 3))); (case h1c => exact fun u hu => by rw [List.mem_singleton] at hu; rw [hu]; rfl); (case b1 => have := HLN2.out; simp only [maxLen]; omega); (case b2 => have := HLN2.out; omega); (case b3 => have := HZ.out.2.2; rw [World.size_alloc]; omega); intro v' w' hown hg hat; have HP := Aside0.mk (unit_push HA1.out HA2.out HZ.out.1 HZ.out.2.1 HZ.out.2.2 HRB.out.1 HRB.out.2 hown hg); clear hown hg hat; obtain ⟨A', c', nn, rfl, -, hO', -, -, -, -⟩ := id HP.out; have s0' := blk_cell hO' 0; have s1' := blk_frozen hO' 0; clear hO')
        gi_roundg (u.length + 1 - (i + 1))
        case measure => have := HI.out; have := HLI.out; omega
        case rel =>
          have e4 : (u.take (i + 1)).map up0 = L ++ [x] := by rw [HL2.out, HUP.out]
          refine ⟨i + 1, by first | rfl | (rw [HWI.out.1]; rfl) | (rw [HWI.out.2]; rfl), ⟨HLI.out, Nat.le_refl _⟩, ⟨A', c', ?_⟩, ?_⟩
          · obtain ⟨_, _, _, e5, hnn, -, q1, q2, -, -⟩ := HP.out
            cases e5
            rw [e4, ← hnn]
            exact ⟨q1, q2⟩
          · obtain ⟨_, _, _, e5, -, -, -, -, q3, q4⟩ := HP.out
            cases e5
            exact ⟨q3, q4⟩
def refusal_strange.f (a0 : Int) : Option (Bool) := if a0 < 0 then (some true) else (some (decide (a0 > 1125899906842624)))
set_option maxHeartbeats 8000000 in
set_option maxRecDepth 100000 in
theorem refusal_strange.calls (a0 : Int) (r : Bool) (w : World) (h : refusal_strange.f a0 = some r) :
  Calls Tryd.prog 64 #[.int .i64 a0] w fun e w' => e = .returned (.bool r) ∧ Drawn0 w w' := by
 have H : (if a0 < 0 then (some true) else (some (decide (a0 > 1125899906842624)))) = some r := h
 clear h
 by_cases c2 : a0 < 0
 ·rw [if_pos c2] at H
  have c2b0 : decide (a0 < 0) = true := decide_eq_true c2
  clear c2
  obtain rfl := Option.some.inj H
  go_enter Tryd.func64, Tryd.ntmps64
  go_wp2
  go_ret
  exact ⟨by first | rfl | (simp; done) | (simp [*]; done), by repeat (first | exact Drawn0.refl _ | apply Drawn0.step)⟩
 ·rw [if_neg c2] at H
  have c2b0 : decide (a0 < 0) = false := decide_eq_false c2
  clear c2
  obtain rfl := Option.some.inj H
  go_enter Tryd.func64, Tryd.ntmps64
  go_wp2
  go_ret
  exact ⟨by first | rfl | (simp; done) | (simp [*]; done), by repeat (first | exact Drawn0.refl _ | apply Drawn0.step)⟩
end Go.Proofs.YtcdkbciagchlgaaDoor.PF
