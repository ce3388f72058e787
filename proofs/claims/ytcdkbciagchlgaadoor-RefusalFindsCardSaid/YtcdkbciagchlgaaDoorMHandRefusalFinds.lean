/- The walk through the law RefusalFinds of package spilelaw30. -/
import Derived.Test.YtcdkbciagchlgaaDoorMEv
import Derived.Test.YtcdkbciagchlgaaDoorMRef30
import Derived.Test.YtcdkbciagchlgaaDoorMRef30c
import Derived.Test.YtcdkbciagchlgaaDoorMRef30d
import Derived.Test.YtcdkbciagchlgaaDoorMWhy30
import Derived.Test.YtcdkbciagchlgaaDoorPF0
import Derived.Test.YtcdkbciagchlgaaDoorPF10
import Derived.Test.YtcdkbciagchlgaaDoorPF14
import Derived.Test.YtcdkbciagchlgaaDoorPF15
import Derived.Test.YtcdkbciagchlgaaDoorPF16
import Derived.Test.YtcdkbciagchlgaaDoorPF6
import Derived.Test.YtcdkbciagchlgaaDoorPF9
namespace Go.Proofs.YtcdkbciagchlgaaDoor.PF
open Go.RowKit Go.Proofs.YtcdkbciagchlgaaDoorW.PrintWords Go.Proofs.YtcdkbciagchlgaaDoorW.PrintLast Go.Proofs.YtcdkbciagchlgaaDoorW.PrintMore
set_option linter.unusedVariables false
set_option linter.unusedSimpArgs false
def spilelaw30_RefusalFinds.f (l : List S82) (L : List S45) (V C : List Int) (lo hi al : Int) : Option Bool := some true
theorem refuseR_len {l : List S82} {L : List S45} {V : List Int} {lo hi al : Int} (h : L.length ≤ 4) : (refuseR (rfsS l L V lo hi al)).1.length ≤ 1000 := by
  rcases refuseR_cases (rfsS l L V lo hi al) with ⟨r, hr, -, e⟩ | ⟨-, e⟩
  · rw [e]
    obtain ⟨c, -, rfl⟩ := List.mem_map.1 hr
    show (untS l L lo hi c).length ≤ 1000
    rw [untS_len]
    omega
  · rw [e]
    exact Nat.zero_le _
/-- What the program and the reference both return. -/
theorem finds_known (l : List S82) (L : List S45) (V C : List Int) (lo hi al : Int) : ∃ (x1 x2 : List Int) (x3 : Int) (y1 : List Int) (y2 y3 y4 y5 : Int) (N : Nat), x1.length ≤ 1000 ∧ x2.length ≤ 1000 ∧ y1.length ≤ 1000 ∧ refusal_Excess.f N l L V C lo hi al = some (x1, x2, x3) ∧ spileref30_Excess.f N l L V C lo hi al = some (x1, x2, x3) ∧
    refusal_Refuse.f N l L V C lo hi al = some (y1, y2, y3, y4, y5) ∧ spileref30_Refuse.f N l L V C lo hi al = some (y1, y2, y3, y4, y5) ∧ slices_Equal_int_int.f N x1 x1 = some true ∧ slices_Equal_int_int.f N x2 x2 = some true ∧ spileref30_Same.f N y1 y2 y3 y4 y1 y2 y3 y4 = some true := by
  obtain ⟨X, Y, h1, h2, h3, h4, l1, l2, l3⟩ : ∃ X Y, Ev (fun k => refusal_Excess.f k l L V C lo hi al) X ∧ Ev (fun k => spileref30_Excess.f k l L V C lo hi al) X ∧ Ev (fun k => refusal_Refuse.f k l L V C lo hi al) Y ∧ Ev (fun k => spileref30_Refuse.f k l L V C lo hi al) Y ∧ X.1.length ≤ 1000 ∧ X.2.1.length ≤ 1000 ∧ Y.1.length ≤ 1000 := by
    by_cases h : OrdOK l L V C lo hi al
    · have n4 := h.n4
      exact ⟨_, _, Excess_ev h, rExcess_ev h, Refuse_ev h, rRefuse_ev h, by show (exLow _ _ _).length ≤ 1000; rw [exLow_len]; omega, by show (exHigh _ _ _).length ≤ 1000; rw [exHigh_len]; split <;> omega, refuseR_len n4⟩
    · exact ⟨_, _, Ev.now (fun k => Excess_no h k), rExcess_no h, Ev.now (fun k => Refuse_no h k), rRefuse_no h, Nat.zero_le _, Nat.zero_le _, Nat.zero_le _⟩
  obtain ⟨x1, x2, x3⟩ := X
  obtain ⟨y1, y2, y3, y4, y5⟩ := Y
  obtain ⟨N1, h1⟩ := h1
  obtain ⟨N2, h2⟩ := h2
  obtain ⟨N3, h3⟩ := h3
  obtain ⟨N4, h4⟩ := h4
  obtain ⟨N5, h5⟩ := eq_ev l1
  obtain ⟨N6, h6⟩ := eq_ev l2
  obtain ⟨N7, h7⟩ := same_ev l3 y2 y3 y4
  exact ⟨x1, x2, x3, y1, y2, y3, y4, y5, N1 + N2 + N3 + N4 + N5 + N6 + N7, l1, l2, l3, h1 _ (by omega), h2 _ (by omega), h3 _ (by omega), h4 _ (by omega), h5 _ (by omega), h6 _ (by omega), h7 _ (by omega)⟩
set_option maxHeartbeats 8000000 in
set_option maxRecDepth 100000 in
theorem spilelaw30_RefusalFinds.calls (A0 : Option Addr) (c0 : Nat) (l : List S82) (A1_0 : Option Addr) (c1_0 : Nat) (L : List S45) (A1_1 : Option Addr) (c1_1 : Nat) (V : List Int) (A1_2 : Option Addr) (c1_2 : Nat) (C : List Int) (lo hi al : Int) (r : Bool) (w : World)
    (hr0 : Kd.C k82 w A0 l.length l) (hc0 : l.length ≤ c0) (hr1_0 : Kd.C k45 w A1_0 L.length L) (hc1_0 : L.length ≤ c1_0) (hr1_1 : Kd.C (Kd.int .i64) w A1_1 V.length V) (hc1_1 : V.length ≤ c1_1) (hr1_2 : Kd.C (Kd.int .i64) w A1_2 C.length C) (hc1_2 : C.length ≤ c1_2)
    (hA_ : Aside0 (∀ w1, Below w.heap.size w w1 → AwakeOK w1)) (hP_ : Aside0 (∀ w1, Below w.heap.size w w1 → WhyOK w1)) (h : spilelaw30_RefusalFinds.f l L V C lo hi al = some r) :
    Calls Tryd.prog 3 #[.slice A0 l.length c0, .agg #[.slice A1_0 L.length c1_0, .slice A1_1 V.length c1_1, .slice A1_2 C.length c1_2, .int .i64 lo, .int .i64 hi, .int .i64 al]] w fun e w' => e = .returned (.bool r) ∧ Below w.heap.size w w' := by
  obtain rfl : true = r := Option.some.inj h
  clear h
  have hu1 := Tryd.underlying26
  have hu2 := Tryd.underlying30
  obtain ⟨b, hb, -⟩ := few30_some l L V C lo hi al [] 0 0 0
  obtain ⟨x1, x2, x3, y1, y2, y3, y4, y5, N, -, -, -, k1, k2, k3, k4, k5, k6, k7⟩ := finds_known l L V C lo hi al
  have HFW := Aside0.mk (fun (W : World) (hw : Below w.heap.size w W) => spilelaw30_few.calls A0 c0 l A1_0 c1_0 L A1_1 c1_1 V A1_2 c1_2 C lo hi al none 0 [] 0 0 0 b W (Kd.C_below hr0 hw) hc0 (Kd.C_below hr1_0 hw) hc1_0 (Kd.C_below hr1_1 hw) hc1_1 (Kd.C_below hr1_2 hw) hc1_2 (Kd.C_nil _ _) (Nat.le_refl _) hb)
  have HX1 := Aside0.mk (fun (W : World) (hw : Below w.heap.size w W) => refusal_Excess.calls N A0 c0 l A1_0 c1_0 L A1_1 c1_1 V A1_2 c1_2 C lo hi al x1 x2 x3 W (Kd.C_below hr0 hw) hc0 (Kd.C_below hr1_0 hw) hc1_0 (Kd.C_below hr1_1 hw) hc1_1 (Kd.C_below hr1_2 hw) hc1_2 k1)
  have HX2 := Aside0.mk (fun (W : World) (hw : Below w.heap.size w W) => spileref30_Excess.calls N A0 c0 l A1_0 c1_0 L A1_1 c1_1 V A1_2 c1_2 C lo hi al x1 x2 x3 W (Kd.C_below hr0 hw) hc0 (Kd.C_below hr1_0 hw) hc1_0 (Kd.C_below hr1_1 hw) hc1_1 (Kd.C_below hr1_2 hw) hc1_2 k2)
  have HY1 := Aside0.mk (fun (W : World) (hw : Below w.heap.size w W) => refusal_Refuse.calls N A0 c0 l A1_0 c1_0 L A1_1 c1_1 V A1_2 c1_2 C lo hi al y1 y2 y3 y4 y5 W (Kd.C_below hr0 hw) hc0 (Kd.C_below hr1_0 hw) hc1_0 (Kd.C_below hr1_1 hw) hc1_1 (Kd.C_below hr1_2 hw) hc1_2 k3)
  have HY2 := Aside0.mk (fun (W : World) (hw : Below w.heap.size w W) => spileref30_Refuse.calls N A0 c0 l A1_0 c1_0 L A1_1 c1_1 V A1_2 c1_2 C lo hi al y1 y2 y3 y4 y5 W (Kd.C_below hr0 hw) hc0 (Kd.C_below hr1_0 hw) hc1_0 (Kd.C_below hr1_1 hw) hc1_1 (Kd.C_below hr1_2 hw) hc1_2 k4)
  have HEQ := Aside0.mk (⟨k5, k6, k7⟩ : _ ∧ _ ∧ _)
  clear hr0 hc0 hr1_0 hc1_0 hr1_1 hc1_1 hr1_2 hc1_2 hb k1 k2 k3 k4 k5 k6 k7 hP_
  have e0 : (x3 == x3) = true := beq_self_eq_true _
  have e1 : (y5 == y5) = true := beq_self_eq_true _
  have HB := Aside0.mk (Below.refl w.heap.size w)
  go_enter Tryd.func3, Tryd.ntmps3
  go_wp2_with fail
  obtain ⟨w1, hw1⟩ : ∃ x, x = w.alloc (.cells #[.slice A1_0 L.length c1_0, .slice A1_1 V.length c1_1, .slice A1_2 C.length c1_2, .int .i64 lo, .int .i64 hi, .int .i64 al] 26) := ⟨_, rfl⟩
  have HB1 := Aside0.mk (show Below w.heap.size w w1 by rw [hw1]; exact below_alloc (Below.refl _ _) _)
  have BO := Aside0.mk (show w1.heap[w.heap.size]? = some (.cells #[.slice A1_0 L.length c1_0, .slice A1_1 V.length c1_1, .slice A1_2 C.length c1_2, .int .i64 lo, .int .i64 hi, .int .i64 al] 26 (0, 0)) by rw [hw1]; exact blk_new w _)
  rw [← hw1]
  replace HB := HB1
  clear hw1 HB1
  obtain ⟨bo, hbo⟩ : ∃ b, b = w.heap.size := ⟨_, rfl⟩
  rw [← hbo] at BO
  try rw [← hbo]
  clear hbo
  refine (spilelaw30_awake.calls true _ rfl (hA_.out _ HB.out)).mono ?_
  rintro e w2 ⟨rfl, hb⟩
  replace HB := Aside0.mk (below_step HB.out hb)
  replace BO := Aside0.mk (blk_below BO.out hb)
  clear hb
  have d0 : w2.cell? ⟨bo, 0, none⟩ = some (.slice A1_0 L.length c1_0) := blk_cell BO.out 0
  have d1 : w2.cell? ⟨bo, 1, none⟩ = some (.slice A1_1 V.length c1_1) := blk_cell BO.out 1
  have d2 : w2.cell? ⟨bo, 2, none⟩ = some (.slice A1_2 C.length c1_2) := blk_cell BO.out 2
  have d3 : w2.cell? ⟨bo, 3, none⟩ = some (.int .i64 lo) := blk_cell BO.out 3
  have d4 : w2.cell? ⟨bo, 4, none⟩ = some (.int .i64 hi) := blk_cell BO.out 4
  have d5 : w2.cell? ⟨bo, 5, none⟩ = some (.int .i64 al) := blk_cell BO.out 5
  go_wp2_with fail
  refine (HFW.out _ HB.out).mono ?_
  rintro e w3 ⟨rfl, hb⟩
  clear d0 d1 d2 d3 d4 d5
  replace HB := Aside0.mk (below_step HB.out hb)
  replace BO := Aside0.mk (blk_below BO.out hb)
  clear hb
  have d0 : w3.cell? ⟨bo, 0, none⟩ = some (.slice A1_0 L.length c1_0) := blk_cell BO.out 0
  have d1 : w3.cell? ⟨bo, 1, none⟩ = some (.slice A1_1 V.length c1_1) := blk_cell BO.out 1
  have d2 : w3.cell? ⟨bo, 2, none⟩ = some (.slice A1_2 C.length c1_2) := blk_cell BO.out 2
  have d3 : w3.cell? ⟨bo, 3, none⟩ = some (.int .i64 lo) := blk_cell BO.out 3
  have d4 : w3.cell? ⟨bo, 4, none⟩ = some (.int .i64 hi) := blk_cell BO.out 4
  have d5 : w3.cell? ⟨bo, 5, none⟩ = some (.int .i64 al) := blk_cell BO.out 5
  cases b
  case false =>
    go_wp2_with fail
    go_ret
    exact ⟨rfl, HB.out⟩
  go_wp2_with fail
  refine (HX1.out _ HB.out).mono ?_
  rintro e w4 ⟨v1, v2, rfl, ho1, ho2, hb⟩
  clear d0 d1 d2 d3 d4 d5
  replace HB := Aside0.mk (below_step HB.out hb)
  replace BO := Aside0.mk (blk_below BO.out hb)
  obtain ⟨B1, b1, rfl⟩ := Kd.R_slice ho1
  obtain ⟨B2, b2, rfl⟩ := Kd.R_slice ho2
  have F1 := Aside0.mk (Kd.R_reads' ho1).2
  have F2 := Aside0.mk (Kd.R_reads' ho2).2
  clear ho1 ho2
  clear hb
  have d0 : w4.cell? ⟨bo, 0, none⟩ = some (.slice A1_0 L.length c1_0) := blk_cell BO.out 0
  have d1 : w4.cell? ⟨bo, 1, none⟩ = some (.slice A1_1 V.length c1_1) := blk_cell BO.out 1
  have d2 : w4.cell? ⟨bo, 2, none⟩ = some (.slice A1_2 C.length c1_2) := blk_cell BO.out 2
  have d3 : w4.cell? ⟨bo, 3, none⟩ = some (.int .i64 lo) := blk_cell BO.out 3
  have d4 : w4.cell? ⟨bo, 4, none⟩ = some (.int .i64 hi) := blk_cell BO.out 4
  have d5 : w4.cell? ⟨bo, 5, none⟩ = some (.int .i64 al) := blk_cell BO.out 5
  go_wp2_with fail
  refine (HX2.out _ HB.out).mono ?_
  rintro e w5 ⟨v1, v2, rfl, ho1, ho2, hb⟩
  clear d0 d1 d2 d3 d4 d5
  replace HB := Aside0.mk (below_step HB.out hb)
  replace BO := Aside0.mk (blk_below BO.out hb)
  replace F1 := Aside0.mk (⟨F1.out.1, Kd.C_below F1.out.2 hb⟩ : _ ∧ _)
  replace F2 := Aside0.mk (⟨F2.out.1, Kd.C_below F2.out.2 hb⟩ : _ ∧ _)
  obtain ⟨B3, b3, rfl⟩ := Kd.R_slice ho1
  obtain ⟨B4, b4, rfl⟩ := Kd.R_slice ho2
  have F3 := Aside0.mk (Kd.R_reads' ho1).2
  have F4 := Aside0.mk (Kd.R_reads' ho2).2
  clear ho1 ho2
  clear hb
  have d0 : w5.cell? ⟨bo, 0, none⟩ = some (.slice A1_0 L.length c1_0) := blk_cell BO.out 0
  have d1 : w5.cell? ⟨bo, 1, none⟩ = some (.slice A1_1 V.length c1_1) := blk_cell BO.out 1
  have d2 : w5.cell? ⟨bo, 2, none⟩ = some (.slice A1_2 C.length c1_2) := blk_cell BO.out 2
  have d3 : w5.cell? ⟨bo, 3, none⟩ = some (.int .i64 lo) := blk_cell BO.out 3
  have d4 : w5.cell? ⟨bo, 4, none⟩ = some (.int .i64 hi) := blk_cell BO.out 4
  have d5 : w5.cell? ⟨bo, 5, none⟩ = some (.int .i64 al) := blk_cell BO.out 5
  go_wp2_with fail
  refine (HY1.out _ HB.out).mono ?_
  rintro e w6 ⟨v1, rfl, ho1, hb⟩
  clear d0 d1 d2 d3 d4 d5
  replace HB := Aside0.mk (below_step HB.out hb)
  replace BO := Aside0.mk (blk_below BO.out hb)
  replace F1 := Aside0.mk (⟨F1.out.1, Kd.C_below F1.out.2 hb⟩ : _ ∧ _)
  replace F2 := Aside0.mk (⟨F2.out.1, Kd.C_below F2.out.2 hb⟩ : _ ∧ _)
  replace F3 := Aside0.mk (⟨F3.out.1, Kd.C_below F3.out.2 hb⟩ : _ ∧ _)
  replace F4 := Aside0.mk (⟨F4.out.1, Kd.C_below F4.out.2 hb⟩ : _ ∧ _)
  obtain ⟨B5, b5, rfl⟩ := Kd.R_slice ho1
  have F5 := Aside0.mk (Kd.R_reads' ho1).2
  clear ho1
  clear hb
  have d0 : w6.cell? ⟨bo, 0, none⟩ = some (.slice A1_0 L.length c1_0) := blk_cell BO.out 0
  have d1 : w6.cell? ⟨bo, 1, none⟩ = some (.slice A1_1 V.length c1_1) := blk_cell BO.out 1
  have d2 : w6.cell? ⟨bo, 2, none⟩ = some (.slice A1_2 C.length c1_2) := blk_cell BO.out 2
  have d3 : w6.cell? ⟨bo, 3, none⟩ = some (.int .i64 lo) := blk_cell BO.out 3
  have d4 : w6.cell? ⟨bo, 4, none⟩ = some (.int .i64 hi) := blk_cell BO.out 4
  have d5 : w6.cell? ⟨bo, 5, none⟩ = some (.int .i64 al) := blk_cell BO.out 5
  go_upto_region 8 with fail
  obtain ⟨w7, hw_⟩ : ∃ x, x = w6.alloc (.cells #[.slice B5 y1.length b5, .int .i64 y2, .int .i64 y3, .int .i64 y4] 30) := ⟨_, rfl⟩
  rw [← hw_]
  have hb : Below w6.heap.size w6 w7 := by rw [hw_]; exact below_alloc (Below.refl _ _) _
  clear d0 d1 d2 d3 d4 d5
  replace HB := Aside0.mk (below_step HB.out hb)
  replace BO := Aside0.mk (blk_below BO.out hb)
  replace F1 := Aside0.mk (⟨F1.out.1, Kd.C_below F1.out.2 hb⟩ : _ ∧ _)
  replace F2 := Aside0.mk (⟨F2.out.1, Kd.C_below F2.out.2 hb⟩ : _ ∧ _)
  replace F3 := Aside0.mk (⟨F3.out.1, Kd.C_below F3.out.2 hb⟩ : _ ∧ _)
  replace F4 := Aside0.mk (⟨F4.out.1, Kd.C_below F4.out.2 hb⟩ : _ ∧ _)
  replace F5 := Aside0.mk (⟨F5.out.1, Kd.C_below F5.out.2 hb⟩ : _ ∧ _)
  have BX := Aside0.mk (show w7.heap[w6.heap.size]? = some (.cells #[.slice B5 y1.length b5, .int .i64 y2, .int .i64 y3, .int .i64 y4] 30 (0, 0)) by rw [hw_]; exact blk_new _ _)
  clear hw_ hb
  obtain ⟨g1, hg_⟩ : ∃ g, g = w6.heap.size := ⟨_, rfl⟩
  rw [← hg_] at BX
  try rw [← hg_]
  clear hg_
  have d0 : w7.cell? ⟨bo, 0, none⟩ = some (.slice A1_0 L.length c1_0) := blk_cell BO.out 0
  have d1 : w7.cell? ⟨bo, 1, none⟩ = some (.slice A1_1 V.length c1_1) := blk_cell BO.out 1
  have d2 : w7.cell? ⟨bo, 2, none⟩ = some (.slice A1_2 C.length c1_2) := blk_cell BO.out 2
  have d3 : w7.cell? ⟨bo, 3, none⟩ = some (.int .i64 lo) := blk_cell BO.out 3
  have d4 : w7.cell? ⟨bo, 4, none⟩ = some (.int .i64 hi) := blk_cell BO.out 4
  have d5 : w7.cell? ⟨bo, 5, none⟩ = some (.int .i64 al) := blk_cell BO.out 5
  have p0 : w7.cell? ⟨g1, 0, none⟩ = some (.slice B5 y1.length b5) := blk_cell BX.out 0
  have p1 : w7.cell? ⟨g1, 1, none⟩ = some (.int .i64 y2) := blk_cell BX.out 1
  have p2 : w7.cell? ⟨g1, 2, none⟩ = some (.int .i64 y3) := blk_cell BX.out 2
  have p3 : w7.cell? ⟨g1, 3, none⟩ = some (.int .i64 y4) := blk_cell BX.out 3
  go_wp2_with fail
  refine (HY2.out _ HB.out).mono ?_
  rintro e w8 ⟨v1, rfl, ho1, hb⟩
  clear d0 d1 d2 d3 d4 d5 p0 p1 p2 p3
  replace HB := Aside0.mk (below_step HB.out hb)
  replace BO := Aside0.mk (blk_below BO.out hb)
  replace BX := Aside0.mk (blk_below BX.out hb)
  replace F1 := Aside0.mk (⟨F1.out.1, Kd.C_below F1.out.2 hb⟩ : _ ∧ _)
  replace F2 := Aside0.mk (⟨F2.out.1, Kd.C_below F2.out.2 hb⟩ : _ ∧ _)
  replace F3 := Aside0.mk (⟨F3.out.1, Kd.C_below F3.out.2 hb⟩ : _ ∧ _)
  replace F4 := Aside0.mk (⟨F4.out.1, Kd.C_below F4.out.2 hb⟩ : _ ∧ _)
  replace F5 := Aside0.mk (⟨F5.out.1, Kd.C_below F5.out.2 hb⟩ : _ ∧ _)
  obtain ⟨B6, b6, rfl⟩ := Kd.R_slice ho1
  have F6 := Aside0.mk (Kd.R_reads' ho1).2
  clear ho1
  clear hb
  have d0 : w8.cell? ⟨bo, 0, none⟩ = some (.slice A1_0 L.length c1_0) := blk_cell BO.out 0
  have d1 : w8.cell? ⟨bo, 1, none⟩ = some (.slice A1_1 V.length c1_1) := blk_cell BO.out 1
  have d2 : w8.cell? ⟨bo, 2, none⟩ = some (.slice A1_2 C.length c1_2) := blk_cell BO.out 2
  have d3 : w8.cell? ⟨bo, 3, none⟩ = some (.int .i64 lo) := blk_cell BO.out 3
  have d4 : w8.cell? ⟨bo, 4, none⟩ = some (.int .i64 hi) := blk_cell BO.out 4
  have d5 : w8.cell? ⟨bo, 5, none⟩ = some (.int .i64 al) := blk_cell BO.out 5
  have p0 : w8.cell? ⟨g1, 0, none⟩ = some (.slice B5 y1.length b5) := blk_cell BX.out 0
  have p1 : w8.cell? ⟨g1, 1, none⟩ = some (.int .i64 y2) := blk_cell BX.out 1
  have p2 : w8.cell? ⟨g1, 2, none⟩ = some (.int .i64 y3) := blk_cell BX.out 2
  have p3 : w8.cell? ⟨g1, 3, none⟩ = some (.int .i64 y4) := blk_cell BX.out 3
  go_upto_region 9 with fail
  obtain ⟨w9, hw_⟩ : ∃ x, x = w8.alloc (.cells #[.slice B6 y1.length b6, .int .i64 y2, .int .i64 y3, .int .i64 y4] 30) := ⟨_, rfl⟩
  rw [← hw_]
  have hb : Below w8.heap.size w8 w9 := by rw [hw_]; exact below_alloc (Below.refl _ _) _
  clear d0 d1 d2 d3 d4 d5 p0 p1 p2 p3
  replace HB := Aside0.mk (below_step HB.out hb)
  replace BO := Aside0.mk (blk_below BO.out hb)
  replace BX := Aside0.mk (blk_below BX.out hb)
  replace F1 := Aside0.mk (⟨F1.out.1, Kd.C_below F1.out.2 hb⟩ : _ ∧ _)
  replace F2 := Aside0.mk (⟨F2.out.1, Kd.C_below F2.out.2 hb⟩ : _ ∧ _)
  replace F3 := Aside0.mk (⟨F3.out.1, Kd.C_below F3.out.2 hb⟩ : _ ∧ _)
  replace F4 := Aside0.mk (⟨F4.out.1, Kd.C_below F4.out.2 hb⟩ : _ ∧ _)
  replace F5 := Aside0.mk (⟨F5.out.1, Kd.C_below F5.out.2 hb⟩ : _ ∧ _)
  replace F6 := Aside0.mk (⟨F6.out.1, Kd.C_below F6.out.2 hb⟩ : _ ∧ _)
  have BY := Aside0.mk (show w9.heap[w8.heap.size]? = some (.cells #[.slice B6 y1.length b6, .int .i64 y2, .int .i64 y3, .int .i64 y4] 30 (0, 0)) by rw [hw_]; exact blk_new _ _)
  clear hw_ hb
  obtain ⟨g2, hg_⟩ : ∃ g, g = w8.heap.size := ⟨_, rfl⟩
  rw [← hg_] at BY
  try rw [← hg_]
  clear hg_
  have d0 : w9.cell? ⟨bo, 0, none⟩ = some (.slice A1_0 L.length c1_0) := blk_cell BO.out 0
  have d1 : w9.cell? ⟨bo, 1, none⟩ = some (.slice A1_1 V.length c1_1) := blk_cell BO.out 1
  have d2 : w9.cell? ⟨bo, 2, none⟩ = some (.slice A1_2 C.length c1_2) := blk_cell BO.out 2
  have d3 : w9.cell? ⟨bo, 3, none⟩ = some (.int .i64 lo) := blk_cell BO.out 3
  have d4 : w9.cell? ⟨bo, 4, none⟩ = some (.int .i64 hi) := blk_cell BO.out 4
  have d5 : w9.cell? ⟨bo, 5, none⟩ = some (.int .i64 al) := blk_cell BO.out 5
  have p0 : w9.cell? ⟨g1, 0, none⟩ = some (.slice B5 y1.length b5) := blk_cell BX.out 0
  have p1 : w9.cell? ⟨g1, 1, none⟩ = some (.int .i64 y2) := blk_cell BX.out 1
  have p2 : w9.cell? ⟨g1, 2, none⟩ = some (.int .i64 y3) := blk_cell BX.out 2
  have p3 : w9.cell? ⟨g1, 3, none⟩ = some (.int .i64 y4) := blk_cell BX.out 3
  have q0 : w9.cell? ⟨g2, 0, none⟩ = some (.slice B6 y1.length b6) := blk_cell BY.out 0
  have q1 : w9.cell? ⟨g2, 1, none⟩ = some (.int .i64 y2) := blk_cell BY.out 1
  have q2 : w9.cell? ⟨g2, 2, none⟩ = some (.int .i64 y3) := blk_cell BY.out 2
  have q3 : w9.cell? ⟨g2, 3, none⟩ = some (.int .i64 y4) := blk_cell BY.out 3
  go_wp2_with fail
  refine (slices_Equal_int_int.calls N B1 b1 x1 B3 b3 x1 true _ F1.out.2 F1.out.1 F3.out.2 F3.out.1 HEQ.out.1).mono ?_
  rintro e w10 ⟨rfl, hd⟩
  have hb := hd.below
  clear d0 d1 d2 d3 d4 d5 p0 p1 p2 p3 q0 q1 q2 q3
  replace HB := Aside0.mk (below_step HB.out hb)
  replace BO := Aside0.mk (blk_below BO.out hb)
  replace BX := Aside0.mk (blk_below BX.out hb)
  replace BY := Aside0.mk (blk_below BY.out hb)
  replace F1 := Aside0.mk (⟨F1.out.1, Kd.C_below F1.out.2 hb⟩ : _ ∧ _)
  replace F2 := Aside0.mk (⟨F2.out.1, Kd.C_below F2.out.2 hb⟩ : _ ∧ _)
  replace F3 := Aside0.mk (⟨F3.out.1, Kd.C_below F3.out.2 hb⟩ : _ ∧ _)
  replace F4 := Aside0.mk (⟨F4.out.1, Kd.C_below F4.out.2 hb⟩ : _ ∧ _)
  replace F5 := Aside0.mk (⟨F5.out.1, Kd.C_below F5.out.2 hb⟩ : _ ∧ _)
  replace F6 := Aside0.mk (⟨F6.out.1, Kd.C_below F6.out.2 hb⟩ : _ ∧ _)
  clear hb
  have d0 : w10.cell? ⟨bo, 0, none⟩ = some (.slice A1_0 L.length c1_0) := blk_cell BO.out 0
  have d1 : w10.cell? ⟨bo, 1, none⟩ = some (.slice A1_1 V.length c1_1) := blk_cell BO.out 1
  have d2 : w10.cell? ⟨bo, 2, none⟩ = some (.slice A1_2 C.length c1_2) := blk_cell BO.out 2
  have d3 : w10.cell? ⟨bo, 3, none⟩ = some (.int .i64 lo) := blk_cell BO.out 3
  have d4 : w10.cell? ⟨bo, 4, none⟩ = some (.int .i64 hi) := blk_cell BO.out 4
  have d5 : w10.cell? ⟨bo, 5, none⟩ = some (.int .i64 al) := blk_cell BO.out 5
  have p0 : w10.cell? ⟨g1, 0, none⟩ = some (.slice B5 y1.length b5) := blk_cell BX.out 0
  have p1 : w10.cell? ⟨g1, 1, none⟩ = some (.int .i64 y2) := blk_cell BX.out 1
  have p2 : w10.cell? ⟨g1, 2, none⟩ = some (.int .i64 y3) := blk_cell BX.out 2
  have p3 : w10.cell? ⟨g1, 3, none⟩ = some (.int .i64 y4) := blk_cell BX.out 3
  have q0 : w10.cell? ⟨g2, 0, none⟩ = some (.slice B6 y1.length b6) := blk_cell BY.out 0
  have q1 : w10.cell? ⟨g2, 1, none⟩ = some (.int .i64 y2) := blk_cell BY.out 1
  have q2 : w10.cell? ⟨g2, 2, none⟩ = some (.int .i64 y3) := blk_cell BY.out 2
  have q3 : w10.cell? ⟨g2, 3, none⟩ = some (.int .i64 y4) := blk_cell BY.out 3
  go_wp2_with fail
  refine (slices_Equal_int_int.calls N B2 b2 x2 B4 b4 x2 true _ F2.out.2 F2.out.1 F4.out.2 F4.out.1 HEQ.out.2.1).mono ?_
  rintro e w11 ⟨rfl, hd⟩
  have hb := hd.below
  clear d0 d1 d2 d3 d4 d5 p0 p1 p2 p3 q0 q1 q2 q3
  replace HB := Aside0.mk (below_step HB.out hb)
  replace BO := Aside0.mk (blk_below BO.out hb)
  replace BX := Aside0.mk (blk_below BX.out hb)
  replace BY := Aside0.mk (blk_below BY.out hb)
  replace F1 := Aside0.mk (⟨F1.out.1, Kd.C_below F1.out.2 hb⟩ : _ ∧ _)
  replace F2 := Aside0.mk (⟨F2.out.1, Kd.C_below F2.out.2 hb⟩ : _ ∧ _)
  replace F3 := Aside0.mk (⟨F3.out.1, Kd.C_below F3.out.2 hb⟩ : _ ∧ _)
  replace F4 := Aside0.mk (⟨F4.out.1, Kd.C_below F4.out.2 hb⟩ : _ ∧ _)
  replace F5 := Aside0.mk (⟨F5.out.1, Kd.C_below F5.out.2 hb⟩ : _ ∧ _)
  replace F6 := Aside0.mk (⟨F6.out.1, Kd.C_below F6.out.2 hb⟩ : _ ∧ _)
  clear hb
  have d0 : w11.cell? ⟨bo, 0, none⟩ = some (.slice A1_0 L.length c1_0) := blk_cell BO.out 0
  have d1 : w11.cell? ⟨bo, 1, none⟩ = some (.slice A1_1 V.length c1_1) := blk_cell BO.out 1
  have d2 : w11.cell? ⟨bo, 2, none⟩ = some (.slice A1_2 C.length c1_2) := blk_cell BO.out 2
  have d3 : w11.cell? ⟨bo, 3, none⟩ = some (.int .i64 lo) := blk_cell BO.out 3
  have d4 : w11.cell? ⟨bo, 4, none⟩ = some (.int .i64 hi) := blk_cell BO.out 4
  have d5 : w11.cell? ⟨bo, 5, none⟩ = some (.int .i64 al) := blk_cell BO.out 5
  have p0 : w11.cell? ⟨g1, 0, none⟩ = some (.slice B5 y1.length b5) := blk_cell BX.out 0
  have p1 : w11.cell? ⟨g1, 1, none⟩ = some (.int .i64 y2) := blk_cell BX.out 1
  have p2 : w11.cell? ⟨g1, 2, none⟩ = some (.int .i64 y3) := blk_cell BX.out 2
  have p3 : w11.cell? ⟨g1, 3, none⟩ = some (.int .i64 y4) := blk_cell BX.out 3
  have q0 : w11.cell? ⟨g2, 0, none⟩ = some (.slice B6 y1.length b6) := blk_cell BY.out 0
  have q1 : w11.cell? ⟨g2, 1, none⟩ = some (.int .i64 y2) := blk_cell BY.out 1
  have q2 : w11.cell? ⟨g2, 2, none⟩ = some (.int .i64 y3) := blk_cell BY.out 2
  have q3 : w11.cell? ⟨g2, 3, none⟩ = some (.int .i64 y4) := blk_cell BY.out 3
  go_wp2_with fail
  refine (spileref30_Same.calls N B5 b5 y1 y2 y3 y4 B6 b6 y1 y2 y3 y4 true _ F5.out.2 F5.out.1 F6.out.2 F6.out.1 HEQ.out.2.2).mono ?_
  rintro e w12 ⟨rfl, hb⟩
  clear d0 d1 d2 d3 d4 d5 p0 p1 p2 p3 q0 q1 q2 q3
  replace HB := Aside0.mk (below_step HB.out hb)
  replace BO := Aside0.mk (blk_below BO.out hb)
  replace BX := Aside0.mk (blk_below BX.out hb)
  replace BY := Aside0.mk (blk_below BY.out hb)
  replace F1 := Aside0.mk (⟨F1.out.1, Kd.C_below F1.out.2 hb⟩ : _ ∧ _)
  replace F2 := Aside0.mk (⟨F2.out.1, Kd.C_below F2.out.2 hb⟩ : _ ∧ _)
  replace F3 := Aside0.mk (⟨F3.out.1, Kd.C_below F3.out.2 hb⟩ : _ ∧ _)
  replace F4 := Aside0.mk (⟨F4.out.1, Kd.C_below F4.out.2 hb⟩ : _ ∧ _)
  replace F5 := Aside0.mk (⟨F5.out.1, Kd.C_below F5.out.2 hb⟩ : _ ∧ _)
  replace F6 := Aside0.mk (⟨F6.out.1, Kd.C_below F6.out.2 hb⟩ : _ ∧ _)
  clear hb
  have d0 : w12.cell? ⟨bo, 0, none⟩ = some (.slice A1_0 L.length c1_0) := blk_cell BO.out 0
  have d1 : w12.cell? ⟨bo, 1, none⟩ = some (.slice A1_1 V.length c1_1) := blk_cell BO.out 1
  have d2 : w12.cell? ⟨bo, 2, none⟩ = some (.slice A1_2 C.length c1_2) := blk_cell BO.out 2
  have d3 : w12.cell? ⟨bo, 3, none⟩ = some (.int .i64 lo) := blk_cell BO.out 3
  have d4 : w12.cell? ⟨bo, 4, none⟩ = some (.int .i64 hi) := blk_cell BO.out 4
  have d5 : w12.cell? ⟨bo, 5, none⟩ = some (.int .i64 al) := blk_cell BO.out 5
  have p0 : w12.cell? ⟨g1, 0, none⟩ = some (.slice B5 y1.length b5) := blk_cell BX.out 0
  have p1 : w12.cell? ⟨g1, 1, none⟩ = some (.int .i64 y2) := blk_cell BX.out 1
  have p2 : w12.cell? ⟨g1, 2, none⟩ = some (.int .i64 y3) := blk_cell BX.out 2
  have p3 : w12.cell? ⟨g1, 3, none⟩ = some (.int .i64 y4) := blk_cell BX.out 3
  have q0 : w12.cell? ⟨g2, 0, none⟩ = some (.slice B6 y1.length b6) := blk_cell BY.out 0
  have q1 : w12.cell? ⟨g2, 1, none⟩ = some (.int .i64 y2) := blk_cell BY.out 1
  have q2 : w12.cell? ⟨g2, 2, none⟩ = some (.int .i64 y3) := blk_cell BY.out 2
  have q3 : w12.cell? ⟨g2, 3, none⟩ = some (.int .i64 y4) := blk_cell BY.out 3
  go_wp2_with fail
  go_ret
  exact ⟨rfl, HB.out⟩

end Go.Proofs.YtcdkbciagchlgaaDoor.PF
