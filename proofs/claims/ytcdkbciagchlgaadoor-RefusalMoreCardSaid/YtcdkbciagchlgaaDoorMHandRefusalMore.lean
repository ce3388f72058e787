/- The walk through the law RefusalMore of package spilelaw30. -/
import Derived.Test.YtcdkbciagchlgaaDoorMEv
import Derived.Test.YtcdkbciagchlgaaDoorMMore30
import Derived.Test.YtcdkbciagchlgaaDoorMRef30b
import Derived.Test.YtcdkbciagchlgaaDoorMWhy30
import Derived.Test.YtcdkbciagchlgaaDoorPF0
import Derived.Test.YtcdkbciagchlgaaDoorPF1
import Derived.Test.YtcdkbciagchlgaaDoorPF10
import Derived.Test.YtcdkbciagchlgaaDoorPF19
import Derived.Test.YtcdkbciagchlgaaDoorPF7
import Derived.Test.YtcdkbciagchlgaaDoorPF9
namespace Go.Proofs.YtcdkbciagchlgaaDoor.PF
open Go.RowKit Go.Proofs.YtcdkbciagchlgaaDoorW.PrintWords Go.Proofs.YtcdkbciagchlgaaDoorW.PrintLast Go.Proofs.YtcdkbciagchlgaaDoorW.PrintMore
set_option linter.unusedVariables false
set_option linter.unusedSimpArgs false
def spilelaw30_RefusalMore.f (l : List S82) (L : List S45) (V C : List Int) (lo hi al : Int) (U : List Int) (f1 f2 f3 : Int) (a3 : Int) : Option Bool := if 0 ≤ a3 ∧ a3 ≤ 255 then some true else none
set_option maxHeartbeats 8000000 in
set_option maxRecDepth 100000 in
theorem spilelaw30_RefusalMore.calls (A0 : Option Addr) (c0 : Nat) (l : List S82) (A1_0 : Option Addr) (c1_0 : Nat) (L : List S45) (A1_1 : Option Addr) (c1_1 : Nat) (V : List Int) (A1_2 : Option Addr) (c1_2 : Nat) (C : List Int) (lo hi al : Int) (A2_0 : Option Addr) (c2_0 : Nat) (U : List Int) (f1 f2 f3 : Int) (a3 : Int) (r : Bool) (w : World)
    (hr0 : Kd.C k82 w A0 l.length l) (hc0 : l.length ≤ c0) (hr1_0 : Kd.C k45 w A1_0 L.length L) (hc1_0 : L.length ≤ c1_0) (hr1_1 : Kd.C (Kd.int .i64) w A1_1 V.length V) (hc1_1 : V.length ≤ c1_1) (hr1_2 : Kd.C (Kd.int .i64) w A1_2 C.length C) (hc1_2 : C.length ≤ c1_2) (hr2_0 : Kd.C (Kd.int .i64) w A2_0 U.length U) (hc2_0 : U.length ≤ c2_0)
    (hA_ : Aside0 (∀ w1, Below w.heap.size w w1 → AwakeOK w1)) (hP_ : Aside0 (∀ w1, Below w.heap.size w w1 → WhyOK w1)) (h : spilelaw30_RefusalMore.f l L V C lo hi al U f1 f2 f3 a3 = some r) :
    Calls Tryd.prog 5 #[.slice A0 l.length c0, .agg #[.slice A1_0 L.length c1_0, .slice A1_1 V.length c1_1, .slice A1_2 C.length c1_2, .int .i64 lo, .int .i64 hi, .int .i64 al], .agg #[.slice A2_0 U.length c2_0, .int .i64 f1, .int .i64 f2, .int .i64 f3], .int .u8 a3] w fun e w' => e = .returned (.bool r) ∧ Below w.heap.size w w' := by
  have hu1 := Tryd.underlying26
  have hu2 := Tryd.underlying30
  unfold spilelaw30_RefusalMore.f at h
  by_cases ha : 0 ≤ a3 ∧ a3 ≤ 255
  case neg => rw [if_neg ha] at h; cases h
  rw [if_pos ha] at h
  obtain rfl := Option.some.inj h
  clear h
  obtain ⟨b, hb, hlen⟩ := few30_some l L V C lo hi al U f1 f2 f3
  have HFW := Aside0.mk (fun (W : World) (hw : Below w.heap.size w W) => spilelaw30_few.calls A0 c0 l A1_0 c1_0 L A1_1 c1_1 V A1_2 c1_2 C lo hi al A2_0 c2_0 U f1 f2 f3 b W (Kd.C_below hr0 hw) hc0 (Kd.C_below hr1_0 hw) hc1_0 (Kd.C_below hr1_1 hw) hc1_1 (Kd.C_below hr1_2 hw) hc1_2 (Kd.C_below hr2_0 hw) hc2_0 hb)
  have HCK := Aside0.mk (fun (A3 : Option Addr) (c3 : Nat) (V' : List Int) (al' : Int) (A4 : Option Addr) (c4 : Nat) (U' : List Int) (e : Int) (hE : Ev (fun k => refusal_Check.f k l L V' C lo hi al' U' f1 f2 f3) e) (W : World) (hw : Below w.heap.size w W) (h3 : Kd.C (Kd.int .i64) W A3 V'.length V') (hc3 : V'.length ≤ c3) (h4 : Kd.C (Kd.int .i64) W A4 U'.length U') (hc4 : U'.length ≤ c4) =>
    refusal_Check.calls hE.choose A0 c0 l A1_0 c1_0 L A3 c3 V' A1_2 c1_2 C lo hi al' A4 c4 U' f1 f2 f3 e W (Kd.C_below hr0 hw) hc0 (Kd.C_below hr1_0 hw) hc1_0 h3 hc3 (Kd.C_below hr1_2 hw) hc1_2 h4 hc4 (hE.choose_spec _ (Nat.le_refl _)))
  have HV := Aside0.mk (⟨hr1_1, hc1_1⟩ : _ ∧ _)
  have HU := Aside0.mk (⟨hr2_0, hc2_0⟩ : _ ∧ _)
  have HA := Aside0.mk ha
  have HLEN := Aside0.mk hlen
  clear hr0 hc0 hr1_0 hc1_0 hr1_1 hc1_1 hr1_2 hc1_2 hr2_0 hc2_0 hb hlen ha hP_
  have HB := Aside0.mk (Below.refl w.heap.size w)
  go_enter Tryd.func5, Tryd.ntmps5
  go_wp2_with fail
  obtain ⟨w1, hw1⟩ : ∃ x, x = (w.alloc (.cells #[.slice A1_0 L.length c1_0, .slice A1_1 V.length c1_1, .slice A1_2 C.length c1_2, .int .i64 lo, .int .i64 hi, .int .i64 al] 26)).alloc (.cells #[.slice A2_0 U.length c2_0, .int .i64 f1, .int .i64 f2, .int .i64 f3] 30) := ⟨_, rfl⟩
  have HB1 := Aside0.mk (show Below w.heap.size w w1 by rw [hw1]; exact below_alloc (below_alloc (Below.refl _ _) _) _)
  have BO := Aside0.mk (show w1.heap[w.heap.size]? = some (.cells #[.slice A1_0 L.length c1_0, .slice A1_1 V.length c1_1, .slice A1_2 C.length c1_2, .int .i64 lo, .int .i64 hi, .int .i64 al] 26 (0, 0)) by rw [hw1]; exact blk_alloc (blk_new w _) _)
  have BR := Aside0.mk (show w1.heap[w.heap.size + 1]? = some (.cells #[.slice A2_0 U.length c2_0, .int .i64 f1, .int .i64 f2, .int .i64 f3] 30 (0, 0)) by
    have h1 := blk_new (w.alloc (.cells #[.slice A1_0 L.length c1_0, .slice A1_1 V.length c1_1, .slice A1_2 C.length c1_2, .int .i64 lo, .int .i64 hi, .int .i64 al] 26)) (.cells #[.slice A2_0 U.length c2_0, .int .i64 f1, .int .i64 f2, .int .i64 f3] 30)
    rw [World.size_alloc] at h1
    rw [hw1]; exact h1)
  rw [← hw1]
  replace HB := HB1
  clear hw1 HB1
  obtain ⟨bo, hbo⟩ : ∃ b, b = w.heap.size := ⟨_, rfl⟩
  obtain ⟨br, hbr⟩ : ∃ b, b = w.heap.size + 1 := ⟨_, rfl⟩
  rw [← hbr] at BR
  rw [← hbo] at BO
  try rw [← hbr]
  try rw [← hbo]
  have HBB := Aside0.mk (show w.heap.size ≤ br by omega)
  clear hbo hbr
  refine (spilelaw30_awake.calls true _ rfl (hA_.out _ HB.out)).mono ?_
  rintro e w2 ⟨rfl, hb⟩
  replace HB := Aside0.mk (below_step HB.out hb)
  replace BO := Aside0.mk (blk_below BO.out hb)
  replace BR := Aside0.mk (blk_below BR.out hb)
  clear hb
  have d0 : w2.cell? ⟨bo, 0, none⟩ = some (.slice A1_0 L.length c1_0) := blk_cell BO.out 0
  have d1 : w2.cell? ⟨bo, 1, none⟩ = some (.slice A1_1 V.length c1_1) := blk_cell BO.out 1
  have d2 : w2.cell? ⟨bo, 2, none⟩ = some (.slice A1_2 C.length c1_2) := blk_cell BO.out 2
  have d3 : w2.cell? ⟨bo, 3, none⟩ = some (.int .i64 lo) := blk_cell BO.out 3
  have d4 : w2.cell? ⟨bo, 4, none⟩ = some (.int .i64 hi) := blk_cell BO.out 4
  have d5 : w2.cell? ⟨bo, 5, none⟩ = some (.int .i64 al) := blk_cell BO.out 5
  have r0 : w2.cell? ⟨br, 0, none⟩ = some (.slice A2_0 U.length c2_0) := blk_cell BR.out 0
  have r1 : w2.cell? ⟨br, 1, none⟩ = some (.int .i64 f1) := blk_cell BR.out 1
  have r2 : w2.cell? ⟨br, 2, none⟩ = some (.int .i64 f2) := blk_cell BR.out 2
  have r3 : w2.cell? ⟨br, 3, none⟩ = some (.int .i64 f3) := blk_cell BR.out 3
  go_wp2_with fail
  refine (HFW.out _ HB.out).mono ?_
  rintro e w3 ⟨rfl, hb⟩
  replace HB := Aside0.mk (below_step HB.out hb)
  replace BO := Aside0.mk (blk_below BO.out hb)
  replace BR := Aside0.mk (blk_below BR.out hb)
  clear hb
  clear d0 d1 d2 d3 d4 d5 r0 r1 r2 r3
  have d0 : w3.cell? ⟨bo, 0, none⟩ = some (.slice A1_0 L.length c1_0) := blk_cell BO.out 0
  have d1 : w3.cell? ⟨bo, 1, none⟩ = some (.slice A1_1 V.length c1_1) := blk_cell BO.out 1
  have d2 : w3.cell? ⟨bo, 2, none⟩ = some (.slice A1_2 C.length c1_2) := blk_cell BO.out 2
  have d3 : w3.cell? ⟨bo, 3, none⟩ = some (.int .i64 lo) := blk_cell BO.out 3
  have d4 : w3.cell? ⟨bo, 4, none⟩ = some (.int .i64 hi) := blk_cell BO.out 4
  have d5 : w3.cell? ⟨bo, 5, none⟩ = some (.int .i64 al) := blk_cell BO.out 5
  have r0 : w3.cell? ⟨br, 0, none⟩ = some (.slice A2_0 U.length c2_0) := blk_cell BR.out 0
  have r1 : w3.cell? ⟨br, 1, none⟩ = some (.int .i64 f1) := blk_cell BR.out 1
  have r2 : w3.cell? ⟨br, 2, none⟩ = some (.int .i64 f2) := blk_cell BR.out 2
  have r3 : w3.cell? ⟨br, 3, none⟩ = some (.int .i64 f3) := blk_cell BR.out 3
  cases b
  case false =>
    go_wp2_with fail
    go_ret
    exact ⟨rfl, HB.out⟩
  obtain ⟨lL, lV, lC, lU⟩ := HLEN.out rfl
  obtain ⟨e, he, -, hiff⟩ := Check_ev l L V C lo hi al (U := U) (by omega) f1 f2 f3
  have HE := Aside0.mk (HCK.out A1_1 c1_1 V al A2_0 c2_0 U e he)
  have HIFF := Aside0.mk hiff
  clear he hiff lL lV lC lU
  go_wp2_with fail
  refine (HE.out _ HB.out (Kd.C_below HV.out.1 HB.out) HV.out.2 (Kd.C_below HU.out.1 HB.out) HU.out.2).mono ?_
  rintro e w4 ⟨rfl, hb⟩
  replace HB := Aside0.mk (below_step HB.out hb)
  replace BO := Aside0.mk (blk_below BO.out hb)
  replace BR := Aside0.mk (blk_below BR.out hb)
  clear hb
  clear d0 d1 d2 d3 d4 d5 r0 r1 r2 r3
  have d0 : w4.cell? ⟨bo, 0, none⟩ = some (.slice A1_0 L.length c1_0) := blk_cell BO.out 0
  have d1 : w4.cell? ⟨bo, 1, none⟩ = some (.slice A1_1 V.length c1_1) := blk_cell BO.out 1
  have d2 : w4.cell? ⟨bo, 2, none⟩ = some (.slice A1_2 C.length c1_2) := blk_cell BO.out 2
  have d3 : w4.cell? ⟨bo, 3, none⟩ = some (.int .i64 lo) := blk_cell BO.out 3
  have d4 : w4.cell? ⟨bo, 4, none⟩ = some (.int .i64 hi) := blk_cell BO.out 4
  have d5 : w4.cell? ⟨bo, 5, none⟩ = some (.int .i64 al) := blk_cell BO.out 5
  have r0 : w4.cell? ⟨br, 0, none⟩ = some (.slice A2_0 U.length c2_0) := blk_cell BR.out 0
  have r1 : w4.cell? ⟨br, 1, none⟩ = some (.int .i64 f1) := blk_cell BR.out 1
  have r2 : w4.cell? ⟨br, 2, none⟩ = some (.int .i64 f2) := blk_cell BR.out 2
  have r3 : w4.cell? ⟨br, 3, none⟩ = some (.int .i64 f3) := blk_cell BR.out 3
  by_cases hz : e = 0
  case neg =>
    have b1 : (e != 0) = true := bne_iff_ne.mpr hz
    go_wp2_with fail
    go_ret
    exact ⟨rfl, HB.out⟩
  subst hz
  have b1 : ((0 : Int) != 0) = false := rfl
  have b0 : ((0 : Int) == 0) = true := rfl
  have HG := Aside0.mk (HIFF.out.1 rfl)
  obtain ⟨i, hi0⟩ : ∃ i, i = a3.toNat % V.length := ⟨_, rfl⟩
  have lV : 0 < V.length := by have := HG.out.o.n0; have := HG.out.o.lu; omega
  have hil : i < V.length := by rw [hi0]; exact Nat.mod_lt _ lV
  have HIL := Aside0.mk hil
  obtain ⟨ix, hix⟩ : ∃ x : Int, x = (i : Int) := ⟨_, rfl⟩
  have hm : Int.tmod a3 (V.length : Int) = ix := by
    have ea : a3 = (a3.toNat : Int) := by have := HA.out; omega
    rw [ea, hix, hi0]
    rfl
  have HIX := Aside0.mk hix
  have n0 : ((V.length : Int) = 0) = False := eq_false (by omega)
  have n0' : (V.length = 0) = False := eq_false (by omega)
  have n1 : ((V.length : Int) == 0) = false := beq_eq_false_iff_ne.2 (by omega)
  have wa : wrap64 a3 = a3 := by have := HA.out; exact w64_ (by omega) (by omega)
  have wa' : IntKind.i64.wrap a3 = a3 := by rw [i64_w]; exact wa
  have p0 : (0 ≤ ix) = True := eq_true (by omega)
  have p1 : (ix < (V.length : Int)) = True := eq_true (by omega)
  have p2 : (ix < (U.length : Int)) = True := eq_true (by have := HG.out.n; have := HG.out.o.lu; omega)
  have p3 : decide (ix ≥ (U.length : Int)) = false := decide_eq_false (by have := HG.out.n; have := HG.out.o.lu; omega)
  have p4 : decide (ix < (U.length : Int)) = true := decide_eq_true (by have := HG.out.n; have := HG.out.o.lu; omega)
  have HRV := Aside0.mk (HG.out.o.us i (by have := HG.out.o.lu; omega))
  have HRU := Aside0.mk (HG.out.f.u i (by have := HG.out.n; have := HG.out.o.lu; omega))
  obtain ⟨vi, hvi⟩ : ∃ v, v = rd V ix := ⟨_, rfl⟩
  obtain ⟨ui, hui⟩ : ∃ v, v = rd U ix := ⟨_, rfl⟩
  have HVI := Aside0.mk (show vi = rd V (i : Int) by rw [hvi, hix])
  have HUI := Aside0.mk (show ui = rd U (i : Int) by rw [hui, hix])
  obtain ⟨adv, e1, -⟩ := Kd.at_int HV.out.1 ix (by omega) (by omega)
  obtain ⟨adu, e2, -⟩ := Kd.at_int HU.out.1 ix (by omega) (by have := HG.out.n; have := HG.out.o.lu; omega)
  subst e1 e2
  have HXV := Aside0.mk (show ∀ W, Below w.heap.size w W → W.cell? (adv.add ix.toNat) = some (.int .i64 vi) from fun W hw => by
    obtain ⟨ad, e, hx⟩ := Kd.at_int (Kd.C_below HV.out.1 hw) ix (by omega) (by omega)
    cases e
    rw [hvi]; exact hx)
  have HXU := Aside0.mk (show ∀ W, Below w.heap.size w W → W.cell? (adu.add ix.toNat) = some (.int .i64 ui) from fun W hw => by
    obtain ⟨ad, e, hx⟩ := Kd.at_int (Kd.C_below HU.out.1 hw) ix (by omega) (by have := HG.out.n; have := HG.out.o.lu; omega)
    cases e
    rw [hui]; exact hx)
  clear hi0 lV hil hix hvi hui
  clear d0 d1 d2 d3 d4 d5 r0 r1 r2 r3
  have d0 : w4.cell? ⟨bo, 0, none⟩ = some (.slice A1_0 L.length c1_0) := blk_cell BO.out 0
  have d1 : w4.cell? ⟨bo, 1, none⟩ = some (.slice (some adv) V.length c1_1) := blk_cell BO.out 1
  have d2 : w4.cell? ⟨bo, 2, none⟩ = some (.slice A1_2 C.length c1_2) := blk_cell BO.out 2
  have d3 : w4.cell? ⟨bo, 3, none⟩ = some (.int .i64 lo) := blk_cell BO.out 3
  have d4 : w4.cell? ⟨bo, 4, none⟩ = some (.int .i64 hi) := blk_cell BO.out 4
  have d5 : w4.cell? ⟨bo, 5, none⟩ = some (.int .i64 al) := blk_cell BO.out 5
  have r0 : w4.cell? ⟨br, 0, none⟩ = some (.slice (some adu) U.length c2_0) := blk_cell BR.out 0
  have r1 : w4.cell? ⟨br, 1, none⟩ = some (.int .i64 f1) := blk_cell BR.out 1
  have r2 : w4.cell? ⟨br, 2, none⟩ = some (.int .i64 f2) := blk_cell BR.out 2
  have r3 : w4.cell? ⟨br, 3, none⟩ = some (.int .i64 f3) := blk_cell BR.out 3
  by_cases c1 : al < 256
  case pos =>
    have HW0 := Aside0.mk (show w.heap.size ≤ w4.heap.size ∧ br < w4.heap.size ∧ bo < w4.heap.size from ⟨HB.out.size, blk_lt BR.out, blk_lt BO.out⟩)
    have q1 : decide (al < 256) = true := decide_eq_true c1
    have wal : wrap64 (al + 1) = al + 1 := by have := HG.out.o.al1; have := HG.out.o.al2; exact w64_ (by omega) (by omega)
    have HM := Aside0.mk (HCK.out (some adv) c1_1 V (al + 1) (some adu) c2_0 U 0 (Check_yes (HG.out.more c1)))
    clear c1
    go_upto_region 6 with fail
    obtain ⟨w5, hw_⟩ : ∃ x, x = w4.alloc (.cells #[.slice A1_0 L.length c1_0, .slice (some adv) V.length c1_1, .slice A1_2 C.length c1_2, .int .i64 lo, .int .i64 hi, .int .i64 al] 26) := ⟨_, rfl⟩
    rw [← hw_]
    have hb : Below w4.heap.size w4 w5 := by rw [hw_]; exact below_alloc (Below.refl _ _) _
    have BQ := Aside0.mk (show w5.heap[w4.heap.size]? = some (.cells #[.slice A1_0 L.length c1_0, .slice (some adv) V.length c1_1, .slice A1_2 C.length c1_2, .int .i64 lo, .int .i64 hi, .int .i64 al] 26 (0, 0)) by rw [hw_]; exact blk_new _ _)
    replace HB := Aside0.mk (below_step HB.out hb)
    replace BO := Aside0.mk (blk_below BO.out hb)
    replace BR := Aside0.mk (blk_below BR.out hb)
    clear hw_ hb
    obtain ⟨gq, hgq⟩ : ∃ g, g = w4.heap.size := ⟨_, rfl⟩
    have HGQ := Aside0.mk (show w.heap.size ≤ gq ∧ br ≠ gq ∧ bo ≠ gq by have := HW0.out; omega)
    rw [← hgq] at BQ
    try rw [← hgq]
    clear hgq HW0
    clear d0 d1 d2 d3 d4 d5 r0 r1 r2 r3
    have d5 : w5.cell? ⟨bo, 5, none⟩ = some (.int .i64 al) := blk_cell BO.out 5
    have q5 : w5.cell? ⟨gq, 5, none⟩ = some (.int .i64 al) := blk_cell BQ.out 5
    have qf : w5.frozen? ⟨gq, 5, none⟩ = false := blk_frozen BQ.out 5
    have BQ1 := blk_put BQ.out 5 (.int .i64 (al + 1)) rfl
    have y0 : (w5.setCell ⟨gq, 5, none⟩ (.int .i64 (al + 1))).cell? ⟨gq, 0, none⟩ = some (.slice A1_0 L.length c1_0) := blk_cell BQ1 0
    have y1 : (w5.setCell ⟨gq, 5, none⟩ (.int .i64 (al + 1))).cell? ⟨gq, 1, none⟩ = some (.slice (some adv) V.length c1_1) := blk_cell BQ1 1
    have y2 : (w5.setCell ⟨gq, 5, none⟩ (.int .i64 (al + 1))).cell? ⟨gq, 2, none⟩ = some (.slice A1_2 C.length c1_2) := blk_cell BQ1 2
    have y3 : (w5.setCell ⟨gq, 5, none⟩ (.int .i64 (al + 1))).cell? ⟨gq, 3, none⟩ = some (.int .i64 lo) := blk_cell BQ1 3
    have y4 : (w5.setCell ⟨gq, 5, none⟩ (.int .i64 (al + 1))).cell? ⟨gq, 4, none⟩ = some (.int .i64 hi) := blk_cell BQ1 4
    have y5 : (w5.setCell ⟨gq, 5, none⟩ (.int .i64 (al + 1))).cell? ⟨gq, 5, none⟩ = some (.int .i64 (al + 1)) := blk_cell BQ1 5
    have BR1 := blk_far (p := ⟨gq, 5, none⟩) BR.out HGQ.out.2.1 (.int .i64 (al + 1))
    have x0 : (w5.setCell ⟨gq, 5, none⟩ (.int .i64 (al + 1))).cell? ⟨br, 0, none⟩ = some (.slice (some adu) U.length c2_0) := blk_cell BR1 0
    have x1 : (w5.setCell ⟨gq, 5, none⟩ (.int .i64 (al + 1))).cell? ⟨br, 1, none⟩ = some (.int .i64 f1) := blk_cell BR1 1
    have x2 : (w5.setCell ⟨gq, 5, none⟩ (.int .i64 (al + 1))).cell? ⟨br, 2, none⟩ = some (.int .i64 f2) := blk_cell BR1 2
    have x3 : (w5.setCell ⟨gq, 5, none⟩ (.int .i64 (al + 1))).cell? ⟨br, 3, none⟩ = some (.int .i64 f3) := blk_cell BR1 3
    go_wp2_with fail
    obtain ⟨w6, hw6⟩ : ∃ x, x = w5.setCell ⟨gq, 5, none⟩ (.int .i64 (al + 1)) := ⟨_, rfl⟩
    rw [← hw6]
    replace HB := Aside0.mk (show Below w.heap.size w w6 by rw [hw6]; exact below_set HB.out HGQ.out.1)
    replace BO := Aside0.mk (show w6.heap[bo]? = some (.cells #[.slice A1_0 L.length c1_0, .slice (some adv) V.length c1_1, .slice A1_2 C.length c1_2, .int .i64 lo, .int .i64 hi, .int .i64 al] 26 (0, 0)) by rw [hw6]; exact blk_far BO.out HGQ.out.2.2 _)
    replace BR := Aside0.mk (show w6.heap[br]? = some (.cells #[.slice (some adu) U.length c2_0, .int .i64 f1, .int .i64 f2, .int .i64 f3] 30 (0, 0)) by rw [hw6]; exact BR1)
    clear hw6 BR1 BQ1 BQ d5 q5 qf y0 y1 y2 y3 y4 y5 x0 x1 x2 x3
    refine (HM.out _ HB.out (Kd.C_below HV.out.1 HB.out) HV.out.2 (Kd.C_below HU.out.1 HB.out) HU.out.2).mono ?_
    rintro e w7 ⟨rfl, hb⟩
    replace HB := Aside0.mk (below_step HB.out hb)
    replace BO := Aside0.mk (blk_below BO.out hb)
    replace BR := Aside0.mk (blk_below BR.out hb)
    clear hb
    go_upto_region 10 with fail
    have d0 : w7.cell? ⟨bo, 0, none⟩ = some (.slice A1_0 L.length c1_0) := blk_cell BO.out 0
    have d1 : w7.cell? ⟨bo, 1, none⟩ = some (.slice (some adv) V.length c1_1) := blk_cell BO.out 1
    have d2 : w7.cell? ⟨bo, 2, none⟩ = some (.slice A1_2 C.length c1_2) := blk_cell BO.out 2
    have d3 : w7.cell? ⟨bo, 3, none⟩ = some (.int .i64 lo) := blk_cell BO.out 3
    have d4 : w7.cell? ⟨bo, 4, none⟩ = some (.int .i64 hi) := blk_cell BO.out 4
    have d5 : w7.cell? ⟨bo, 5, none⟩ = some (.int .i64 al) := blk_cell BO.out 5
    have r0 : w7.cell? ⟨br, 0, none⟩ = some (.slice (some adu) U.length c2_0) := blk_cell BR.out 0
    have r1 : w7.cell? ⟨br, 1, none⟩ = some (.int .i64 f1) := blk_cell BR.out 1
    have r2 : w7.cell? ⟨br, 2, none⟩ = some (.int .i64 f2) := blk_cell BR.out 2
    have r3 : w7.cell? ⟨br, 3, none⟩ = some (.int .i64 f3) := blk_cell BR.out 3
    have xv := HXV.out w7 HB.out
    have xu := HXU.out w7 HB.out
    have HBR0 := Aside0.mk (show w.heap.size ≤ br from HBB.out)
    by_cases c2 : vi > 0
    case pos =>
      have q2 : decide (vi > 0) = true := decide_eq_true c2
      have HVU := Aside0.mk (show 0 ≤ vi ∧ vi ≤ 64 by have := HRV.out; have := HVI.out; omega)
      have HC2 := Aside0.mk c2
      clear c2
      have HW0 := Aside0.mk (show w.heap.size ≤ w7.heap.size ∧ br < w7.heap.size ∧ bo < w7.heap.size from ⟨HB.out.size, blk_lt BR.out, blk_lt BO.out⟩)
      go_upto_region 15 with fail
      obtain ⟨w8, hw_⟩ : ∃ x, x = w7.alloc (.cells #[.slice A1_0 L.length c1_0, .slice (some adv) V.length c1_1, .slice A1_2 C.length c1_2, .int .i64 lo, .int .i64 hi, .int .i64 al] 26) := ⟨_, rfl⟩
      rw [← hw_]
      have hb : Below w7.heap.size w7 w8 := by rw [hw_]; exact below_alloc (Below.refl _ _) _
      have BP := Aside0.mk (show w8.heap[w7.heap.size]? = some (.cells #[.slice A1_0 L.length c1_0, .slice (some adv) V.length c1_1, .slice A1_2 C.length c1_2, .int .i64 lo, .int .i64 hi, .int .i64 al] 26 (0, 0)) by rw [hw_]; exact blk_new _ _)
      replace HB := Aside0.mk (below_step HB.out hb)
      replace BO := Aside0.mk (blk_below BO.out hb)
      replace BR := Aside0.mk (blk_below BR.out hb)
      clear hw_ hb
      obtain ⟨gp, hgp⟩ : ∃ g, g = w7.heap.size := ⟨_, rfl⟩
      have HGP := Aside0.mk (show w.heap.size ≤ gp ∧ br < gp ∧ bo < gp by have := HW0.out; omega)
      rw [← hgp] at BP
      try rw [← hgp]
      clear hgp HW0
      clear d0 d1 d2 d3 d4 d5 r0 r1 r2 r3
      have d0 : w8.cell? ⟨bo, 0, none⟩ = some (.slice A1_0 L.length c1_0) := blk_cell BO.out 0
      have d1 : w8.cell? ⟨bo, 1, none⟩ = some (.slice (some adv) V.length c1_1) := blk_cell BO.out 1
      have d2 : w8.cell? ⟨bo, 2, none⟩ = some (.slice A1_2 C.length c1_2) := blk_cell BO.out 2
      have d3 : w8.cell? ⟨bo, 3, none⟩ = some (.int .i64 lo) := blk_cell BO.out 3
      have d4 : w8.cell? ⟨bo, 4, none⟩ = some (.int .i64 hi) := blk_cell BO.out 4
      have d5 : w8.cell? ⟨bo, 5, none⟩ = some (.int .i64 al) := blk_cell BO.out 5
      have r0 : w8.cell? ⟨br, 0, none⟩ = some (.slice (some adu) U.length c2_0) := blk_cell BR.out 0
      have r1 : w8.cell? ⟨br, 1, none⟩ = some (.int .i64 f1) := blk_cell BR.out 1
      have r2 : w8.cell? ⟨br, 2, none⟩ = some (.int .i64 f2) := blk_cell BR.out 2
      have r3 : w8.cell? ⟨br, 3, none⟩ = some (.int .i64 f3) := blk_cell BR.out 3
      go_wp2_with fail
      have HSZ := Aside0.mk (show gp < w8.heap.size ∧ bo < w8.heap.size ∧ br < w8.heap.size from ⟨blk_lt BP.out, blk_lt BO.out, blk_lt BR.out⟩)
      refine (slices_Clone_int_int.calls (some adv) c1_1 V V _ (Kd.C_below HV.out.1 HB.out) HV.out.2 (by unfold slices_Clone_int_int.f; rw [if_pos (by have := HG.out.n; have := HG.out.o.lu; have := HG.out.o.n4; omega)])).mono ?_
      rintro e w9 ⟨vC, rfl, hR, hb⟩
      replace HB := Aside0.mk (below_step HB.out hb)
      replace BO := Aside0.mk (blk_below BO.out hb)
      replace BR := Aside0.mk (blk_below BR.out hb)
      replace BP := Aside0.mk (blk_below BP.out hb)
      clear hb
      obtain ⟨A5, c5, rfl⟩ := Kd.R_slice hR
      obtain ⟨g, cap, ev, hg1, hg2, cs_, hgc⟩ := Kd.R_form hR (by have := HG.out.n; have := HG.out.o.lu; have := HG.out.o.n0; omega)
      cases ev
      have BP1 := blk_put BP.out 1 (.slice (some ⟨g, 0, none⟩) V.length c5) rfl
      have hR1 := unit_R_other hR BP.out (by decide) 1 (.slice (some ⟨g, 0, none⟩) V.length c5)
      have y0 : w9.cell? ⟨gp, 1, none⟩ = _ := blk_cell BP.out 1
      have y1 : w9.frozen? ⟨gp, 1, none⟩ = false := blk_frozen BP.out 1
      have y2 : (w9.setCell ⟨gp, 1, none⟩ (.slice (some ⟨g, 0, none⟩) V.length c5)).cell? ⟨gp, 1, none⟩ = some (.slice (some ⟨g, 0, none⟩) V.length c5) := blk_cell BP1 1
      obtain ⟨y3a, y4⟩ := Kd.R_celln (0 : Int) hR1 ix (by have := HIX.out; omega) (by have := HIX.out; have := HIL.out; have := HG.out.n; have := HG.out.o.lu; omega)
      have y3 : (w9.setCell ⟨gp, 1, none⟩ (.slice (some ⟨g, 0, none⟩) V.length c5)).cell? ⟨g, ix.toNat, none⟩ = some (.int .i64 vi) := by have e : rd V ix = vi := (by rw [HIX.out, HVI.out]); rw [← e]; exact y3a
      clear y3a
      have wv : wrap64 (vi - 1) = vi - 1 := w64_ (by have := HVU.out; omega) (by have := HVU.out; omega)
      clear d0 d1 d2 d3 d4 d5 r0 r1 r2 r3
      have d0 : w9.cell? ⟨bo, 0, none⟩ = some (.slice A1_0 L.length c1_0) := blk_cell BO.out 0
      have d1 : w9.cell? ⟨bo, 1, none⟩ = some (.slice (some adv) V.length c1_1) := blk_cell BO.out 1
      have d2 : w9.cell? ⟨bo, 2, none⟩ = some (.slice A1_2 C.length c1_2) := blk_cell BO.out 2
      have d3 : w9.cell? ⟨bo, 3, none⟩ = some (.int .i64 lo) := blk_cell BO.out 3
      have d4 : w9.cell? ⟨bo, 4, none⟩ = some (.int .i64 hi) := blk_cell BO.out 4
      have d5 : w9.cell? ⟨bo, 5, none⟩ = some (.int .i64 al) := blk_cell BO.out 5
      have r0 : w9.cell? ⟨br, 0, none⟩ = some (.slice (some adu) U.length c2_0) := blk_cell BR.out 0
      have r1 : w9.cell? ⟨br, 1, none⟩ = some (.int .i64 f1) := blk_cell BR.out 1
      have r2 : w9.cell? ⟨br, 2, none⟩ = some (.int .i64 f2) := blk_cell BR.out 2
      have r3 : w9.cell? ⟨br, 3, none⟩ = some (.int .i64 f3) := blk_cell BR.out 3
      go_upto_region 17 with fail
      obtain ⟨w99, hw9⟩ : ∃ x, x = ((w9.setCell ⟨gp, 1, none⟩ (.slice (some ⟨g, 0, none⟩) V.length c5)).setCell ⟨g, ix.toNat, none⟩ (.int .i64 (vi - 1))) := ⟨_, rfl⟩
      rw [← hw9]
      have HP9 := (Kd.R_putg hR1 ix (vi - 1)).1
      have es : V.set ix.toNat (vi - 1) = V.set i (rd V (i : Int) - 1) := by rw [show ix.toNat = i by have := HIX.out; omega, HVI.out]
      rw [es] at HP9
      have HP9 : Kd.R (Kd.int .i64) 3 w99 w8.heap.size (fun _ => True) (.slice (some ⟨g, 0, none⟩) V.length c5) (V.set i (rd V (i : Int) - 1)) := by rw [hw9]; exact HP9
      have hne : g ≠ gp ∧ g ≠ bo ∧ g ≠ br ∧ gp ≠ bo ∧ gp ≠ br ∧ w.heap.size ≤ g := by have h1 := HSZ.out; have h2 := HGP.out; omega
      have BP9 : w99.heap[gp]? = some (.cells #[.slice A1_0 L.length c1_0, .slice (some ⟨g, 0, none⟩) V.length c5, .slice A1_2 C.length c1_2, .int .i64 lo, .int .i64 hi, .int .i64 al] 26 (0, 0)) := by rw [hw9]; exact blk_far (p := ⟨g, ix.toNat, none⟩) BP1 (fun e => hne.1 e.symm) _
      have BO9 : w99.heap[bo]? = some (.cells #[.slice A1_0 L.length c1_0, .slice (some adv) V.length c1_1, .slice A1_2 C.length c1_2, .int .i64 lo, .int .i64 hi, .int .i64 al] 26 (0, 0)) := by rw [hw9]; exact blk_far (p := ⟨g, ix.toNat, none⟩) (blk_far (p := ⟨gp, 1, none⟩) BO.out (fun e => hne.2.2.2.1 e.symm) _) (fun e => hne.2.1 e.symm) _
      have BR9 : w99.heap[br]? = some (.cells #[.slice (some adu) U.length c2_0, .int .i64 f1, .int .i64 f2, .int .i64 f3] 30 (0, 0)) := by rw [hw9]; exact blk_far (p := ⟨g, ix.toNat, none⟩) (blk_far (p := ⟨gp, 1, none⟩) BR.out (fun e => hne.2.2.2.2.1 e.symm) _) (fun e => hne.2.2.1 e.symm) _
      replace HB := Aside0.mk (show Below w.heap.size w w99 by rw [hw9]; exact below_set (below_set HB.out HGP.out.1) hne.2.2.2.2.2)
      clear hw9 hR1 BP1 y0 y1 y2 y3 y4 es hR hgc hg1 hg2 wv
      clear d0 d1 d2 d3 d4 d5 r0 r1 r2 r3
      replace BP := Aside0.mk BP9
      replace BO := Aside0.mk BO9
      replace BR := Aside0.mk BR9
      clear BP9 BO9 BR9 hne
      have d0 : w99.cell? ⟨bo, 0, none⟩ = some (.slice A1_0 L.length c1_0) := blk_cell BO.out 0
      have d1 : w99.cell? ⟨bo, 1, none⟩ = some (.slice (some adv) V.length c1_1) := blk_cell BO.out 1
      have d2 : w99.cell? ⟨bo, 2, none⟩ = some (.slice A1_2 C.length c1_2) := blk_cell BO.out 2
      have d3 : w99.cell? ⟨bo, 3, none⟩ = some (.int .i64 lo) := blk_cell BO.out 3
      have d4 : w99.cell? ⟨bo, 4, none⟩ = some (.int .i64 hi) := blk_cell BO.out 4
      have d5 : w99.cell? ⟨bo, 5, none⟩ = some (.int .i64 al) := blk_cell BO.out 5
      have r0 : w99.cell? ⟨br, 0, none⟩ = some (.slice (some adu) U.length c2_0) := blk_cell BR.out 0
      have r1 : w99.cell? ⟨br, 1, none⟩ = some (.int .i64 f1) := blk_cell BR.out 1
      have r2 : w99.cell? ⟨br, 2, none⟩ = some (.int .i64 f2) := blk_cell BR.out 2
      have r3 : w99.cell? ⟨br, 3, none⟩ = some (.int .i64 f3) := blk_cell BR.out 3
      have y0 : w99.cell? ⟨gp, 0, none⟩ = some (.slice A1_0 L.length c1_0) := blk_cell BP.out 0
      have y1 : w99.cell? ⟨gp, 1, none⟩ = some (.slice (some ⟨g, 0, none⟩) V.length c5) := blk_cell BP.out 1
      have y2 : w99.cell? ⟨gp, 2, none⟩ = some (.slice A1_2 C.length c1_2) := blk_cell BP.out 2
      have y3 : w99.cell? ⟨gp, 3, none⟩ = some (.int .i64 lo) := blk_cell BP.out 3
      have y4 : w99.cell? ⟨gp, 4, none⟩ = some (.int .i64 hi) := blk_cell BP.out 4
      have y5 : w99.cell? ⟨gp, 5, none⟩ = some (.int .i64 al) := blk_cell BP.out 5
      have HZ := Aside0.mk (HCK.out (some ⟨g, 0, none⟩) c5 (V.set i (rd V (i : Int) - 1)) al (some adu) c2_0 U 0 (Check_yes (HG.out.fewer (i := i) (by have := HIL.out; have := HG.out.o.lu; omega) (by have := HC2.out; have := HVI.out; omega))) w99 HB.out (Kd.R_reads' HP9).2.2 (by rw [List.length_set]; exact (Kd.R_reads' HP9).2.1) (Kd.C_below HU.out.1 HB.out) HU.out.2)
      replace HZ := Aside0.mk (by have h := HZ.out; rw [List.length_set] at h; exact h)
      clear HP9
      go_wp2_with fail
      refine HZ.out.mono ?_
      rintro e w98 ⟨rfl, hb⟩
      replace HB := Aside0.mk (below_step HB.out hb)
      clear hb HZ
      go_wp2_with fail
      go_ret
      exact ⟨rfl, HB.out⟩
    case neg =>
      have q2 : decide (vi > 0) = false := decide_eq_false c2
      by_cases c3 : ui ≥ 1125899906842624
      case pos =>
        have q3 : decide (ui ≥ 1125899906842624) = true := decide_eq_true c3
        go_wp2_with fail
        go_ret
        exact ⟨rfl, HB.out⟩
      case neg =>
        have q3 : decide (ui ≥ 1125899906842624) = false := decide_eq_false c3
        have HVU := Aside0.mk (show 0 ≤ ui ∧ ui < 1125899906842624 by have := HRU.out; have := HUI.out; omega)
        have HC2 := Aside0.mk c2
        clear c2 c3
        have HW0 := Aside0.mk (show w.heap.size ≤ w7.heap.size ∧ br < w7.heap.size ∧ bo < w7.heap.size from ⟨HB.out.size, blk_lt BR.out, blk_lt BO.out⟩)
        go_upto_region 23 with fail
        obtain ⟨w8, hw_⟩ : ∃ x, x = w7.alloc (.cells #[.slice (some adu) U.length c2_0, .int .i64 f1, .int .i64 f2, .int .i64 f3] 30) := ⟨_, rfl⟩
        rw [← hw_]
        have hb : Below w7.heap.size w7 w8 := by rw [hw_]; exact below_alloc (Below.refl _ _) _
        have BP := Aside0.mk (show w8.heap[w7.heap.size]? = some (.cells #[.slice (some adu) U.length c2_0, .int .i64 f1, .int .i64 f2, .int .i64 f3] 30 (0, 0)) by rw [hw_]; exact blk_new _ _)
        replace HB := Aside0.mk (below_step HB.out hb)
        replace BO := Aside0.mk (blk_below BO.out hb)
        replace BR := Aside0.mk (blk_below BR.out hb)
        clear hw_ hb
        obtain ⟨gp, hgp⟩ : ∃ g, g = w7.heap.size := ⟨_, rfl⟩
        have HGP := Aside0.mk (show w.heap.size ≤ gp ∧ br < gp ∧ bo < gp by have := HW0.out; omega)
        rw [← hgp] at BP
        try rw [← hgp]
        clear hgp HW0
        clear d0 d1 d2 d3 d4 d5 r0 r1 r2 r3
        have d0 : w8.cell? ⟨bo, 0, none⟩ = some (.slice A1_0 L.length c1_0) := blk_cell BO.out 0
        have d1 : w8.cell? ⟨bo, 1, none⟩ = some (.slice (some adv) V.length c1_1) := blk_cell BO.out 1
        have d2 : w8.cell? ⟨bo, 2, none⟩ = some (.slice A1_2 C.length c1_2) := blk_cell BO.out 2
        have d3 : w8.cell? ⟨bo, 3, none⟩ = some (.int .i64 lo) := blk_cell BO.out 3
        have d4 : w8.cell? ⟨bo, 4, none⟩ = some (.int .i64 hi) := blk_cell BO.out 4
        have d5 : w8.cell? ⟨bo, 5, none⟩ = some (.int .i64 al) := blk_cell BO.out 5
        have r0 : w8.cell? ⟨br, 0, none⟩ = some (.slice (some adu) U.length c2_0) := blk_cell BR.out 0
        have r1 : w8.cell? ⟨br, 1, none⟩ = some (.int .i64 f1) := blk_cell BR.out 1
        have r2 : w8.cell? ⟨br, 2, none⟩ = some (.int .i64 f2) := blk_cell BR.out 2
        have r3 : w8.cell? ⟨br, 3, none⟩ = some (.int .i64 f3) := blk_cell BR.out 3
        go_wp2_with fail
        have HSZ := Aside0.mk (show gp < w8.heap.size ∧ bo < w8.heap.size ∧ br < w8.heap.size from ⟨blk_lt BP.out, blk_lt BO.out, blk_lt BR.out⟩)
        refine (slices_Clone_int_int.calls (some adu) c2_0 U U _ (Kd.C_below HU.out.1 HB.out) HU.out.2 (by unfold slices_Clone_int_int.f; rw [if_pos (by have := HG.out.n; have := HG.out.o.lu; have := HG.out.o.n4; omega)])).mono ?_
        rintro e w9 ⟨vC, rfl, hR, hb⟩
        replace HB := Aside0.mk (below_step HB.out hb)
        replace BO := Aside0.mk (blk_below BO.out hb)
        replace BR := Aside0.mk (blk_below BR.out hb)
        replace BP := Aside0.mk (blk_below BP.out hb)
        clear hb
        obtain ⟨A5, c5, rfl⟩ := Kd.R_slice hR
        obtain ⟨g, cap, ev, hg1, hg2, cs_, hgc⟩ := Kd.R_form hR (by have := HG.out.n; have := HG.out.o.lu; have := HG.out.o.n0; omega)
        cases ev
        have BP1 := blk_put BP.out 0 (.slice (some ⟨g, 0, none⟩) U.length c5) rfl
        have hR1 := unit_R_other hR BP.out (by decide) 0 (.slice (some ⟨g, 0, none⟩) U.length c5)
        have y0 : w9.cell? ⟨gp, 0, none⟩ = _ := blk_cell BP.out 0
        have y1 : w9.frozen? ⟨gp, 0, none⟩ = false := blk_frozen BP.out 0
        have y2 : (w9.setCell ⟨gp, 0, none⟩ (.slice (some ⟨g, 0, none⟩) U.length c5)).cell? ⟨gp, 0, none⟩ = some (.slice (some ⟨g, 0, none⟩) U.length c5) := blk_cell BP1 0
        obtain ⟨y3a, y4⟩ := Kd.R_celln (0 : Int) hR1 ix (by have := HIX.out; omega) (by have := HIX.out; have := HIL.out; have := HG.out.n; have := HG.out.o.lu; omega)
        have y3 : (w9.setCell ⟨gp, 0, none⟩ (.slice (some ⟨g, 0, none⟩) U.length c5)).cell? ⟨g, ix.toNat, none⟩ = some (.int .i64 ui) := by have e : rd U ix = ui := (by rw [HIX.out, HUI.out]); rw [← e]; exact y3a
        clear y3a
        have wv : wrap64 (ui + 1) = ui + 1 := w64_ (by have := HVU.out; omega) (by have := HVU.out; omega)
        clear d0 d1 d2 d3 d4 d5 r0 r1 r2 r3
        have d0 : w9.cell? ⟨bo, 0, none⟩ = some (.slice A1_0 L.length c1_0) := blk_cell BO.out 0
        have d1 : w9.cell? ⟨bo, 1, none⟩ = some (.slice (some adv) V.length c1_1) := blk_cell BO.out 1
        have d2 : w9.cell? ⟨bo, 2, none⟩ = some (.slice A1_2 C.length c1_2) := blk_cell BO.out 2
        have d3 : w9.cell? ⟨bo, 3, none⟩ = some (.int .i64 lo) := blk_cell BO.out 3
        have d4 : w9.cell? ⟨bo, 4, none⟩ = some (.int .i64 hi) := blk_cell BO.out 4
        have d5 : w9.cell? ⟨bo, 5, none⟩ = some (.int .i64 al) := blk_cell BO.out 5
        have r0 : w9.cell? ⟨br, 0, none⟩ = some (.slice (some adu) U.length c2_0) := blk_cell BR.out 0
        have r1 : w9.cell? ⟨br, 1, none⟩ = some (.int .i64 f1) := blk_cell BR.out 1
        have r2 : w9.cell? ⟨br, 2, none⟩ = some (.int .i64 f2) := blk_cell BR.out 2
        have r3 : w9.cell? ⟨br, 3, none⟩ = some (.int .i64 f3) := blk_cell BR.out 3
        go_upto_region 25 with fail
        obtain ⟨w99, hw9⟩ : ∃ x, x = ((w9.setCell ⟨gp, 0, none⟩ (.slice (some ⟨g, 0, none⟩) U.length c5)).setCell ⟨g, ix.toNat, none⟩ (.int .i64 (ui + 1))) := ⟨_, rfl⟩
        rw [← hw9]
        have HP9 := (Kd.R_putg hR1 ix (ui + 1)).1
        have es : U.set ix.toNat (ui + 1) = U.set i (rd U (i : Int) + 1) := by rw [show ix.toNat = i by have := HIX.out; omega, HUI.out]
        rw [es] at HP9
        have HP9 : Kd.R (Kd.int .i64) 3 w99 w8.heap.size (fun _ => True) (.slice (some ⟨g, 0, none⟩) U.length c5) (U.set i (rd U (i : Int) + 1)) := by rw [hw9]; exact HP9
        have hne : g ≠ gp ∧ g ≠ bo ∧ g ≠ br ∧ gp ≠ bo ∧ gp ≠ br ∧ w.heap.size ≤ g := by have h1 := HSZ.out; have h2 := HGP.out; omega
        have BP9 : w99.heap[gp]? = some (.cells #[.slice (some ⟨g, 0, none⟩) U.length c5, .int .i64 f1, .int .i64 f2, .int .i64 f3] 30 (0, 0)) := by rw [hw9]; exact blk_far (p := ⟨g, ix.toNat, none⟩) BP1 (fun e => hne.1 e.symm) _
        have BO9 : w99.heap[bo]? = some (.cells #[.slice A1_0 L.length c1_0, .slice (some adv) V.length c1_1, .slice A1_2 C.length c1_2, .int .i64 lo, .int .i64 hi, .int .i64 al] 26 (0, 0)) := by rw [hw9]; exact blk_far (p := ⟨g, ix.toNat, none⟩) (blk_far (p := ⟨gp, 0, none⟩) BO.out (fun e => hne.2.2.2.1 e.symm) _) (fun e => hne.2.1 e.symm) _
        have BR9 : w99.heap[br]? = some (.cells #[.slice (some adu) U.length c2_0, .int .i64 f1, .int .i64 f2, .int .i64 f3] 30 (0, 0)) := by rw [hw9]; exact blk_far (p := ⟨g, ix.toNat, none⟩) (blk_far (p := ⟨gp, 0, none⟩) BR.out (fun e => hne.2.2.2.2.1 e.symm) _) (fun e => hne.2.2.1 e.symm) _
        replace HB := Aside0.mk (show Below w.heap.size w w99 by rw [hw9]; exact below_set (below_set HB.out HGP.out.1) hne.2.2.2.2.2)
        clear hw9 hR1 BP1 y0 y1 y2 y3 y4 es hR hgc hg1 hg2 wv
        clear d0 d1 d2 d3 d4 d5 r0 r1 r2 r3
        replace BP := Aside0.mk BP9
        replace BO := Aside0.mk BO9
        replace BR := Aside0.mk BR9
        clear BP9 BO9 BR9 hne
        have d0 : w99.cell? ⟨bo, 0, none⟩ = some (.slice A1_0 L.length c1_0) := blk_cell BO.out 0
        have d1 : w99.cell? ⟨bo, 1, none⟩ = some (.slice (some adv) V.length c1_1) := blk_cell BO.out 1
        have d2 : w99.cell? ⟨bo, 2, none⟩ = some (.slice A1_2 C.length c1_2) := blk_cell BO.out 2
        have d3 : w99.cell? ⟨bo, 3, none⟩ = some (.int .i64 lo) := blk_cell BO.out 3
        have d4 : w99.cell? ⟨bo, 4, none⟩ = some (.int .i64 hi) := blk_cell BO.out 4
        have d5 : w99.cell? ⟨bo, 5, none⟩ = some (.int .i64 al) := blk_cell BO.out 5
        have r0 : w99.cell? ⟨br, 0, none⟩ = some (.slice (some adu) U.length c2_0) := blk_cell BR.out 0
        have r1 : w99.cell? ⟨br, 1, none⟩ = some (.int .i64 f1) := blk_cell BR.out 1
        have r2 : w99.cell? ⟨br, 2, none⟩ = some (.int .i64 f2) := blk_cell BR.out 2
        have r3 : w99.cell? ⟨br, 3, none⟩ = some (.int .i64 f3) := blk_cell BR.out 3
        have y0 : w99.cell? ⟨gp, 0, none⟩ = some (.slice (some ⟨g, 0, none⟩) U.length c5) := blk_cell BP.out 0
        have y1 : w99.cell? ⟨gp, 1, none⟩ = some (.int .i64 f1) := blk_cell BP.out 1
        have y2 : w99.cell? ⟨gp, 2, none⟩ = some (.int .i64 f2) := blk_cell BP.out 2
        have y3 : w99.cell? ⟨gp, 3, none⟩ = some (.int .i64 f3) := blk_cell BP.out 3
        have HZ := Aside0.mk (HCK.out (some adv) c1_1 V al (some ⟨g, 0, none⟩) c5 (U.set i (rd U (i : Int) + 1)) 0 (Check_yes (HG.out.greater (i := i) (by have := HIL.out; have := HG.out.o.lu; omega) (by have := HC2.out; have := HVI.out; have := HRV.out; omega) (by have := HUI.out; have := HVU.out; omega))) w99 HB.out (Kd.C_below HV.out.1 HB.out) HV.out.2 (Kd.R_reads' HP9).2.2 (by rw [List.length_set]; exact (Kd.R_reads' HP9).2.1))
        replace HZ := Aside0.mk (by have h := HZ.out; rw [List.length_set] at h; exact h)
        clear HP9
        go_wp2_with fail
        refine HZ.out.mono ?_
        rintro e w98 ⟨rfl, hb⟩
        replace HB := Aside0.mk (below_step HB.out hb)
        clear hb HZ
        go_wp2_with fail
        go_ret
        exact ⟨rfl, HB.out⟩
  case neg =>
    have q1 : decide (al < 256) = false := decide_eq_false c1
    clear c1
    go_upto_region 6 with fail
    obtain ⟨w5, hw_⟩ : ∃ x, x = w4.alloc (.cells #[.slice A1_0 L.length c1_0, .slice (some adv) V.length c1_1, .slice A1_2 C.length c1_2, .int .i64 lo, .int .i64 hi, .int .i64 al] 26) := ⟨_, rfl⟩
    rw [← hw_]
    have hb : Below w4.heap.size w4 w5 := by rw [hw_]; exact below_alloc (Below.refl _ _) _
    have BQ := Aside0.mk (show w5.heap[w4.heap.size]? = some (.cells #[.slice A1_0 L.length c1_0, .slice (some adv) V.length c1_1, .slice A1_2 C.length c1_2, .int .i64 lo, .int .i64 hi, .int .i64 al] 26 (0, 0)) by rw [hw_]; exact blk_new _ _)
    replace HB := Aside0.mk (below_step HB.out hb)
    replace BO := Aside0.mk (blk_below BO.out hb)
    replace BR := Aside0.mk (blk_below BR.out hb)
    clear hw_ hb
    clear BQ
    clear d0 d1 d2 d3 d4 d5 r0 r1 r2 r3
    have d0 : w5.cell? ⟨bo, 0, none⟩ = some (.slice A1_0 L.length c1_0) := blk_cell BO.out 0
    have d1 : w5.cell? ⟨bo, 1, none⟩ = some (.slice (some adv) V.length c1_1) := blk_cell BO.out 1
    have d2 : w5.cell? ⟨bo, 2, none⟩ = some (.slice A1_2 C.length c1_2) := blk_cell BO.out 2
    have d3 : w5.cell? ⟨bo, 3, none⟩ = some (.int .i64 lo) := blk_cell BO.out 3
    have d4 : w5.cell? ⟨bo, 4, none⟩ = some (.int .i64 hi) := blk_cell BO.out 4
    have d5 : w5.cell? ⟨bo, 5, none⟩ = some (.int .i64 al) := blk_cell BO.out 5
    have r0 : w5.cell? ⟨br, 0, none⟩ = some (.slice (some adu) U.length c2_0) := blk_cell BR.out 0
    have r1 : w5.cell? ⟨br, 1, none⟩ = some (.int .i64 f1) := blk_cell BR.out 1
    have r2 : w5.cell? ⟨br, 2, none⟩ = some (.int .i64 f2) := blk_cell BR.out 2
    have r3 : w5.cell? ⟨br, 3, none⟩ = some (.int .i64 f3) := blk_cell BR.out 3
    have xv := HXV.out w5 HB.out
    have xu := HXU.out w5 HB.out
    have HBR0 := Aside0.mk (show w.heap.size ≤ br from HBB.out)
    by_cases c2 : vi > 0
    case pos =>
      have q2 : decide (vi > 0) = true := decide_eq_true c2
      have HVU := Aside0.mk (show 0 ≤ vi ∧ vi ≤ 64 by have := HRV.out; have := HVI.out; omega)
      have HC2 := Aside0.mk c2
      clear c2
      have HW0 := Aside0.mk (show w.heap.size ≤ w5.heap.size ∧ br < w5.heap.size ∧ bo < w5.heap.size from ⟨HB.out.size, blk_lt BR.out, blk_lt BO.out⟩)
      go_upto_region 15 with fail
      obtain ⟨w6, hw_⟩ : ∃ x, x = w5.alloc (.cells #[.slice A1_0 L.length c1_0, .slice (some adv) V.length c1_1, .slice A1_2 C.length c1_2, .int .i64 lo, .int .i64 hi, .int .i64 al] 26) := ⟨_, rfl⟩
      rw [← hw_]
      have hb : Below w5.heap.size w5 w6 := by rw [hw_]; exact below_alloc (Below.refl _ _) _
      have BP := Aside0.mk (show w6.heap[w5.heap.size]? = some (.cells #[.slice A1_0 L.length c1_0, .slice (some adv) V.length c1_1, .slice A1_2 C.length c1_2, .int .i64 lo, .int .i64 hi, .int .i64 al] 26 (0, 0)) by rw [hw_]; exact blk_new _ _)
      replace HB := Aside0.mk (below_step HB.out hb)
      replace BO := Aside0.mk (blk_below BO.out hb)
      replace BR := Aside0.mk (blk_below BR.out hb)
      clear hw_ hb
      obtain ⟨gp, hgp⟩ : ∃ g, g = w5.heap.size := ⟨_, rfl⟩
      have HGP := Aside0.mk (show w.heap.size ≤ gp ∧ br < gp ∧ bo < gp by have := HW0.out; omega)
      rw [← hgp] at BP
      try rw [← hgp]
      clear hgp HW0
      clear d0 d1 d2 d3 d4 d5 r0 r1 r2 r3
      have d0 : w6.cell? ⟨bo, 0, none⟩ = some (.slice A1_0 L.length c1_0) := blk_cell BO.out 0
      have d1 : w6.cell? ⟨bo, 1, none⟩ = some (.slice (some adv) V.length c1_1) := blk_cell BO.out 1
      have d2 : w6.cell? ⟨bo, 2, none⟩ = some (.slice A1_2 C.length c1_2) := blk_cell BO.out 2
      have d3 : w6.cell? ⟨bo, 3, none⟩ = some (.int .i64 lo) := blk_cell BO.out 3
      have d4 : w6.cell? ⟨bo, 4, none⟩ = some (.int .i64 hi) := blk_cell BO.out 4
      have d5 : w6.cell? ⟨bo, 5, none⟩ = some (.int .i64 al) := blk_cell BO.out 5
      have r0 : w6.cell? ⟨br, 0, none⟩ = some (.slice (some adu) U.length c2_0) := blk_cell BR.out 0
      have r1 : w6.cell? ⟨br, 1, none⟩ = some (.int .i64 f1) := blk_cell BR.out 1
      have r2 : w6.cell? ⟨br, 2, none⟩ = some (.int .i64 f2) := blk_cell BR.out 2
      have r3 : w6.cell? ⟨br, 3, none⟩ = some (.int .i64 f3) := blk_cell BR.out 3
      go_wp2_with fail
      have HSZ := Aside0.mk (show gp < w6.heap.size ∧ bo < w6.heap.size ∧ br < w6.heap.size from ⟨blk_lt BP.out, blk_lt BO.out, blk_lt BR.out⟩)
      refine (slices_Clone_int_int.calls (some adv) c1_1 V V _ (Kd.C_below HV.out.1 HB.out) HV.out.2 (by unfold slices_Clone_int_int.f; rw [if_pos (by have := HG.out.n; have := HG.out.o.lu; have := HG.out.o.n4; omega)])).mono ?_
      rintro e w7 ⟨vC, rfl, hR, hb⟩
      replace HB := Aside0.mk (below_step HB.out hb)
      replace BO := Aside0.mk (blk_below BO.out hb)
      replace BR := Aside0.mk (blk_below BR.out hb)
      replace BP := Aside0.mk (blk_below BP.out hb)
      clear hb
      obtain ⟨A5, c5, rfl⟩ := Kd.R_slice hR
      obtain ⟨g, cap, ev, hg1, hg2, cs_, hgc⟩ := Kd.R_form hR (by have := HG.out.n; have := HG.out.o.lu; have := HG.out.o.n0; omega)
      cases ev
      have BP1 := blk_put BP.out 1 (.slice (some ⟨g, 0, none⟩) V.length c5) rfl
      have hR1 := unit_R_other hR BP.out (by decide) 1 (.slice (some ⟨g, 0, none⟩) V.length c5)
      have y0 : w7.cell? ⟨gp, 1, none⟩ = _ := blk_cell BP.out 1
      have y1 : w7.frozen? ⟨gp, 1, none⟩ = false := blk_frozen BP.out 1
      have y2 : (w7.setCell ⟨gp, 1, none⟩ (.slice (some ⟨g, 0, none⟩) V.length c5)).cell? ⟨gp, 1, none⟩ = some (.slice (some ⟨g, 0, none⟩) V.length c5) := blk_cell BP1 1
      obtain ⟨y3a, y4⟩ := Kd.R_celln (0 : Int) hR1 ix (by have := HIX.out; omega) (by have := HIX.out; have := HIL.out; have := HG.out.n; have := HG.out.o.lu; omega)
      have y3 : (w7.setCell ⟨gp, 1, none⟩ (.slice (some ⟨g, 0, none⟩) V.length c5)).cell? ⟨g, ix.toNat, none⟩ = some (.int .i64 vi) := by have e : rd V ix = vi := (by rw [HIX.out, HVI.out]); rw [← e]; exact y3a
      clear y3a
      have wv : wrap64 (vi - 1) = vi - 1 := w64_ (by have := HVU.out; omega) (by have := HVU.out; omega)
      clear d0 d1 d2 d3 d4 d5 r0 r1 r2 r3
      have d0 : w7.cell? ⟨bo, 0, none⟩ = some (.slice A1_0 L.length c1_0) := blk_cell BO.out 0
      have d1 : w7.cell? ⟨bo, 1, none⟩ = some (.slice (some adv) V.length c1_1) := blk_cell BO.out 1
      have d2 : w7.cell? ⟨bo, 2, none⟩ = some (.slice A1_2 C.length c1_2) := blk_cell BO.out 2
      have d3 : w7.cell? ⟨bo, 3, none⟩ = some (.int .i64 lo) := blk_cell BO.out 3
      have d4 : w7.cell? ⟨bo, 4, none⟩ = some (.int .i64 hi) := blk_cell BO.out 4
      have d5 : w7.cell? ⟨bo, 5, none⟩ = some (.int .i64 al) := blk_cell BO.out 5
      have r0 : w7.cell? ⟨br, 0, none⟩ = some (.slice (some adu) U.length c2_0) := blk_cell BR.out 0
      have r1 : w7.cell? ⟨br, 1, none⟩ = some (.int .i64 f1) := blk_cell BR.out 1
      have r2 : w7.cell? ⟨br, 2, none⟩ = some (.int .i64 f2) := blk_cell BR.out 2
      have r3 : w7.cell? ⟨br, 3, none⟩ = some (.int .i64 f3) := blk_cell BR.out 3
      go_upto_region 17 with fail
      obtain ⟨w99, hw9⟩ : ∃ x, x = ((w7.setCell ⟨gp, 1, none⟩ (.slice (some ⟨g, 0, none⟩) V.length c5)).setCell ⟨g, ix.toNat, none⟩ (.int .i64 (vi - 1))) := ⟨_, rfl⟩
      rw [← hw9]
      have HP9 := (Kd.R_putg hR1 ix (vi - 1)).1
      have es : V.set ix.toNat (vi - 1) = V.set i (rd V (i : Int) - 1) := by rw [show ix.toNat = i by have := HIX.out; omega, HVI.out]
      rw [es] at HP9
      have HP9 : Kd.R (Kd.int .i64) 3 w99 w6.heap.size (fun _ => True) (.slice (some ⟨g, 0, none⟩) V.length c5) (V.set i (rd V (i : Int) - 1)) := by rw [hw9]; exact HP9
      have hne : g ≠ gp ∧ g ≠ bo ∧ g ≠ br ∧ gp ≠ bo ∧ gp ≠ br ∧ w.heap.size ≤ g := by have h1 := HSZ.out; have h2 := HGP.out; omega
      have BP9 : w99.heap[gp]? = some (.cells #[.slice A1_0 L.length c1_0, .slice (some ⟨g, 0, none⟩) V.length c5, .slice A1_2 C.length c1_2, .int .i64 lo, .int .i64 hi, .int .i64 al] 26 (0, 0)) := by rw [hw9]; exact blk_far (p := ⟨g, ix.toNat, none⟩) BP1 (fun e => hne.1 e.symm) _
      have BO9 : w99.heap[bo]? = some (.cells #[.slice A1_0 L.length c1_0, .slice (some adv) V.length c1_1, .slice A1_2 C.length c1_2, .int .i64 lo, .int .i64 hi, .int .i64 al] 26 (0, 0)) := by rw [hw9]; exact blk_far (p := ⟨g, ix.toNat, none⟩) (blk_far (p := ⟨gp, 1, none⟩) BO.out (fun e => hne.2.2.2.1 e.symm) _) (fun e => hne.2.1 e.symm) _
      have BR9 : w99.heap[br]? = some (.cells #[.slice (some adu) U.length c2_0, .int .i64 f1, .int .i64 f2, .int .i64 f3] 30 (0, 0)) := by rw [hw9]; exact blk_far (p := ⟨g, ix.toNat, none⟩) (blk_far (p := ⟨gp, 1, none⟩) BR.out (fun e => hne.2.2.2.2.1 e.symm) _) (fun e => hne.2.2.1 e.symm) _
      replace HB := Aside0.mk (show Below w.heap.size w w99 by rw [hw9]; exact below_set (below_set HB.out HGP.out.1) hne.2.2.2.2.2)
      clear hw9 hR1 BP1 y0 y1 y2 y3 y4 es hR hgc hg1 hg2 wv
      clear d0 d1 d2 d3 d4 d5 r0 r1 r2 r3
      replace BP := Aside0.mk BP9
      replace BO := Aside0.mk BO9
      replace BR := Aside0.mk BR9
      clear BP9 BO9 BR9 hne
      have d0 : w99.cell? ⟨bo, 0, none⟩ = some (.slice A1_0 L.length c1_0) := blk_cell BO.out 0
      have d1 : w99.cell? ⟨bo, 1, none⟩ = some (.slice (some adv) V.length c1_1) := blk_cell BO.out 1
      have d2 : w99.cell? ⟨bo, 2, none⟩ = some (.slice A1_2 C.length c1_2) := blk_cell BO.out 2
      have d3 : w99.cell? ⟨bo, 3, none⟩ = some (.int .i64 lo) := blk_cell BO.out 3
      have d4 : w99.cell? ⟨bo, 4, none⟩ = some (.int .i64 hi) := blk_cell BO.out 4
      have d5 : w99.cell? ⟨bo, 5, none⟩ = some (.int .i64 al) := blk_cell BO.out 5
      have r0 : w99.cell? ⟨br, 0, none⟩ = some (.slice (some adu) U.length c2_0) := blk_cell BR.out 0
      have r1 : w99.cell? ⟨br, 1, none⟩ = some (.int .i64 f1) := blk_cell BR.out 1
      have r2 : w99.cell? ⟨br, 2, none⟩ = some (.int .i64 f2) := blk_cell BR.out 2
      have r3 : w99.cell? ⟨br, 3, none⟩ = some (.int .i64 f3) := blk_cell BR.out 3
      have y0 : w99.cell? ⟨gp, 0, none⟩ = some (.slice A1_0 L.length c1_0) := blk_cell BP.out 0
      have y1 : w99.cell? ⟨gp, 1, none⟩ = some (.slice (some ⟨g, 0, none⟩) V.length c5) := blk_cell BP.out 1
      have y2 : w99.cell? ⟨gp, 2, none⟩ = some (.slice A1_2 C.length c1_2) := blk_cell BP.out 2
      have y3 : w99.cell? ⟨gp, 3, none⟩ = some (.int .i64 lo) := blk_cell BP.out 3
      have y4 : w99.cell? ⟨gp, 4, none⟩ = some (.int .i64 hi) := blk_cell BP.out 4
      have y5 : w99.cell? ⟨gp, 5, none⟩ = some (.int .i64 al) := blk_cell BP.out 5
      have HZ := Aside0.mk (HCK.out (some ⟨g, 0, none⟩) c5 (V.set i (rd V (i : Int) - 1)) al (some adu) c2_0 U 0 (Check_yes (HG.out.fewer (i := i) (by have := HIL.out; have := HG.out.o.lu; omega) (by have := HC2.out; have := HVI.out; omega))) w99 HB.out (Kd.R_reads' HP9).2.2 (by rw [List.length_set]; exact (Kd.R_reads' HP9).2.1) (Kd.C_below HU.out.1 HB.out) HU.out.2)
      replace HZ := Aside0.mk (by have h := HZ.out; rw [List.length_set] at h; exact h)
      clear HP9
      go_wp2_with fail
      refine HZ.out.mono ?_
      rintro e w98 ⟨rfl, hb⟩
      replace HB := Aside0.mk (below_step HB.out hb)
      clear hb HZ
      go_wp2_with fail
      go_ret
      exact ⟨rfl, HB.out⟩
    case neg =>
      have q2 : decide (vi > 0) = false := decide_eq_false c2
      by_cases c3 : ui ≥ 1125899906842624
      case pos =>
        have q3 : decide (ui ≥ 1125899906842624) = true := decide_eq_true c3
        go_wp2_with fail
        go_ret
        exact ⟨rfl, HB.out⟩
      case neg =>
        have q3 : decide (ui ≥ 1125899906842624) = false := decide_eq_false c3
        have HVU := Aside0.mk (show 0 ≤ ui ∧ ui < 1125899906842624 by have := HRU.out; have := HUI.out; omega)
        have HC2 := Aside0.mk c2
        clear c2 c3
        have HW0 := Aside0.mk (show w.heap.size ≤ w5.heap.size ∧ br < w5.heap.size ∧ bo < w5.heap.size from ⟨HB.out.size, blk_lt BR.out, blk_lt BO.out⟩)
        go_upto_region 23 with fail
        obtain ⟨w6, hw_⟩ : ∃ x, x = w5.alloc (.cells #[.slice (some adu) U.length c2_0, .int .i64 f1, .int .i64 f2, .int .i64 f3] 30) := ⟨_, rfl⟩
        rw [← hw_]
        have hb : Below w5.heap.size w5 w6 := by rw [hw_]; exact below_alloc (Below.refl _ _) _
        have BP := Aside0.mk (show w6.heap[w5.heap.size]? = some (.cells #[.slice (some adu) U.length c2_0, .int .i64 f1, .int .i64 f2, .int .i64 f3] 30 (0, 0)) by rw [hw_]; exact blk_new _ _)
        replace HB := Aside0.mk (below_step HB.out hb)
        replace BO := Aside0.mk (blk_below BO.out hb)
        replace BR := Aside0.mk (blk_below BR.out hb)
        clear hw_ hb
        obtain ⟨gp, hgp⟩ : ∃ g, g = w5.heap.size := ⟨_, rfl⟩
        have HGP := Aside0.mk (show w.heap.size ≤ gp ∧ br < gp ∧ bo < gp by have := HW0.out; omega)
        rw [← hgp] at BP
        try rw [← hgp]
        clear hgp HW0
        clear d0 d1 d2 d3 d4 d5 r0 r1 r2 r3
        have d0 : w6.cell? ⟨bo, 0, none⟩ = some (.slice A1_0 L.length c1_0) := blk_cell BO.out 0
        have d1 : w6.cell? ⟨bo, 1, none⟩ = some (.slice (some adv) V.length c1_1) := blk_cell BO.out 1
        have d2 : w6.cell? ⟨bo, 2, none⟩ = some (.slice A1_2 C.length c1_2) := blk_cell BO.out 2
        have d3 : w6.cell? ⟨bo, 3, none⟩ = some (.int .i64 lo) := blk_cell BO.out 3
        have d4 : w6.cell? ⟨bo, 4, none⟩ = some (.int .i64 hi) := blk_cell BO.out 4
        have d5 : w6.cell? ⟨bo, 5, none⟩ = some (.int .i64 al) := blk_cell BO.out 5
        have r0 : w6.cell? ⟨br, 0, none⟩ = some (.slice (some adu) U.length c2_0) := blk_cell BR.out 0
        have r1 : w6.cell? ⟨br, 1, none⟩ = some (.int .i64 f1) := blk_cell BR.out 1
        have r2 : w6.cell? ⟨br, 2, none⟩ = some (.int .i64 f2) := blk_cell BR.out 2
        have r3 : w6.cell? ⟨br, 3, none⟩ = some (.int .i64 f3) := blk_cell BR.out 3
        go_wp2_with fail
        have HSZ := Aside0.mk (show gp < w6.heap.size ∧ bo < w6.heap.size ∧ br < w6.heap.size from ⟨blk_lt BP.out, blk_lt BO.out, blk_lt BR.out⟩)
        refine (slices_Clone_int_int.calls (some adu) c2_0 U U _ (Kd.C_below HU.out.1 HB.out) HU.out.2 (by unfold slices_Clone_int_int.f; rw [if_pos (by have := HG.out.n; have := HG.out.o.lu; have := HG.out.o.n4; omega)])).mono ?_
        rintro e w7 ⟨vC, rfl, hR, hb⟩
        replace HB := Aside0.mk (below_step HB.out hb)
        replace BO := Aside0.mk (blk_below BO.out hb)
        replace BR := Aside0.mk (blk_below BR.out hb)
        replace BP := Aside0.mk (blk_below BP.out hb)
        clear hb
        obtain ⟨A5, c5, rfl⟩ := Kd.R_slice hR
        obtain ⟨g, cap, ev, hg1, hg2, cs_, hgc⟩ := Kd.R_form hR (by have := HG.out.n; have := HG.out.o.lu; have := HG.out.o.n0; omega)
        cases ev
        have BP1 := blk_put BP.out 0 (.slice (some ⟨g, 0, none⟩) U.length c5) rfl
        have hR1 := unit_R_other hR BP.out (by decide) 0 (.slice (some ⟨g, 0, none⟩) U.length c5)
        have y0 : w7.cell? ⟨gp, 0, none⟩ = _ := blk_cell BP.out 0
        have y1 : w7.frozen? ⟨gp, 0, none⟩ = false := blk_frozen BP.out 0
        have y2 : (w7.setCell ⟨gp, 0, none⟩ (.slice (some ⟨g, 0, none⟩) U.length c5)).cell? ⟨gp, 0, none⟩ = some (.slice (some ⟨g, 0, none⟩) U.length c5) := blk_cell BP1 0
        obtain ⟨y3a, y4⟩ := Kd.R_celln (0 : Int) hR1 ix (by have := HIX.out; omega) (by have := HIX.out; have := HIL.out; have := HG.out.n; have := HG.out.o.lu; omega)
        have y3 : (w7.setCell ⟨gp, 0, none⟩ (.slice (some ⟨g, 0, none⟩) U.length c5)).cell? ⟨g, ix.toNat, none⟩ = some (.int .i64 ui) := by have e : rd U ix = ui := (by rw [HIX.out, HUI.out]); rw [← e]; exact y3a
        clear y3a
        have wv : wrap64 (ui + 1) = ui + 1 := w64_ (by have := HVU.out; omega) (by have := HVU.out; omega)
        clear d0 d1 d2 d3 d4 d5 r0 r1 r2 r3
        have d0 : w7.cell? ⟨bo, 0, none⟩ = some (.slice A1_0 L.length c1_0) := blk_cell BO.out 0
        have d1 : w7.cell? ⟨bo, 1, none⟩ = some (.slice (some adv) V.length c1_1) := blk_cell BO.out 1
        have d2 : w7.cell? ⟨bo, 2, none⟩ = some (.slice A1_2 C.length c1_2) := blk_cell BO.out 2
        have d3 : w7.cell? ⟨bo, 3, none⟩ = some (.int .i64 lo) := blk_cell BO.out 3
        have d4 : w7.cell? ⟨bo, 4, none⟩ = some (.int .i64 hi) := blk_cell BO.out 4
        have d5 : w7.cell? ⟨bo, 5, none⟩ = some (.int .i64 al) := blk_cell BO.out 5
        have r0 : w7.cell? ⟨br, 0, none⟩ = some (.slice (some adu) U.length c2_0) := blk_cell BR.out 0
        have r1 : w7.cell? ⟨br, 1, none⟩ = some (.int .i64 f1) := blk_cell BR.out 1
        have r2 : w7.cell? ⟨br, 2, none⟩ = some (.int .i64 f2) := blk_cell BR.out 2
        have r3 : w7.cell? ⟨br, 3, none⟩ = some (.int .i64 f3) := blk_cell BR.out 3
        go_upto_region 25 with fail
        obtain ⟨w99, hw9⟩ : ∃ x, x = ((w7.setCell ⟨gp, 0, none⟩ (.slice (some ⟨g, 0, none⟩) U.length c5)).setCell ⟨g, ix.toNat, none⟩ (.int .i64 (ui + 1))) := ⟨_, rfl⟩
        rw [← hw9]
        have HP9 := (Kd.R_putg hR1 ix (ui + 1)).1
        have es : U.set ix.toNat (ui + 1) = U.set i (rd U (i : Int) + 1) := by rw [show ix.toNat = i by have := HIX.out; omega, HUI.out]
        rw [es] at HP9
        have HP9 : Kd.R (Kd.int .i64) 3 w99 w6.heap.size (fun _ => True) (.slice (some ⟨g, 0, none⟩) U.length c5) (U.set i (rd U (i : Int) + 1)) := by rw [hw9]; exact HP9
        have hne : g ≠ gp ∧ g ≠ bo ∧ g ≠ br ∧ gp ≠ bo ∧ gp ≠ br ∧ w.heap.size ≤ g := by have h1 := HSZ.out; have h2 := HGP.out; omega
        have BP9 : w99.heap[gp]? = some (.cells #[.slice (some ⟨g, 0, none⟩) U.length c5, .int .i64 f1, .int .i64 f2, .int .i64 f3] 30 (0, 0)) := by rw [hw9]; exact blk_far (p := ⟨g, ix.toNat, none⟩) BP1 (fun e => hne.1 e.symm) _
        have BO9 : w99.heap[bo]? = some (.cells #[.slice A1_0 L.length c1_0, .slice (some adv) V.length c1_1, .slice A1_2 C.length c1_2, .int .i64 lo, .int .i64 hi, .int .i64 al] 26 (0, 0)) := by rw [hw9]; exact blk_far (p := ⟨g, ix.toNat, none⟩) (blk_far (p := ⟨gp, 0, none⟩) BO.out (fun e => hne.2.2.2.1 e.symm) _) (fun e => hne.2.1 e.symm) _
        have BR9 : w99.heap[br]? = some (.cells #[.slice (some adu) U.length c2_0, .int .i64 f1, .int .i64 f2, .int .i64 f3] 30 (0, 0)) := by rw [hw9]; exact blk_far (p := ⟨g, ix.toNat, none⟩) (blk_far (p := ⟨gp, 0, none⟩) BR.out (fun e => hne.2.2.2.2.1 e.symm) _) (fun e => hne.2.2.1 e.symm) _
        replace HB := Aside0.mk (show Below w.heap.size w w99 by rw [hw9]; exact below_set (below_set HB.out HGP.out.1) hne.2.2.2.2.2)
        clear hw9 hR1 BP1 y0 y1 y2 y3 y4 es hR hgc hg1 hg2 wv
        clear d0 d1 d2 d3 d4 d5 r0 r1 r2 r3
        replace BP := Aside0.mk BP9
        replace BO := Aside0.mk BO9
        replace BR := Aside0.mk BR9
        clear BP9 BO9 BR9 hne
        have d0 : w99.cell? ⟨bo, 0, none⟩ = some (.slice A1_0 L.length c1_0) := blk_cell BO.out 0
        have d1 : w99.cell? ⟨bo, 1, none⟩ = some (.slice (some adv) V.length c1_1) := blk_cell BO.out 1
        have d2 : w99.cell? ⟨bo, 2, none⟩ = some (.slice A1_2 C.length c1_2) := blk_cell BO.out 2
        have d3 : w99.cell? ⟨bo, 3, none⟩ = some (.int .i64 lo) := blk_cell BO.out 3
        have d4 : w99.cell? ⟨bo, 4, none⟩ = some (.int .i64 hi) := blk_cell BO.out 4
        have d5 : w99.cell? ⟨bo, 5, none⟩ = some (.int .i64 al) := blk_cell BO.out 5
        have r0 : w99.cell? ⟨br, 0, none⟩ = some (.slice (some adu) U.length c2_0) := blk_cell BR.out 0
        have r1 : w99.cell? ⟨br, 1, none⟩ = some (.int .i64 f1) := blk_cell BR.out 1
        have r2 : w99.cell? ⟨br, 2, none⟩ = some (.int .i64 f2) := blk_cell BR.out 2
        have r3 : w99.cell? ⟨br, 3, none⟩ = some (.int .i64 f3) := blk_cell BR.out 3
        have y0 : w99.cell? ⟨gp, 0, none⟩ = some (.slice (some ⟨g, 0, none⟩) U.length c5) := blk_cell BP.out 0
        have y1 : w99.cell? ⟨gp, 1, none⟩ = some (.int .i64 f1) := blk_cell BP.out 1
        have y2 : w99.cell? ⟨gp, 2, none⟩ = some (.int .i64 f2) := blk_cell BP.out 2
        have y3 : w99.cell? ⟨gp, 3, none⟩ = some (.int .i64 f3) := blk_cell BP.out 3
        have HZ := Aside0.mk (HCK.out (some adv) c1_1 V al (some ⟨g, 0, none⟩) c5 (U.set i (rd U (i : Int) + 1)) 0 (Check_yes (HG.out.greater (i := i) (by have := HIL.out; have := HG.out.o.lu; omega) (by have := HC2.out; have := HVI.out; have := HRV.out; omega) (by have := HUI.out; have := HVU.out; omega))) w99 HB.out (Kd.C_below HV.out.1 HB.out) HV.out.2 (Kd.R_reads' HP9).2.2 (by rw [List.length_set]; exact (Kd.R_reads' HP9).2.1))
        replace HZ := Aside0.mk (by have h := HZ.out; rw [List.length_set] at h; exact h)
        clear HP9
        go_wp2_with fail
        refine HZ.out.mono ?_
        rintro e w98 ⟨rfl, hb⟩
        replace HB := Aside0.mk (below_step HB.out hb)
        clear hb HZ
        go_wp2_with fail
        go_ret
        exact ⟨rfl, HB.out⟩

end Go.Proofs.YtcdkbciagchlgaaDoor.PF
