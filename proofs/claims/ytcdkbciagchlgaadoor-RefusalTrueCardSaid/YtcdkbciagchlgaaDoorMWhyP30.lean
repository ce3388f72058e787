/- refusal.Why, where the library's table of powers lies as its initialiser lays it. -/
import Derived.Test.YtcdkbciagchlgaaDoorMIto30
import Derived.Test.YtcdkbciagchlgaaDoorPF8
import Derived.Test.YtcdkbciagchlgaaDoorPF9
import Derived.Test.YtcdkbciagchlgaaDoorRows
import Derived.Shelf.Strconv.Itoa3
import Derived.Lib.AppendIntMem
import Derived.Deep.RegionHeld3
namespace Go.Proofs.YtcdkbciagchlgaaDoor.PF
open Go.RowKit Go.Proofs.YtcdkbciagchlgaaDoorW.PrintWords Go.Proofs.YtcdkbciagchlgaaDoorW.PrintLast Go.Proofs.YtcdkbciagchlgaaDoorW.PrintMore
set_option linter.unusedVariables false
set_option linter.unusedSimpArgs false
def TabW (w : World) : Prop := Lib.TabIs Tryd.prog w tabName .u64 Lib.pow10Tab
theorem TabW.below {w w' : World} (h : TabW w) (hb : Below w.heap.size w w') : TabW w' := Lib.tabBelow_of_tabIs h w' hb
theorem decW_eq : ∀ u : Nat, Lib.decDigits u = decW u := by
  intro u
  induction u using Nat.strongRecOn with
  | ind u ih =>
    by_cases c : u < 10
    · rw [Lib.decDigits_one c, decW, dif_pos c]
    · rw [Lib.decDigits, dif_neg c, decW, dif_neg c, ih (u / 10) (by omega)]
theorem decW_len : ∀ d u : Nat, u < 10 ^ d → (decW u).length ≤ d + 1 := by
  intro d
  induction d with
  | zero => intro u hu; rw [Nat.pow_zero] at hu; rw [decW, dif_pos (by omega)]; exact Nat.le_refl _
  | succ d ih =>
    intro u hu
    by_cases c : u < 10
    · rw [decW, dif_pos c]; simp
    · have := ih (u / 10) (by rw [Nat.pow_succ] at hu; omega)
      rw [decW, dif_neg c, List.length_append, List.length_singleton]; omega
theorem formB_al {U : List Int} {lo hi al : Int} (h : formB U lo hi al = true) : 0 ≤ al ∧ al ≤ 1125899906842624 := by
  unfold formB at h
  simp only [Bool.and_eq_true, Bool.not_eq_true'] at h
  have h2 := h.1.1.2
  unfold strgB at h2
  rw [decide_eq_false_iff_not] at h2
  omega
set_option maxHeartbeats 4000000 in
set_option maxRecDepth 100000 in
theorem why_ok (w : World) (ht : TabW w) : WhyOK w := by
  intro A0_0 c0_0 l0_0 a0_1 a0_2 a0_3 r1 r2 hr0_0 hc0_0 h
  have hu := Tryd.underlying30
  have HB := Aside0.mk (Below.refl w.heap.size w)
  unfold refusal_Why.f at h
  obtain ⟨b, hb, h⟩ := Option.bind_eq_some_iff.mp h
  have HFM := Aside0.mk (fun W (hbl : Below w.heap.size w W) => refusal_formed.calls A0_0 c0_0 l0_0 a0_1 a0_2 a0_3 b W (Kd.C_below hr0_0 hbl) hc0_0 hb)
  have hb' : b = formB l0_0 a0_1 a0_2 a0_3 := by
    unfold refusal_formed.f at hb
    split at hb
    · exact (Option.some.inj hb).symm
    · cases hb
  have HFB := Aside0.mk hb'
  clear hr0_0 hb hb'
  cases b
  case false =>
    clear ht HFB
    rw [if_neg (by decide)] at h
    obtain ⟨rfl, rfl⟩ := Prod.mk.inj (Option.some.inj h)
    clear h
    go_enter Tryd.func17, Tryd.ntmps17
    go_upto_region 1 with fail
    have hn := blk_new w (Obj.cells #[Value.slice A0_0 l0_0.length c0_0, Value.int IntKind.i64 a0_1, Value.int IntKind.i64 a0_2, Value.int IntKind.i64 a0_3] 30)
    replace HB := Aside0.mk (below_alloc HB.out (Obj.cells #[Value.slice A0_0 l0_0.length c0_0, Value.int IntKind.i64 a0_1, Value.int IntKind.i64 a0_2, Value.int IntKind.i64 a0_3] 30))
    generalize w.alloc (Obj.cells #[Value.slice A0_0 l0_0.length c0_0, Value.int IntKind.i64 a0_1, Value.int IntKind.i64 a0_2, Value.int IntKind.i64 a0_3] 30) = W at hn HB ⊢
    have d0 : W.cell? ⟨w.heap.size, 0, none⟩ = some (.slice A0_0 l0_0.length c0_0) := (blk_cell hn 0).trans rfl
    have d1 : W.cell? ⟨w.heap.size, 1, none⟩ = some (.int .i64 a0_1) := (blk_cell hn 1).trans rfl
    have d2 : W.cell? ⟨w.heap.size, 2, none⟩ = some (.int .i64 a0_2) := (blk_cell hn 2).trans rfl
    have d3 : W.cell? ⟨w.heap.size, 3, none⟩ = some (.int .i64 a0_3) := (blk_cell hn 3).trans rfl
    clear hn
    go_wp2_with (go_at_call 33; refine (HFM.out _ HB.out).mono ?_; rintro e w2 ⟨rfl, hb⟩; replace HB := Aside0.mk (below_step HB.out hb); replace d0 := pw_cell_below hb d0; replace d1 := pw_cell_below hb d1; replace d2 := pw_cell_below hb d2; replace d3 := pw_cell_below hb d3; clear hb)
    go_ret2
    exact ⟨rfl, HB.out⟩
  rw [if_pos rfl] at h
  obtain ⟨hR, rfl⟩ := Prod.mk.inj (Option.some.inj h)
  have HRR := Aside0.mk hR
  have hal := formB_al HFB.out.symm
  have HI := Aside0.mk (fun w' (hb : Below w.heap.size w w') => itoa_calls a0_3 (by omega) (by omega) w' (ht.below hb))
  have ei : Lib.itoa a0_3 = decW a0_3.toNat := by
    have e : Lib.itoa ((a0_3.toNat : Nat) : Int) = Lib.decDigits a0_3.toNat := Lib.itoa_nonneg _
    rw [show ((a0_3.toNat : Nat) : Int) = a0_3 by omega] at e
    rw [e, decW_eq]
  rw [ei] at HI
  have hts : (decW a0_3.toNat).length ≤ 19 := decW_len 18 _ (by omega)
  obtain ⟨t, htt⟩ : ∃ t : ByteArray, t = ⟨(decW a0_3.toNat).toArray⟩ := ⟨_, rfl⟩
  rw [← htt] at HI HRR
  have hsz : t.size ≤ 19 := by rw [htt]; exact hts
  clear h hR hal ei hts htt ht HFB
  have s8 : (9223372036854775807 < 8 + t.size) = False := eq_false (by omega)
  have s9 : (9223372036854775807 < 9 + t.size) = False := eq_false (by omega)
  have s10 : (9223372036854775807 < 10 + t.size) = False := eq_false (by omega)
  have s13 : (9223372036854775807 < 13 + t.size) = False := eq_false (by omega)
  have s17 : (9223372036854775807 < 17 + t.size) = False := eq_false (by omega)
  have s19 : (9223372036854775807 < 19 + t.size) = False := eq_false (by omega)
  have s22 : (9223372036854775807 < 22 + t.size) = False := eq_false (by omega)
  clear hsz
  by_cases y1 : a0_1 = 1
  · have z1 : (a0_1 == 1) = true := beq_iff_eq.mpr y1
    obtain rfl : (⟨#[116, 111, 111, 32, 119, 101, 97, 107]⟩ : ByteArray) ++ ⟨#[44, 32, 102, 97, 99, 116, 111, 114, 32]⟩ ++ t = r1 := by
      have e := HRR.out
      unfold wordT at e
      rw [if_pos y1] at e
      exact e
    clear HRR y1
    go_enter Tryd.func17, Tryd.ntmps17
    go_upto_region 1 with fail
    have hn := blk_new w (Obj.cells #[Value.slice A0_0 l0_0.length c0_0, Value.int IntKind.i64 a0_1, Value.int IntKind.i64 a0_2, Value.int IntKind.i64 a0_3] 30)
    replace HB := Aside0.mk (below_alloc HB.out (Obj.cells #[Value.slice A0_0 l0_0.length c0_0, Value.int IntKind.i64 a0_1, Value.int IntKind.i64 a0_2, Value.int IntKind.i64 a0_3] 30))
    generalize w.alloc (Obj.cells #[Value.slice A0_0 l0_0.length c0_0, Value.int IntKind.i64 a0_1, Value.int IntKind.i64 a0_2, Value.int IntKind.i64 a0_3] 30) = W at hn HB ⊢
    have d0 : W.cell? ⟨w.heap.size, 0, none⟩ = some (.slice A0_0 l0_0.length c0_0) := (blk_cell hn 0).trans rfl
    have d1 : W.cell? ⟨w.heap.size, 1, none⟩ = some (.int .i64 a0_1) := (blk_cell hn 1).trans rfl
    have d2 : W.cell? ⟨w.heap.size, 2, none⟩ = some (.int .i64 a0_2) := (blk_cell hn 2).trans rfl
    have d3 : W.cell? ⟨w.heap.size, 3, none⟩ = some (.int .i64 a0_3) := (blk_cell hn 3).trans rfl
    clear hn
    go_wp2_with (first | (go_at_call 33; refine (HFM.out _ HB.out).mono ?_; rintro e w2 ⟨rfl, hb⟩; replace HB := Aside0.mk (below_step HB.out hb); replace d0 := pw_cell_below hb d0; replace d1 := pw_cell_below hb d1; replace d2 := pw_cell_below hb d2; replace d3 := pw_cell_below hb d3; clear hb) | (go_at_call 38; refine (HI.out _ HB.out).mono ?_; rintro e w3 ⟨rfl, hb⟩; replace HB := Aside0.mk (below_step HB.out hb); replace d0 := pw_cell_below hb d0; replace d1 := pw_cell_below hb d1; replace d2 := pw_cell_below hb d2; replace d3 := pw_cell_below hb d3; clear hb))
    go_ret2
    exact ⟨rfl, HB.out⟩
  · have z1 : (a0_1 == 1) = false := beq_eq_false_iff_ne.mpr y1
    by_cases y2 : a0_2 = 1
    · have z2 : (a0_2 == 1) = true := beq_iff_eq.mpr y2
      obtain rfl : (⟨#[116, 111, 111, 32, 115, 116, 114, 111, 110, 103]⟩ : ByteArray) ++ ⟨#[44, 32, 102, 97, 99, 116, 111, 114, 32]⟩ ++ t = r1 := by
        have e := HRR.out
        unfold wordT at e
        rw [if_neg y1, if_pos y2] at e
        exact e
      clear HRR y1 y2
      go_enter Tryd.func17, Tryd.ntmps17
      go_upto_region 1 with fail
      have hn := blk_new w (Obj.cells #[Value.slice A0_0 l0_0.length c0_0, Value.int IntKind.i64 a0_1, Value.int IntKind.i64 a0_2, Value.int IntKind.i64 a0_3] 30)
      replace HB := Aside0.mk (below_alloc HB.out (Obj.cells #[Value.slice A0_0 l0_0.length c0_0, Value.int IntKind.i64 a0_1, Value.int IntKind.i64 a0_2, Value.int IntKind.i64 a0_3] 30))
      generalize w.alloc (Obj.cells #[Value.slice A0_0 l0_0.length c0_0, Value.int IntKind.i64 a0_1, Value.int IntKind.i64 a0_2, Value.int IntKind.i64 a0_3] 30) = W at hn HB ⊢
      have d0 : W.cell? ⟨w.heap.size, 0, none⟩ = some (.slice A0_0 l0_0.length c0_0) := (blk_cell hn 0).trans rfl
      have d1 : W.cell? ⟨w.heap.size, 1, none⟩ = some (.int .i64 a0_1) := (blk_cell hn 1).trans rfl
      have d2 : W.cell? ⟨w.heap.size, 2, none⟩ = some (.int .i64 a0_2) := (blk_cell hn 2).trans rfl
      have d3 : W.cell? ⟨w.heap.size, 3, none⟩ = some (.int .i64 a0_3) := (blk_cell hn 3).trans rfl
      clear hn
      go_wp2_with (first | (go_at_call 33; refine (HFM.out _ HB.out).mono ?_; rintro e w2 ⟨rfl, hb⟩; replace HB := Aside0.mk (below_step HB.out hb); replace d0 := pw_cell_below hb d0; replace d1 := pw_cell_below hb d1; replace d2 := pw_cell_below hb d2; replace d3 := pw_cell_below hb d3; clear hb) | (go_at_call 38; refine (HI.out _ HB.out).mono ?_; rintro e w3 ⟨rfl, hb⟩; replace HB := Aside0.mk (below_step HB.out hb); replace d0 := pw_cell_below hb d0; replace d1 := pw_cell_below hb d1; replace d2 := pw_cell_below hb d2; replace d3 := pw_cell_below hb d3; clear hb))
      go_ret2
      exact ⟨rfl, HB.out⟩
    · have z2 : (a0_2 == 1) = false := beq_eq_false_iff_ne.mpr y2
      obtain rfl : (⟨#[116, 111, 111, 32, 102, 101, 119, 32, 117, 110, 105, 116, 115]⟩ : ByteArray) ++ ⟨#[44, 32, 102, 97, 99, 116, 111, 114, 32]⟩ ++ t = r1 := by
        have e := HRR.out
        unfold wordT at e
        rw [if_neg y1, if_neg y2] at e
        exact e
      clear HRR y1 y2
      go_enter Tryd.func17, Tryd.ntmps17
      go_upto_region 1 with fail
      have hn := blk_new w (Obj.cells #[Value.slice A0_0 l0_0.length c0_0, Value.int IntKind.i64 a0_1, Value.int IntKind.i64 a0_2, Value.int IntKind.i64 a0_3] 30)
      replace HB := Aside0.mk (below_alloc HB.out (Obj.cells #[Value.slice A0_0 l0_0.length c0_0, Value.int IntKind.i64 a0_1, Value.int IntKind.i64 a0_2, Value.int IntKind.i64 a0_3] 30))
      generalize w.alloc (Obj.cells #[Value.slice A0_0 l0_0.length c0_0, Value.int IntKind.i64 a0_1, Value.int IntKind.i64 a0_2, Value.int IntKind.i64 a0_3] 30) = W at hn HB ⊢
      have d0 : W.cell? ⟨w.heap.size, 0, none⟩ = some (.slice A0_0 l0_0.length c0_0) := (blk_cell hn 0).trans rfl
      have d1 : W.cell? ⟨w.heap.size, 1, none⟩ = some (.int .i64 a0_1) := (blk_cell hn 1).trans rfl
      have d2 : W.cell? ⟨w.heap.size, 2, none⟩ = some (.int .i64 a0_2) := (blk_cell hn 2).trans rfl
      have d3 : W.cell? ⟨w.heap.size, 3, none⟩ = some (.int .i64 a0_3) := (blk_cell hn 3).trans rfl
      clear hn
      go_wp2_with (first | (go_at_call 33; refine (HFM.out _ HB.out).mono ?_; rintro e w2 ⟨rfl, hb⟩; replace HB := Aside0.mk (below_step HB.out hb); replace d0 := pw_cell_below hb d0; replace d1 := pw_cell_below hb d1; replace d2 := pw_cell_below hb d2; replace d3 := pw_cell_below hb d3; clear hb) | (go_at_call 38; refine (HI.out _ HB.out).mono ?_; rintro e w3 ⟨rfl, hb⟩; replace HB := Aside0.mk (below_step HB.out hb); replace d0 := pw_cell_below hb d0; replace d1 := pw_cell_below hb d1; replace d2 := pw_cell_below hb d2; replace d3 := pw_cell_below hb d3; clear hb))
      go_ret2
      exact ⟨rfl, HB.out⟩
end Go.Proofs.YtcdkbciagchlgaaDoor.PF
