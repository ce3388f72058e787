/- The walk through the law ColumnSame of package spilelaw36. -/
import Derived.Test.YtodfjkdgfjkifaaMAwk36
import Derived.Test.YtodfjkdgfjkifaaMBal36
import Derived.Test.YtodfjkdgfjkifaaMCol36
import Derived.Test.YtodfjkdgfjkifaaMCom36
import Derived.Test.YtodfjkdgfjkifaaMMrg36
import Derived.Test.YtodfjkdgfjkifaaMOpn36
import Derived.Test.YtodfjkdgfjkifaaMSam36
import Derived.Test.YtodfjkdgfjkifaaPF0
import Derived.Test.YtodfjkdgfjkifaaPF1
namespace Go.Proofs.Ytodfjkdgfjkifaa.PF
open Go.RowKit Go.Proofs.YtodfjkdgfjkifaaW.PrintWords Go.Proofs.YtodfjkdgfjkifaaW.PrintLast Go.Proofs.YtodfjkdgfjkifaaW.PrintMore
set_option linter.unusedVariables false
set_option linter.unusedSimpArgs false
def spilelaw36_ColumnSame.f (a0_0 : Int) (l0_1 : List S28) (a1 : Int) : Option Bool := some true
set_option maxHeartbeats 4000000 in
set_option maxRecDepth 100000 in
theorem ColumnSame.walk (p : Int) (A : Option Addr) (c : Nat) (l : List S28) (q : Int) (w : World) (hr : Kd.C k28 w A l.length l) (hc : l.length ≤ c) :
    Calls Try.prog 6 #[.agg #[.int .i64 p, .slice A l.length c], .int .i64 q] w fun e w' => e = .returned (.bool true) ∧ Below w.heap.size w w' := by
  have hu1 := Try.underlying24
  have HA := Aside0.mk (fun W => awake36.known W)
  by_cases hl : 24 < l.length
  · have b1 : decide (24 < (l.length : Int)) = true := decide_eq_true (by omega)
    have b2 : decide (24 < l.length) = true := decide_eq_true hl
    clear hr hc hl
    go_enter Try.func6, Try.ntmps6
    go_wp2_with (first | ((with_reducible refine gate_dst (N := 2) rfl ?_); refine box_event ?hg (N := 2) ?hd (cs := #[.int .i64 p, .slice A l.length c]) (t := 24) ?hr ?_; (case hd => rfl); (case hg => rfl); (case hr => first | (go_simp; done) | (go_simp; rfl)); intro gb hg w3 hbox hb; have c0 : w3.cell? ⟨gb, 0, none⟩ = some (.int .i64 p) := blk_cell hbox 0; have c1 : w3.cell? ⟨gb, 1, none⟩ = some (.slice A l.length c) := blk_cell hbox 1; have HB := Aside0.mk hb; have BK := Aside0.mk hbox; clear hbox hb hg))
    refine (HA.out _).mono ?_
    rintro e w4 ⟨rfl, hb⟩
    replace HB := Aside0.mk (below_step HB.out hb)
    replace BK := Aside0.mk (blk_below BK.out hb)
    replace c0 := pw_cell_below hb c0
    replace c1 := pw_cell_below hb c1
    clear hb
    clear HA
    go_wp2
    go_ret
    exact ⟨rfl, HB.out⟩
  have b1 : decide (24 < (l.length : Int)) = false := decide_eq_false (by omega)
  have b2 : decide (24 < l.length) = false := decide_eq_false hl
  have HCP := Aside0.mk (fun W (hb : Below w.heap.size w W) => cp36.known p A c l W (Kd.C_below hr hb) hc (by omega))
  obtain ⟨⟨m, O, e⟩, hm⟩ : ∃ r, mgR p l q = r := ⟨_, rfl⟩
  have HM := Aside0.mk (fun (W : World) (A' : Option Addr) (c' : Nat) (hr : Kd.C k28 W A' l.length l) (hc : l.length ≤ c') => column_Merge.known p A' c' l q W hr hc hm)
  by_cases he : e = 0
  case neg =>
    obtain ⟨rfl, rfl⟩ := mgR_err hm he
    have b3 : (e != 0) = true := bne_iff_ne.mpr he
    clear hr hc hl hm he
    go_enter Try.func6, Try.ntmps6
    go_wp2_with (first | ((with_reducible refine gate_dst (N := 2) rfl ?_); refine box_event ?hg (N := 2) ?hd (cs := #[.int .i64 p, .slice A l.length c]) (t := 24) ?hr ?_; (case hd => rfl); (case hg => rfl); (case hr => first | (go_simp; done) | (go_simp; rfl)); intro gb hg w3 hbox hb; have c0 : w3.cell? ⟨gb, 0, none⟩ = some (.int .i64 p) := blk_cell hbox 0; have c1 : w3.cell? ⟨gb, 1, none⟩ = some (.slice A l.length c) := blk_cell hbox 1; have HB := Aside0.mk hb; have BK := Aside0.mk hbox; clear hbox hb hg))
    refine (HA.out _).mono ?_
    rintro e w4 ⟨rfl, hb⟩
    replace HB := Aside0.mk (below_step HB.out hb)
    replace BK := Aside0.mk (blk_below BK.out hb)
    replace c0 := pw_cell_below hb c0
    replace c1 := pw_cell_below hb c1
    clear hb
    clear HA
    go_wp2_with fail
    refine (HCP.out _ HB.out).mono ?_
    rintro e' w6 ⟨A1, k1', rfl, hk1, hr1, hb⟩
    replace HB := Aside0.mk (below_step HB.out hb)
    replace BK := Aside0.mk (blk_below BK.out hb)
    replace c0 := pw_cell_below hb c0
    replace c1 := pw_cell_below hb c1
    clear hb
    go_wp2_with fail
    refine (HM.out _ _ _ hr1 hk1).mono ?_
    rintro e' w7 ⟨AO, cO, rfl, hcO, hrO, hb⟩
    replace HB := Aside0.mk (below_step HB.out hb)
    replace BK := Aside0.mk (blk_below BK.out hb)
    replace c0 := pw_cell_below hb c0
    replace c1 := pw_cell_below hb c1
    clear hb
    clear hr1 hk1 HM
    have HO := Aside0.mk (⟨hrO, hcO⟩ : _ ∧ _)
    clear hrO hcO
    go_wp2_with (first | ((with_reducible refine gate_dst (N := 5) rfl ?_); refine box_event ?hg (N := 5) ?hd (cs := #[.int .i64 0, .slice none 0 0]) (t := 24) ?hr ?_; (case hd => rfl); (case hg => rfl); (case hr => first | (go_simp; done) | (go_simp; rfl)); intro g5 hg w8 hbox hb5; have hc0 : w8.cell? ⟨g5, 0, none⟩ = some (.int .i64 0) := blk_cell hbox 0; have hf0 := blk_frozen hbox 0; have hc1 : w8.cell? ⟨g5, 1, none⟩ = some (.slice none 0 0) := blk_cell hbox 1; have hf1 := blk_frozen hbox 1; replace hbox := Aside0.mk hbox; replace hb5 := Aside0.mk hb5; replace hg := Aside0.mk hg) | ((with_reducible refine gate_store (t := 24) (p := 5) rfl ?_); refine store_event (t := 24) (p := 5) (v := .tmp 35) (w1 := ((w8.setCell ⟨g5, 0, none⟩ (.int .i64 0)).setCell ⟨g5, 1, none⟩ (.slice AO 0 cO))) ?hg ?ho ?hn ?hr ?_; (case ho => rfl); (case hg => rfl); (case hn => rfl); (case hr => first | (go_simp; done) | (go_simp; rfl)); intro w9 hw6; clear hc0 hf0 hc1 hf1; have hbx := box2h_ (x := .int .i64 0) (y := .slice AO 0 cO) hb5.out hg.out hbox.out; rw [← hw6] at hbx; clear hw6 hb5 hg hbox; obtain ⟨hb, hk6⟩ := hbx; have K5 := Aside0.mk hk6; replace HO := Aside0.mk (⟨Kd.C_below HO.out.1 hb, HO.out.2⟩ : _ ∧ _); replace BK := Aside0.mk (blk_below BK.out hb); replace c0 := pw_cell_below hb c0; replace c1 := pw_cell_below hb c1; have d0 : w9.cell? ⟨g5, 0, none⟩ = some (.int .i64 0) := blk_cell K5.out 0; have d1 : w9.cell? ⟨g5, 1, none⟩ = some (.slice AO 0 cO) := blk_cell K5.out 1; replace HB := Aside0.mk (below_step HB.out hb); clear hb hk6))
    go_ret
    exact ⟨by first | rfl | simp, HB.out⟩
  subst he
  obtain ⟨RC, hq1, hq2, hm', RD, hD⟩ := mgR_ok hm
  subst hm'
  obtain ⟨B, hB⟩ : ∃ B, B = balL l := ⟨_, rfl⟩
  have hrt := rt36_iff.2 RC
  have hrd := rt36_iff.2 RD
  rw [← hB] at hD
  have e1 : whR p l = (-(B 0).1, -(B 0).2, 0) := by unfold whR; rw [hrt, hB]; rfl
  have e2 : whR (p - 1) O = (-(B 0).1, -(B 0).2, 0) := by unfold whR; rw [hrd, hD]; unfold combB; rw [if_pos rfl, if_pos (by omega)]
  have e3 : ∀ t, 1 ≤ t → t ≤ p → blR p l t = ((B t.toNat).1, (B t.toNat).2, 0) := fun t h0 h1 => by unfold blR; rw [hrt, if_pos rfl, if_neg (by omega), hB]
  have e4 : ∀ t, 1 ≤ t → t ≤ p - 1 → blR (p - 1) O t = ((combB q.toNat B t.toNat).1, (combB q.toNat B t.toNat).2, 0) := fun t h0 h1 => by unfold blR; rw [hrd, if_pos rfl, if_neg (by omega), hD]
  have hol : O.length ≤ 1000 := by have := RD.2.2.1; omega
  have HCQ := Aside0.mk (fun (W : World) (A' : Option Addr) (c' : Nat) (hr : Kd.C k28 W A' O.length O) (hc : O.length ≤ c') => cp36.known (p - 1) A' c' O W hr hc hol)
  have HW1 := Aside0.mk (fun (W : World) (A' : Option Addr) (c' : Nat) (hr : Kd.C k28 W A' l.length l) (hc : l.length ≤ c') => column_Whole.known p A' c' l W hr hc e1)
  have HW2 := Aside0.mk (fun (W : World) (A' : Option Addr) (c' : Nat) (hr : Kd.C k28 W A' O.length O) (hc : O.length ≤ c') => column_Whole.known (p - 1) A' c' O W hr hc e2)
  have HBL := Aside0.mk (fun (t : Int) (h0 : 1 ≤ t) (h1 : t ≤ p) {x y z : Int} (h : blR p l t = (x, y, z)) (W : World) (A' : Option Addr) (c' : Nat) (hr : Kd.C k28 W A' l.length l) (hc : l.length ≤ c') => column_Balance.known p A' c' l t W hr hc h)
  have HBM := Aside0.mk (fun (t : Int) (h0 : 1 ≤ t) (h1 : t ≤ p - 1) {x y z : Int} (h : blR (p - 1) O t = (x, y, z)) (W : World) (A' : Option Addr) (c' : Nat) (hr : Kd.C k28 W A' O.length O) (hc : O.length ≤ c') => column_Balance.known (p - 1) A' c' O t W hr hc h)
  have HE3 := Aside0.mk e3
  have HE4 := Aside0.mk e4
  have HBN := Aside0.mk RC.bnd
  rw [← hB] at HBN
  have HP := Aside0.mk (show 1 ≤ p ∧ p ≤ 16 ∧ 1 ≤ q ∧ q < p from ⟨RC.1, RC.2.1, hq1, hq2⟩)
  have b3 : decide (16 < p) = false := decide_eq_false (by have := RC.2.1; omega)
  have v1 : IntKind.i64.wrap (p - 1) = p - 1 := by rw [i64_w]; exact w64_ (by omega) (by have := RC.2.1; omega)
  clear hr hc hl hrt hrd e1 e2 e3 e4 RC RD hB hD hol hq1 hq2 hm
  go_enter Try.func6, Try.ntmps6
  go_wp2_with (first | ((with_reducible refine gate_dst (N := 2) rfl ?_); refine box_event ?hg (N := 2) ?hd (cs := #[.int .i64 p, .slice A l.length c]) (t := 24) ?hr ?_; (case hd => rfl); (case hg => rfl); (case hr => first | (go_simp; done) | (go_simp; rfl)); intro gb hg w3 hbox hb; have c0 : w3.cell? ⟨gb, 0, none⟩ = some (.int .i64 p) := blk_cell hbox 0; have c1 : w3.cell? ⟨gb, 1, none⟩ = some (.slice A l.length c) := blk_cell hbox 1; have HB := Aside0.mk hb; have BK := Aside0.mk hbox; clear hbox hb hg))
  refine (HA.out _).mono ?_
  rintro e w4 ⟨rfl, hb⟩
  replace HB := Aside0.mk (below_step HB.out hb)
  replace BK := Aside0.mk (blk_below BK.out hb)
  replace c0 := pw_cell_below hb c0
  replace c1 := pw_cell_below hb c1
  clear hb
  clear HA
  go_wp2_with fail
  refine (HCP.out _ HB.out).mono ?_
  rintro e' w6 ⟨A1, k1', rfl, hk1, hr1, hb⟩
  replace HB := Aside0.mk (below_step HB.out hb)
  replace BK := Aside0.mk (blk_below BK.out hb)
  replace c0 := pw_cell_below hb c0
  replace c1 := pw_cell_below hb c1
  clear hb
  go_wp2_with fail
  refine (HM.out _ _ _ hr1 hk1).mono ?_
  rintro e' w7 ⟨AO, cO, rfl, hcO, hrO, hb⟩
  replace HB := Aside0.mk (below_step HB.out hb)
  replace BK := Aside0.mk (blk_below BK.out hb)
  replace c0 := pw_cell_below hb c0
  replace c1 := pw_cell_below hb c1
  clear hb
  clear hr1 hk1 HM
  have HO := Aside0.mk (⟨hrO, hcO⟩ : _ ∧ _)
  clear hrO hcO
  go_wp2_with (first | ((with_reducible refine gate_dst (N := 5) rfl ?_); refine box_event ?hg (N := 5) ?hd (cs := #[.int .i64 0, .slice none 0 0]) (t := 24) ?hr ?_; (case hd => rfl); (case hg => rfl); (case hr => first | (go_simp; done) | (go_simp; rfl)); intro g5 hg w8 hbox hb5; have hc0 : w8.cell? ⟨g5, 0, none⟩ = some (.int .i64 0) := blk_cell hbox 0; have hf0 := blk_frozen hbox 0; have hc1 : w8.cell? ⟨g5, 1, none⟩ = some (.slice none 0 0) := blk_cell hbox 1; have hf1 := blk_frozen hbox 1; replace hbox := Aside0.mk hbox; replace hb5 := Aside0.mk hb5; replace hg := Aside0.mk hg) | ((with_reducible refine gate_store (t := 24) (p := 5) rfl ?_); refine store_event (t := 24) (p := 5) (v := .tmp 35) (w1 := ((w8.setCell ⟨g5, 0, none⟩ (.int .i64 (p - 1))).setCell ⟨g5, 1, none⟩ (.slice AO O.length cO))) ?hg ?ho ?hn ?hr ?_; (case ho => rfl); (case hg => rfl); (case hn => rfl); (case hr => first | (go_simp; done) | (go_simp; rfl)); intro w9 hw6; clear hc0 hf0 hc1 hf1; have hbx := box2h_ (x := .int .i64 (p - 1)) (y := .slice AO O.length cO) hb5.out hg.out hbox.out; rw [← hw6] at hbx; clear hw6 hb5 hg hbox; obtain ⟨hb, hk6⟩ := hbx; have K5 := Aside0.mk hk6; replace HO := Aside0.mk (⟨Kd.C_below HO.out.1 hb, HO.out.2⟩ : _ ∧ _); replace BK := Aside0.mk (blk_below BK.out hb); replace c0 := pw_cell_below hb c0; replace c1 := pw_cell_below hb c1; have d0 : w9.cell? ⟨g5, 0, none⟩ = some (.int .i64 (p - 1)) := blk_cell K5.out 0; have d1 : w9.cell? ⟨g5, 1, none⟩ = some (.slice AO O.length cO) := blk_cell K5.out 1; replace HB := Aside0.mk (below_step HB.out hb); clear hb hk6))
  go_wp2_with fail
  refine (HCP.out _ HB.out).mono ?_
  rintro e' w10 ⟨A1, k1', rfl, hk1, hr1, hb⟩
  replace HB := Aside0.mk (below_step HB.out hb)
  replace BK := Aside0.mk (blk_below BK.out hb)
  replace K5 := Aside0.mk (blk_below K5.out hb)
  replace HO := Aside0.mk (⟨Kd.C_below HO.out.1 hb, HO.out.2⟩ : _ ∧ _)
  replace c0 := pw_cell_below hb c0
  replace c1 := pw_cell_below hb c1
  replace d0 := pw_cell_below hb d0
  replace d1 := pw_cell_below hb d1
  clear hb
  go_wp2_with fail
  refine (HW1.out _ _ _ hr1 hk1).mono ?_
  rintro e' w10' ⟨rfl, hb⟩
  replace HB := Aside0.mk (below_step HB.out hb)
  replace BK := Aside0.mk (blk_below BK.out hb)
  replace K5 := Aside0.mk (blk_below K5.out hb)
  replace HO := Aside0.mk (⟨Kd.C_below HO.out.1 hb, HO.out.2⟩ : _ ∧ _)
  replace c0 := pw_cell_below hb c0
  replace c1 := pw_cell_below hb c1
  replace d0 := pw_cell_below hb d0
  replace d1 := pw_cell_below hb d1
  clear hb
  clear hr1 hk1 HW1
  go_wp2_with fail
  refine (HCQ.out _ _ _ HO.out.1 HO.out.2).mono ?_
  rintro e' w11 ⟨A1, k1', rfl, hk1, hr1, hb⟩
  replace HB := Aside0.mk (below_step HB.out hb)
  replace BK := Aside0.mk (blk_below BK.out hb)
  replace K5 := Aside0.mk (blk_below K5.out hb)
  replace HO := Aside0.mk (⟨Kd.C_below HO.out.1 hb, HO.out.2⟩ : _ ∧ _)
  replace c0 := pw_cell_below hb c0
  replace c1 := pw_cell_below hb c1
  replace d0 := pw_cell_below hb d0
  replace d1 := pw_cell_below hb d1
  clear hb
  go_wp2_with fail
  refine (HW2.out _ _ _ hr1 hk1).mono ?_
  rintro e' w11' ⟨rfl, hb⟩
  replace HB := Aside0.mk (below_step HB.out hb)
  replace BK := Aside0.mk (blk_below BK.out hb)
  replace K5 := Aside0.mk (blk_below K5.out hb)
  replace HO := Aside0.mk (⟨Kd.C_below HO.out.1 hb, HO.out.2⟩ : _ ∧ _)
  replace c0 := pw_cell_below hb c0
  replace c1 := pw_cell_below hb c1
  replace d0 := pw_cell_below hb d0
  replace d1 := pw_cell_below hb d1
  clear hb
  clear hr1 hk1 HW2
  go_wp2
  go_loopg [13] ((p - 1).toNat + 1) (fun g s13 wr => ∃ t : Int, s13 = .int .i64 t ∧ Aside0 (1 ≤ t ∧ t ≤ p ∧ (p - 1).toNat + 1 - t.toNat ≤ g) ∧ Aside0 (wr.heap[gb]? = some (.cells #[.int .i64 p, .slice A l.length c] 24 (0, 0))) ∧ Aside0 (wr.heap[g5]? = some (.cells #[.int .i64 (p - 1), .slice AO O.length cO] 24 (0, 0))) ∧ Aside0 (Kd.C k28 wr AO O.length O ∧ O.length ≤ cO) ∧ Aside0 (Below w.heap.size w wr))
  case atStart => exact ⟨1, rfl, ⟨by omega, by have := HP.out; omega, by omega⟩, BK, K5, HO, HB⟩
  case round =>
    clear BK K5 HO HB c0 c1 d0 d1
    obtain ⟨t, rfl, HX, BK, K5, HO, HB⟩ := hrel
    have c0 : wr.cell? ⟨gb, 0, none⟩ = some (.int .i64 p) := blk_cell BK.out 0
    have c1 : wr.cell? ⟨gb, 1, none⟩ = some (.slice A l.length c) := blk_cell BK.out 1
    have d0 : wr.cell? ⟨g5, 0, none⟩ = some (.int .i64 (p - 1)) := blk_cell K5.out 0
    have d1 : wr.cell? ⟨g5, 1, none⟩ = some (.slice AO O.length cO) := blk_cell K5.out 1
    by_cases hlt : t ≤ p - 1
    case neg =>
      have l1 : decide (t ≤ p - 1) = false := decide_eq_false hlt
      clear hlt
      go_wp2
      go_ret
      exact ⟨rfl, HB.out⟩
    have l1 : decide (t ≤ p - 1) = true := decide_eq_true hlt
    have hx := HX.out
    have hp := HP.out
    have hw' : wrap64 (t + 1) = t + 1 := w64_ (by omega) (by omega)
    have hw : IntKind.i64.wrap (t + 1) = t + 1 := by rw [i64_w]; exact hw'
    have h4 := HE4.out t hx.1 hlt
    unfold combB at h4
    have HLT := Aside0.mk hlt
    by_cases t1 : q < t
    · have l2 : decide (q < t) = true := decide_eq_true t1
      have l3 : (t == q) = false := beq_eq_false_iff_ne.mpr (by omega)
      have h3 := HE3.out (t + 1) (by omega) (by omega)
      rw [if_neg (by omega), if_neg (by omega), show t.toNat + 1 = (t + 1).toNat by omega] at h4
      generalize B (t + 1).toNat = bv at *
      obtain ⟨y, z⟩ := bv
      have HBD := Aside0.mk (HBM.out t hx.1 hlt h4)
      have HB1 := Aside0.mk (HBL.out (t + 1) (by omega) (by omega) h3)
      clear h3 h4 hx hp hlt t1
      go_wp2_with fail
      refine (HCQ.out _ _ _ HO.out.1 HO.out.2).mono ?_
      rintro e' w20 ⟨A1, k1', rfl, hk1, hr1, hb⟩
      replace HB := Aside0.mk (below_step HB.out hb)
      replace BK := Aside0.mk (blk_below BK.out hb)
      replace K5 := Aside0.mk (blk_below K5.out hb)
      replace HO := Aside0.mk (⟨Kd.C_below HO.out.1 hb, HO.out.2⟩ : _ ∧ _)
      replace c0 := pw_cell_below hb c0
      replace c1 := pw_cell_below hb c1
      replace d0 := pw_cell_below hb d0
      replace d1 := pw_cell_below hb d1
      clear hb
      go_wp2_with fail
      refine (HBD.out _ _ _ hr1 hk1).mono ?_
      rintro e' w20' ⟨rfl, hb⟩
      replace HB := Aside0.mk (below_step HB.out hb)
      replace BK := Aside0.mk (blk_below BK.out hb)
      replace K5 := Aside0.mk (blk_below K5.out hb)
      replace HO := Aside0.mk (⟨Kd.C_below HO.out.1 hb, HO.out.2⟩ : _ ∧ _)
      replace c0 := pw_cell_below hb c0
      replace c1 := pw_cell_below hb c1
      replace d0 := pw_cell_below hb d0
      replace d1 := pw_cell_below hb d1
      clear hb
      clear hr1 hk1 HBD
      go_wp2_with fail
      refine (HCP.out _ HB.out).mono ?_
      rintro e' w21 ⟨A1, k1', rfl, hk1, hr1, hb⟩
      replace HB := Aside0.mk (below_step HB.out hb)
      replace BK := Aside0.mk (blk_below BK.out hb)
      replace K5 := Aside0.mk (blk_below K5.out hb)
      replace HO := Aside0.mk (⟨Kd.C_below HO.out.1 hb, HO.out.2⟩ : _ ∧ _)
      replace c0 := pw_cell_below hb c0
      replace c1 := pw_cell_below hb c1
      replace d0 := pw_cell_below hb d0
      replace d1 := pw_cell_below hb d1
      clear hb
      go_wp2_with fail
      refine (HB1.out _ _ _ hr1 hk1).mono ?_
      rintro e' w21' ⟨rfl, hb⟩
      replace HB := Aside0.mk (below_step HB.out hb)
      replace BK := Aside0.mk (blk_below BK.out hb)
      replace K5 := Aside0.mk (blk_below K5.out hb)
      replace HO := Aside0.mk (⟨Kd.C_below HO.out.1 hb, HO.out.2⟩ : _ ∧ _)
      replace c0 := pw_cell_below hb c0
      replace c1 := pw_cell_below hb c1
      replace d0 := pw_cell_below hb d0
      replace d1 := pw_cell_below hb d1
      clear hb
      clear hr1 hk1 HB1
      clear c0 c1 d0 d1
      go_wp2
      go_roundg ((p - 1).toNat + 1 - (t + 1).toNat)
      case measure => have := HX.out; have := HLT.out; omega
      case rel => exact ⟨t + 1, by first | rfl | rw [hw'] | rw [hw], ⟨by have := HX.out; omega, by have := HLT.out; omega, by omega⟩, BK, K5, HO, HB⟩
    have l2 : decide (q < t) = false := decide_eq_false t1
    by_cases t2 : t = q
    · subst t2
      have h3 := HE3.out t (by omega) (by omega)
      have h5 := HE3.out (t + 1) (by omega) (by omega)
      rw [if_neg (by omega), if_pos rfl, show t.toNat + 1 = (t + 1).toNat by omega] at h4
      have n1 := HBN.out t.toNat
      have n2 := HBN.out (t + 1).toNat
      generalize B (t + 1).toNat = bu at *
      generalize B t.toNat = bv at *
      obtain ⟨y, z⟩ := bv
      obtain ⟨y', z'⟩ := bu
      simp only at n1 n2 h3 h4 h5
      have k1 : IntKind.i64.wrap (y + y') = y + y' := by rw [i64_w]; exact w64_ (by omega) (by omega)
      have k2 : IntKind.i64.wrap (z + z') = z + z' := by rw [i64_w]; exact w64_ (by omega) (by omega)
      have HBD := Aside0.mk (HBM.out t hx.1 hlt h4)
      have HB1 := Aside0.mk (HBL.out t (by omega) (by omega) h3)
      have HB2 := Aside0.mk (HBL.out (t + 1) (by omega) (by omega) h5)
      clear h3 h4 h5 hx hp hlt t1 n1 n2
      go_wp2_with fail
      refine (HCQ.out _ _ _ HO.out.1 HO.out.2).mono ?_
      rintro e' w20 ⟨A1, k1', rfl, hk1, hr1, hb⟩
      replace HB := Aside0.mk (below_step HB.out hb)
      replace BK := Aside0.mk (blk_below BK.out hb)
      replace K5 := Aside0.mk (blk_below K5.out hb)
      replace HO := Aside0.mk (⟨Kd.C_below HO.out.1 hb, HO.out.2⟩ : _ ∧ _)
      replace c0 := pw_cell_below hb c0
      replace c1 := pw_cell_below hb c1
      replace d0 := pw_cell_below hb d0
      replace d1 := pw_cell_below hb d1
      clear hb
      go_wp2_with fail
      refine (HBD.out _ _ _ hr1 hk1).mono ?_
      rintro e' w20' ⟨rfl, hb⟩
      replace HB := Aside0.mk (below_step HB.out hb)
      replace BK := Aside0.mk (blk_below BK.out hb)
      replace K5 := Aside0.mk (blk_below K5.out hb)
      replace HO := Aside0.mk (⟨Kd.C_below HO.out.1 hb, HO.out.2⟩ : _ ∧ _)
      replace c0 := pw_cell_below hb c0
      replace c1 := pw_cell_below hb c1
      replace d0 := pw_cell_below hb d0
      replace d1 := pw_cell_below hb d1
      clear hb
      clear hr1 hk1 HBD
      go_wp2_with fail
      refine (HCP.out _ HB.out).mono ?_
      rintro e' w21 ⟨A1, k1', rfl, hk1, hr1, hb⟩
      replace HB := Aside0.mk (below_step HB.out hb)
      replace BK := Aside0.mk (blk_below BK.out hb)
      replace K5 := Aside0.mk (blk_below K5.out hb)
      replace HO := Aside0.mk (⟨Kd.C_below HO.out.1 hb, HO.out.2⟩ : _ ∧ _)
      replace c0 := pw_cell_below hb c0
      replace c1 := pw_cell_below hb c1
      replace d0 := pw_cell_below hb d0
      replace d1 := pw_cell_below hb d1
      clear hb
      go_wp2_with fail
      refine (HB1.out _ _ _ hr1 hk1).mono ?_
      rintro e' w21' ⟨rfl, hb⟩
      replace HB := Aside0.mk (below_step HB.out hb)
      replace BK := Aside0.mk (blk_below BK.out hb)
      replace K5 := Aside0.mk (blk_below K5.out hb)
      replace HO := Aside0.mk (⟨Kd.C_below HO.out.1 hb, HO.out.2⟩ : _ ∧ _)
      replace c0 := pw_cell_below hb c0
      replace c1 := pw_cell_below hb c1
      replace d0 := pw_cell_below hb d0
      replace d1 := pw_cell_below hb d1
      clear hb
      clear hr1 hk1 HB1
      go_wp2_with fail
      refine (HCP.out _ HB.out).mono ?_
      rintro e' w22 ⟨A1, k1', rfl, hk1, hr1, hb⟩
      replace HB := Aside0.mk (below_step HB.out hb)
      replace BK := Aside0.mk (blk_below BK.out hb)
      replace K5 := Aside0.mk (blk_below K5.out hb)
      replace HO := Aside0.mk (⟨Kd.C_below HO.out.1 hb, HO.out.2⟩ : _ ∧ _)
      replace c0 := pw_cell_below hb c0
      replace c1 := pw_cell_below hb c1
      replace d0 := pw_cell_below hb d0
      replace d1 := pw_cell_below hb d1
      clear hb
      go_wp2_with fail
      refine (HB2.out _ _ _ hr1 hk1).mono ?_
      rintro e' w22' ⟨rfl, hb⟩
      replace HB := Aside0.mk (below_step HB.out hb)
      replace BK := Aside0.mk (blk_below BK.out hb)
      replace K5 := Aside0.mk (blk_below K5.out hb)
      replace HO := Aside0.mk (⟨Kd.C_below HO.out.1 hb, HO.out.2⟩ : _ ∧ _)
      replace c0 := pw_cell_below hb c0
      replace c1 := pw_cell_below hb c1
      replace d0 := pw_cell_below hb d0
      replace d1 := pw_cell_below hb d1
      clear hb
      clear hr1 hk1 HB2
      clear c0 c1 d0 d1
      go_wp2
      go_roundg ((p - 1).toNat + 1 - (t + 1).toNat)
      case measure => have := HX.out; have := HLT.out; omega
      case rel => exact ⟨t + 1, by first | rfl | rw [hw'] | rw [hw], ⟨by have := HX.out; omega, by have := HLT.out; omega, by omega⟩, BK, K5, HO, HB⟩
    have l3 : (t == q) = false := beq_eq_false_iff_ne.mpr t2
    have h3 := HE3.out t (by omega) (by omega)
    rw [if_pos (by omega)] at h4
    generalize B t.toNat = bv at *
    obtain ⟨y, z⟩ := bv
    have HBD := Aside0.mk (HBM.out t hx.1 hlt h4)
    have HB1 := Aside0.mk (HBL.out t (by omega) (by omega) h3)
    clear h3 h4 hx hp hlt t1 t2
    go_wp2_with fail
    refine (HCQ.out _ _ _ HO.out.1 HO.out.2).mono ?_
    rintro e' w20 ⟨A1, k1', rfl, hk1, hr1, hb⟩
    replace HB := Aside0.mk (below_step HB.out hb)
    replace BK := Aside0.mk (blk_below BK.out hb)
    replace K5 := Aside0.mk (blk_below K5.out hb)
    replace HO := Aside0.mk (⟨Kd.C_below HO.out.1 hb, HO.out.2⟩ : _ ∧ _)
    replace c0 := pw_cell_below hb c0
    replace c1 := pw_cell_below hb c1
    replace d0 := pw_cell_below hb d0
    replace d1 := pw_cell_below hb d1
    clear hb
    go_wp2_with fail
    refine (HBD.out _ _ _ hr1 hk1).mono ?_
    rintro e' w20' ⟨rfl, hb⟩
    replace HB := Aside0.mk (below_step HB.out hb)
    replace BK := Aside0.mk (blk_below BK.out hb)
    replace K5 := Aside0.mk (blk_below K5.out hb)
    replace HO := Aside0.mk (⟨Kd.C_below HO.out.1 hb, HO.out.2⟩ : _ ∧ _)
    replace c0 := pw_cell_below hb c0
    replace c1 := pw_cell_below hb c1
    replace d0 := pw_cell_below hb d0
    replace d1 := pw_cell_below hb d1
    clear hb
    clear hr1 hk1 HBD
    go_wp2_with fail
    refine (HCP.out _ HB.out).mono ?_
    rintro e' w21 ⟨A1, k1', rfl, hk1, hr1, hb⟩
    replace HB := Aside0.mk (below_step HB.out hb)
    replace BK := Aside0.mk (blk_below BK.out hb)
    replace K5 := Aside0.mk (blk_below K5.out hb)
    replace HO := Aside0.mk (⟨Kd.C_below HO.out.1 hb, HO.out.2⟩ : _ ∧ _)
    replace c0 := pw_cell_below hb c0
    replace c1 := pw_cell_below hb c1
    replace d0 := pw_cell_below hb d0
    replace d1 := pw_cell_below hb d1
    clear hb
    go_wp2_with fail
    refine (HB1.out _ _ _ hr1 hk1).mono ?_
    rintro e' w21' ⟨rfl, hb⟩
    replace HB := Aside0.mk (below_step HB.out hb)
    replace BK := Aside0.mk (blk_below BK.out hb)
    replace K5 := Aside0.mk (blk_below K5.out hb)
    replace HO := Aside0.mk (⟨Kd.C_below HO.out.1 hb, HO.out.2⟩ : _ ∧ _)
    replace c0 := pw_cell_below hb c0
    replace c1 := pw_cell_below hb c1
    replace d0 := pw_cell_below hb d0
    replace d1 := pw_cell_below hb d1
    clear hb
    clear hr1 hk1 HB1
    clear c0 c1 d0 d1
    go_wp2
    go_roundg ((p - 1).toNat + 1 - (t + 1).toNat)
    case measure => have := HX.out; have := HLT.out; omega
    case rel => exact ⟨t + 1, by first | rfl | rw [hw'] | rw [hw], ⟨by have := HX.out; omega, by have := HLT.out; omega, by omega⟩, BK, K5, HO, HB⟩
theorem spilelaw36_ColumnSame.calls (a0_0 : Int) (A0_1 : Option Addr) (c0_1 : Nat) (l0_1 : List S28) (a1 : Int) (r : Bool) (w : World) (hr0_1 : Kd.C k28 w A0_1 l0_1.length l0_1) (hc0_1 : l0_1.length ≤ c0_1) (h : spilelaw36_ColumnSame.f a0_0 l0_1 a1 = some r) :
    Calls Try.prog 6 #[.agg #[.int .i64 a0_0, .slice A0_1 l0_1.length c0_1], .int .i64 a1] w fun e w' => e = .returned (.bool r) ∧ Below w.heap.size w w' := by
  obtain rfl := Option.some.inj h
  exact ColumnSame.walk a0_0 A0_1 c0_1 l0_1 a1 w hr0_1 hc0_1

end Go.Proofs.Ytodfjkdgfjkifaa.PF
