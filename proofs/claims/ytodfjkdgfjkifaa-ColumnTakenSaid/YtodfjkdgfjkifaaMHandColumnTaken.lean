/- The walk through the law ColumnTaken of package spilelaw36. -/
import Derived.Test.YtodfjkdgfjkifaaMAwk36
import Derived.Test.YtodfjkdgfjkifaaMBal36
import Derived.Test.YtodfjkdgfjkifaaMChk36
import Derived.Test.YtodfjkdgfjkifaaMCol36
import Derived.Test.YtodfjkdgfjkifaaMCom36
import Derived.Test.YtodfjkdgfjkifaaMDel36
import Derived.Test.YtodfjkdgfjkifaaMMis36
import Derived.Test.YtodfjkdgfjkifaaMOpn36
import Derived.Test.YtodfjkdgfjkifaaMTak36
import Derived.Test.YtodfjkdgfjkifaaPF0
import Derived.Test.YtodfjkdgfjkifaaPF1
import Derived.Test.YtodfjkdgfjkifaaPF3
namespace Go.Proofs.Ytodfjkdgfjkifaa.PF
open Go.RowKit Go.Proofs.YtodfjkdgfjkifaaW.PrintWords Go.Proofs.YtodfjkdgfjkifaaW.PrintLast Go.Proofs.YtodfjkdgfjkifaaW.PrintMore
set_option linter.unusedVariables false
set_option linter.unusedSimpArgs false
def spilelaw36_ColumnTaken.f (a0_0 : Int) (l0_1 : List S28) (a1 : Int) : Option Bool := if 0 ≤ a1 ∧ a1 ≤ 255 then some true else none
set_option maxHeartbeats 4000000 in
set_option maxRecDepth 100000 in
theorem ColumnTaken.walk (p : Int) (A : Option Addr) (c : Nat) (l : List S28) (q : Int) (hq : 0 ≤ q ∧ q ≤ 255) (w : World) (hr : Kd.C k28 w A l.length l) (hc : l.length ≤ c) :
    Calls Try.prog 8 #[.agg #[.int .i64 p, .slice A l.length c], .int .u8 q] w fun e w' => e = .returned (.bool true) ∧ Below w.heap.size w w' := by
  have hu1 := Try.underlying24
  have hu2 := Try.underlying28
  have HA := Aside0.mk (fun W => awake36.known W)
  by_cases hl : 24 < l.length
  · have b1 : decide (24 < (l.length : Int)) = true := decide_eq_true (by omega)
    have b2 : decide (24 < l.length) = true := decide_eq_true hl
    clear hr hc hl hq
    go_enter Try.func8, Try.ntmps8
    go_wp2_with (first | ((with_reducible refine gate_dst (N := 2) rfl ?_); refine box_event ?hg (N := 2) ?hd (cs := #[.int .i64 p, .slice A l.length c]) (t := 24) ?hr ?_; (case hd => rfl); (case hg => rfl); (case hr => first | (go_simp; done) | (go_simp; rfl)); intro gb hg w3 hbox hb; have c0 : w3.cell? ⟨gb, 0, none⟩ = some (.int .i64 p) := blk_cell hbox 0; have c1 : w3.cell? ⟨gb, 1, none⟩ = some (.slice A l.length c) := blk_cell hbox 1; have HB := Aside0.mk hb; have BK := Aside0.mk hbox; clear hbox hb hg))
    refine (HA.out _).mono ?_
    rintro e' w4 ⟨rfl, hb⟩
    replace HB := Aside0.mk (below_step HB.out hb)
    replace BK := Aside0.mk (blk_below BK.out hb)
    replace c0 := pw_cell_below hb c0
    replace c1 := pw_cell_below hb c1
    clear hb
    clear HA
    go_wp2
    go_ret
    exact ⟨rfl, HB.out⟩
  have b1 : decide (24 < (l.length : Int)) = false := decide_eq_false (by omega)
  have b2 : decide (24 < l.length) = false := decide_eq_false hl
  by_cases hz : l.length = 0
  · have b3 : ((l.length : Int) == 0) = true := beq_iff_eq.mpr (by omega)
    have b4 : (l.length == 0) = true := beq_iff_eq.mpr hz
    clear hr hc hl hq hz
    go_enter Try.func8, Try.ntmps8
    go_wp2_with (first | ((with_reducible refine gate_dst (N := 2) rfl ?_); refine box_event ?hg (N := 2) ?hd (cs := #[.int .i64 p, .slice A l.length c]) (t := 24) ?hr ?_; (case hd => rfl); (case hg => rfl); (case hr => first | (go_simp; done) | (go_simp; rfl)); intro gb hg w3 hbox hb; have c0 : w3.cell? ⟨gb, 0, none⟩ = some (.int .i64 p) := blk_cell hbox 0; have c1 : w3.cell? ⟨gb, 1, none⟩ = some (.slice A l.length c) := blk_cell hbox 1; have HB := Aside0.mk hb; have BK := Aside0.mk hbox; clear hbox hb hg))
    refine (HA.out _).mono ?_
    rintro e' w4 ⟨rfl, hb⟩
    replace HB := Aside0.mk (below_step HB.out hb)
    replace BK := Aside0.mk (blk_below BK.out hb)
    replace c0 := pw_cell_below hb c0
    replace c1 := pw_cell_below hb c1
    clear hb
    clear HA
    go_wp2
    go_ret
    exact ⟨rfl, HB.out⟩
  have b3 : ((l.length : Int) == 0) = false := beq_eq_false_iff_ne.mpr (by omega)
  have b4 : (l.length == 0) = false := beq_eq_false_iff_ne.mpr hz
  have HCP := Aside0.mk (fun W (hb : Below w.heap.size w W) => cp36.known p A c l W (Kd.C_below hr hb) hc (by omega))
  obtain ⟨⟨O, e⟩, ho⟩ : ∃ r, opR p l = r := ⟨_, rfl⟩
  have HO := Aside0.mk (fun (W : World) (A' : Option Addr) (c' : Nat) (hr : Kd.C k28 W A' l.length l) (hc : l.length ≤ c') => column_Open.known p A' c' l W hr hc ho)
  by_cases he : e = 0
  case neg =>
    have b5 : (e != 0) = true := bne_iff_ne.mpr he
    have b6 : (e == 0) = false := beq_eq_false_iff_ne.mpr he
    have b7 : O = [] := by
      unfold opR at ho
      split at ho
      · exact absurd (congrArg Prod.snd ho).symm he
      · exact (congrArg Prod.fst ho).symm
    subst b7
    clear hr hc hl hz he ho hq
    go_enter Try.func8, Try.ntmps8
    go_wp2_with (first | ((with_reducible refine gate_dst (N := 2) rfl ?_); refine box_event ?hg (N := 2) ?hd (cs := #[.int .i64 p, .slice A l.length c]) (t := 24) ?hr ?_; (case hd => rfl); (case hg => rfl); (case hr => first | (go_simp; done) | (go_simp; rfl)); intro gb hg w3 hbox hb; have c0 : w3.cell? ⟨gb, 0, none⟩ = some (.int .i64 p) := blk_cell hbox 0; have c1 : w3.cell? ⟨gb, 1, none⟩ = some (.slice A l.length c) := blk_cell hbox 1; have HB := Aside0.mk hb; have BK := Aside0.mk hbox; clear hbox hb hg))
    refine (HA.out _).mono ?_
    rintro e' w4 ⟨rfl, hb⟩
    replace HB := Aside0.mk (below_step HB.out hb)
    replace BK := Aside0.mk (blk_below BK.out hb)
    replace c0 := pw_cell_below hb c0
    replace c1 := pw_cell_below hb c1
    clear hb
    clear HA
    go_wp2_with fail
    refine (HCP.out _ HB.out).mono ?_
    rintro e' w6 ⟨A1, k1', rfl, hk1, hr1, hb⟩
    replace HB := Aside0.mk (below_step HB.out hb)
    replace BK := Aside0.mk (blk_below BK.out hb)
    replace c0 := pw_cell_below hb c0
    replace c1 := pw_cell_below hb c1
    clear hb
    go_wp2_with fail
    refine (HO.out _ _ _ hr1 hk1).mono ?_
    rintro e' w7 ⟨AO, cO, rfl, hcO, hrO, hb⟩
    replace HB := Aside0.mk (below_step HB.out hb)
    replace BK := Aside0.mk (blk_below BK.out hb)
    replace c0 := pw_cell_below hb c0
    replace c1 := pw_cell_below hb c1
    clear hb
    clear hr1 hk1 HO hcO hrO
    go_wp2
    go_ret
    exact ⟨by first | rfl | simp, HB.out⟩
  subst he
  by_cases hO : O = []
  case neg =>
    have b5 : decide (0 < (O.length : Int)) = true := decide_eq_true (by have := List.length_pos_iff.2 hO; omega)
    have b6 : decide (0 < O.length) = true := decide_eq_true (List.length_pos_iff.2 hO)
    clear hr hc hl hz ho hO hq
    go_enter Try.func8, Try.ntmps8
    go_wp2_with (first | ((with_reducible refine gate_dst (N := 2) rfl ?_); refine box_event ?hg (N := 2) ?hd (cs := #[.int .i64 p, .slice A l.length c]) (t := 24) ?hr ?_; (case hd => rfl); (case hg => rfl); (case hr => first | (go_simp; done) | (go_simp; rfl)); intro gb hg w3 hbox hb; have c0 : w3.cell? ⟨gb, 0, none⟩ = some (.int .i64 p) := blk_cell hbox 0; have c1 : w3.cell? ⟨gb, 1, none⟩ = some (.slice A l.length c) := blk_cell hbox 1; have HB := Aside0.mk hb; have BK := Aside0.mk hbox; clear hbox hb hg))
    refine (HA.out _).mono ?_
    rintro e' w4 ⟨rfl, hb⟩
    replace HB := Aside0.mk (below_step HB.out hb)
    replace BK := Aside0.mk (blk_below BK.out hb)
    replace c0 := pw_cell_below hb c0
    replace c1 := pw_cell_below hb c1
    clear hb
    clear HA
    go_wp2_with fail
    refine (HCP.out _ HB.out).mono ?_
    rintro e' w6 ⟨A1, k1', rfl, hk1, hr1, hb⟩
    replace HB := Aside0.mk (below_step HB.out hb)
    replace BK := Aside0.mk (blk_below BK.out hb)
    replace c0 := pw_cell_below hb c0
    replace c1 := pw_cell_below hb c1
    clear hb
    go_wp2_with fail
    refine (HO.out _ _ _ hr1 hk1).mono ?_
    rintro e' w7 ⟨AO, cO, rfl, hcO, hrO, hb⟩
    replace HB := Aside0.mk (below_step HB.out hb)
    replace BK := Aside0.mk (blk_below BK.out hb)
    replace c0 := pw_cell_below hb c0
    replace c1 := pw_cell_below hb c1
    clear hb
    clear hr1 hk1 HO hcO hrO
    go_wp2
    go_ret
    exact ⟨by first | rfl | simp, HB.out⟩
  subst hO
  have hrt : rt36 p l = true := by
    unfold opR at ho
    split at ho
    · assumption
    · cases congrArg Prod.snd ho
  have RC := rt36_iff.1 hrt
  have hop : openS (balL l) = [] := by unfold opR at ho; rw [hrt, if_pos rfl] at ho; exact congrArg Prod.fst ho
  have hn0 : 0 < l.length := by omega
  obtain ⟨k, hk⟩ : ∃ k : Nat, (k : Int) = Int.tmod q (l.length : Int) := ⟨(Int.tmod q (l.length : Int)).toNat, by have := Int.tmod_nonneg (l.length : Int) hq.1; omega⟩
  have hkl : k < l.length := by have := Int.tmod_lt_of_pos q (show (0 : Int) < (l.length : Int) by omega); omega
  have hm := mis_taken RC hop hkl
  have hrd : rd_T28 l (k : Int) = l[k] := by
    unfold rd_T28
    rw [Int.toNat_natCast, List.getD_eq_getElem?_getD, List.getElem?_eq_getElem hkl]
    rfl
  rw [← hrd] at hm
  have HAT := Aside0.mk (fun (W : World) (hb : Below w.heap.size w W) => at_T28 (Kd.C_below hr hb) (k : Int) (by omega) (by omega))
  have HDEL := Aside0.mk (fun (W : World) (g cp : Nat) (hR : Kd.R k28 28 W w.heap.size (fun _ => True) (.slice (some ⟨g, 0, none⟩) l.length cp) l) => flowDelete.known l g cp k w.heap.size (fun _ => True) W hR hkl (by omega))
  have HLE := Aside0.mk (show (l.eraseIdx k).length = l.length - 1 by rw [List.length_eraseIdx, if_pos hkl])
  have HCR := Aside0.mk (fun W (hb : Below w.heap.size w W) => spilelaw36_cp.calls p A c l p l W (Kd.C_below hr hb) hc (by unfold spilelaw36_cp.f api_Flow_35.f; rw [if_pos (by omega)]; rfl))
  have HN0 := Aside0.mk hn0
  have HKL := Aside0.mk hkl
  have HK := Aside0.mk hk
  generalize rd_T28 l (k : Int) = f at *
  obtain ⟨f0, f1, f2, f3⟩ := f
  simp only at hm
  have v1 : IntKind.i64.wrap q = q := by rw [i64_w]; exact w64_ (by omega) (by omega)
  have v2 : Int.tmod q (l.length : Int) = (k : Int) := hk.symm
  have v3 : IntKind.i64.wrap (k : Int) = (k : Int) := by rw [i64_w]; exact w64_ (by omega) (by omega)
  have v4 : IntKind.i64.wrap ((k : Int) + 1) = (k : Int) + 1 := by rw [i64_w]; exact w64_ (by omega) (by omega)
  have p1 : (0 ≤ (k : Int)) = True := eq_true (by omega)
  have p2 : ((k : Int) < (l.length : Int)) = True := eq_true (by omega)
  have p3 : (k < l.length) = True := eq_true hkl
  have p4 : (l = []) = False := eq_false (fun h => by rw [h] at hkl; exact absurd hkl (Nat.not_lt_zero _))
  clear hr hc hl hz ho hrt RC hop hn0 hk hkl hrd hq
  go_enter Try.func8, Try.ntmps8
  go_wp2_with (first | ((with_reducible refine gate_dst (N := 2) rfl ?_); refine box_event ?hg (N := 2) ?hd (cs := #[.int .i64 p, .slice A l.length c]) (t := 24) ?hr ?_; (case hd => rfl); (case hg => rfl); (case hr => first | (go_simp; done) | (go_simp; rfl)); intro gb hg w3 hbox hb; have c0 : w3.cell? ⟨gb, 0, none⟩ = some (.int .i64 p) := blk_cell hbox 0; have c1 : w3.cell? ⟨gb, 1, none⟩ = some (.slice A l.length c) := blk_cell hbox 1; have HB := Aside0.mk hb; have BK := Aside0.mk hbox; clear hbox hb hg))
  refine (HA.out _).mono ?_
  rintro e' w4 ⟨rfl, hb⟩
  replace HB := Aside0.mk (below_step HB.out hb)
  replace BK := Aside0.mk (blk_below BK.out hb)
  replace c0 := pw_cell_below hb c0
  replace c1 := pw_cell_below hb c1
  clear hb
  clear HA
  go_wp2_with fail
  refine (HCP.out _ HB.out).mono ?_
  rintro e' w6 ⟨A1, k1', rfl, hk1, hr1, hb⟩
  replace HB := Aside0.mk (below_step HB.out hb)
  replace BK := Aside0.mk (blk_below BK.out hb)
  replace c0 := pw_cell_below hb c0
  replace c1 := pw_cell_below hb c1
  clear hb
  go_wp2_with fail
  refine (HO.out _ _ _ hr1 hk1).mono ?_
  rintro e' w7 ⟨AO, cO, rfl, hcO, hrO, hb⟩
  replace HB := Aside0.mk (below_step HB.out hb)
  replace BK := Aside0.mk (blk_below BK.out hb)
  replace c0 := pw_cell_below hb c0
  replace c1 := pw_cell_below hb c1
  clear hb
  clear hr1 hk1 HO hcO hrO
  go_wp2_with fail
  refine (HCR.out _ HB.out).mono ?_
  rintro e' w8 ⟨v, rfl, hRW, hb⟩
  obtain ⟨g, cp, rfl, hg7, hg8, -⟩ := Kd.R_form hRW HN0.out
  have HNE := Aside0.mk (show gb ≠ g from Nat.ne_of_lt (Nat.lt_of_lt_of_le (blk_lt BK.out) hg7))
  have HLG := Aside0.mk hg8
  have HRW := Aside0.mk (Kd.R_lower hRW (below_size HB.out))
  clear hRW hg7 hg8
  replace HB := Aside0.mk (below_step HB.out hb)
  replace BK := Aside0.mk (blk_below BK.out hb)
  clear hb
  clear c0 c1
  go_wp2_with (first | ((with_reducible refine gate_dst (N := 8) rfl ?_); refine box_event ?hg (N := 8) ?hd (cs := #[.int .i64 0, .slice none 0 0]) (t := 24) ?hr ?_; (case hd => rfl); (case hg => rfl); (case hr => first | (go_simp; done) | (go_simp; rfl)); intro g8 hg w9 hbox hb5; have hc0 : w9.cell? ⟨g8, 0, none⟩ = some (.int .i64 0) := blk_cell hbox 0; have hf0 := blk_frozen hbox 0; have hc1 : w9.cell? ⟨g8, 1, none⟩ = some (.slice none 0 0) := blk_cell hbox 1; have hf1 := blk_frozen hbox 1; replace hbox := Aside0.mk hbox; replace hb5 := Aside0.mk hb5; replace hg := Aside0.mk hg; have HG8 := Aside0.mk hg.out; have HB8 := Aside0.mk HB.out; have HBL := Aside0.mk (blk_lt BK.out)) | ((with_reducible refine gate_store (t := 24) (p := 8) rfl ?_); refine store_event (t := 24) (p := 8) (v := .tmp 50) (w1 := ((w9.setCell ⟨g8, 0, none⟩ (.int .i64 p)).setCell ⟨g8, 1, none⟩ (.slice (some ⟨g, 0, none⟩) l.length cp))) ?hg ?ho ?hn ?hr ?_; (case ho => rfl); (case hg => rfl); (case hn => rfl); (case hr => first | (go_simp; done) | (go_simp; rfl)); intro w10 hw6; clear hc0 hf0 hc1 hf1; have hbx := box2h_ (x := .int .i64 p) (y := .slice (some ⟨g, 0, none⟩) l.length cp) hb5.out hg.out hbox.out; rw [← hw6] at hbx; clear hw6 hb5 hg hbox; obtain ⟨hb, hk6⟩ := hbx; have K8 := Aside0.mk hk6; replace BK := Aside0.mk (blk_below BK.out hb); replace HRW := Aside0.mk (Kd.R_below HRW.out hb); replace HB := Aside0.mk (below_step HB.out hb); clear hb hk6; have d1 : w10.cell? ⟨g8, 1, none⟩ = some (.slice (some ⟨g, 0, none⟩) l.length cp) := blk_cell K8.out 1))
  refine (HDEL.out _ g cp HRW.out).mono ?_
  rintro e' w11 ⟨rfl, hRD, hbg, hfar, hbel⟩
  have HN8 := Aside0.mk (show g8 ≠ g by have := HG8.out; have := HLG.out; omega)
  replace HB := Aside0.mk (hbel _ _ hbg HB.out)
  replace BK := Aside0.mk ((hfar gb HNE.out).trans BK.out)
  replace K8 := Aside0.mk ((hfar g8 HN8.out).trans K8.out)
  have HRD := Aside0.mk hRD
  have HGW := Aside0.mk (show w.heap.size ≤ g8 by rw [HG8.out]; exact HB8.out.size)
  have HNB := Aside0.mk (show gb ≠ g8 from Nat.ne_of_lt (by rw [HG8.out]; exact HBL.out))
  clear hRD hbg hfar hbel d1 HRW HDEL HG8 HLG HB8 HBL
  have d0 : w11.cell? ⟨g8, 0, none⟩ = some (.int .i64 p) := blk_cell K8.out 0
  have d1 : w11.cell? ⟨g8, 1, none⟩ = some (.slice (some ⟨g, 0, none⟩) l.length cp) := blk_cell K8.out 1
  have fz1 := blk_frozen K8.out 1
  by_cases hf3 : f3 = 0
  · rw [if_pos hf3] at hm
    have r1 : (f3 == 0) = true := beq_iff_eq.mpr hf3
    have HM := Aside0.mk (fun (W : World) (A' : Option Addr) (c' : Nat) (hr : Kd.C k28 W A' (l.eraseIdx k).length (l.eraseIdx k)) (hc : (l.eraseIdx k).length ≤ c') => column_Missing.known p A' c' (l.eraseIdx k) W hr hc hm)
    rw [HLE.out] at HM
    simp only [fl0] at HM
    clear hf3 hm
    go_wp2_with fail
    have HR2 := Aside0.mk (Kd.R_far (p := ⟨g8, 1, none⟩) (Kd.R_types HRD.out K8.out (by decide)) (fun _ hk => hk.2) (.slice (some ⟨g, 0, none⟩) (l.length - 1) cp))
    refine (HM.out _ _ _ (by have h := (Kd.R_reads' HR2.out).2.2; rwa [HLE.out] at h) (Kd.R_reads' HR2.out).2.1).mono ?_
    rintro e' w13 ⟨rfl, hb⟩
    replace HB := Aside0.mk (below_step (below_set HB.out HGW.out) hb)
    replace BK := Aside0.mk (blk_below (blk_far BK.out HNB.out _) hb)
    clear hb HM d0 d1 fz1 HR2 HRD K8
    go_wp2_with (first | ((with_reducible refine gate_dst (N := 9) rfl ?_); refine box_event ?hg (N := 9) ?hd (cs := #[.int .i64 0, .int .i64 0, .int .i64 0, .int .i64 0]) (t := 28) ?hr ?_; (case hd => rfl); (case hg => rfl); (case hr => first | (go_simp; done) | (go_simp; rfl)); intro g9 hg w14 hbox hb5; have hc0 : w14.cell? ⟨g9, 0, none⟩ = some (.int .i64 0) := blk_cell hbox 0; have hf0 := blk_frozen hbox 0; have hc1 : w14.cell? ⟨g9, 1, none⟩ = some (.int .i64 0) := blk_cell hbox 1; have hf1 := blk_frozen hbox 1; have hc2 : w14.cell? ⟨g9, 2, none⟩ = some (.int .i64 0) := blk_cell hbox 2; have hf2 := blk_frozen hbox 2; have hc3 : w14.cell? ⟨g9, 3, none⟩ = some (.int .i64 0) := blk_cell hbox 3; have hf3 := blk_frozen hbox 3; replace hbox := Aside0.mk hbox; replace hb5 := Aside0.mk hb5; replace hg := Aside0.mk hg) | ((with_reducible refine gate_store (t := 28) (p := 9) rfl ?_); refine store_event (t := 28) (p := 9) (v := .tmp 61) (w1 := ((((w14.setCell ⟨g9, 0, none⟩ (.int .i64 0)).setCell ⟨g9, 1, none⟩ (.int .i64 0)).setCell ⟨g9, 2, none⟩ (.int .i64 0)).setCell ⟨g9, 3, none⟩ (.int .i64 0))) ?hg ?ho ?hn ?hr ?_; (case ho => rfl); (case hg => rfl); (case hn => rfl); (case hr => first | (go_simp; done) | (go_simp; rfl)); intro w15 hw6; clear hc0 hf0 hc1 hf1 hc2 hf2 hc3 hf3; have hbx := box4_ (x := .int .i64 0) (y := .int .i64 0) (z := .int .i64 0) (u := .int .i64 0) hb5.out hg.out hbox.out; rw [← hw6] at hbx; clear hw6 hb5 hg hbox; obtain ⟨hb, hk6⟩ := hbx; have K9 := Aside0.mk hk6; replace HB := Aside0.mk (below_step HB.out hb); replace BK := Aside0.mk (blk_below BK.out hb); clear hb hk6; (obtain ⟨ad, e, h1, h2, h3, h4⟩ := HAT.out _ HB.out); cases e; rw [Int.toNat_natCast] at h1 h2 h3 h4; have c1 : w15.cell? ⟨gb, 1, none⟩ = some (.slice (some ad) l.length c) := blk_cell BK.out 1; have x0 : w15.cell? ⟨g9, 0, none⟩ = some (.int .i64 0) := blk_cell K9.out 0; have x1 : w15.cell? ⟨g9, 1, none⟩ = some (.int .i64 0) := blk_cell K9.out 1; have x2 : w15.cell? ⟨g9, 2, none⟩ = some (.int .i64 0) := blk_cell K9.out 2; have x3 : w15.cell? ⟨g9, 3, none⟩ = some (.int .i64 0) := blk_cell K9.out 3; clear HAT))
    go_ret
    exact ⟨by first | rfl | simp, HB.out⟩
  rw [if_neg hf3] at hm
  have r1 : (f3 == 0) = false := beq_eq_false_iff_ne.mpr hf3
  have HM := Aside0.mk (fun (W : World) (A' : Option Addr) (c' : Nat) (hr : Kd.C k28 W A' (l.eraseIdx k).length (l.eraseIdx k)) (hc : (l.eraseIdx k).length ≤ c') => column_Missing.known p A' c' (l.eraseIdx k) W hr hc hm)
  rw [HLE.out] at HM
  clear hf3 hm
  go_wp2_with fail
  have HR2 := Aside0.mk (Kd.R_far (p := ⟨g8, 1, none⟩) (Kd.R_types HRD.out K8.out (by decide)) (fun _ hk => hk.2) (.slice (some ⟨g, 0, none⟩) (l.length - 1) cp))
  refine (HM.out _ _ _ (by have h := (Kd.R_reads' HR2.out).2.2; rwa [HLE.out] at h) (Kd.R_reads' HR2.out).2.1).mono ?_
  rintro e' w13 ⟨rfl, hb⟩
  replace HB := Aside0.mk (below_step (below_set HB.out HGW.out) hb)
  replace BK := Aside0.mk (blk_below (blk_far BK.out HNB.out _) hb)
  clear hb HM d0 d1 fz1 HR2 HRD K8
  go_wp2_with (first | ((with_reducible refine gate_dst (N := 9) rfl ?_); refine box_event ?hg (N := 9) ?hd (cs := #[.int .i64 0, .int .i64 0, .int .i64 0, .int .i64 0]) (t := 28) ?hr ?_; (case hd => rfl); (case hg => rfl); (case hr => first | (go_simp; done) | (go_simp; rfl)); intro g9 hg w14 hbox hb5; have hc0 : w14.cell? ⟨g9, 0, none⟩ = some (.int .i64 0) := blk_cell hbox 0; have hf0 := blk_frozen hbox 0; have hc1 : w14.cell? ⟨g9, 1, none⟩ = some (.int .i64 0) := blk_cell hbox 1; have hf1 := blk_frozen hbox 1; have hc2 : w14.cell? ⟨g9, 2, none⟩ = some (.int .i64 0) := blk_cell hbox 2; have hf2 := blk_frozen hbox 2; have hc3 : w14.cell? ⟨g9, 3, none⟩ = some (.int .i64 0) := blk_cell hbox 3; have hf3 := blk_frozen hbox 3; replace hbox := Aside0.mk hbox; replace hb5 := Aside0.mk hb5; replace hg := Aside0.mk hg) | ((with_reducible refine gate_store (t := 28) (p := 9) rfl ?_); refine store_event (t := 28) (p := 9) (v := .tmp 61) (w1 := ((((w14.setCell ⟨g9, 0, none⟩ (.int .i64 f0)).setCell ⟨g9, 1, none⟩ (.int .i64 f1)).setCell ⟨g9, 2, none⟩ (.int .i64 f2)).setCell ⟨g9, 3, none⟩ (.int .i64 f3))) ?hg ?ho ?hn ?hr ?_; (case ho => rfl); (case hg => rfl); (case hn => rfl); (case hr => first | (go_simp; done) | (go_simp; rfl)); intro w15 hw6; clear hc0 hf0 hc1 hf1 hc2 hf2 hc3 hf3; have hbx := box4_ (x := .int .i64 f0) (y := .int .i64 f1) (z := .int .i64 f2) (u := .int .i64 f3) hb5.out hg.out hbox.out; rw [← hw6] at hbx; clear hw6 hb5 hg hbox; obtain ⟨hb, hk6⟩ := hbx; have K9 := Aside0.mk hk6; replace HB := Aside0.mk (below_step HB.out hb); replace BK := Aside0.mk (blk_below BK.out hb); clear hb hk6; (obtain ⟨ad, e, h1, h2, h3, h4⟩ := HAT.out _ HB.out); cases e; rw [Int.toNat_natCast] at h1 h2 h3 h4; have c1 : w15.cell? ⟨gb, 1, none⟩ = some (.slice (some ad) l.length c) := blk_cell BK.out 1; have x0 : w15.cell? ⟨g9, 0, none⟩ = some (.int .i64 f0) := blk_cell K9.out 0; have x1 : w15.cell? ⟨g9, 1, none⟩ = some (.int .i64 f1) := blk_cell K9.out 1; have x2 : w15.cell? ⟨g9, 2, none⟩ = some (.int .i64 f2) := blk_cell K9.out 2; have x3 : w15.cell? ⟨g9, 3, none⟩ = some (.int .i64 f3) := blk_cell K9.out 3; clear HAT))
  go_cut [4] (fun v4 wq => v4 = .bool true ∧ Aside0 (wq = w15.drew))
  case first =>
    go_region
    all_goals go_wp2
    all_goals go_meet
    all_goals exact ⟨rfl, ⟨rfl⟩⟩
  obtain ⟨rfl, HW⟩ := hcut
  have hW := HW.out
  subst hW
  go_wp2
  go_ret
  exact ⟨rfl, below_drew1 HB.out⟩
theorem spilelaw36_ColumnTaken.calls (a0_0 : Int) (A0_1 : Option Addr) (c0_1 : Nat) (l0_1 : List S28) (a1 : Int) (r : Bool) (w : World) (hr0_1 : Kd.C k28 w A0_1 l0_1.length l0_1) (hc0_1 : l0_1.length ≤ c0_1) (h : spilelaw36_ColumnTaken.f a0_0 l0_1 a1 = some r) :
    Calls Try.prog 8 #[.agg #[.int .i64 a0_0, .slice A0_1 l0_1.length c0_1], .int .u8 a1] w fun e w' => e = .returned (.bool r) ∧ Below w.heap.size w w' := by
  unfold spilelaw36_ColumnTaken.f at h
  by_cases hp : 0 ≤ a1 ∧ a1 ≤ 255
  · rw [if_pos hp] at h
    obtain rfl := Option.some.inj h
    exact ColumnTaken.walk a0_0 A0_1 c0_1 l0_1 a1 hp w hr0_1 hc0_1
  · rw [if_neg hp] at h
    cases h

end Go.Proofs.Ytodfjkdgfjkifaa.PF
