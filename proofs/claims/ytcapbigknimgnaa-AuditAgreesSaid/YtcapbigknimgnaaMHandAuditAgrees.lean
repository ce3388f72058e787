/- The walk through the law AuditAgrees of package spilelaw17 and its closure. -/
import Derived.Test.YtcapbigknimgnaaMAgr17
import Derived.Test.YtcapbigknimgnaaMAud2
import Derived.Test.YtcapbigknimgnaaMAud4
import Derived.Test.YtcapbigknimgnaaMConG17
import Derived.Test.YtcapbigknimgnaaMKnown17
import Derived.Test.YtcapbigknimgnaaMOpt
import Derived.Test.YtcapbigknimgnaaMTab17
import Derived.Test.YtcapbigknimgnaaPF0
import Derived.Test.YtcapbigknimgnaaPF1
import Derived.Test.YtcapbigknimgnaaPF21
import Derived.Test.YtcapbigknimgnaaPF23
namespace Go.Proofs.Ytcapbigknimgnaa.PF
open Go.RowKit Go.Proofs.YtcapbigknimgnaaW.PrintWords Go.Proofs.YtcapbigknimgnaaW.PrintLast Go.Proofs.YtcapbigknimgnaaW.PrintMore
set_option linter.unusedVariables false
set_option linter.unusedSimpArgs false
def spilelaw17_AuditAgrees.f (l0 : List S44) : Option Bool := some true
set_option maxHeartbeats 400000 in
set_option maxRecDepth 100000 in
theorem AuditAgrees.clo (bt : Nat) (A : Option Addr) (c : Nat) (r : List S44) (x : S44) (W : World) (hb : W.cell? ⟨bt, 0, none⟩ = some (.slice A r.length c)) (hr : Kd.C k44 W A r.length r) (hcl : r.length ≤ c) (hn : r.length ≤ 20000) (hx : x ∈ r) :
    Calls Try.prog 41 (#[.agg #[.int .i64 x.f0, .int .i64 x.f1]] ++ #[.pointer (some ⟨bt, 0, none⟩)]) W fun e w' => e = .returned (.bool false) ∧ Below W.heap.size W w' := by
  have hu := Try.underlying44
  have HB := Aside0.mk (below_alloc (Below.refl W.heap.size W) (.cells #[.int .i64 x.f0, .int .i64 x.f1] 44))
  have h0 := contains_grade.known r x A c _ (Kd.C_below hr HB.out) hcl hn
  rw [(grIn_iff x r).2 hx] at h0
  have HC := Aside0.mk h0
  replace hb := pw_cell_below HB.out hb
  clear hr hcl hn hx h0
  generalize x.f0 = x0 at *
  generalize x.f1 = x1 at *
  go_enter Try.func41, Try.ntmps41
  go_wp2_with (refine HC.out.mono ?_; rintro e w' ⟨rfl, hb2⟩)
  go_ret
  exact ⟨rfl, below_step HB.out hb2⟩
set_option maxHeartbeats 400000 in
set_option maxRecDepth 100000 in
theorem AuditAgrees.many (A : Option Addr) (c : Nat) (l : List S44) (w : World) (h20 : 20 < l.length) :
    Calls Try.prog 9 #[.slice A l.length c] w fun e w' => e = .returned (.bool true) ∧ Below w.heap.size w w' := by
  have HA := Aside0.mk (audit_awake.known w)
  have b0 : decide (20 < (l.length : Int)) = true := decide_eq_true (by omega)
  have b1 : decide (20 < l.length) = true := decide_eq_true h20
  clear h20
  go_enter Try.func9, Try.ntmps9
  go_wp2_with fail
  refine HA.out.mono ?_
  rintro e w1 ⟨rfl, hb⟩
  have HB := Aside0.mk hb
  clear hb HA
  go_wp2
  go_ret
  exact ⟨rfl, HB.out⟩
set_option maxHeartbeats 400000 in
set_option maxRecDepth 100000 in
theorem AuditAgrees.err (A : Option Addr) (c : Nat) (l : List S44) (w : World) (h20 : ¬ 20 < l.length) (hr : Kd.C k44 w A l.length l) (hc : l.length ≤ c) {i q : Int} (hq : dchk l = (i, q)) (hqz : q ≠ 0) {e : Int} (ht : tabS l = ([], e)) (hez : e ≠ 0) :
    Calls Try.prog 9 #[.slice A l.length c] w fun e w' => e = .returned (.bool true) ∧ Below w.heap.size w w' := by
  have HA := Aside0.mk (audit_awake.known w)
  have HD := Aside0.mk (fun W (hb : Below w.heap.size w W) => density_Check.known A c W (Kd.C_below hr hb) hc hq)
  have HT := Aside0.mk (fun W (hb : Below w.heap.size w W) => audit_Table.known A c W (Kd.C_below hr hb) hc ht)
  have b0 : decide (20 < (l.length : Int)) = false := decide_eq_false (by omega)
  have b1 : decide (20 < l.length) = false := decide_eq_false h20
  have b2 : (q == 0) = false := by simpa using hqz
  have b3 : (e == 0) = false := by simpa using hez
  clear h20 hr hc hq ht
  go_enter Try.func9, Try.ntmps9
  go_wp2_with fail
  refine HA.out.mono ?_
  rintro x w1 ⟨rfl, hb⟩
  have HB := Aside0.mk hb
  clear hb HA
  go_wp2_with fail
  refine (HD.out _ HB.out).mono ?_
  rintro x w2 ⟨rfl, hb⟩
  replace HB := Aside0.mk (below_step HB.out hb)
  clear hb HD
  go_wp2_with fail
  refine (HT.out _ HB.out).mono ?_
  rintro x w3 ⟨A3, c3, rfl, _, _, hb⟩
  replace HB := Aside0.mk (below_step HB.out hb)
  clear hb HT
  go_wp2_with ((with_reducible refine gate_dst (N := 12) rfl ?_); refine box_event ?hg (N := 12) ?hd (cs := #[.slice none 0 0]) (t := 22) ?hr ?_; (case hd => rfl); (case hg => rfl); (case hr => first | (go_simp; done) | (go_simp; rfl)); intro g hg w5 hbox hb5; have hcell := blk_cell hbox 0; have hfro := blk_frozen hbox 0; clear hbox; replace hb5 := Aside0.mk hb5; replace hg := Aside0.mk hg)
  go_ret
  exact ⟨rfl, below_set (below_step HB.out hb5.out) (by have := HB.out.size; have := hg.out; omega)⟩
set_option maxHeartbeats 1000000 in
set_option maxRecDepth 100000 in
theorem AuditAgrees.tab (A : Option Addr) (c : Nat) (l : List S44) (w : World) (h20 : ¬ 20 < l.length) (hr : Kd.C k44 w A l.length l) (hc : l.length ≤ c) {i q : Int} (hq : dchk l = (i, q)) (hqz : q ≠ 0) {r : List S44} (ht : tabS l = (r, 0)) :
    Calls Try.prog 9 #[.slice A l.length c] w fun e w' => e = .returned (.bool true) ∧ Below w.heap.size w w' := by
  obtain ⟨t1, t2, t3⟩ := tabS_has ht
  have nr : r.length ≤ 20000 := by omega
  obtain ⟨i2, hi2⟩ : ∃ i2, dchk r = (i2, 0) := ⟨(dchk r).1, Prod.ext rfl t1⟩
  have HA := Aside0.mk (audit_awake.known w)
  have HD := Aside0.mk (fun W (hb : Below w.heap.size w W) => density_Check.known A c W (Kd.C_below hr hb) hc hq)
  have HD2 := Aside0.mk (fun (W : World) (A' : Option Addr) (c' : Nat) (h1 : Kd.C k44 W A' r.length r) (h2 : r.length ≤ c') => density_Check.known A' c' W h1 h2 hi2)
  have HT := Aside0.mk (fun W (hb : Below w.heap.size w W) => audit_Table.known A c W (Kd.C_below hr hb) hc ht)
  have eg : ∀ args w, (callFunc 41 args).run Try.prog w = .ok (.enter 41 args) w := enters_of Try.func41 (by kernel_rfl) rfl
  have hidx : idxP (fun _ => false) l.length 0 = -1 := idxP_none _ _ _ (fun j _ hj => rfl)
  have HCF := Aside0.mk (fun (W : World) (bt : Nat) (Ar : Option Addr) (cr : Nat) (hB : Below w.heap.size w W) (hb : W.cell? ⟨bt, 0, none⟩ = some (.slice Ar r.length cr)) (hrb : Kd.C k44 W Ar r.length r) (hcb : r.length ≤ cr) =>
    api_Grade_40.below 41 #[.pointer (some ⟨bt, 0, none⟩)] A c l (fun _ => false) W eg (by omega) (Kd.C_below hr hB)
      (fun W' i h0 h1 hB => by
        have h5 := t3 i.toNat (by omega)
        rw [show ((i.toNat : Nat) : Int) = i by omega] at h5
        exact AuditAgrees.clo bt Ar cr r (rd_T44 l i) W' (pw_cell_below hB hb) (Kd.C_below hrb hB) hcb nr h5))
  rw [hidx] at HCF
  have b0 : decide (20 < (l.length : Int)) = false := decide_eq_false (by omega)
  have b1 : decide (20 < l.length) = false := decide_eq_false h20
  have b2 : (q == 0) = false := by simpa using hqz
  have b3 : decide (r.length ≤ l.length) = true := decide_eq_true t2
  have b4 : decide ((r.length : Int) ≤ (l.length : Int)) = true := decide_eq_true (by omega)
  clear h20 hr hc hq ht t1 t2 t3 nr hi2 hidx eg
  go_enter Try.func9, Try.ntmps9
  go_wp2_with fail
  refine HA.out.mono ?_
  rintro x w1 ⟨rfl, hb⟩
  have HB := Aside0.mk hb
  clear hb HA
  go_wp2_with fail
  refine (HD.out _ HB.out).mono ?_
  rintro x w2 ⟨rfl, hb⟩
  replace HB := Aside0.mk (below_step HB.out hb)
  clear hb HD
  go_wp2_with fail
  refine (HT.out _ HB.out).mono ?_
  rintro x w3 ⟨A3, c3, rfl, hl3, hr3, hb⟩
  replace HB := Aside0.mk (below_step HB.out hb)
  have HR3 := Aside0.mk hr3
  have HL3 := Aside0.mk hl3
  clear hb HT hr3 hl3
  go_wp2_with ((with_reducible refine gate_dst (N := 12) rfl ?_); refine box_event ?hg (N := 12) ?hd (cs := #[.slice none 0 0]) (t := 22) ?hr ?_; (case hd => rfl); (case hg => rfl); (case hr => first | (go_simp; done) | (go_simp; rfl)); intro g hg w5 hbox hb5; have hcell := blk_cell hbox 0; have hfro := blk_frozen hbox 0; clear hbox; replace hb5 := Aside0.mk hb5; replace hg := Aside0.mk hg)
  have hc6 : (w5.setCell ⟨g, 0, none⟩ (.slice A3 r.length c3)).cell? ⟨g, 0, none⟩ = some (.slice A3 r.length c3) := World.cell?_setCell_same' _ _ _ (by rw [hcell]; rfl)
  have hB6 : Below w3.heap.size w3 (w5.setCell ⟨g, 0, none⟩ (.slice A3 r.length c3)) := below_set hb5.out (Nat.le_of_eq hg.out.symm)
  clear hcell hfro hb5 hg
  generalize w5.setCell ⟨g, 0, none⟩ (.slice A3 r.length c3) = w6 at hc6 hB6 ⊢
  replace HB := Aside0.mk (below_step HB.out hB6)
  replace HR3 := Aside0.mk (Kd.C_below HR3.out hB6)
  clear hB6
  refine (HD2.out _ _ _ HR3.out HL3.out).mono ?_
  rintro x w7 ⟨rfl, hb⟩
  replace HB := Aside0.mk (below_step HB.out hb)
  replace HR3 := Aside0.mk (Kd.C_below HR3.out hb)
  replace hc6 := pw_cell_below hb hc6
  clear hb HD2
  have HF7 := Aside0.mk (HCF.out w7 g A3 c3 HB.out hc6 HR3.out HL3.out)
  clear HCF HR3 HL3
  go_wp2_with fail
  refine HF7.out.mono ?_
  rintro e w8 ⟨rfl, hb⟩
  replace HB := Aside0.mk (below_step HB.out hb)
  clear hb
  go_wp2
  go_ret
  exact ⟨by first | rfl | simp, HB.out⟩
set_option maxHeartbeats 1000000 in
set_option maxRecDepth 100000 in
theorem AuditAgrees.good (A : Option Addr) (c : Nat) (l : List S44) (w : World) (h20 : ¬ 20 < l.length) (hr : Kd.C k44 w A l.length l) (hc : l.length ≤ c) {i q : Int} (hq : dchk l = (i, q)) (hqz : q = 0) {r : List S44} (ht : tabS l = (r, 0)) (hle : leS l = (0, 0)) (hrp : repS l = (l, 0, 0)) (htl : tabS l = (l, 0)) :
    Calls Try.prog 9 #[.slice A l.length c] w fun e w' => e = .returned (.bool true) ∧ Below w.heap.size w w' := by
  obtain ⟨t1, t2, t3⟩ := tabS_has ht
  have nr : r.length ≤ 20000 := by omega
  obtain ⟨i2, hi2⟩ : ∃ i2, dchk r = (i2, 0) := ⟨(dchk r).1, Prod.ext rfl t1⟩
  have HA := Aside0.mk (audit_awake.known w)
  have HD := Aside0.mk (fun W (hb : Below w.heap.size w W) => density_Check.known A c W (Kd.C_below hr hb) hc hq)
  have HD2 := Aside0.mk (fun (W : World) (A' : Option Addr) (c' : Nat) (h1 : Kd.C k44 W A' r.length r) (h2 : r.length ≤ c') => density_Check.known A' c' W h1 h2 hi2)
  have HT := Aside0.mk (fun W (hb : Below w.heap.size w W) => audit_Table.known A c W (Kd.C_below hr hb) hc ht)
  have eg : ∀ args w, (callFunc 41 args).run Try.prog w = .ok (.enter 41 args) w := enters_of Try.func41 (by kernel_rfl) rfl
  have hidx : idxP (fun _ => false) l.length 0 = -1 := idxP_none _ _ _ (fun j _ hj => rfl)
  have HCF := Aside0.mk (fun (W : World) (bt : Nat) (Ar : Option Addr) (cr : Nat) (hB : Below w.heap.size w W) (hb : W.cell? ⟨bt, 0, none⟩ = some (.slice Ar r.length cr)) (hrb : Kd.C k44 W Ar r.length r) (hcb : r.length ≤ cr) =>
    api_Grade_40.below 41 #[.pointer (some ⟨bt, 0, none⟩)] A c l (fun _ => false) W eg (by omega) (Kd.C_below hr hB)
      (fun W' i h0 h1 hB => by
        have h5 := t3 i.toNat (by omega)
        rw [show ((i.toNat : Nat) : Int) = i by omega] at h5
        exact AuditAgrees.clo bt Ar cr r (rd_T44 l i) W' (pw_cell_below hB hb) (Kd.C_below hrb hB) hcb nr h5))
  rw [hidx] at HCF
  have b0 : decide (20 < (l.length : Int)) = false := decide_eq_false (by omega)
  have b1 : decide (20 < l.length) = false := decide_eq_false h20
  subst hqz
  have b3 : decide (r.length ≤ l.length) = true := decide_eq_true t2
  have b4 : decide ((r.length : Int) ≤ (l.length : Int)) = true := decide_eq_true (by omega)
  have HL := Aside0.mk (fun W (hb : Below w.heap.size w W) => audit_Least.known A c W (Kd.C_below hr hb) hc hle)
  have HP := Aside0.mk (fun W (hb : Below w.heap.size w W) => audit_Repair.known A c W (Kd.C_below hr hb) hc hrp)
  have HT1 := Aside0.mk (fun W (hb : Below w.heap.size w W) => audit_Table.known A c W (Kd.C_below hr hb) hc htl)
  have HE := Aside0.mk (fun (W : World) (B : Option Addr) (d : Nat) (hb : Below w.heap.size w W) (hs : Kd.C k44 W B l.length l) (hd : l.length ≤ d) => equal_grade.known (l := l) (by omega) B A d c W hs hd (Kd.C_below hr hb) hc)
  clear hle hrp htl
  clear h20 hr hc hq ht t1 t2 t3 nr hi2 hidx eg
  go_enter Try.func9, Try.ntmps9
  go_wp2_with fail
  refine HA.out.mono ?_
  rintro x w1 ⟨rfl, hb⟩
  have HB := Aside0.mk hb
  clear hb HA
  go_wp2_with fail
  refine (HD.out _ HB.out).mono ?_
  rintro x w2 ⟨rfl, hb⟩
  replace HB := Aside0.mk (below_step HB.out hb)
  clear hb HD
  go_wp2_with fail
  refine (HL.out _ HB.out).mono ?_
  rintro x v1 ⟨rfl, hb⟩
  replace HB := Aside0.mk (below_step HB.out hb)
  clear hb HL
  go_wp2_with fail
  refine (HP.out _ HB.out).mono ?_
  rintro x v2 ⟨Ap, cp, rfl, hlp, hrp, hb⟩
  replace HB := Aside0.mk (below_step HB.out hb)
  have HRP := Aside0.mk hrp
  have HLP := Aside0.mk hlp
  clear hb HP hrp hlp
  go_wp2_with fail
  refine (HT1.out _ HB.out).mono ?_
  rintro x v3 ⟨At, ct, rfl, hlt, hrt, hb⟩
  replace HB := Aside0.mk (below_step HB.out hb)
  replace HRP := Aside0.mk (Kd.C_below HRP.out hb)
  have HRT := Aside0.mk hrt
  have HLT := Aside0.mk hlt
  clear hb HT1 hrt hlt
  go_wp2_with fail
  refine (HE.out _ _ _ HB.out HRP.out HLP.out).mono ?_
  rintro x v4 ⟨rfl, hb⟩
  replace HB := Aside0.mk (below_step HB.out hb)
  replace HRT := Aside0.mk (Kd.C_below HRT.out hb)
  clear hb HRP HLP
  go_wp2_with fail
  refine (HE.out _ _ _ HB.out HRT.out HLT.out).mono ?_
  rintro x v5 ⟨rfl, hb⟩
  replace HB := Aside0.mk (below_step HB.out hb)
  clear hb HRT HLT HE
  go_wp2_with fail
  refine (HT.out _ HB.out).mono ?_
  rintro x w3 ⟨A3, c3, rfl, hl3, hr3, hb⟩
  replace HB := Aside0.mk (below_step HB.out hb)
  have HR3 := Aside0.mk hr3
  have HL3 := Aside0.mk hl3
  clear hb HT hr3 hl3
  go_wp2_with ((with_reducible refine gate_dst (N := 12) rfl ?_); refine box_event ?hg (N := 12) ?hd (cs := #[.slice none 0 0]) (t := 22) ?hr ?_; (case hd => rfl); (case hg => rfl); (case hr => first | (go_simp; done) | (go_simp; rfl)); intro g hg w5 hbox hb5; have hcell := blk_cell hbox 0; have hfro := blk_frozen hbox 0; clear hbox; replace hb5 := Aside0.mk hb5; replace hg := Aside0.mk hg)
  have hc6 : (w5.setCell ⟨g, 0, none⟩ (.slice A3 r.length c3)).cell? ⟨g, 0, none⟩ = some (.slice A3 r.length c3) := World.cell?_setCell_same' _ _ _ (by rw [hcell]; rfl)
  have hB6 : Below w3.heap.size w3 (w5.setCell ⟨g, 0, none⟩ (.slice A3 r.length c3)) := below_set hb5.out (Nat.le_of_eq hg.out.symm)
  clear hcell hfro hb5 hg
  generalize w5.setCell ⟨g, 0, none⟩ (.slice A3 r.length c3) = w6 at hc6 hB6 ⊢
  replace HB := Aside0.mk (below_step HB.out hB6)
  replace HR3 := Aside0.mk (Kd.C_below HR3.out hB6)
  clear hB6
  refine (HD2.out _ _ _ HR3.out HL3.out).mono ?_
  rintro x w7 ⟨rfl, hb⟩
  replace HB := Aside0.mk (below_step HB.out hb)
  replace HR3 := Aside0.mk (Kd.C_below HR3.out hb)
  replace hc6 := pw_cell_below hb hc6
  clear hb HD2
  have HF7 := Aside0.mk (HCF.out w7 g A3 c3 HB.out hc6 HR3.out HL3.out)
  clear HCF HR3 HL3
  go_wp2_with fail
  refine HF7.out.mono ?_
  rintro e w8 ⟨rfl, hb⟩
  replace HB := Aside0.mk (below_step HB.out hb)
  clear hb
  go_wp2
  go_ret
  exact ⟨by first | rfl | simp, HB.out⟩
theorem spilelaw17_AuditAgrees.calls (A0 : Option Addr) (c0 : Nat) (l0 : List S44) (r : Bool) (w : World) (hr0 : Kd.C k44 w A0 l0.length l0) (hc0 : l0.length ≤ c0) (h : spilelaw17_AuditAgrees.f l0 = some r) :
    Calls Try.prog 9 #[.slice A0 l0.length c0] w fun e w' => e = .returned (.bool r) ∧ Below w.heap.size w w' := by
  obtain rfl := Option.some.inj h
  by_cases h20 : 20 < l0.length
  · exact AuditAgrees.many A0 c0 l0 w h20
  obtain ⟨i, q, hq⟩ : ∃ i q, dchk l0 = (i, q) := ⟨(dchk l0).1, (dchk l0).2, rfl⟩
  obtain ⟨r, e, ht⟩ : ∃ r e, tabS l0 = (r, e) := ⟨(tabS l0).1, (tabS l0).2, rfl⟩
  by_cases hqz : q = 0
  · have hR := (right_iff l0).1 (by rw [hq]; exact hqz)
    exact AuditAgrees.good A0 c0 l0 w h20 hr0 hc0 hq hqz hR.tabS_ hR.leS_ hR.repS_ hR.tabS_
  · by_cases hez : e = 0
    · subst hez
      exact AuditAgrees.tab A0 c0 l0 w h20 hr0 hc0 hq hqz ht
    · have hn := tabS_none ht hez
      subst hn
      exact AuditAgrees.err A0 c0 l0 w h20 hr0 hc0 hq hqz ht hez

end Go.Proofs.Ytcapbigknimgnaa.PF
