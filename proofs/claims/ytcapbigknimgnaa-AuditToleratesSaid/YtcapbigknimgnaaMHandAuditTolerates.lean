/- The walk through the law AuditTolerates of package spilelaw17 and its closure. -/
import Derived.Test.YtcapbigknimgnaaMAud
import Derived.Test.YtcapbigknimgnaaMAud2
import Derived.Test.YtcapbigknimgnaaMAudAwake
import Derived.Test.YtcapbigknimgnaaMKnown17
import Derived.Test.YtcapbigknimgnaaMOpt
import Derived.Test.YtcapbigknimgnaaPF0
import Derived.Test.YtcapbigknimgnaaPF1
import Derived.Test.YtcapbigknimgnaaPF20
namespace Go.Proofs.Ytcapbigknimgnaa.PF
open Go.RowKit Go.Proofs.YtcapbigknimgnaaW.PrintWords Go.Proofs.YtcapbigknimgnaaW.PrintLast Go.Proofs.YtcapbigknimgnaaW.PrintMore
set_option linter.unusedVariables false
set_option linter.unusedSimpArgs false
set_option maxHeartbeats 400000 in
set_option maxRecDepth 100000 in
theorem AuditTolerates.clo (bt : Nat) (A : Option Addr) (c : Nat) (b : List S33) (x : S33) (W : World) (hb : W.cell? ⟨bt, 0, none⟩ = some (.slice A b.length c)) (hr : Kd.C k33 W A b.length b) (hcl : b.length ≤ c) (hn : b.length ≤ 20000) :
    Calls Try.prog 34 (#[.agg #[.int .i64 x.f0, .int .i64 x.f1]] ++ #[.pointer (some ⟨bt, 0, none⟩)]) W fun e w' => e = .returned (.bool (!clIn x b)) ∧ Below W.heap.size W w' := by
  have hu := Try.underlying33
  have HB := Aside0.mk (below_alloc (Below.refl W.heap.size W) (.cells #[.int .i64 x.f0, .int .i64 x.f1] 33))
  have HC := Aside0.mk (contains_clash.known b x A c _ (Kd.C_below hr HB.out) hcl hn)
  replace hb := pw_cell_below HB.out hb
  clear hr hcl hn
  generalize clIn x b = r at *
  generalize x.f0 = x0 at *
  generalize x.f1 = x1 at *
  go_enter Try.func34, Try.ntmps34
  go_wp2_with (refine HC.out.mono ?_; rintro e w' ⟨rfl, hb2⟩)
  go_ret
  exact ⟨rfl, below_step HB.out hb2⟩
def spilelaw17_AuditTolerates.f (l0 : List S44) (a1 : Int) : Option Bool := if 0 ≤ a1 ∧ a1 ≤ 65535 then some true else none
set_option maxHeartbeats 400000 in
set_option maxRecDepth 100000 in
theorem AuditTolerates.many (A : Option Addr) (c : Nat) (l : List S44) (t : Int) (w : World) (h20 : 20 < l.length) :
    Calls Try.prog 7 #[.slice A l.length c, .int .u16 t] w fun e w' => e = .returned (.bool true) ∧ Below w.heap.size w w' := by
  have HA := Aside0.mk (audit_awake.known w)
  have b0 : decide (20 < (l.length : Int)) = true := decide_eq_true (by omega)
  have b1 : decide (20 < l.length) = true := decide_eq_true h20
  clear h20
  go_enter Try.func7, Try.ntmps7
  go_wp2_with (refine HA.out.mono ?_; rintro e w1 ⟨rfl, hb⟩)
  go_ret
  exact ⟨rfl, hb⟩
set_option maxHeartbeats 400000 in
set_option maxRecDepth 100000 in
theorem AuditTolerates.wrong (A : Option Addr) (c : Nat) (l : List S44) (t : Int) (w : World) (h20 : ¬ 20 < l.length) (hr : Kd.C k44 w A l.length l) (hc : l.length ≤ c) (h : leS l = (0, 1)) :
    Calls Try.prog 7 #[.slice A l.length c, .int .u16 t] w fun e w' => e = .returned (.bool true) ∧ Below w.heap.size w w' := by
  have HA := Aside0.mk (audit_awake.known w)
  have HL := Aside0.mk (fun W (hb : Below w.heap.size w W) => audit_Least.known A c W (Kd.C_below hr hb) hc h)
  have b0 : decide (20 < (l.length : Int)) = false := decide_eq_false (by omega)
  have b1 : decide (20 < l.length) = false := decide_eq_false h20
  clear h20 hr hc h
  go_enter Try.func7, Try.ntmps7
  go_wp2_with (first
    | (go_at_call 10; refine HA.out.mono ?_; rintro e w1 ⟨rfl, hb⟩; have HB := Aside0.mk hb; clear hb)
    | (go_at_call 16; refine (HL.out _ HB.out).mono ?_; rintro e w2 ⟨rfl, hb⟩; replace HB := Aside0.mk (below_step HB.out hb); clear hb))
  go_ret
  exact ⟨rfl, HB.out⟩
/-- The closure of two lists of pairs: all pairs of the second one lie in the first one. -/
theorem AuditTolerates.within {l : List S44} (h : RightR l) {t : Int} (h0 : 0 ≤ t) (h1 : t + 1 ≤ 120000) : ∀ x ∈ (clS l (t + 1)).1, x ∈ (clS l t).1 := by
  intro x hx
  rw [clS_right h (by omega) h1] at hx
  rw [clS_right h h0 (by omega)]
  rcases (clF_mem l (t + 1) _ [] x).1 hx with h2 | ⟨p, hp, h2, h3⟩
  · cases h2
  · exact (clF_mem l t _ [] x).2 (Or.inr ⟨p, hp, by omega, h3⟩)
set_option maxHeartbeats 400000 in
set_option maxRecDepth 100000 in
theorem AuditTolerates.right_ (A : Option Addr) (c : Nat) (l : List S44) (t : Int) (w : World) (h20 : ¬ 20 < l.length) (hr : Kd.C k44 w A l.length l) (hc : l.length ≤ c) (h : RightR l) (ht0 : 0 ≤ t) (ht1 : t ≤ 65535) (hz : leT l = 0) :
    Calls Try.prog 7 #[.slice A l.length c, .int .u16 t] w fun e w' => e = .returned (.bool true) ∧ Below w.heap.size w w' := by
  obtain ⟨s, hs⟩ : ∃ s, s = Int.tmod t 1000 := ⟨_, rfl⟩
  have hs0 : 0 ≤ s ∧ s < 1000 := by rw [hs, Int.tmod_eq_emod_of_nonneg ht0]; exact ⟨Int.emod_nonneg _ (by decide), Int.emod_lt_of_pos _ (by decide)⟩
  have hw1 : IntKind.i64.wrap t = t := by rw [i64_w]; exact w64_ (by omega) (by omega)
  have hw3 : IntKind.i64.wrap (s + 1) = s + 1 := by rw [i64_w]; exact w64_ (by omega) (by omega)
  have t0 := leT_nonneg l
  have t1 := h.leT_le
  have e1 : leS l = (leT l, 0) := by unfold leS; rw [if_neg (not_not_intro ((rchk_iff l).2 h))]
  have e2 : clS l (leT l) = ([], 0) := by
    have := (clS_nil h t0 (by omega)).2 (Int.le_refl _)
    rw [clS_right h t0 (by omega)] at this ⊢
    exact Prod.ext this rfl
  obtain ⟨b, eb⟩ : ∃ b, clS l s = (b, 0) := ⟨_, clS_right h (by omega) (by omega)⟩
  obtain ⟨d, ed⟩ : ∃ d, clS l (s + 1) = (d, 0) := ⟨_, clS_right h (by omega) (by omega)⟩
  have nb : b.length ≤ 20000 := by have := clS_length l s; rw [eb] at this; exact this
  have nd : d.length ≤ 20000 := by have := clS_length l (s + 1); rw [ed] at this; exact this
  have hin : ∀ x ∈ d, x ∈ b := by have := AuditTolerates.within h (t := s) (by omega) (by omega); rw [eb, ed] at this; exact this
  have hnil : ((b.length : Int) == 0) = decide (leT l ≤ s) := by
    have := clS_nil h (t := s) (by omega) (by omega)
    rw [eb] at this
    rw [Bool.eq_iff_iff, beq_iff_eq, decide_eq_true_iff, ← this]
    constructor
    · intro q; show b = []; exact List.length_eq_zero_iff.1 (by omega)
    · intro q; show ((b.length : Nat) : Int) = 0; have q' : b = [] := q; rw [q']; rfl
  have HA := Aside0.mk (audit_awake.known w)
  have HL := Aside0.mk (fun W (hb : Below w.heap.size w W) => audit_Least.known A c W (Kd.C_below hr hb) hc e1)
  have HC2 := Aside0.mk (fun W (hb : Below w.heap.size w W) => audit_Clashes.known A c W (Kd.C_below hr hb) hc e2)
  have HC4 := Aside0.mk (fun W (hb : Below w.heap.size w W) => audit_Clashes.known A c W (Kd.C_below hr hb) hc eb)
  have HC5 := Aside0.mk (fun W (hb : Below w.heap.size w W) => audit_Clashes.known A c W (Kd.C_below hr hb) hc ed)
  have eg : ∀ args w, (callFunc 34 args).run Try.prog w = .ok (.enter 34 args) w := enters_of Try.func34 (by kernel_rfl) rfl
  have hidx : idxP (fun j => !clIn (rd_T33 d (j : Int)) b) d.length 0 = -1 := idxP_none _ _ _ (fun j _ hj => by
    have hj' : j < d.length := by omega
    rw [rd_clash d j hj', (clIn_iff _ _).2 (hin _ (List.getElem_mem _))]
    rfl)
  have HF := Aside0.mk (fun (W : World) (bt : Nat) (Ab Ad : Option Addr) (cb cd : Nat) (hb : W.cell? ⟨bt, 0, none⟩ = some (.slice Ab b.length cb)) (hrb : Kd.C k33 W Ab b.length b) (hcb : b.length ≤ cb) (hrd : Kd.C k33 W Ad d.length d) =>
    api_Clash_27.below 34 #[.pointer (some ⟨bt, 0, none⟩)] Ad cd d (fun j => !clIn (rd_T33 d (j : Int)) b) W eg (by omega) hrd
      (fun W' i h0 h1 hB => by
        have := AuditTolerates.clo bt Ab cb b (rd_T33 d i) W' (pw_cell_below hB hb) (Kd.C_below hrb hB) hcb nb
        rw [show ((i.toNat : Nat) : Int) = i by omega]
        exact this))
  rw [hidx] at HF
  have b0 : decide (20 < (l.length : Int)) = false := decide_eq_false (by omega)
  have b1 : decide (20 < l.length) = false := decide_eq_false h20
  have b2 : decide (0 < leT l) = false := decide_eq_false (by omega)
  clear h20 hr hc h t0 t1 e1 e2 eb ed nb nd hin hidx eg hs0 ht0 ht1 hz
  generalize leT l = n at *
  subst hs
  go_enter Try.func7, Try.ntmps7
  go_wp2_with fail
  refine HA.out.mono ?_
  rintro e w1 ⟨rfl, hb⟩
  have HB := Aside0.mk hb
  clear hb
  go_wp2_with fail
  refine (HL.out _ HB.out).mono ?_
  rintro e w2 ⟨rfl, hb⟩
  replace HB := Aside0.mk (below_step HB.out hb)
  clear hb
  go_wp2_with fail
  refine (HC2.out _ HB.out).mono ?_
  rintro e w3 ⟨A3, c3, rfl, _, _, hb⟩
  replace HB := Aside0.mk (below_step HB.out hb)
  clear hb
  go_wp2_with fail
  refine (HC4.out _ HB.out).mono ?_
  rintro e w4 ⟨A4, c4, rfl, hl4, hr4, hb⟩
  replace HB := Aside0.mk (below_step HB.out hb)
  have HR4 := Aside0.mk hr4
  have HL4 := Aside0.mk hl4
  clear hb hr4 hl4
  clear HC4 HC2 HL HA
  go_wp2_with ((with_reducible refine gate_dst (N := 12) rfl ?_); refine box_event ?hg (N := 12) ?hd (cs := #[.slice none 0 0]) (t := 28) ?hr ?_; (case hd => rfl); (case hg => rfl); (case hr => first | (go_simp; done) | (go_simp; rfl)); intro g hg w5 hbox hb5; have hcell := blk_cell hbox 0; have hfro := blk_frozen hbox 0; clear hbox; replace hb5 := Aside0.mk hb5; replace hg := Aside0.mk hg)
  have hc6 : (w5.setCell ⟨g, 0, none⟩ (.slice A4 b.length c4)).cell? ⟨g, 0, none⟩ = some (.slice A4 b.length c4) := World.cell?_setCell_same' _ _ _ (by rw [hcell]; rfl)
  have hB6 : Below w4.heap.size w4 (w5.setCell ⟨g, 0, none⟩ (.slice A4 b.length c4)) := below_set hb5.out (Nat.le_of_eq hg.out.symm)
  clear hcell hfro hb5 hg
  generalize w5.setCell ⟨g, 0, none⟩ (.slice A4 b.length c4) = w6 at hc6 hB6 ⊢
  replace HB := Aside0.mk (below_step HB.out hB6)
  replace HR4 := Aside0.mk (Kd.C_below HR4.out hB6)
  clear hB6
  refine (HC5.out _ HB.out).mono ?_
  rintro e w7 ⟨A7, c7, rfl, hl7, hr7, hb⟩
  have HF7 := Aside0.mk (HF.out w7 g A4 A7 c4 c7 (pw_cell_below hb hc6) (Kd.C_below HR4.out hb) HL4.out hr7)
  replace hc6 := pw_cell_below hb hc6
  replace HB := Aside0.mk (below_step HB.out hb)
  clear hb hr7 hl7 HC5 HF HR4 HL4
  go_wp2_with fail
  refine HF7.out.mono ?_
  rintro e w8 ⟨rfl, hb⟩
  replace HB := Aside0.mk (below_step HB.out hb)
  clear hb
  go_wp2
  go_ret
  exact ⟨by first | rfl | simp, HB.out⟩
set_option maxHeartbeats 400000 in
set_option maxRecDepth 100000 in
theorem AuditTolerates.right1 (A : Option Addr) (c : Nat) (l : List S44) (t : Int) (w : World) (h20 : ¬ 20 < l.length) (hr : Kd.C k44 w A l.length l) (hc : l.length ≤ c) (h : RightR l) (ht0 : 0 ≤ t) (ht1 : t ≤ 65535) (hz : 0 < leT l) :
    Calls Try.prog 7 #[.slice A l.length c, .int .u16 t] w fun e w' => e = .returned (.bool true) ∧ Below w.heap.size w w' := by
  obtain ⟨s, hs⟩ : ∃ s, s = Int.tmod t 1000 := ⟨_, rfl⟩
  have hs0 : 0 ≤ s ∧ s < 1000 := by rw [hs, Int.tmod_eq_emod_of_nonneg ht0]; exact ⟨Int.emod_nonneg _ (by decide), Int.emod_lt_of_pos _ (by decide)⟩
  have hw1 : IntKind.i64.wrap t = t := by rw [i64_w]; exact w64_ (by omega) (by omega)
  have hw3 : IntKind.i64.wrap (s + 1) = s + 1 := by rw [i64_w]; exact w64_ (by omega) (by omega)
  have t0 := leT_nonneg l
  have t1 := h.leT_le
  have e1 : leS l = (leT l, 0) := by unfold leS; rw [if_neg (not_not_intro ((rchk_iff l).2 h))]
  have e2 : clS l (leT l) = ([], 0) := by
    have := (clS_nil h t0 (by omega)).2 (Int.le_refl _)
    rw [clS_right h t0 (by omega)] at this ⊢
    exact Prod.ext this rfl
  obtain ⟨b, eb⟩ : ∃ b, clS l s = (b, 0) := ⟨_, clS_right h (by omega) (by omega)⟩
  obtain ⟨d, ed⟩ : ∃ d, clS l (s + 1) = (d, 0) := ⟨_, clS_right h (by omega) (by omega)⟩
  have nb : b.length ≤ 20000 := by have := clS_length l s; rw [eb] at this; exact this
  have nd : d.length ≤ 20000 := by have := clS_length l (s + 1); rw [ed] at this; exact this
  have hin : ∀ x ∈ d, x ∈ b := by have := AuditTolerates.within h (t := s) (by omega) (by omega); rw [eb, ed] at this; exact this
  have hnil : ((b.length : Int) == 0) = decide (leT l ≤ s) := by
    have := clS_nil h (t := s) (by omega) (by omega)
    rw [eb] at this
    rw [Bool.eq_iff_iff, beq_iff_eq, decide_eq_true_iff, ← this]
    constructor
    · intro q; show b = []; exact List.length_eq_zero_iff.1 (by omega)
    · intro q; show ((b.length : Nat) : Int) = 0; have q' : b = [] := q; rw [q']; rfl
  have HA := Aside0.mk (audit_awake.known w)
  have HL := Aside0.mk (fun W (hb : Below w.heap.size w W) => audit_Least.known A c W (Kd.C_below hr hb) hc e1)
  have HC2 := Aside0.mk (fun W (hb : Below w.heap.size w W) => audit_Clashes.known A c W (Kd.C_below hr hb) hc e2)
  have HC4 := Aside0.mk (fun W (hb : Below w.heap.size w W) => audit_Clashes.known A c W (Kd.C_below hr hb) hc eb)
  have HC5 := Aside0.mk (fun W (hb : Below w.heap.size w W) => audit_Clashes.known A c W (Kd.C_below hr hb) hc ed)
  have eg : ∀ args w, (callFunc 34 args).run Try.prog w = .ok (.enter 34 args) w := enters_of Try.func34 (by kernel_rfl) rfl
  have hidx : idxP (fun j => !clIn (rd_T33 d (j : Int)) b) d.length 0 = -1 := idxP_none _ _ _ (fun j _ hj => by
    have hj' : j < d.length := by omega
    rw [rd_clash d j hj', (clIn_iff _ _).2 (hin _ (List.getElem_mem _))]
    rfl)
  have HF := Aside0.mk (fun (W : World) (bt : Nat) (Ab Ad : Option Addr) (cb cd : Nat) (hb : W.cell? ⟨bt, 0, none⟩ = some (.slice Ab b.length cb)) (hrb : Kd.C k33 W Ab b.length b) (hcb : b.length ≤ cb) (hrd : Kd.C k33 W Ad d.length d) =>
    api_Clash_27.below 34 #[.pointer (some ⟨bt, 0, none⟩)] Ad cd d (fun j => !clIn (rd_T33 d (j : Int)) b) W eg (by omega) hrd
      (fun W' i h0 h1 hB => by
        have := AuditTolerates.clo bt Ab cb b (rd_T33 d i) W' (pw_cell_below hB hb) (Kd.C_below hrb hB) hcb nb
        rw [show ((i.toNat : Nat) : Int) = i by omega]
        exact this))
  rw [hidx] at HF
  have b0 : decide (20 < (l.length : Int)) = false := decide_eq_false (by omega)
  have b1 : decide (20 < l.length) = false := decide_eq_false h20
  have b2 : decide (0 < leT l) = true := decide_eq_true hz
  obtain ⟨q, eq_⟩ : ∃ q, clS l (leT l - 1) = (q, 0) := ⟨_, clS_right h (by omega) (by omega)⟩
  have hq : ((q.length : Int) == 0) = false := by
    have := clS_nil h (t := leT l - 1) (by omega) (by omega)
    rw [eq_] at this
    rw [beq_eq_false_iff_ne]
    intro q0
    have := this.1 (List.length_eq_zero_iff.1 (show q.length = 0 by omega))
    omega
  have hw4 : IntKind.i64.wrap (leT l - 1) = leT l - 1 := by rw [i64_w]; exact w64_ (by omega) (by omega)
  have HC3 := Aside0.mk (fun W (hb : Below w.heap.size w W) => audit_Clashes.known A c W (Kd.C_below hr hb) hc eq_)
  clear eq_ h20 hr hc h t0 t1 e1 e2 eb ed nb nd hin hidx eg hs0 ht0 ht1 hz
  generalize leT l = n at *
  subst hs
  go_enter Try.func7, Try.ntmps7
  go_wp2_with fail
  refine HA.out.mono ?_
  rintro e w1 ⟨rfl, hb⟩
  have HB := Aside0.mk hb
  clear hb
  go_wp2_with fail
  refine (HL.out _ HB.out).mono ?_
  rintro e w2 ⟨rfl, hb⟩
  replace HB := Aside0.mk (below_step HB.out hb)
  clear hb
  go_wp2_with fail
  refine (HC2.out _ HB.out).mono ?_
  rintro e w3 ⟨A3, c3, rfl, _, _, hb⟩
  replace HB := Aside0.mk (below_step HB.out hb)
  clear hb
  go_wp2_with fail
  refine (HC3.out _ HB.out).mono ?_
  rintro e wq ⟨Aq, cq, rfl, _, _, hb⟩
  replace HB := Aside0.mk (below_step HB.out hb)
  clear hb HC3
  go_wp2_with fail
  refine (HC4.out _ HB.out).mono ?_
  rintro e w4 ⟨A4, c4, rfl, hl4, hr4, hb⟩
  replace HB := Aside0.mk (below_step HB.out hb)
  have HR4 := Aside0.mk hr4
  have HL4 := Aside0.mk hl4
  clear hb hr4 hl4
  clear HC4 HC2 HL HA
  go_wp2_with ((with_reducible refine gate_dst (N := 12) rfl ?_); refine box_event ?hg (N := 12) ?hd (cs := #[.slice none 0 0]) (t := 28) ?hr ?_; (case hd => rfl); (case hg => rfl); (case hr => first | (go_simp; done) | (go_simp; rfl)); intro g hg w5 hbox hb5; have hcell := blk_cell hbox 0; have hfro := blk_frozen hbox 0; clear hbox; replace hb5 := Aside0.mk hb5; replace hg := Aside0.mk hg)
  have hc6 : (w5.setCell ⟨g, 0, none⟩ (.slice A4 b.length c4)).cell? ⟨g, 0, none⟩ = some (.slice A4 b.length c4) := World.cell?_setCell_same' _ _ _ (by rw [hcell]; rfl)
  have hB6 : Below w4.heap.size w4 (w5.setCell ⟨g, 0, none⟩ (.slice A4 b.length c4)) := below_set hb5.out (Nat.le_of_eq hg.out.symm)
  clear hcell hfro hb5 hg
  generalize w5.setCell ⟨g, 0, none⟩ (.slice A4 b.length c4) = w6 at hc6 hB6 ⊢
  replace HB := Aside0.mk (below_step HB.out hB6)
  replace HR4 := Aside0.mk (Kd.C_below HR4.out hB6)
  clear hB6
  refine (HC5.out _ HB.out).mono ?_
  rintro e w7 ⟨A7, c7, rfl, hl7, hr7, hb⟩
  have HF7 := Aside0.mk (HF.out w7 g A4 A7 c4 c7 (pw_cell_below hb hc6) (Kd.C_below HR4.out hb) HL4.out hr7)
  replace hc6 := pw_cell_below hb hc6
  replace HB := Aside0.mk (below_step HB.out hb)
  clear hb hr7 hl7 HC5 HF HR4 HL4
  go_wp2_with fail
  refine HF7.out.mono ?_
  rintro e w8 ⟨rfl, hb⟩
  replace HB := Aside0.mk (below_step HB.out hb)
  clear hb
  go_wp2
  go_ret
  exact ⟨by first | rfl | simp, HB.out⟩
set_option maxHeartbeats 400000 in
theorem spilelaw17_AuditTolerates.calls (A0 : Option Addr) (c0 : Nat) (l0 : List S44) (a1 : Int) (r : Bool) (w : World) (hr0 : Kd.C k44 w A0 l0.length l0) (hc0 : l0.length ≤ c0) (h : spilelaw17_AuditTolerates.f l0 a1 = some r) :
    Calls Try.prog 7 #[.slice A0 l0.length c0, .int .u16 a1] w fun e w' => e = .returned (.bool r) ∧ Below w.heap.size w w' := by
  unfold spilelaw17_AuditTolerates.f at h
  by_cases ht : 0 ≤ a1 ∧ a1 ≤ 65535
  case neg => rw [if_neg ht] at h; exact absurd h (by simp)
  rw [if_pos ht] at h
  obtain rfl := Option.some.inj h
  by_cases h20 : 20 < l0.length
  · exact AuditTolerates.many A0 c0 l0 a1 w h20
  by_cases hk : (rchk l0).2 = 0
  · have hR := (rchk_iff l0).1 hk
    rcases Int.lt_or_le 0 (leT l0) with hp | hp
    · exact AuditTolerates.right1 A0 c0 l0 a1 w h20 hr0 hc0 hR ht.1 ht.2 hp
    · exact AuditTolerates.right_ A0 c0 l0 a1 w h20 hr0 hc0 hR ht.1 ht.2 (by have := leT_nonneg l0; omega)
  · exact AuditTolerates.wrong A0 c0 l0 a1 w h20 hr0 hc0 (by unfold leS; rw [if_pos hk])

end Go.Proofs.Ytcapbigknimgnaa.PF
