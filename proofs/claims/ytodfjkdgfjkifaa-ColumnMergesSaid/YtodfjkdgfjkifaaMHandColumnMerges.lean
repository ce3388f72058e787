/- The walk through the law ColumnMerges of package spilelaw36. -/
import Derived.Test.YtodfjkdgfjkifaaMAwk36
import Derived.Test.YtodfjkdgfjkifaaMCol36
import Derived.Test.YtodfjkdgfjkifaaMCom36
import Derived.Test.YtodfjkdgfjkifaaMEv
import Derived.Test.YtodfjkdgfjkifaaMMrg36
import Derived.Test.YtodfjkdgfjkifaaMOpn36
import Derived.Test.YtodfjkdgfjkifaaMRef36b
import Derived.Test.YtodfjkdgfjkifaaMRef36c
import Derived.Test.YtodfjkdgfjkifaaPF0
import Derived.Test.YtodfjkdgfjkifaaPF3
import Derived.Test.YtodfjkdgfjkifaaPF6
import Derived.Test.YtodfjkdgfjkifaaPF7
namespace Go.Proofs.Ytodfjkdgfjkifaa.PF
open Go.RowKit Go.Proofs.YtodfjkdgfjkifaaW.PrintWords Go.Proofs.YtodfjkdgfjkifaaW.PrintLast Go.Proofs.YtodfjkdgfjkifaaW.PrintMore
set_option linter.unusedVariables false
set_option linter.unusedSimpArgs false
def spilelaw36_ColumnMerges.f (a0_0 : Int) (l0_1 : List S28) (a1 : Int) : Option Bool := some true
theorem ev_some' {α : Type} {F : Nat → Option α} {r : α} (h : Ev F r) : ∃ k, F k = some r := by obtain ⟨N, hN⟩ := h; exact ⟨N, hN N (Nat.le_refl _)⟩
set_option maxHeartbeats 4000000 in
set_option maxRecDepth 100000 in
theorem ColumnMerges.walk (p : Int) (A : Option Addr) (c : Nat) (l : List S28) (q : Int) (w : World) (hr : Kd.C k28 w A l.length l) (hc : l.length ≤ c) :
    Calls Try.prog 4 #[.agg #[.int .i64 p, .slice A l.length c], .int .i64 q] w fun e w' => e = .returned (.bool true) ∧ Below w.heap.size w w' := by
  have hu1 := Try.underlying24
  have HA := Aside0.mk (fun W => awake36.known W)
  obtain ⟨b, hb0⟩ : ∃ b, spileref36_Few.f p l = some b := by unfold spileref36_Few.f; split <;> exact ⟨_, rfl⟩
  have HF := Aside0.mk (fun W (hb : Below w.heap.size w W) => spileref36_Few.calls p A c l b W (Kd.C_below hr hb) hc hb0)
  cases b
  · clear hr hc hb0
    go_enter Try.func4, Try.ntmps4
    go_wp2_with (first | ((with_reducible refine gate_dst (N := 2) rfl ?_); refine box_event ?hg (N := 2) ?hd (cs := #[.int .i64 p, .slice A l.length c]) (t := 24) ?hr ?_; (case hd => rfl); (case hg => rfl); (case hr => first | (go_simp; done) | (go_simp; rfl)); intro gb hg w3 hbox hb; have c0 : w3.cell? ⟨gb, 0, none⟩ = some (.int .i64 p) := blk_cell hbox 0; have c1 : w3.cell? ⟨gb, 1, none⟩ = some (.slice A l.length c) := blk_cell hbox 1; have HB := Aside0.mk hb; clear hbox hb hg))
    refine (HA.out _).mono ?_
    rintro e w4 ⟨rfl, hb⟩
    replace HB := Aside0.mk (below_step HB.out hb)
    replace c0 := pw_cell_below hb c0
    replace c1 := pw_cell_below hb c1
    clear hb HA
    go_wp2_with fail
    refine (HF.out _ HB.out).mono ?_
    rintro e w5 ⟨rfl, hb⟩
    replace HB := Aside0.mk (below_step HB.out hb)
    clear hb HF c0 c1
    go_wp2
    go_ret
    exact ⟨rfl, HB.out⟩
  have hl : l.length ≤ 65 := by
    unfold spileref36_Few.f at hb0
    split at hb0
    · omega
    · have := Option.some.inj hb0
      have := beq_iff_eq.1 this
      omega
  have HCP := Aside0.mk (fun W (hb : Below w.heap.size w W) => cp36.known p A c l W (Kd.C_below hr hb) hc (by omega))
  obtain ⟨⟨m, O, e⟩, h1⟩ : ∃ r, mgR p l q = r := ⟨_, rfl⟩
  have hol : O.length ≤ 100 := by
    have ho : O = (mgR p l q).2.1 := by rw [h1]
    rw [ho]
    unfold mgR
    cases hb : rt36 p l
    · exact Nat.zero_le _
    · rw [if_pos rfl]
      split
      · exact Nat.zero_le _
      · split
        · exact Nat.zero_le _
        · exact Nat.le_trans (mgO_inv q l (rt36_iff.1 hb).ok).1 (by have := (rt36_iff.1 hb).2.2.1; omega)
  obtain ⟨k1, q1⟩ := ev_some' (refMerge.ev p l q)
  rw [h1] at q1
  obtain ⟨k2, q2⟩ := ev_some' (refsame36.ev m O (by omega))
  have H1 := Aside0.mk (fun (W : World) (A' : Option Addr) (c' : Nat) (hr : Kd.C k28 W A' l.length l) (hc : l.length ≤ c') => column_Merge.known p A' c' l q W hr hc h1)
  have R1 := Aside0.mk (fun (W : World) (hb : Below w.heap.size w W) => spileref36_Merge.calls k1 p A c l q m O e W (Kd.C_below hr hb) hc q1)
  have HSM := Aside0.mk (fun (W : World) (A' B' : Option Addr) (c' d' : Nat) (hA : Kd.C k28 W A' O.length O) (hc : O.length ≤ c') (hB : Kd.C k28 W B' O.length O) (hd : O.length ≤ d') => spileref36_Same.calls k2 m A' c' O m B' d' O true W hA hc hB hd q2)
  clear hr hc hb0 hl h1 q1 q2 hol
  go_enter Try.func4, Try.ntmps4
  go_wp2_with (first | ((with_reducible refine gate_dst (N := 2) rfl ?_); refine box_event ?hg (N := 2) ?hd (cs := #[.int .i64 p, .slice A l.length c]) (t := 24) ?hr ?_; (case hd => rfl); (case hg => rfl); (case hr => first | (go_simp; done) | (go_simp; rfl)); intro gb hg w3 hbox hb; have c0 : w3.cell? ⟨gb, 0, none⟩ = some (.int .i64 p) := blk_cell hbox 0; have c1 : w3.cell? ⟨gb, 1, none⟩ = some (.slice A l.length c) := blk_cell hbox 1; have HB := Aside0.mk hb; clear hbox hb hg))
  refine (HA.out _).mono ?_
  rintro e' w4 ⟨rfl, hb⟩
  replace HB := Aside0.mk (below_step HB.out hb)
  replace c0 := pw_cell_below hb c0
  replace c1 := pw_cell_below hb c1
  clear hb
  clear HA
  go_wp2_with fail
  refine (HF.out _ HB.out).mono ?_
  rintro e' w5 ⟨rfl, hb⟩
  replace HB := Aside0.mk (below_step HB.out hb)
  replace c0 := pw_cell_below hb c0
  replace c1 := pw_cell_below hb c1
  clear hb
  clear HF
  go_wp2_with fail
  refine (HCP.out _ HB.out).mono ?_
  rintro e' w6 ⟨A1, k1', rfl, hk1, hr1, hb⟩
  replace HB := Aside0.mk (below_step HB.out hb)
  replace c0 := pw_cell_below hb c0
  replace c1 := pw_cell_below hb c1
  clear hb
  go_wp2_with fail
  refine (H1.out _ _ _ hr1 hk1).mono ?_
  rintro e' w7 ⟨AO, cO, rfl, hcO, hrO, hb⟩
  replace HB := Aside0.mk (below_step HB.out hb)
  replace c0 := pw_cell_below hb c0
  replace c1 := pw_cell_below hb c1
  clear hb
  clear hr1 hk1 H1 HCP
  have HO := Aside0.mk (⟨hrO, hcO⟩ : _ ∧ _)
  clear hrO hcO
  go_wp2_with (first | ((with_reducible refine gate_dst (N := 5) rfl ?_); refine box_event ?hg (N := 5) ?hd (cs := #[.int .i64 0, .slice none 0 0]) (t := 24) ?hr ?_; (case hd => rfl); (case hg => rfl); (case hr => first | (go_simp; done) | (go_simp; rfl)); intro g5 hg w8 hbox hb5; have hc0 : w8.cell? ⟨g5, 0, none⟩ = some (.int .i64 0) := blk_cell hbox 0; have hf0 := blk_frozen hbox 0; have hc1 : w8.cell? ⟨g5, 1, none⟩ = some (.slice none 0 0) := blk_cell hbox 1; have hf1 := blk_frozen hbox 1; replace hbox := Aside0.mk hbox; replace hb5 := Aside0.mk hb5; replace hg := Aside0.mk hg) | ((with_reducible refine gate_store (t := 24) (p := 5) rfl ?_); refine store_event (t := 24) (p := 5) (v := .tmp 19) (w1 := ((w8.setCell ⟨g5, 0, none⟩ (.int .i64 m)).setCell ⟨g5, 1, none⟩ (.slice AO O.length cO))) ?hg ?ho ?hn ?hr ?_; (case ho => rfl); (case hg => rfl); (case hn => rfl); (case hr => first | (go_simp; done) | (go_simp; rfl)); intro w9 hw6; clear hc0 hf0 hc1 hf1; have hbx := box2h_ (x := .int .i64 m) (y := .slice AO O.length cO) hb5.out hg.out hbox.out; rw [← hw6] at hbx; clear hw6 hb5 hg hbox; obtain ⟨hb, hk6⟩ := hbx; have K5 := Aside0.mk hk6; replace HO := Aside0.mk (⟨Kd.C_below HO.out.1 hb, HO.out.2⟩ : _ ∧ _); replace c0 := pw_cell_below hb c0; replace c1 := pw_cell_below hb c1; replace HB := Aside0.mk (below_step HB.out hb); clear hb hk6))
  refine (R1.out _ HB.out).mono ?_
  rintro e' w10 ⟨v, rfl, hR, hb⟩
  replace HB := Aside0.mk (below_step HB.out hb)
  replace HO := Aside0.mk (⟨Kd.C_below HO.out.1 hb, HO.out.2⟩ : _ ∧ _)
  replace K5 := Aside0.mk (blk_below K5.out hb)
  clear hb R1 c0 c1
  obtain ⟨AU, cU, rfl⟩ := Kd.R_slice hR
  have HU := Aside0.mk (⟨(Kd.R_reads' hR).2.2, (Kd.R_reads' hR).2.1⟩ : _ ∧ _)
  clear hR
  go_wp2_with (first
    | ((with_reducible refine gate_dst (N := 7) rfl ?_); refine box_event ?hg (N := 7) ?hd (cs := #[.int .i64 0, .slice none 0 0]) (t := 24) ?hr ?_; (case hd => rfl); (case hg => rfl); (case hr => first | (go_simp; done) | (go_simp; rfl)); intro g7 hg w11 hbox hb5; have hc0 : w11.cell? ⟨g7, 0, none⟩ = some (.int .i64 0) := blk_cell hbox 0; have hf0 := blk_frozen hbox 0; have hc1 : w11.cell? ⟨g7, 1, none⟩ = some (.slice none 0 0) := blk_cell hbox 1; have hf1 := blk_frozen hbox 1; replace hbox := Aside0.mk hbox; replace hb5 := Aside0.mk hb5; replace hg := Aside0.mk hg) | ((with_reducible refine gate_store (t := 24) (p := 7) rfl ?_); refine store_event (t := 24) (p := 7) (v := .tmp 25) (w1 := ((w11.setCell ⟨g7, 0, none⟩ (.int .i64 m)).setCell ⟨g7, 1, none⟩ (.slice AU O.length cU))) ?hg ?ho ?hn ?hr ?_; (case ho => rfl); (case hg => rfl); (case hn => rfl); (case hr => first | (go_simp; done) | (go_simp; rfl)); intro w12 hw6; clear hc0 hf0 hc1 hf1; have hbx := box2h_ (x := .int .i64 m) (y := .slice AU O.length cU) hb5.out hg.out hbox.out; rw [← hw6] at hbx; clear hw6 hb5 hg hbox; obtain ⟨hb, hk6⟩ := hbx; have K7 := Aside0.mk hk6; replace HO := Aside0.mk (⟨Kd.C_below HO.out.1 hb, HO.out.2⟩ : _ ∧ _); replace HU := Aside0.mk (⟨Kd.C_below HU.out.1 hb, HU.out.2⟩ : _ ∧ _); replace K5 := Aside0.mk (blk_below K5.out hb); have x0 : w12.cell? ⟨g5, 0, none⟩ = some (.int .i64 m) := blk_cell K5.out 0; have x1 : w12.cell? ⟨g5, 1, none⟩ = some (.slice AO O.length cO) := blk_cell K5.out 1; have y0 : w12.cell? ⟨g7, 0, none⟩ = some (.int .i64 m) := blk_cell K7.out 0; have y1 : w12.cell? ⟨g7, 1, none⟩ = some (.slice AU O.length cU) := blk_cell K7.out 1; replace HB := Aside0.mk (below_step HB.out hb); clear hb hk6)
    | (go_at_call 17; refine (HSM.out _ _ _ _ _ HO.out.1 HO.out.2 HU.out.1 HU.out.2).mono ?_; rintro e' w30 ⟨rfl, hd⟩; replace HB := Aside0.mk (below_step HB.out hd); clear hd HSM HO HU))
  go_ret
  exact ⟨by first | rfl | simp, HB.out⟩
theorem spilelaw36_ColumnMerges.calls (a0_0 : Int) (A0_1 : Option Addr) (c0_1 : Nat) (l0_1 : List S28) (a1 : Int) (r : Bool) (w : World) (hr0_1 : Kd.C k28 w A0_1 l0_1.length l0_1) (hc0_1 : l0_1.length ≤ c0_1) (h : spilelaw36_ColumnMerges.f a0_0 l0_1 a1 = some r) :
    Calls Try.prog 4 #[.agg #[.int .i64 a0_0, .slice A0_1 l0_1.length c0_1], .int .i64 a1] w fun e w' => e = .returned (.bool r) ∧ Below w.heap.size w w' := by
  obtain rfl := Option.some.inj h
  exact ColumnMerges.walk a0_0 A0_1 c0_1 l0_1 a1 w hr0_1 hc0_1

end Go.Proofs.Ytodfjkdgfjkifaa.PF
