/- The walk through the law ColumnMisses of package spilelaw36. -/
import Derived.Test.YtodfjkdgfjkifaaMAwk36
import Derived.Test.YtodfjkdgfjkifaaMChk36
import Derived.Test.YtodfjkdgfjkifaaMCom36
import Derived.Test.YtodfjkdgfjkifaaMEv
import Derived.Test.YtodfjkdgfjkifaaMMis36
import Derived.Test.YtodfjkdgfjkifaaMRmi36
import Derived.Test.YtodfjkdgfjkifaaMRms36
import Derived.Test.YtodfjkdgfjkifaaPF0
import Derived.Test.YtodfjkdgfjkifaaPF3
namespace Go.Proofs.Ytodfjkdgfjkifaa.PF
open Go.RowKit Go.Proofs.YtodfjkdgfjkifaaW.PrintWords Go.Proofs.YtodfjkdgfjkifaaW.PrintLast Go.Proofs.YtodfjkdgfjkifaaW.PrintMore
set_option linter.unusedVariables false
set_option linter.unusedSimpArgs false
def spilelaw36_ColumnMisses.f (a0_0 : Int) (l0_1 : List S28) : Option Bool := some true
theorem ev_some'' {α : Type} {F : Nat → Option α} {r : α} (h : Ev F r) : ∃ k, F k = some r := by obtain ⟨N, hN⟩ := h; exact ⟨N, hN N (Nat.le_refl _)⟩
set_option maxHeartbeats 4000000 in
set_option maxRecDepth 100000 in
theorem ColumnMisses.walk (p : Int) (A : Option Addr) (c : Nat) (l : List S28) (w : World) (hr : Kd.C k28 w A l.length l) (hc : l.length ≤ c) :
    Calls Try.prog 3 #[.agg #[.int .i64 p, .slice A l.length c]] w fun e w' => e = .returned (.bool true) ∧ Below w.heap.size w w' := by
  have hu1 := Try.underlying24
  have hu2 := Try.underlying28
  have HA := Aside0.mk (fun W => awake36.known W)
  obtain ⟨b, hb0⟩ : ∃ b, spileref36_Few.f p l = some b := by unfold spileref36_Few.f; split <;> exact ⟨_, rfl⟩
  have HF := Aside0.mk (fun W (hb : Below w.heap.size w W) => spileref36_Few.calls p A c l b W (Kd.C_below hr hb) hc hb0)
  cases b
  · clear hr hc hb0
    go_enter Try.func3, Try.ntmps3
    go_wp2_with (first | ((with_reducible refine gate_dst (N := 1) rfl ?_); refine box_event ?hg (N := 1) ?hd (cs := #[.int .i64 p, .slice A l.length c]) (t := 24) ?hr ?_; (case hd => rfl); (case hg => rfl); (case hr => first | (go_simp; done) | (go_simp; rfl)); intro gb hg w3 hbox hb; have c0 : w3.cell? ⟨gb, 0, none⟩ = some (.int .i64 p) := blk_cell hbox 0; have c1 : w3.cell? ⟨gb, 1, none⟩ = some (.slice A l.length c) := blk_cell hbox 1; have HB := Aside0.mk hb; clear hbox hb hg))
    refine (HA.out _).mono ?_
    rintro e w4 ⟨rfl, hb⟩
    replace HB := Aside0.mk (below_step HB.out hb)
    replace c0 := pw_cell_below hb c0; replace c1 := pw_cell_below hb c1
    clear hb
    clear HA
    go_wp2_with fail
    refine (HF.out _ HB.out).mono ?_
    rintro e w5 ⟨rfl, hb⟩
    replace HB := Aside0.mk (below_step HB.out hb)
    clear hb HF c0 c1
    go_wp2
    go_ret
    exact ⟨rfl, HB.out⟩
  have hl : l.length ≤ 65 := by
    unfold spileref36_Few.f at hb0
    split at hb0
    · omega
    · have := Option.some.inj hb0
      have := beq_iff_eq.1 this
      omega
  have HCP := Aside0.mk (fun W (hb : Below w.heap.size w W) => cp36.known p A c l W (Kd.C_below hr hb) hc (by omega))
  obtain ⟨⟨⟨f0, f1, f2, f3⟩, e⟩, hm⟩ : ∃ r, misR p l = r := ⟨_, rfl⟩
  obtain ⟨k1, q1⟩ := ev_some'' (refMissing.ev p l)
  rw [hm] at q1
  simp only [flat5] at q1
  have HM := Aside0.mk (fun (W : World) (A' : Option Addr) (c' : Nat) (hr : Kd.C k28 W A' l.length l) (hc : l.length ≤ c') => column_Missing.known p A' c' l W hr hc hm)
  have R1 := Aside0.mk (fun (W : World) (hb : Below w.heap.size w W) => spileref36_Missing.calls k1 p A c l f0 f1 f2 f3 e W (Kd.C_below hr hb) hc q1)
  clear hr hc hb0 hl hm q1
  go_enter Try.func3, Try.ntmps3
  go_wp2_with (first | ((with_reducible refine gate_dst (N := 1) rfl ?_); refine box_event ?hg (N := 1) ?hd (cs := #[.int .i64 p, .slice A l.length c]) (t := 24) ?hr ?_; (case hd => rfl); (case hg => rfl); (case hr => first | (go_simp; done) | (go_simp; rfl)); intro gb hg w3 hbox hb; have c0 : w3.cell? ⟨gb, 0, none⟩ = some (.int .i64 p) := blk_cell hbox 0; have c1 : w3.cell? ⟨gb, 1, none⟩ = some (.slice A l.length c) := blk_cell hbox 1; have HB := Aside0.mk hb; clear hbox hb hg))
  refine (HA.out _).mono ?_
  rintro e' w4 ⟨rfl, hb⟩
  replace HB := Aside0.mk (below_step HB.out hb)
  replace c0 := pw_cell_below hb c0; replace c1 := pw_cell_below hb c1
  clear hb
  clear HA
  go_wp2_with fail
  refine (HF.out _ HB.out).mono ?_
  rintro e' w5 ⟨rfl, hb⟩
  replace HB := Aside0.mk (below_step HB.out hb)
  replace c0 := pw_cell_below hb c0; replace c1 := pw_cell_below hb c1
  clear hb
  clear HF
  go_wp2_with fail
  refine (HCP.out _ HB.out).mono ?_
  rintro e' w6 ⟨A1, k1', rfl, hk1, hr1, hb⟩
  replace HB := Aside0.mk (below_step HB.out hb)
  replace c0 := pw_cell_below hb c0; replace c1 := pw_cell_below hb c1
  clear hb
  go_wp2_with fail
  refine (HM.out _ _ _ hr1 hk1).mono ?_
  rintro e' w7 ⟨rfl, hb⟩
  replace HB := Aside0.mk (below_step HB.out hb)
  replace c0 := pw_cell_below hb c0; replace c1 := pw_cell_below hb c1
  clear hb
  clear hr1 hk1 HM HCP
  go_wp2_with (first | ((with_reducible refine gate_dst (N := 3) rfl ?_); refine box_event ?hg (N := 3) ?hd (cs := #[.int .i64 0, .int .i64 0, .int .i64 0, .int .i64 0]) (t := 28) ?hr ?_; (case hd => rfl); (case hg => rfl); (case hr => first | (go_simp; done) | (go_simp; rfl)); intro g3 hg w8 hbox hb5; have hc0 : w8.cell? ⟨g3, 0, none⟩ = some (.int .i64 0) := blk_cell hbox 0; have hf0 := blk_frozen hbox 0; have hc1 : w8.cell? ⟨g3, 1, none⟩ = some (.int .i64 0) := blk_cell hbox 1; have hf1 := blk_frozen hbox 1; have hc2 : w8.cell? ⟨g3, 2, none⟩ = some (.int .i64 0) := blk_cell hbox 2; have hf2 := blk_frozen hbox 2; have hc3 : w8.cell? ⟨g3, 3, none⟩ = some (.int .i64 0) := blk_cell hbox 3; have hf3 := blk_frozen hbox 3; replace hbox := Aside0.mk hbox; replace hb5 := Aside0.mk hb5; replace hg := Aside0.mk hg) | ((with_reducible refine gate_store (t := 28) (p := 3) rfl ?_); refine store_event (t := 28) (p := 3) (v := .tmp 16) (w1 := ((((w8.setCell ⟨g3, 0, none⟩ (.int .i64 f0)).setCell ⟨g3, 1, none⟩ (.int .i64 f1)).setCell ⟨g3, 2, none⟩ (.int .i64 f2)).setCell ⟨g3, 3, none⟩ (.int .i64 f3))) ?hg ?ho ?hn ?hr ?_; (case ho => rfl); (case hg => rfl); (case hn => rfl); (case hr => first | (go_simp; done) | (go_simp; rfl)); intro w9 hw6; clear hc0 hf0 hc1 hf1 hc2 hf2 hc3 hf3; have hbx := box4_ (x := .int .i64 f0) (y := .int .i64 f1) (z := .int .i64 f2) (u := .int .i64 f3) hb5.out hg.out hbox.out; rw [← hw6] at hbx; clear hw6 hb5 hg hbox; obtain ⟨hb, hk6⟩ := hbx; have K3 := Aside0.mk hk6; replace HB := Aside0.mk (below_step HB.out hb); replace c0 := pw_cell_below hb c0; replace c1 := pw_cell_below hb c1; clear hb hk6))
  refine (R1.out _ HB.out).mono ?_
  rintro e' w10 ⟨rfl, hb⟩
  replace HB := Aside0.mk (below_step HB.out hb)
  replace K3 := Aside0.mk (blk_below K3.out hb)
  clear hb R1 c0 c1
  go_wp2_with (first | ((with_reducible refine gate_dst (N := 5) rfl ?_); refine box_event ?hg (N := 5) ?hd (cs := #[.int .i64 0, .int .i64 0, .int .i64 0, .int .i64 0]) (t := 28) ?hr ?_; (case hd => rfl); (case hg => rfl); (case hr => first | (go_simp; done) | (go_simp; rfl)); intro g5 hg w11 hbox hb5; have hc0 : w11.cell? ⟨g5, 0, none⟩ = some (.int .i64 0) := blk_cell hbox 0; have hf0 := blk_frozen hbox 0; have hc1 : w11.cell? ⟨g5, 1, none⟩ = some (.int .i64 0) := blk_cell hbox 1; have hf1 := blk_frozen hbox 1; have hc2 : w11.cell? ⟨g5, 2, none⟩ = some (.int .i64 0) := blk_cell hbox 2; have hf2 := blk_frozen hbox 2; have hc3 : w11.cell? ⟨g5, 3, none⟩ = some (.int .i64 0) := blk_cell hbox 3; have hf3 := blk_frozen hbox 3; replace hbox := Aside0.mk hbox; replace hb5 := Aside0.mk hb5; replace hg := Aside0.mk hg) | ((with_reducible refine gate_store (t := 28) (p := 5) rfl ?_); refine store_event (t := 28) (p := 5) (v := .tmp 21) (w1 := ((((w11.setCell ⟨g5, 0, none⟩ (.int .i64 f0)).setCell ⟨g5, 1, none⟩ (.int .i64 f1)).setCell ⟨g5, 2, none⟩ (.int .i64 f2)).setCell ⟨g5, 3, none⟩ (.int .i64 f3))) ?hg ?ho ?hn ?hr ?_; (case ho => rfl); (case hg => rfl); (case hn => rfl); (case hr => first | (go_simp; done) | (go_simp; rfl)); intro w12 hw6; clear hc0 hf0 hc1 hf1 hc2 hf2 hc3 hf3; have hbx := box4_ (x := .int .i64 f0) (y := .int .i64 f1) (z := .int .i64 f2) (u := .int .i64 f3) hb5.out hg.out hbox.out; rw [← hw6] at hbx; clear hw6 hb5 hg hbox; obtain ⟨hb, hk6⟩ := hbx; have K5 := Aside0.mk hk6; replace HB := Aside0.mk (below_step HB.out hb); replace K3 := Aside0.mk (blk_below K3.out hb); have x0 : w12.cell? ⟨g3, 0, none⟩ = some (.int .i64 f0) := blk_cell K3.out 0; have y0 : w12.cell? ⟨g5, 0, none⟩ = some (.int .i64 f0) := blk_cell K5.out 0; have x1 : w12.cell? ⟨g3, 1, none⟩ = some (.int .i64 f1) := blk_cell K3.out 1; have y1 : w12.cell? ⟨g5, 1, none⟩ = some (.int .i64 f1) := blk_cell K5.out 1; have x2 : w12.cell? ⟨g3, 2, none⟩ = some (.int .i64 f2) := blk_cell K3.out 2; have y2 : w12.cell? ⟨g5, 2, none⟩ = some (.int .i64 f2) := blk_cell K5.out 2; have x3 : w12.cell? ⟨g3, 3, none⟩ = some (.int .i64 f3) := blk_cell K3.out 3; have y3 : w12.cell? ⟨g5, 3, none⟩ = some (.int .i64 f3) := blk_cell K5.out 3; clear hb hk6))
  go_ret
  exact ⟨by first | rfl | simp, HB.out⟩
theorem spilelaw36_ColumnMisses.calls (a0_0 : Int) (A0_1 : Option Addr) (c0_1 : Nat) (l0_1 : List S28) (r : Bool) (w : World) (hr0_1 : Kd.C k28 w A0_1 l0_1.length l0_1) (hc0_1 : l0_1.length ≤ c0_1) (h : spilelaw36_ColumnMisses.f a0_0 l0_1 = some r) :
    Calls Try.prog 3 #[.agg #[.int .i64 a0_0, .slice A0_1 l0_1.length c0_1]] w fun e w' => e = .returned (.bool r) ∧ Below w.heap.size w w' := by
  obtain rfl := Option.some.inj h
  exact ColumnMisses.walk a0_0 A0_1 c0_1 l0_1 w hr0_1 hc0_1

end Go.Proofs.Ytodfjkdgfjkifaa.PF
