/- The walk through the law ColumnClosed of package spilelaw36. -/
import Derived.Test.YtodfjkdgfjkifaaMAwk36
import Derived.Test.YtodfjkdgfjkifaaMBal36
import Derived.Test.YtodfjkdgfjkifaaMChk36
import Derived.Test.YtodfjkdgfjkifaaMClo36
import Derived.Test.YtodfjkdgfjkifaaMCol36
import Derived.Test.YtodfjkdgfjkifaaMCom36
import Derived.Test.YtodfjkdgfjkifaaMMis36
import Derived.Test.YtodfjkdgfjkifaaMOpn36
import Derived.Test.YtodfjkdgfjkifaaMRef36
import Derived.Test.YtodfjkdgfjkifaaPF0
import Derived.Test.YtodfjkdgfjkifaaPF1
namespace Go.Proofs.Ytodfjkdgfjkifaa.PF
open Go.RowKit Go.Proofs.YtodfjkdgfjkifaaW.PrintWords Go.Proofs.YtodfjkdgfjkifaaW.PrintLast Go.Proofs.YtodfjkdgfjkifaaW.PrintMore
set_option linter.unusedVariables false
set_option linter.unusedSimpArgs false
def spilelaw36_ColumnClosed.f (a0_0 : Int) (l0_1 : List S28) : Option Bool := some true
set_option maxHeartbeats 4000000 in
set_option maxRecDepth 100000 in
theorem ColumnClosed.walk (p : Int) (A : Option Addr) (c : Nat) (l : List S28) (w : World) (hr : Kd.C k28 w A l.length l) (hc : l.length ≤ c) :
    Calls Try.prog 7 #[.agg #[.int .i64 p, .slice A l.length c]] w fun e w' => e = .returned (.bool true) ∧ Below w.heap.size w w' := by
  have hu1 := Try.underlying24
  have hu2 := Try.underlying28
  have HA := Aside0.mk (fun W => awake36.known W)
  by_cases hl : 24 < l.length
  · have b1 : decide (24 < (l.length : Int)) = true := decide_eq_true (by omega)
    have b2 : decide (24 < l.length) = true := decide_eq_true hl
    clear hr hc hl
    go_enter Try.func7, Try.ntmps7
    go_wp2_with (first | ((with_reducible refine gate_dst (N := 1) rfl ?_); refine box_event ?hg (N := 1) ?hd (cs := #[.int .i64 p, .slice A l.length c]) (t := 24) ?hr ?_; (case hd => rfl); (case hg => rfl); (case hr => first | (go_simp; done) | (go_simp; rfl)); intro gb hg w3 hbox hb; have c0 : w3.cell? ⟨gb, 0, none⟩ = some (.int .i64 p) := blk_cell hbox 0; have c1 : w3.cell? ⟨gb, 1, none⟩ = some (.slice A l.length c) := blk_cell hbox 1; have HB := Aside0.mk hb; have BK := Aside0.mk hbox; clear hbox hb hg))
    refine (HA.out _).mono ?_
    rintro e w4 ⟨rfl, hb⟩
    replace HB := Aside0.mk (below_step HB.out hb)
    replace BK := Aside0.mk (blk_below BK.out hb)
    replace c0 := pw_cell_below hb c0
    replace c1 := pw_cell_below hb c1
    clear hb
    clear HA
    go_wp2
    go_ret
    exact ⟨rfl, HB.out⟩
  have b1 : decide (24 < (l.length : Int)) = false := decide_eq_false (by omega)
  have b2 : decide (24 < l.length) = false := decide_eq_false hl
  have HCP := Aside0.mk (fun W (hb : Below w.heap.size w W) => cp36.known p A c l W (Kd.C_below hr hb) hc (by omega))
  obtain ⟨⟨f, e⟩, hm⟩ : ∃ r, misR p l = r := ⟨_, rfl⟩
  have HM := Aside0.mk (fun (W : World) (A' : Option Addr) (c' : Nat) (hr : Kd.C k28 W A' l.length l) (hc : l.length ≤ c') => column_Missing.known p A' c' l W hr hc hm)
  by_cases he : e = 0
  case neg =>
    have hf := misR_err hm he
    subst hf
    have b3 : (e != 0) = true := bne_iff_ne.mpr he
    simp only [fl0] at HM
    clear hr hc hl hm he
    go_enter Try.func7, Try.ntmps7
    go_wp2_with (first | ((with_reducible refine gate_dst (N := 1) rfl ?_); refine box_event ?hg (N := 1) ?hd (cs := #[.int .i64 p, .slice A l.length c]) (t := 24) ?hr ?_; (case hd => rfl); (case hg => rfl); (case hr => first | (go_simp; done) | (go_simp; rfl)); intro gb hg w3 hbox hb; have c0 : w3.cell? ⟨gb, 0, none⟩ = some (.int .i64 p) := blk_cell hbox 0; have c1 : w3.cell? ⟨gb, 1, none⟩ = some (.slice A l.length c) := blk_cell hbox 1; have HB := Aside0.mk hb; have BK := Aside0.mk hbox; clear hbox hb hg))
    refine (HA.out _).mono ?_
    rintro e w4 ⟨rfl, hb⟩
    replace HB := Aside0.mk (below_step HB.out hb)
    replace BK := Aside0.mk (blk_below BK.out hb)
    replace c0 := pw_cell_below hb c0
    replace c1 := pw_cell_below hb c1
    clear hb
    clear HA
    go_wp2_with fail
    refine (HCP.out _ HB.out).mono ?_
    rintro e' w7 ⟨A1, k1, rfl, hk1, hr1, hb⟩
    replace HB := Aside0.mk (below_step HB.out hb)
    replace BK := Aside0.mk (blk_below BK.out hb)
    replace c0 := pw_cell_below hb c0
    replace c1 := pw_cell_below hb c1
    clear hb
    go_wp2_with fail
    refine (HM.out _ _ _ hr1 hk1).mono ?_
    rintro e' w8 ⟨rfl, hb⟩
    replace HB := Aside0.mk (below_step HB.out hb)
    replace BK := Aside0.mk (blk_below BK.out hb)
    replace c0 := pw_cell_below hb c0
    replace c1 := pw_cell_below hb c1
    clear hb
    clear hr1 hk1 HM
    go_wp2_with (first | ((with_reducible refine gate_dst (N := 3) rfl ?_); refine box_event ?hg (N := 3) ?hd (cs := #[.int .i64 0, .int .i64 0, .int .i64 0, .int .i64 0]) (t := 28) ?hr ?_; (case hd => rfl); (case hg => rfl); (case hr => first | (go_simp; done) | (go_simp; rfl)); intro g3 hg w5 hbox hb5; have hc0 : w5.cell? ⟨g3, 0, none⟩ = some (.int .i64 0) := blk_cell hbox 0; have hf0 := blk_frozen hbox 0; have hc1 : w5.cell? ⟨g3, 1, none⟩ = some (.int .i64 0) := blk_cell hbox 1; have hf1 := blk_frozen hbox 1; have hc2 : w5.cell? ⟨g3, 2, none⟩ = some (.int .i64 0) := blk_cell hbox 2; have hf2 := blk_frozen hbox 2; have hc3 : w5.cell? ⟨g3, 3, none⟩ = some (.int .i64 0) := blk_cell hbox 3; have hf3 := blk_frozen hbox 3; replace hbox := Aside0.mk hbox; replace hb5 := Aside0.mk hb5; replace hg := Aside0.mk hg) | ((with_reducible refine gate_store (t := 28) (p := 3) rfl ?_); refine store_event (t := 28) (p := 3) (v := .tmp 24) (w1 := ((((w5.setCell ⟨g3, 0, none⟩ (.int .i64 0)).setCell ⟨g3, 1, none⟩ (.int .i64 0)).setCell ⟨g3, 2, none⟩ (.int .i64 0)).setCell ⟨g3, 3, none⟩ (.int .i64 0))) ?hg ?ho ?hn ?hr ?_; (case ho => rfl); (case hg => rfl); (case hn => rfl); (case hr => first | (go_simp; done) | (go_simp; rfl)); intro w6 hw6; clear hc0 hf0 hc1 hf1 hc2 hf2 hc3 hf3; have hbx := box4_ (x := .int .i64 0) (y := .int .i64 0) (z := .int .i64 0) (u := .int .i64 0) hb5.out hg.out hbox.out; rw [← hw6] at hbx; clear hw6 hb5 hg hbox; obtain ⟨hb, hk6⟩ := hbx; have K3 := Aside0.mk hk6; replace HB := Aside0.mk (below_step HB.out hb); replace BK := Aside0.mk (blk_below BK.out hb); replace c0 := pw_cell_below hb c0; replace c1 := pw_cell_below hb c1; have x0 : w6.cell? ⟨g3, 0, none⟩ = some (.int .i64 0) := blk_cell K3.out 0; have x1 : w6.cell? ⟨g3, 1, none⟩ = some (.int .i64 0) := blk_cell K3.out 1; have x2 : w6.cell? ⟨g3, 2, none⟩ = some (.int .i64 0) := blk_cell K3.out 2; have x3 : w6.cell? ⟨g3, 3, none⟩ = some (.int .i64 0) := blk_cell K3.out 3; clear hb hk6))
    go_ret
    exact ⟨by first | rfl | simp, HB.out⟩
  subst he
  obtain ⟨hrt, m1, m2, m3, m4, m5, m6⟩ := misR_ok hm
  have RC := rt36_iff.1 hrt
  obtain ⟨B, hB⟩ : ∃ B, B = balL l := ⟨_, rfl⟩
  obtain ⟨O, hO⟩ : ∃ O, O = openS B := ⟨_, rfl⟩
  rw [← hB] at m4 m5 m6
  rw [← hO] at m4 m5 m6
  have e2 : opR p l = (O, 0) := by unfold opR; rw [hrt, hO, hB]; rfl
  have hin : ∀ q ∈ O, 1 ≤ q ∧ q ≤ p := fun q hq => by
    rw [hO] at hq
    have h16 := openS_mem hq
    refine ⟨h16.1, ?_⟩
    rcases Int.lt_or_le p q with h | h
    · have := (openS_iff h16.1 h16.2).1 hq
      rw [hB, balL_far RC (by omega)] at this
      exact absurd rfl this
    · exact h
  have e3 : ∀ q ∈ O, blR p l q = ((B q.toNat).1, (B q.toNat).2, 0) := fun q hq => by have := hin q hq; unfold blR; rw [hrt, if_pos rfl, if_neg (by omega), hB]
  have HO := Aside0.mk (fun (W : World) (A' : Option Addr) (c' : Nat) (hr : Kd.C k28 W A' l.length l) (hc : l.length ≤ c') => column_Open.known p A' c' l W hr hc e2)
  have HBL := Aside0.mk (fun (q : Int) (hq : q ∈ O) (W : World) (A' : Option Addr) (c' : Nat) (hr : Kd.C k28 W A' l.length l) (hc : l.length ≤ c') => column_Balance.known p A' c' l q W hr hc (e3 q hq))
  have HBN := Aside0.mk (show BndB B 8246337208320000 by rw [hB]; exact RC.bnd)
  have HOL := Aside0.mk (show O.length ≤ 17 by rw [hO]; exact openTo_length B 17)
  obtain ⟨f0, f1, f2, f3⟩ := f
  simp only at m1 m2 m3 m4 m5 m6 HM
  have HM6 := Aside0.mk m6
  have HM4 := Aside0.mk m4
  have HM5 := Aside0.mk m5
  have b3 : decide (f3 < 1) = false := decide_eq_false (by omega)
  have b4 : decide (f2 < 0) = false := decide_eq_false (by omega)
  have b5 : (f0 == f1) = false := beq_eq_false_iff_ne.mpr m3
  clear hr hc hl hm hrt m1 m2 m3 m4 m5 m6 RC hB hO e2 e3 hin
  go_enter Try.func7, Try.ntmps7
  go_wp2_with (first | ((with_reducible refine gate_dst (N := 1) rfl ?_); refine box_event ?hg (N := 1) ?hd (cs := #[.int .i64 p, .slice A l.length c]) (t := 24) ?hr ?_; (case hd => rfl); (case hg => rfl); (case hr => first | (go_simp; done) | (go_simp; rfl)); intro gb hg w3 hbox hb; have c0 : w3.cell? ⟨gb, 0, none⟩ = some (.int .i64 p) := blk_cell hbox 0; have c1 : w3.cell? ⟨gb, 1, none⟩ = some (.slice A l.length c) := blk_cell hbox 1; have HB := Aside0.mk hb; have BK := Aside0.mk hbox; clear hbox hb hg))
  refine (HA.out _).mono ?_
  rintro e w4 ⟨rfl, hb⟩
  replace HB := Aside0.mk (below_step HB.out hb)
  replace BK := Aside0.mk (blk_below BK.out hb)
  replace c0 := pw_cell_below hb c0
  replace c1 := pw_cell_below hb c1
  clear hb
  clear HA
  go_wp2_with fail
  refine (HCP.out _ HB.out).mono ?_
  rintro e' w7 ⟨A1, k1, rfl, hk1, hr1, hb⟩
  replace HB := Aside0.mk (below_step HB.out hb)
  replace BK := Aside0.mk (blk_below BK.out hb)
  replace c0 := pw_cell_below hb c0
  replace c1 := pw_cell_below hb c1
  clear hb
  go_wp2_with fail
  refine (HM.out _ _ _ hr1 hk1).mono ?_
  rintro e' w8 ⟨rfl, hb⟩
  replace HB := Aside0.mk (below_step HB.out hb)
  replace BK := Aside0.mk (blk_below BK.out hb)
  replace c0 := pw_cell_below hb c0
  replace c1 := pw_cell_below hb c1
  clear hb
  clear hr1 hk1 HM
  go_wp2_with (first | ((with_reducible refine gate_dst (N := 3) rfl ?_); refine box_event ?hg (N := 3) ?hd (cs := #[.int .i64 0, .int .i64 0, .int .i64 0, .int .i64 0]) (t := 28) ?hr ?_; (case hd => rfl); (case hg => rfl); (case hr => first | (go_simp; done) | (go_simp; rfl)); intro g3 hg w5 hbox hb5; have hc0 : w5.cell? ⟨g3, 0, none⟩ = some (.int .i64 0) := blk_cell hbox 0; have hf0 := blk_frozen hbox 0; have hc1 : w5.cell? ⟨g3, 1, none⟩ = some (.int .i64 0) := blk_cell hbox 1; have hf1 := blk_frozen hbox 1; have hc2 : w5.cell? ⟨g3, 2, none⟩ = some (.int .i64 0) := blk_cell hbox 2; have hf2 := blk_frozen hbox 2; have hc3 : w5.cell? ⟨g3, 3, none⟩ = some (.int .i64 0) := blk_cell hbox 3; have hf3 := blk_frozen hbox 3; replace hbox := Aside0.mk hbox; replace hb5 := Aside0.mk hb5; replace hg := Aside0.mk hg) | ((with_reducible refine gate_store (t := 28) (p := 3) rfl ?_); refine store_event (t := 28) (p := 3) (v := .tmp 24) (w1 := ((((w5.setCell ⟨g3, 0, none⟩ (.int .i64 f0)).setCell ⟨g3, 1, none⟩ (.int .i64 f1)).setCell ⟨g3, 2, none⟩ (.int .i64 f2)).setCell ⟨g3, 3, none⟩ (.int .i64 f3))) ?hg ?ho ?hn ?hr ?_; (case ho => rfl); (case hg => rfl); (case hn => rfl); (case hr => first | (go_simp; done) | (go_simp; rfl)); intro w6 hw6; clear hc0 hf0 hc1 hf1 hc2 hf2 hc3 hf3; have hbx := box4_ (x := .int .i64 f0) (y := .int .i64 f1) (z := .int .i64 f2) (u := .int .i64 f3) hb5.out hg.out hbox.out; rw [← hw6] at hbx; clear hw6 hb5 hg hbox; obtain ⟨hb, hk6⟩ := hbx; have K3 := Aside0.mk hk6; replace HB := Aside0.mk (below_step HB.out hb); replace BK := Aside0.mk (blk_below BK.out hb); replace c0 := pw_cell_below hb c0; replace c1 := pw_cell_below hb c1; have x0 : w6.cell? ⟨g3, 0, none⟩ = some (.int .i64 f0) := blk_cell K3.out 0; have x1 : w6.cell? ⟨g3, 1, none⟩ = some (.int .i64 f1) := blk_cell K3.out 1; have x2 : w6.cell? ⟨g3, 2, none⟩ = some (.int .i64 f2) := blk_cell K3.out 2; have x3 : w6.cell? ⟨g3, 3, none⟩ = some (.int .i64 f3) := blk_cell K3.out 3; clear hb hk6))
  refine (HCP.out _ HB.out).mono ?_
  rintro e' w9 ⟨A1, k1, rfl, hk1, hr1, hb⟩
  replace HB := Aside0.mk (below_step HB.out hb)
  replace BK := Aside0.mk (blk_below BK.out hb)
  replace c0 := pw_cell_below hb c0
  replace c1 := pw_cell_below hb c1
  replace x0 := pw_cell_below hb x0
  replace x1 := pw_cell_below hb x1
  replace x2 := pw_cell_below hb x2
  replace x3 := pw_cell_below hb x3
  replace K3 := Aside0.mk (blk_below K3.out hb)
  clear hb
  go_wp2_with fail
  refine (HO.out _ _ _ hr1 hk1).mono ?_
  rintro e' w10 ⟨AO, cO, rfl, hcO, hrO, hb⟩
  replace HB := Aside0.mk (below_step HB.out hb)
  replace BK := Aside0.mk (blk_below BK.out hb)
  replace c0 := pw_cell_below hb c0
  replace c1 := pw_cell_below hb c1
  replace x0 := pw_cell_below hb x0
  replace x1 := pw_cell_below hb x1
  replace x2 := pw_cell_below hb x2
  replace x3 := pw_cell_below hb x3
  replace K3 := Aside0.mk (blk_below K3.out hb)
  clear hb
  clear hr1 hk1 HO
  have HCO := Aside0.mk (⟨hrO, hcO⟩ : _ ∧ _)
  clear hrO hcO
  go_wp2
  have hbl : Below w10.heap.size w10 (w10.alloc (.cells #[.int .i64 f0, .int .i64 f1] 3)) := below_alloc (Below.refl _ _) _
  have HL := Aside0.mk (blk_new w10 (.cells #[.int .i64 f0, .int .i64 f1] 3))
  generalize hgl : w10.heap.size = gl at *
  have HB2 := Aside0.mk (below_step HB.out (by rw [hgl]; exact hbl))
  have BK2 := Aside0.mk (blk_alloc BK.out (.cells #[.int .i64 f0, .int .i64 f1] 3))
  have K32 := Aside0.mk (blk_alloc K3.out (.cells #[.int .i64 f0, .int .i64 f1] 3))
  have HC2 := Aside0.mk (⟨Kd.C_alloc HCO.out.1 (.cells #[.int .i64 f0, .int .i64 f1] 3), HCO.out.2⟩ : _ ∧ _)
  generalize w10.alloc (.cells #[.int .i64 f0, .int .i64 f1] 3) = w11 at *
  clear hbl hgl BK K3 HCO HB c0 c1 x0 x1 x2 x3
  go_loopg [62] 3 (fun g s62 wr => ∃ x : Int, s62 = .int .i64 x ∧ Aside0 (0 ≤ x ∧ x ≤ 2 ∧ 3 - x.toNat ≤ g) ∧ Aside0 (wr.heap[gl]? = some (.cells #[.int .i64 f0, .int .i64 f1] 3 (0, 0))) ∧ Aside0 (wr.heap[gb]? = some (.cells #[.int .i64 p, .slice A l.length c] 24 (0, 0))) ∧ Aside0 (wr.heap[g3]? = some (.cells #[.int .i64 f0, .int .i64 f1, .int .i64 f2, .int .i64 f3] 28 (0, 0))) ∧ Aside0 (Kd.C (Kd.int .i64) wr AO O.length O ∧ O.length ≤ cO) ∧ Aside0 (Below w.heap.size w wr))
  case atStart => exact ⟨0, rfl, ⟨by omega, by omega, by omega⟩, HL, BK2, K32, HC2, HB2⟩
  case round =>
    clear HL BK2 K32 HC2 HB2
    obtain ⟨x, rfl, HX, HL, BK, K3, HCO, HB⟩ := hrel
    have y0 : wr.cell? ⟨gl, 0, none⟩ = some (.int .i64 f0) := blk_cell HL.out 0
    have y1 : wr.cell? ⟨gl, 1, none⟩ = some (.int .i64 f1) := blk_cell HL.out 1
    rcases (show x = 0 ∨ x = 1 ∨ x = 2 by have := HX.out; omega) with rfl | rfl | rfl
    · by_cases hz : f0 = 0
      case pos =>
        have z1 : (f0 != 0) = false := by rw [hz]; rfl
        clear hz
        go_wp2
        go_roundg (3 - (1 : Int).toNat)
        case measure => have := HX.out; omega
        case rel => exact ⟨1, by first | rfl | (rw [i64_w]; rfl), ⟨by omega, by omega, Nat.le_refl _⟩, HL, BK, K3, HCO, HB⟩
      have z1 : (f0 != 0) = true := bne_iff_ne.mpr hz
      have HIN := Aside0.mk (HM4.out hz)
      have hct := contains_int.known O f0 AO cO wr HCO.out.1 HCO.out.2 (by have := HOL.out; omega)
      rw [decide_eq_true HIN.out] at hct
      have HCT := Aside0.mk hct
      clear hz hct
      go_wp2_with (go_at_call 27; refine HCT.out.mono ?_; rintro e' w12 ⟨rfl, hb⟩; replace HL := Aside0.mk (blk_below HL.out hb); replace HB := Aside0.mk (below_step HB.out hb); replace BK := Aside0.mk (blk_below BK.out hb); replace K3 := Aside0.mk (blk_below K3.out hb); replace HCO := Aside0.mk (⟨Kd.C_below HCO.out.1 hb, HCO.out.2⟩ : _ ∧ _); clear hb HCT y0 y1)
      go_roundg (3 - (1 : Int).toNat)
      case measure => have := HX.out; omega
      case rel => exact ⟨1, by first | rfl | (rw [i64_w]; rfl), ⟨by omega, by omega, Nat.le_refl _⟩, HL, BK, K3, HCO, HB⟩
    · by_cases hz : f1 = 0
      case pos =>
        have z1 : (f1 != 0) = false := by rw [hz]; rfl
        clear hz
        go_wp2
        go_roundg (3 - (2 : Int).toNat)
        case measure => have := HX.out; omega
        case rel => exact ⟨2, by first | rfl | (rw [i64_w]; rfl), ⟨by omega, by omega, Nat.le_refl _⟩, HL, BK, K3, HCO, HB⟩
      have z1 : (f1 != 0) = true := bne_iff_ne.mpr hz
      have HIN := Aside0.mk (HM5.out hz)
      have hct := contains_int.known O f1 AO cO wr HCO.out.1 HCO.out.2 (by have := HOL.out; omega)
      rw [decide_eq_true HIN.out] at hct
      have HCT := Aside0.mk hct
      clear hz hct
      go_wp2_with (go_at_call 27; refine HCT.out.mono ?_; rintro e' w12 ⟨rfl, hb⟩; replace HL := Aside0.mk (blk_below HL.out hb); replace HB := Aside0.mk (below_step HB.out hb); replace BK := Aside0.mk (blk_below BK.out hb); replace K3 := Aside0.mk (blk_below K3.out hb); replace HCO := Aside0.mk (⟨Kd.C_below HCO.out.1 hb, HCO.out.2⟩ : _ ∧ _); clear hb HCT y0 y1)
      go_roundg (3 - (2 : Int).toNat)
      case measure => have := HX.out; omega
      case rel => exact ⟨2, by first | rfl | (rw [i64_w]; rfl), ⟨by omega, by omega, Nat.le_refl _⟩, HL, BK, K3, HCO, HB⟩
    clear HX HL y0 y1 HM4 HM5
    go_wp2
    go_loopg [77] (O.length + 1) (fun g s77 w2 => ∃ x : Int, s77 = .int .i64 x ∧ Aside0 (0 ≤ x ∧ x ≤ O.length ∧ O.length + 1 - x.toNat ≤ g) ∧ Aside0 (w2.heap[gb]? = some (.cells #[.int .i64 p, .slice A l.length c] 24 (0, 0))) ∧ Aside0 (w2.heap[g3]? = some (.cells #[.int .i64 f0, .int .i64 f1, .int .i64 f2, .int .i64 f3] 28 (0, 0))) ∧ Aside0 (Kd.C (Kd.int .i64) w2 AO O.length O ∧ O.length ≤ cO) ∧ Aside0 (Below w.heap.size w w2))
    case atStart => exact ⟨0, rfl, ⟨by omega, by omega, by omega⟩, BK, K3, HCO, HB⟩
    case round =>
      clear BK K3 HCO HB
      obtain ⟨x, rfl, HX, BK, K3, HCO, HB⟩ := hrel
      rename World => w2
      have hx0 := HX.out.1
      by_cases hlt : x < (O.length : Int)
      case neg =>
        have hltb : decide (x < (O.length : Int)) = false := decide_eq_false hlt
        clear hlt hx0
        go_wp2
        go_ret
        exact ⟨rfl, HB.out⟩
      have hltb : decide (x < (O.length : Int)) = true := decide_eq_true hlt
      obtain ⟨ad, e, hq⟩ := Kd.at_int HCO.out.1 x hx0 hlt
      cases e
      have hmem : rd O x ∈ O := by
        unfold rd
        rw [List.getD_eq_getElem?_getD, List.getElem?_eq_getElem (by omega)]
        exact List.getElem_mem (by omega)
      have HBQ := Aside0.mk (HBL.out _ hmem)
      have h6 := HM6.out _ hmem
      have hbn := HBN.out (rd O x).toNat
      have c0 : w2.cell? ⟨gb, 0, none⟩ = some (.int .i64 p) := blk_cell BK.out 0
      have c1 : w2.cell? ⟨gb, 1, none⟩ = some (.slice A l.length c) := blk_cell BK.out 1
      have hw' : wrap64 (x + 1) = x + 1 := w64_ (by omega) (by have := HOL.out; omega)
      have hw : IntKind.i64.wrap (x + 1) = x + 1 := by rw [i64_w]; exact hw'
      have p1 : (0 ≤ x) = True := eq_true hx0
      have p2 : (x < (O.length : Int)) = True := eq_true hlt
      have HLT := Aside0.mk hlt
      have HX0 := Aside0.mk hx0
      generalize rd O x = q at *
      obtain ⟨⟨y, z⟩, hyz⟩ : ∃ r, r = B q.toNat := ⟨_, rfl⟩
      rw [← hyz] at HBQ h6 hbn
      simp only at HBQ h6 hbn
      have HQ := Aside0.mk hq
      clear hlt hx0 hmem hyz
      have hcall := HCP.out w2 HB.out
      by_cases q1 : q = f1
      · have r1 : (q == f1) = true := beq_iff_eq.mpr q1
        have r0 : (q == f0) = false := by have hb5 := b5; rw [q1]; exact beq_eq_false_iff_ne.mpr (fun h => (beq_eq_false_iff_ne.1 hb5) h.symm)
        rw [if_pos q1, if_pos q1] at h6
        have q0 : ¬ q = f0 := beq_eq_false_iff_ne.1 r0
        rw [if_neg q0, if_neg q0] at h6
        have v1 : IntKind.i64.wrap (y + f2) = 0 := by rw [show y + f2 = 0 by omega]; rfl
        have v2 : IntKind.i64.wrap (z + f3) = 0 := by rw [show z + f3 = 0 by omega]; rfl
        clear q1 q0 h6 hbn hq
        have hq := HQ.out
        go_wp2_with fail
        refine hcall.mono ?_
        rintro e' w19 ⟨A1, k1, rfl, hk1, hr1, hb⟩
        replace HB := Aside0.mk (below_step HB.out hb)
        replace BK := Aside0.mk (blk_below BK.out hb)
        replace K3 := Aside0.mk (blk_below K3.out hb)
        replace HCO := Aside0.mk (⟨Kd.C_below HCO.out.1 hb, HCO.out.2⟩ : _ ∧ _)
        clear hb c0 c1 hcall hq
        go_wp2_with fail
        refine (HBQ.out _ _ _ hr1 hk1).mono ?_
        rintro e' w20 ⟨rfl, hb⟩
        replace HB := Aside0.mk (below_step HB.out hb)
        replace BK := Aside0.mk (blk_below BK.out hb)
        replace K3 := Aside0.mk (blk_below K3.out hb)
        replace HCO := Aside0.mk (⟨Kd.C_below HCO.out.1 hb, HCO.out.2⟩ : _ ∧ _)
        clear hb hr1 hk1 HBQ
        have x0 : w20.cell? ⟨g3, 0, none⟩ = some (.int .i64 f0) := blk_cell K3.out 0
        have x1 : w20.cell? ⟨g3, 1, none⟩ = some (.int .i64 f1) := blk_cell K3.out 1
        have x2 : w20.cell? ⟨g3, 2, none⟩ = some (.int .i64 f2) := blk_cell K3.out 2
        have x3 : w20.cell? ⟨g3, 3, none⟩ = some (.int .i64 f3) := blk_cell K3.out 3
        go_wp2_with fail
        go_cut [11, 12] (fun v11 v12 w3 => v11 = .int .i64 0 ∧ v12 = .int .i64 0 ∧ Aside0 (w3 = w20.drew))
        case first =>
          go_region
          all_goals go_wp2
          all_goals go_meet
          all_goals exact ⟨rfl, rfl, ⟨rfl⟩⟩
        obtain ⟨rfl, rfl, HW⟩ := hcut
        have hW := HW.out
        subst hW
        replace x0 : w20.drew.cell? ⟨g3, 0, none⟩ = some (.int .i64 f0) := x0
        replace BK := Aside0.mk (blk_drew BK.out)
        replace K3 := Aside0.mk (blk_drew K3.out)
        replace HCO := Aside0.mk (⟨Kd.C_drew HCO.out.1, HCO.out.2⟩ : _ ∧ _)
        replace HB := Aside0.mk (below_drew1 HB.out)
        clear HW x1 x2 x3
        go_wp2
        go_roundg (O.length + 1 - (x + 1).toNat)
        case measure => have := HX.out; have := HLT.out; omega
        case rel => exact ⟨x + 1, by first | rfl | rw [hw'] | rw [hw], ⟨by have := HX0.out; omega, by have := HLT.out; omega, Nat.le_refl _⟩, BK, K3, HCO, HB⟩
      by_cases q0 : q = f0
      · have r1 : (q == f1) = false := beq_eq_false_iff_ne.mpr q1
        have r0 : (q == f0) = true := beq_iff_eq.mpr q0
        rw [if_neg q1, if_neg q1, if_pos q0, if_pos q0] at h6
        have v1 : IntKind.i64.wrap (y - f2) = 0 := by rw [show y - f2 = 0 by omega]; rfl
        have v2 : IntKind.i64.wrap (z - f3) = 0 := by rw [show z - f3 = 0 by omega]; rfl
        clear q1 q0 h6 hbn hq
        have hq := HQ.out
        go_wp2_with fail
        refine hcall.mono ?_
        rintro e' w19 ⟨A1, k1, rfl, hk1, hr1, hb⟩
        replace HB := Aside0.mk (below_step HB.out hb)
        replace BK := Aside0.mk (blk_below BK.out hb)
        replace K3 := Aside0.mk (blk_below K3.out hb)
        replace HCO := Aside0.mk (⟨Kd.C_below HCO.out.1 hb, HCO.out.2⟩ : _ ∧ _)
        clear hb c0 c1 hcall hq
        go_wp2_with fail
        refine (HBQ.out _ _ _ hr1 hk1).mono ?_
        rintro e' w20 ⟨rfl, hb⟩
        replace HB := Aside0.mk (below_step HB.out hb)
        replace BK := Aside0.mk (blk_below BK.out hb)
        replace K3 := Aside0.mk (blk_below K3.out hb)
        replace HCO := Aside0.mk (⟨Kd.C_below HCO.out.1 hb, HCO.out.2⟩ : _ ∧ _)
        clear hb hr1 hk1 HBQ
        have x0 : w20.cell? ⟨g3, 0, none⟩ = some (.int .i64 f0) := blk_cell K3.out 0
        have x1 : w20.cell? ⟨g3, 1, none⟩ = some (.int .i64 f1) := blk_cell K3.out 1
        have x2 : w20.cell? ⟨g3, 2, none⟩ = some (.int .i64 f2) := blk_cell K3.out 2
        have x3 : w20.cell? ⟨g3, 3, none⟩ = some (.int .i64 f3) := blk_cell K3.out 3
        go_wp2_with fail
        go_cut [11, 12] (fun v11 v12 w3 => v11 = .int .i64 0 ∧ v12 = .int .i64 0 ∧ Aside0 (w3 = w20.drew))
        case first =>
          go_region
          all_goals go_wp2
          all_goals go_meet
          all_goals exact ⟨rfl, rfl, ⟨rfl⟩⟩
        obtain ⟨rfl, rfl, HW⟩ := hcut
        have hW := HW.out
        subst hW
        replace BK := Aside0.mk (blk_drew BK.out)
        replace K3 := Aside0.mk (blk_drew K3.out)
        replace HCO := Aside0.mk (⟨Kd.C_drew HCO.out.1, HCO.out.2⟩ : _ ∧ _)
        replace HB := Aside0.mk (below_drew1 HB.out)
        clear HW x0 x1 x2 x3
        go_wp2
        go_roundg (O.length + 1 - (x + 1).toNat)
        case measure => have := HX.out; have := HLT.out; omega
        case rel => exact ⟨x + 1, by first | rfl | rw [hw'] | rw [hw], ⟨by have := HX0.out; omega, by have := HLT.out; omega, Nat.le_refl _⟩, BK, K3, HCO, HB⟩
      have r1 : (q == f1) = false := beq_eq_false_iff_ne.mpr q1
      have r0 : (q == f0) = false := beq_eq_false_iff_ne.mpr q0
      rw [if_neg q1, if_neg q1, if_neg q0, if_neg q0] at h6
      have v1 : (y != 0) = false := by rw [show y = 0 by omega]; rfl
      have v2 : (z != 0) = false := by rw [show z = 0 by omega]; rfl
      clear q1 q0 h6 hbn hq
      have hq := HQ.out
      go_wp2_with fail
      refine hcall.mono ?_
      rintro e' w19 ⟨A1, k1, rfl, hk1, hr1, hb⟩
      replace HB := Aside0.mk (below_step HB.out hb)
      replace BK := Aside0.mk (blk_below BK.out hb)
      replace K3 := Aside0.mk (blk_below K3.out hb)
      replace HCO := Aside0.mk (⟨Kd.C_below HCO.out.1 hb, HCO.out.2⟩ : _ ∧ _)
      clear hb c0 c1 hcall hq
      go_wp2_with fail
      refine (HBQ.out _ _ _ hr1 hk1).mono ?_
      rintro e' w20 ⟨rfl, hb⟩
      replace HB := Aside0.mk (below_step HB.out hb)
      replace BK := Aside0.mk (blk_below BK.out hb)
      replace K3 := Aside0.mk (blk_below K3.out hb)
      replace HCO := Aside0.mk (⟨Kd.C_below HCO.out.1 hb, HCO.out.2⟩ : _ ∧ _)
      clear hb hr1 hk1 HBQ
      have x0 : w20.cell? ⟨g3, 0, none⟩ = some (.int .i64 f0) := blk_cell K3.out 0
      have x1 : w20.cell? ⟨g3, 1, none⟩ = some (.int .i64 f1) := blk_cell K3.out 1
      have x2 : w20.cell? ⟨g3, 2, none⟩ = some (.int .i64 f2) := blk_cell K3.out 2
      have x3 : w20.cell? ⟨g3, 3, none⟩ = some (.int .i64 f3) := blk_cell K3.out 3
      go_wp2
      go_roundg (O.length + 1 - (x + 1).toNat)
      case measure => have := HX.out; have := HLT.out; omega
      case rel => exact ⟨x + 1, by first | rfl | rw [hw'] | rw [hw], ⟨by have := HX0.out; omega, by have := HLT.out; omega, Nat.le_refl _⟩, BK, K3, HCO, HB⟩
theorem spilelaw36_ColumnClosed.calls (a0_0 : Int) (A0_1 : Option Addr) (c0_1 : Nat) (l0_1 : List S28) (r : Bool) (w : World) (hr0_1 : Kd.C k28 w A0_1 l0_1.length l0_1) (hc0_1 : l0_1.length ≤ c0_1) (h : spilelaw36_ColumnClosed.f a0_0 l0_1 = some r) :
    Calls Try.prog 7 #[.agg #[.int .i64 a0_0, .slice A0_1 l0_1.length c0_1]] w fun e w' => e = .returned (.bool r) ∧ Below w.heap.size w w' := by
  obtain rfl := Option.some.inj h
  exact ColumnClosed.walk a0_0 A0_1 c0_1 l0_1 w hr0_1 hc0_1

end Go.Proofs.Ytodfjkdgfjkifaa.PF
