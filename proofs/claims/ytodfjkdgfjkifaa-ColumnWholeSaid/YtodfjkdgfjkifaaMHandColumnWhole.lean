/- The walk through the law ColumnWhole of package spilelaw36. -/
import Derived.Test.YtodfjkdgfjkifaaMAwk36
import Derived.Test.YtodfjkdgfjkifaaMBal36
import Derived.Test.YtodfjkdgfjkifaaMCol36
import Derived.Test.YtodfjkdgfjkifaaMCom36
import Derived.Test.YtodfjkdgfjkifaaMOpn36
import Derived.Test.YtodfjkdgfjkifaaPF0
import Derived.Test.YtodfjkdgfjkifaaPF1
namespace Go.Proofs.Ytodfjkdgfjkifaa.PF
open Go.RowKit Go.Proofs.YtodfjkdgfjkifaaW.PrintWords Go.Proofs.YtodfjkdgfjkifaaW.PrintLast Go.Proofs.YtodfjkdgfjkifaaW.PrintMore
set_option linter.unusedVariables false
set_option linter.unusedSimpArgs false
def spilelaw36_ColumnWhole.f (a0_0 : Int) (l0_1 : List S28) : Option Bool := some true
set_option maxHeartbeats 4000000 in
set_option maxRecDepth 100000 in
theorem ColumnWhole.walk (p : Int) (A : Option Addr) (c : Nat) (l : List S28) (w : World) (hr : Kd.C k28 w A l.length l) (hc : l.length ≤ c) :
    Calls Try.prog 9 #[.agg #[.int .i64 p, .slice A l.length c]] w fun e w' => e = .returned (.bool true) ∧ Below w.heap.size w w' := by
  have hu1 := Try.underlying24
  have HA := Aside0.mk (fun W => awake36.known W)
  by_cases hl : 24 < l.length
  · have b1 : decide (24 < (l.length : Int)) = true := decide_eq_true (by omega)
    have b2 : decide (24 < l.length) = true := decide_eq_true hl
    clear hr hc hl
    go_enter Try.func9, Try.ntmps9
    go_wp2_with (first | ((with_reducible refine gate_dst (N := 1) rfl ?_); refine box_event ?hg (N := 1) ?hd (cs := #[.int .i64 p, .slice A l.length c]) (t := 24) ?hr ?_; (case hd => rfl); (case hg => rfl); (case hr => first | (go_simp; done) | (go_simp; rfl)); intro gb hg w3 hbox hb; have c0 : w3.cell? ⟨gb, 0, none⟩ = some (.int .i64 p) := blk_cell hbox 0; have c1 : w3.cell? ⟨gb, 1, none⟩ = some (.slice A l.length c) := blk_cell hbox 1; have HB := Aside0.mk hb; have BK := Aside0.mk hbox; clear hbox hb hg))
    refine (HA.out _).mono ?_
    rintro e w4 ⟨rfl, hb⟩
    replace HB := Aside0.mk (below_step HB.out hb); replace BK := Aside0.mk (blk_below BK.out hb); replace c0 := pw_cell_below hb c0; replace c1 := pw_cell_below hb c1
    clear hb HA
    go_wp2
    go_ret
    exact ⟨rfl, HB.out⟩
  have b1 : decide (24 < (l.length : Int)) = false := decide_eq_false (by omega)
  have b2 : decide (24 < l.length) = false := decide_eq_false hl
  have HCP := Aside0.mk (fun W (hb : Below w.heap.size w W) => cp36.known p A c l W (Kd.C_below hr hb) hc (by omega))
  cases hrt : rt36 p l
  · have e1 : whR p l = (0, 0, 1) := by unfold whR; rw [hrt]; rfl
    have e2 : opR p l = ([], 1) := by unfold opR; rw [hrt]; rfl
    have HW := Aside0.mk (fun (W : World) (A' : Option Addr) (c' : Nat) (hr : Kd.C k28 W A' l.length l) (hc : l.length ≤ c') => column_Whole.known p A' c' l W hr hc e1)
    have HO := Aside0.mk (fun (W : World) (A' : Option Addr) (c' : Nat) (hr : Kd.C k28 W A' l.length l) (hc : l.length ≤ c') => column_Open.known p A' c' l W hr hc e2)
    clear hr hc hl hrt e1 e2
    go_enter Try.func9, Try.ntmps9
    go_wp2_with (first | ((with_reducible refine gate_dst (N := 1) rfl ?_); refine box_event ?hg (N := 1) ?hd (cs := #[.int .i64 p, .slice A l.length c]) (t := 24) ?hr ?_; (case hd => rfl); (case hg => rfl); (case hr => first | (go_simp; done) | (go_simp; rfl)); intro gb hg w3 hbox hb; have c0 : w3.cell? ⟨gb, 0, none⟩ = some (.int .i64 p) := blk_cell hbox 0; have c1 : w3.cell? ⟨gb, 1, none⟩ = some (.slice A l.length c) := blk_cell hbox 1; have HB := Aside0.mk hb; have BK := Aside0.mk hbox; clear hbox hb hg))
    refine (HA.out _).mono ?_
    rintro e w4 ⟨rfl, hb⟩
    replace HB := Aside0.mk (below_step HB.out hb); replace BK := Aside0.mk (blk_below BK.out hb); replace c0 := pw_cell_below hb c0; replace c1 := pw_cell_below hb c1
    clear hb HA
    go_wp2_with fail
    refine (HCP.out _ HB.out).mono ?_
    rintro e w5 ⟨A1, k1, rfl, hk1, hr1, hb⟩
    replace HB := Aside0.mk (below_step HB.out hb); replace BK := Aside0.mk (blk_below BK.out hb); replace c0 := pw_cell_below hb c0; replace c1 := pw_cell_below hb c1
    clear hb
    go_wp2_with fail
    refine (HW.out _ _ _ hr1 hk1).mono ?_
    rintro e w6 ⟨rfl, hb⟩
    replace HB := Aside0.mk (below_step HB.out hb); replace BK := Aside0.mk (blk_below BK.out hb); replace c0 := pw_cell_below hb c0; replace c1 := pw_cell_below hb c1
    clear hb hr1 hk1 HW
    go_wp2_with fail
    refine (HCP.out _ HB.out).mono ?_
    rintro e w7 ⟨A1, k1, rfl, hk1, hr1, hb⟩
    replace HB := Aside0.mk (below_step HB.out hb); replace BK := Aside0.mk (blk_below BK.out hb); replace c0 := pw_cell_below hb c0; replace c1 := pw_cell_below hb c1
    clear hb
    go_wp2_with fail
    refine (HO.out _ _ _ hr1 hk1).mono ?_
    rintro e w8 ⟨AO, cO, rfl, hcO, hrO, hb⟩
    replace HB := Aside0.mk (below_step HB.out hb); replace BK := Aside0.mk (blk_below BK.out hb); replace c0 := pw_cell_below hb c0; replace c1 := pw_cell_below hb c1
    clear hb hr1 hk1 HO hcO hrO HCP
    go_wp2
    go_ret
    exact ⟨by first | rfl | simp, HB.out⟩
  have RC := rt36_iff.1 hrt
  obtain ⟨B, hB⟩ : ∃ B, B = balL l := ⟨_, rfl⟩
  obtain ⟨O, hO⟩ : ∃ O, O = openS B := ⟨_, rfl⟩
  have e1 : whR p l = (-(B 0).1, -(B 0).2, 0) := by unfold whR; rw [hrt, hB]; rfl
  have e2 : opR p l = (O, 0) := by unfold opR; rw [hrt, hO, hB]; rfl
  have e3 : ∀ q, 1 ≤ q → q ≤ p → blR p l q = ((B q.toNat).1, (B q.toNat).2, 0) := fun q h0 h1 => by unfold blR; rw [hrt, if_pos rfl, if_neg (by omega), hB]
  have HW := Aside0.mk (fun (W : World) (A' : Option Addr) (c' : Nat) (hr : Kd.C k28 W A' l.length l) (hc : l.length ≤ c') => column_Whole.known p A' c' l W hr hc e1)
  have HO := Aside0.mk (fun (W : World) (A' : Option Addr) (c' : Nat) (hr : Kd.C k28 W A' l.length l) (hc : l.length ≤ c') => column_Open.known p A' c' l W hr hc e2)
  have HBL := Aside0.mk (fun (q : Int) (h0 : 1 ≤ q) (h1 : q ≤ p) (W : World) (A' : Option Addr) (c' : Nat) (hr : Kd.C k28 W A' l.length l) (hc : l.length ≤ c') => column_Balance.known p A' c' l q W hr hc (e3 q h0 h1))
  have HSUM := Aside0.mk (psA_sum RC)
  have HBN := Aside0.mk RC.bnd
  rw [← hB] at HSUM HBN
  have HP := Aside0.mk (show 1 ≤ p ∧ p ≤ 16 from ⟨RC.1, RC.2.1⟩)
  have b3 : decide (16 < p) = false := decide_eq_false (by have := RC.2.1; omega)
  have HOL := Aside0.mk (show O.length ≤ 17 by rw [hO]; exact openTo_length B 17)
  have HOE := Aside0.mk hO
  clear hr hc hl hrt e1 e2 e3 RC hB hO
  go_enter Try.func9, Try.ntmps9
  go_wp2_with (first | ((with_reducible refine gate_dst (N := 1) rfl ?_); refine box_event ?hg (N := 1) ?hd (cs := #[.int .i64 p, .slice A l.length c]) (t := 24) ?hr ?_; (case hd => rfl); (case hg => rfl); (case hr => first | (go_simp; done) | (go_simp; rfl)); intro gb hg w3 hbox hb; have c0 : w3.cell? ⟨gb, 0, none⟩ = some (.int .i64 p) := blk_cell hbox 0; have c1 : w3.cell? ⟨gb, 1, none⟩ = some (.slice A l.length c) := blk_cell hbox 1; have HB := Aside0.mk hb; have BK := Aside0.mk hbox; clear hbox hb hg))
  refine (HA.out _).mono ?_
  rintro e w4 ⟨rfl, hb⟩
  replace HB := Aside0.mk (below_step HB.out hb); replace BK := Aside0.mk (blk_below BK.out hb); replace c0 := pw_cell_below hb c0; replace c1 := pw_cell_below hb c1
  clear hb HA
  go_wp2_with fail
  refine (HCP.out _ HB.out).mono ?_
  rintro e w5 ⟨A1, k1, rfl, hk1, hr1, hb⟩
  replace HB := Aside0.mk (below_step HB.out hb); replace BK := Aside0.mk (blk_below BK.out hb); replace c0 := pw_cell_below hb c0; replace c1 := pw_cell_below hb c1
  clear hb
  go_wp2_with fail
  refine (HW.out _ _ _ hr1 hk1).mono ?_
  rintro e w6 ⟨rfl, hb⟩
  replace HB := Aside0.mk (below_step HB.out hb); replace BK := Aside0.mk (blk_below BK.out hb); replace c0 := pw_cell_below hb c0; replace c1 := pw_cell_below hb c1
  clear hb hr1 hk1 HW
  go_wp2_with fail
  refine (HCP.out _ HB.out).mono ?_
  rintro e w7 ⟨A1, k1, rfl, hk1, hr1, hb⟩
  replace HB := Aside0.mk (below_step HB.out hb); replace BK := Aside0.mk (blk_below BK.out hb); replace c0 := pw_cell_below hb c0; replace c1 := pw_cell_below hb c1
  clear hb
  go_wp2_with fail
  refine (HO.out _ _ _ hr1 hk1).mono ?_
  rintro e w8 ⟨AO, cO, rfl, hcO, hrO, hb⟩
  replace HB := Aside0.mk (below_step HB.out hb); replace BK := Aside0.mk (blk_below BK.out hb); replace c0 := pw_cell_below hb c0; replace c1 := pw_cell_below hb c1
  clear hb hr1 hk1 HO
  have HCO := Aside0.mk (⟨hrO, hcO⟩ : _ ∧ _)
  clear hrO hcO
  go_wp2
  go_loopg [8, 9, 10] (p.toNat + 1) (fun g s8 s9 s10 wr => ∃ q : Int, s8 = .int .i64 (psA B (q - 1).toNat).1 ∧ s9 = .int .i64 (psA B (q - 1).toNat).2 ∧ s10 = .int .i64 q ∧ Aside0 (1 ≤ q ∧ q ≤ p + 1 ∧ p.toNat + 2 - q.toNat ≤ g) ∧ Aside0 (wr.heap[gb]? = some (.cells #[.int .i64 p, .slice A l.length c] 24 (0, 0))) ∧ Aside0 (Kd.C (Kd.int .i64) wr AO O.length O ∧ O.length ≤ cO) ∧ Aside0 (Below w.heap.size w wr))
  case atStart => exact ⟨1, rfl, rfl, rfl, ⟨by omega, by have := HP.out; omega, by omega⟩, BK, HCO, HB⟩
  case round =>
    clear BK HCO HB c0 c1
    obtain ⟨q, rfl, rfl, rfl, HQ, BK, HCO, HB⟩ := hrel
    have c0 : wr.cell? ⟨gb, 0, none⟩ = some (.int .i64 p) := blk_cell BK.out 0
    have c1 : wr.cell? ⟨gb, 1, none⟩ = some (.slice A l.length c) := blk_cell BK.out 1
    have hq1 := HQ.out.1
    by_cases hlt : q ≤ p
    case neg =>
      have hltb : decide (q ≤ p) = false := decide_eq_false hlt
      have eq1 : (q - 1).toNat = p.toNat := by have := HQ.out; omega
      have s1 : ((psA B (q - 1).toNat).1 == -(B 0).1) = true := beq_iff_eq.mpr (by rw [eq1]; have := HSUM.out; omega)
      have s2 : ((psA B (q - 1).toNat).2 == -(B 0).2) = true := beq_iff_eq.mpr (by rw [eq1]; have := HSUM.out; omega)
      by_cases ho : O = []
      · have z := psA_zero (B := B) (by rw [← HOE.out]; exact ho) p.toNat (by have := HP.out; omega)
        have z1 : (-(B 0).1 == 0) = true := beq_iff_eq.mpr (by have := HSUM.out; rw [z] at this; omega)
        have z2 : (-(B 0).2 == 0) = true := beq_iff_eq.mpr (by have := HSUM.out; rw [z] at this; omega)
        have hn : O.length = 0 := by rw [ho]; rfl
        generalize (psA B (q - 1).toNat) = ps at *
        generalize O.length = no at *
        subst hn
        generalize -(B 0).1 = m1 at *
        generalize -(B 0).2 = m2 at *
        clear hlt hq1 ho z eq1
        go_wp2
        go_ret
        exact ⟨by first | rfl | simp, HB.out⟩
      · have z3 : decide (0 < (O.length : Int)) = true := decide_eq_true (by have := List.length_pos_iff.2 ho; omega)
        have z4 : decide (0 < O.length) = true := decide_eq_true (List.length_pos_iff.2 ho)
        generalize (psA B (q - 1).toNat) = ps at *
        generalize -(B 0).1 = m1 at *
        generalize -(B 0).2 = m2 at *
        clear hlt hq1 ho eq1
        go_wp2
        go_ret
        exact ⟨by first | rfl | simp, HB.out⟩
    have hltb : decide (q ≤ p) = true := decide_eq_true hlt
    have hps : psA B q.toNat = ((psA B (q - 1).toNat).1 + (B q.toNat).1, (psA B (q - 1).toNat).2 + (B q.toNat).2) := by
      rw [show q.toNat = (q - 1).toNat + 1 by omega]
      rfl
    have hbn := psA_bnd HBN.out (q - 1).toNat
    have hbq := HBN.out q.toNat
    have hqn : (((q - 1).toNat : Nat) : Int) ≤ 16 := by have := HP.out; omega
    have hmm : (((q - 1).toNat : Nat) : Int) * 8246337208320000 ≤ 131941395333120000 := by omega
    have hmem := openS_iff (B := B) (q := q) hq1 (by have := HP.out; omega)
    rw [← HOE.out] at hmem
    have HBQ := Aside0.mk (HBL.out q hq1 hlt)
    have hct := fun (W : World) (h : Kd.C (Kd.int .i64) W AO O.length O) => contains_int.known O q AO cO W h HCO.out.2 (by have := HOL.out; omega)
    have hw' : wrap64 (q + 1) = q + 1 := w64_ (by omega) (by have := HP.out; omega)
    have hw : IntKind.i64.wrap (q + 1) = q + 1 := by rw [i64_w]; exact hw'
    generalize hbv : B q.toNat = bv at *
    obtain ⟨y, z⟩ := bv
    simp only at hps hbq
    generalize hpv : psA B (q - 1).toNat = pv at *
    obtain ⟨u, v⟩ := pv
    simp only at hps hbn ⊢
    have k1 : IntKind.i64.wrap (u + y) = u + y := by rw [i64_w]; exact w64_ (by omega) (by omega)
    have k2 : IntKind.i64.wrap (v + z) = v + z := by rw [i64_w]; exact w64_ (by omega) (by omega)
    have HPS := Aside0.mk hps
    have HLT := Aside0.mk hlt
    have HQ1 := Aside0.mk hq1
    by_cases hy : y = 0
    case neg =>
      have m1 : (y != 0) = true := bne_iff_ne.mpr hy
      have HMB := Aside0.mk (show decide (q ∈ O) = true from decide_eq_true (hmem.2 (fun e => hy (congrArg Prod.fst e))))
      have HCT := Aside0.mk (fun W h => (HMB.out ▸ hct W h : Calls Try.prog 27 #[.slice AO O.length cO, .int .i64 q] W fun e w' => e = .returned (.bool true) ∧ Below W.heap.size W w'))
      clear hps hbn hbq hqn hmm hmem hct hlt hq1 hy hbv hpv
      go_wp2_with fail
      refine (HCP.out _ HB.out).mono ?_
      rintro e w5 ⟨A1, k1', rfl, hk1, hr1, hb⟩
      replace HB := Aside0.mk (below_step HB.out hb)
      replace BK := Aside0.mk (blk_below BK.out hb)
      replace HCO := Aside0.mk (⟨Kd.C_below HCO.out.1 hb, HCO.out.2⟩ : _ ∧ _)
      clear hb c0 c1
      go_wp2_with fail
      refine (HBQ.out _ _ _ hr1 hk1).mono ?_
      rintro e w6 ⟨rfl, hb⟩
      replace HB := Aside0.mk (below_step HB.out hb)
      replace BK := Aside0.mk (blk_below BK.out hb)
      replace HCO := Aside0.mk (⟨Kd.C_below HCO.out.1 hb, HCO.out.2⟩ : _ ∧ _)
      clear hb hr1 hk1 HBQ
      go_wp2_with (go_at_call 27; refine (HCT.out _ HCO.out.1).mono ?_; rintro e w7 ⟨rfl, hb⟩; replace HB := Aside0.mk (below_step HB.out hb); replace BK := Aside0.mk (blk_below BK.out hb); replace HCO := Aside0.mk (⟨Kd.C_below HCO.out.1 hb, HCO.out.2⟩ : _ ∧ _); clear hb)
      go_roundg (p.toNat + 2 - (q + 1).toNat)
      case measure => have := HQ.out; have := HLT.out; omega
      case rel => exact ⟨q + 1, by rw [show (q + 1 - 1).toNat = q.toNat by have := HQ1.out; omega, HPS.out], by rw [show (q + 1 - 1).toNat = q.toNat by have := HQ1.out; omega, HPS.out], by first | rfl | rw [hw'] | rw [hw], ⟨by have := HQ1.out; omega, by have := HLT.out; omega, Nat.le_refl _⟩, BK, HCO, HB⟩
    by_cases hz : z = 0
    case neg =>
      have m1 : (y != 0) = false := by rw [hy]; rfl
      have m2 : (z != 0) = true := bne_iff_ne.mpr hz
      have HMB := Aside0.mk (show decide (q ∈ O) = true from decide_eq_true (hmem.2 (fun e => hz (congrArg Prod.snd e))))
      have HCT := Aside0.mk (fun W h => (HMB.out ▸ hct W h : Calls Try.prog 27 #[.slice AO O.length cO, .int .i64 q] W fun e w' => e = .returned (.bool true) ∧ Below W.heap.size W w'))
      clear hps hbn hbq hqn hmm hmem hct hlt hq1 hy hz hbv hpv
      go_wp2_with fail
      refine (HCP.out _ HB.out).mono ?_
      rintro e w5 ⟨A1, k1', rfl, hk1, hr1, hb⟩
      replace HB := Aside0.mk (below_step HB.out hb)
      replace BK := Aside0.mk (blk_below BK.out hb)
      replace HCO := Aside0.mk (⟨Kd.C_below HCO.out.1 hb, HCO.out.2⟩ : _ ∧ _)
      clear hb c0 c1
      go_wp2_with fail
      refine (HBQ.out _ _ _ hr1 hk1).mono ?_
      rintro e w6 ⟨rfl, hb⟩
      replace HB := Aside0.mk (below_step HB.out hb)
      replace BK := Aside0.mk (blk_below BK.out hb)
      replace HCO := Aside0.mk (⟨Kd.C_below HCO.out.1 hb, HCO.out.2⟩ : _ ∧ _)
      clear hb hr1 hk1 HBQ
      go_wp2_with (go_at_call 27; refine (HCT.out _ HCO.out.1).mono ?_; rintro e w7 ⟨rfl, hb⟩; replace HB := Aside0.mk (below_step HB.out hb); replace BK := Aside0.mk (blk_below BK.out hb); replace HCO := Aside0.mk (⟨Kd.C_below HCO.out.1 hb, HCO.out.2⟩ : _ ∧ _); clear hb)
      go_roundg (p.toNat + 2 - (q + 1).toNat)
      case measure => have := HQ.out; have := HLT.out; omega
      case rel => exact ⟨q + 1, by rw [show (q + 1 - 1).toNat = q.toNat by have := HQ1.out; omega, HPS.out], by rw [show (q + 1 - 1).toNat = q.toNat by have := HQ1.out; omega, HPS.out], by first | rfl | rw [hw'] | rw [hw], ⟨by have := HQ1.out; omega, by have := HLT.out; omega, Nat.le_refl _⟩, BK, HCO, HB⟩
    have m1 : (y != 0) = false := by rw [hy]; rfl
    have m2 : (z != 0) = false := by rw [hz]; rfl
    have HMB := Aside0.mk (show decide (q ∈ O) = false from decide_eq_false (fun h => hmem.1 h (by rw [hy, hz])))
    have HCT := Aside0.mk (fun W h => (HMB.out ▸ hct W h : Calls Try.prog 27 #[.slice AO O.length cO, .int .i64 q] W fun e w' => e = .returned (.bool false) ∧ Below W.heap.size W w'))
    clear hps hbn hbq hqn hmm hmem hct hlt hq1 hy hz hbv hpv
    go_wp2_with fail
    refine (HCP.out _ HB.out).mono ?_
    rintro e w5 ⟨A1, k1', rfl, hk1, hr1, hb⟩
    replace HB := Aside0.mk (below_step HB.out hb)
    replace BK := Aside0.mk (blk_below BK.out hb)
    replace HCO := Aside0.mk (⟨Kd.C_below HCO.out.1 hb, HCO.out.2⟩ : _ ∧ _)
    clear hb c0 c1
    go_wp2_with fail
    refine (HBQ.out _ _ _ hr1 hk1).mono ?_
    rintro e w6 ⟨rfl, hb⟩
    replace HB := Aside0.mk (below_step HB.out hb)
    replace BK := Aside0.mk (blk_below BK.out hb)
    replace HCO := Aside0.mk (⟨Kd.C_below HCO.out.1 hb, HCO.out.2⟩ : _ ∧ _)
    clear hb hr1 hk1 HBQ
    go_wp2_with (go_at_call 27; refine (HCT.out _ HCO.out.1).mono ?_; rintro e w7 ⟨rfl, hb⟩; replace HB := Aside0.mk (below_step HB.out hb); replace BK := Aside0.mk (blk_below BK.out hb); replace HCO := Aside0.mk (⟨Kd.C_below HCO.out.1 hb, HCO.out.2⟩ : _ ∧ _); clear hb)
    go_roundg (p.toNat + 2 - (q + 1).toNat)
    case measure => have := HQ.out; have := HLT.out; omega
    case rel => exact ⟨q + 1, by rw [show (q + 1 - 1).toNat = q.toNat by have := HQ1.out; omega, HPS.out], by rw [show (q + 1 - 1).toNat = q.toNat by have := HQ1.out; omega, HPS.out], by first | rfl | rw [hw'] | rw [hw], ⟨by have := HQ1.out; omega, by have := HLT.out; omega, Nat.le_refl _⟩, BK, HCO, HB⟩
theorem spilelaw36_ColumnWhole.calls (a0_0 : Int) (A0_1 : Option Addr) (c0_1 : Nat) (l0_1 : List S28) (r : Bool) (w : World) (hr0_1 : Kd.C k28 w A0_1 l0_1.length l0_1) (hc0_1 : l0_1.length ≤ c0_1) (h : spilelaw36_ColumnWhole.f a0_0 l0_1 = some r) :
    Calls Try.prog 9 #[.agg #[.int .i64 a0_0, .slice A0_1 l0_1.length c0_1]] w fun e w' => e = .returned (.bool r) ∧ Below w.heap.size w w' := by
  obtain rfl := Option.some.inj h
  exact ColumnWhole.walk a0_0 A0_1 c0_1 l0_1 w hr0_1 hc0_1

end Go.Proofs.Ytodfjkdgfjkifaa.PF
