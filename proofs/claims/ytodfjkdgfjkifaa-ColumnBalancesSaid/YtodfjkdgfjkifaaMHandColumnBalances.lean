/- The walk through the law ColumnBalances of package spilelaw36. -/
import Derived.Test.YtodfjkdgfjkifaaMAwk36
import Derived.Test.YtodfjkdgfjkifaaMChk36
import Derived.Test.YtodfjkdgfjkifaaMCol36
import Derived.Test.YtodfjkdgfjkifaaMCom36
import Derived.Test.YtodfjkdgfjkifaaMEv
import Derived.Test.YtodfjkdgfjkifaaMOpn36
import Derived.Test.YtodfjkdgfjkifaaMRef36
import Derived.Test.YtodfjkdgfjkifaaPF0
import Derived.Test.YtodfjkdgfjkifaaPF3
import Derived.Test.YtodfjkdgfjkifaaPF4
import Derived.Test.YtodfjkdgfjkifaaPF7
namespace Go.Proofs.Ytodfjkdgfjkifaa.PF
open Go.RowKit Go.Proofs.YtodfjkdgfjkifaaW.PrintWords Go.Proofs.YtodfjkdgfjkifaaW.PrintLast Go.Proofs.YtodfjkdgfjkifaaW.PrintMore
set_option linter.unusedVariables false
set_option linter.unusedSimpArgs false
def spilelaw36_ColumnBalances.f (a0_0 : Int) (l0_1 : List S28) (a1 : Int) : Option Bool := some true
theorem ev_some {α : Type} {F : Nat → Option α} {r : α} (h : Ev F r) : ∃ k, F k = some r := by obtain ⟨N, hN⟩ := h; exact ⟨N, hN N (Nat.le_refl _)⟩
set_option maxHeartbeats 4000000 in
set_option maxRecDepth 100000 in
theorem ColumnBalances.walk (p : Int) (A : Option Addr) (c : Nat) (l : List S28) (q : Int) (w : World) (hr : Kd.C k28 w A l.length l) (hc : l.length ≤ c) :
    Calls Try.prog 5 #[.agg #[.int .i64 p, .slice A l.length c], .int .i64 q] w fun e w' => e = .returned (.bool true) ∧ Below w.heap.size w w' := by
  have hu1 := Try.underlying24
  have HA := Aside0.mk (fun W => awake36.known W)
  obtain ⟨b, hb0⟩ : ∃ b, spileref36_Few.f p l = some b := by unfold spileref36_Few.f; split <;> exact ⟨_, rfl⟩
  have HF := Aside0.mk (fun W (hb : Below w.heap.size w W) => spileref36_Few.calls p A c l b W (Kd.C_below hr hb) hc hb0)
  cases b
  · clear hr hc hb0
    go_enter Try.func5, Try.ntmps5
    go_wp2_with (first | ((with_reducible refine gate_dst (N := 2) rfl ?_); refine box_event ?hg (N := 2) ?hd (cs := #[.int .i64 p, .slice A l.length c]) (t := 24) ?hr ?_; (case hd => rfl); (case hg => rfl); (case hr => first | (go_simp; done) | (go_simp; rfl)); intro gb hg w3 hbox hb; have c0 : w3.cell? ⟨gb, 0, none⟩ = some (.int .i64 p) := blk_cell hbox 0; have c1 : w3.cell? ⟨gb, 1, none⟩ = some (.slice A l.length c) := blk_cell hbox 1; have HB := Aside0.mk hb; clear hbox hb hg))
    refine (HA.out _).mono ?_
    rintro e' w4 ⟨rfl, hb⟩
    replace HB := Aside0.mk (below_step HB.out hb)
    replace c0 := pw_cell_below hb c0
    replace c1 := pw_cell_below hb c1
    clear hb HA
    go_wp2_with fail
    refine (HF.out _ HB.out).mono ?_
    rintro e' w5 ⟨rfl, hb⟩
    replace HB := Aside0.mk (below_step HB.out hb)
    clear hb HF c0 c1
    go_wp2
    go_ret
    exact ⟨rfl, HB.out⟩
  have hl : l.length ≤ 65 := by
    unfold spileref36_Few.f at hb0
    split at hb0
    · omega
    · have := Option.some.inj hb0
      have := beq_iff_eq.1 this
      omega
  have HCP := Aside0.mk (fun W (hb : Below w.heap.size w W) => cp36.known p A c l W (Kd.C_below hr hb) hc (by omega))
  obtain ⟨⟨i, e⟩, h1⟩ : ∃ r, chk36 p l = r := ⟨_, rfl⟩
  obtain ⟨⟨a, m, g⟩, h2⟩ : ∃ r, blR p l q = r := ⟨_, rfl⟩
  obtain ⟨⟨O, n⟩, h3⟩ : ∃ r, opR p l = r := ⟨_, rfl⟩
  obtain ⟨⟨x, y, s⟩, h4⟩ : ∃ r, whR p l = r := ⟨_, rfl⟩
  obtain ⟨k1, q1⟩ := ev_some (refchk.ev p l)
  obtain ⟨k2, q2⟩ := ev_some (refBalance.ev p l q)
  obtain ⟨k3, q3⟩ := ev_some (refOpen.ev p l)
  obtain ⟨k4, q4⟩ := ev_some (refWhole.ev p l)
  rw [h1] at q1
  rw [h2] at q2
  rw [h3] at q3
  rw [h4] at q4
  have hol : O.length ≤ 17 := by
    have ho : O = (opR p l).1 := by rw [h3]
    rw [ho]
    unfold opR
    split
    · exact openTo_length _ 17
    · exact Nat.zero_le _
  obtain ⟨k5, q5⟩ := ev_some (refsame.ev O (by omega))
  have H1 := Aside0.mk (fun (W : World) (A' : Option Addr) (c' : Nat) (hr : Kd.C k28 W A' l.length l) (hc : l.length ≤ c') => column_Check.known p A' c' l W hr hc h1)
  have H2 := Aside0.mk (fun (W : World) (A' : Option Addr) (c' : Nat) (hr : Kd.C k28 W A' l.length l) (hc : l.length ≤ c') => column_Balance.known p A' c' l q W hr hc h2)
  have H3 := Aside0.mk (fun (W : World) (A' : Option Addr) (c' : Nat) (hr : Kd.C k28 W A' l.length l) (hc : l.length ≤ c') => column_Open.known p A' c' l W hr hc h3)
  have H4 := Aside0.mk (fun (W : World) (A' : Option Addr) (c' : Nat) (hr : Kd.C k28 W A' l.length l) (hc : l.length ≤ c') => column_Whole.known p A' c' l W hr hc h4)
  have R1 := Aside0.mk (fun (W : World) (hb : Below w.heap.size w W) => spileref36_Check.calls k1 p A c l i e W (Kd.C_below hr hb) hc q1)
  have R2 := Aside0.mk (fun (W : World) (hb : Below w.heap.size w W) => spileref36_Balance.calls k2 p A c l q a m g W (Kd.C_below hr hb) hc q2)
  have R3 := Aside0.mk (fun (W : World) (hb : Below w.heap.size w W) => spileref36_Open.calls k3 p A c l O n W (Kd.C_below hr hb) hc q3)
  have R4 := Aside0.mk (fun (W : World) (hb : Below w.heap.size w W) => spileref36_Whole.calls k4 p A c l x y s W (Kd.C_below hr hb) hc q4)
  have HSM := Aside0.mk (fun (W : World) (A' B' : Option Addr) (c' d' : Nat) (hA : Kd.C (Kd.int .i64) W A' O.length O) (hc : O.length ≤ c') (hB : Kd.C (Kd.int .i64) W B' O.length O) (hd : O.length ≤ d') => spileref33_Same.calls k5 A' c' O B' d' O true W hA hc hB hd q5)
  clear hr hc hb0 hl h1 h2 h3 h4 q1 q2 q3 q4 q5 hol
  go_enter Try.func5, Try.ntmps5
  go_wp2_with (first | ((with_reducible refine gate_dst (N := 2) rfl ?_); refine box_event ?hg (N := 2) ?hd (cs := #[.int .i64 p, .slice A l.length c]) (t := 24) ?hr ?_; (case hd => rfl); (case hg => rfl); (case hr => first | (go_simp; done) | (go_simp; rfl)); intro gb hg w3 hbox hb; have c0 : w3.cell? ⟨gb, 0, none⟩ = some (.int .i64 p) := blk_cell hbox 0; have c1 : w3.cell? ⟨gb, 1, none⟩ = some (.slice A l.length c) := blk_cell hbox 1; have HB := Aside0.mk hb; clear hbox hb hg))
  refine (HA.out _).mono ?_
  rintro e' w4 ⟨rfl, hb⟩
  replace HB := Aside0.mk (below_step HB.out hb)
  replace c0 := pw_cell_below hb c0
  replace c1 := pw_cell_below hb c1
  clear hb
  clear HA
  go_wp2_with fail
  refine (HF.out _ HB.out).mono ?_
  rintro e' w5 ⟨rfl, hb⟩
  replace HB := Aside0.mk (below_step HB.out hb)
  replace c0 := pw_cell_below hb c0
  replace c1 := pw_cell_below hb c1
  clear hb
  clear HF
  go_wp2_with fail
  refine (HCP.out _ HB.out).mono ?_
  rintro e' w6 ⟨A1, k1, rfl, hk1, hr1, hb⟩
  replace HB := Aside0.mk (below_step HB.out hb)
  replace c0 := pw_cell_below hb c0
  replace c1 := pw_cell_below hb c1
  clear hb
  go_wp2_with fail
  refine (H1.out _ _ _ hr1 hk1).mono ?_
  rintro e' w7 ⟨rfl, hb⟩
  replace HB := Aside0.mk (below_step HB.out hb)
  replace c0 := pw_cell_below hb c0
  replace c1 := pw_cell_below hb c1
  clear hb
  clear hr1 hk1
  clear H1
  go_wp2_with fail
  refine (R1.out _ HB.out).mono ?_
  rintro e' w8 ⟨rfl, hb⟩
  replace HB := Aside0.mk (below_step HB.out hb)
  replace c0 := pw_cell_below hb c0
  replace c1 := pw_cell_below hb c1
  clear hb
  clear R1
  go_wp2_with fail
  refine (HCP.out _ HB.out).mono ?_
  rintro e' w9 ⟨A1, k1, rfl, hk1, hr1, hb⟩
  replace HB := Aside0.mk (below_step HB.out hb)
  replace c0 := pw_cell_below hb c0
  replace c1 := pw_cell_below hb c1
  clear hb
  go_wp2_with fail
  refine (H2.out _ _ _ hr1 hk1).mono ?_
  rintro e' w10 ⟨rfl, hb⟩
  replace HB := Aside0.mk (below_step HB.out hb)
  replace c0 := pw_cell_below hb c0
  replace c1 := pw_cell_below hb c1
  clear hb
  clear hr1 hk1
  clear H2
  go_wp2_with fail
  refine (R2.out _ HB.out).mono ?_
  rintro e' w11 ⟨rfl, hb⟩
  replace HB := Aside0.mk (below_step HB.out hb)
  replace c0 := pw_cell_below hb c0
  replace c1 := pw_cell_below hb c1
  clear hb
  clear R2
  go_wp2_with fail
  refine (HCP.out _ HB.out).mono ?_
  rintro e' w12 ⟨A1, k1, rfl, hk1, hr1, hb⟩
  replace HB := Aside0.mk (below_step HB.out hb)
  replace c0 := pw_cell_below hb c0
  replace c1 := pw_cell_below hb c1
  clear hb
  go_wp2_with fail
  refine (H3.out _ _ _ hr1 hk1).mono ?_
  rintro e' w13 ⟨AO, cO, rfl, hcO, hrO, hb⟩
  replace HB := Aside0.mk (below_step HB.out hb)
  replace c0 := pw_cell_below hb c0
  replace c1 := pw_cell_below hb c1
  clear hb
  clear hr1 hk1
  clear H3
  have HO := Aside0.mk (⟨hrO, hcO⟩ : _ ∧ _)
  clear hrO hcO
  go_wp2_with fail
  refine (R3.out _ HB.out).mono ?_
  rintro e' w14 ⟨v, rfl, hR, hb⟩
  replace HB := Aside0.mk (below_step HB.out hb)
  replace c0 := pw_cell_below hb c0
  replace c1 := pw_cell_below hb c1
  replace HO := Aside0.mk (⟨Kd.C_below HO.out.1 hb, HO.out.2⟩ : _ ∧ _)
  clear hb
  clear R3
  obtain ⟨AU, cU, rfl⟩ := Kd.R_slice hR
  have HU := Aside0.mk (⟨(Kd.R_reads' hR).2.2, (Kd.R_reads' hR).2.1⟩ : _ ∧ _)
  clear hR
  go_wp2_with fail
  refine (HCP.out _ HB.out).mono ?_
  rintro e' w15 ⟨A1, k1, rfl, hk1, hr1, hb⟩
  replace HB := Aside0.mk (below_step HB.out hb)
  replace c0 := pw_cell_below hb c0
  replace c1 := pw_cell_below hb c1
  replace HO := Aside0.mk (⟨Kd.C_below HO.out.1 hb, HO.out.2⟩ : _ ∧ _)
  replace HU := Aside0.mk (⟨Kd.C_below HU.out.1 hb, HU.out.2⟩ : _ ∧ _)
  clear hb
  go_wp2_with fail
  refine (H4.out _ _ _ hr1 hk1).mono ?_
  rintro e' w16 ⟨rfl, hb⟩
  replace HB := Aside0.mk (below_step HB.out hb)
  replace c0 := pw_cell_below hb c0
  replace c1 := pw_cell_below hb c1
  replace HO := Aside0.mk (⟨Kd.C_below HO.out.1 hb, HO.out.2⟩ : _ ∧ _)
  replace HU := Aside0.mk (⟨Kd.C_below HU.out.1 hb, HU.out.2⟩ : _ ∧ _)
  clear hb
  clear hr1 hk1
  clear H4
  go_wp2_with fail
  refine (R4.out _ HB.out).mono ?_
  rintro e' w17 ⟨rfl, hb⟩
  replace HB := Aside0.mk (below_step HB.out hb)
  replace c0 := pw_cell_below hb c0
  replace c1 := pw_cell_below hb c1
  replace HO := Aside0.mk (⟨Kd.C_below HO.out.1 hb, HO.out.2⟩ : _ ∧ _)
  replace HU := Aside0.mk (⟨Kd.C_below HU.out.1 hb, HU.out.2⟩ : _ ∧ _)
  clear hb
  clear R4 HCP c0 c1
  go_wp2_with (go_at_call 26; refine (HSM.out _ _ _ _ _ HO.out.1 HO.out.2 HU.out.1 HU.out.2).mono ?_; rintro e' w30 ⟨rfl, hd⟩; replace HB := Aside0.mk (below_step HB.out hd.below); clear hd HSM HO HU)
  go_ret
  exact ⟨by first | rfl | simp, HB.out⟩
theorem spilelaw36_ColumnBalances.calls (a0_0 : Int) (A0_1 : Option Addr) (c0_1 : Nat) (l0_1 : List S28) (a1 : Int) (r : Bool) (w : World) (hr0_1 : Kd.C k28 w A0_1 l0_1.length l0_1) (hc0_1 : l0_1.length ≤ c0_1) (h : spilelaw36_ColumnBalances.f a0_0 l0_1 a1 = some r) :
    Calls Try.prog 5 #[.agg #[.int .i64 a0_0, .slice A0_1 l0_1.length c0_1], .int .i64 a1] w fun e w' => e = .returned (.bool r) ∧ Below w.heap.size w w' := by
  obtain rfl := Option.some.inj h
  exact ColumnBalances.walk a0_0 A0_1 c0_1 l0_1 a1 w hr0_1 hc0_1

end Go.Proofs.Ytodfjkdgfjkifaa.PF
