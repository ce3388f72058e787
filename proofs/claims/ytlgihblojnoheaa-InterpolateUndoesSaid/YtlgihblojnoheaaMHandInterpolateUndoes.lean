/- The walk through the law InterpolateUndoes of package spilelaw18 and its closure. -/
import Derived.Test.YtlgihblojnoheaaMInt18
import Derived.Test.YtlgihblojnoheaaPF0
import Derived.Test.YtlgihblojnoheaaPF1
import Derived.Test.YtlgihblojnoheaaPF11
import Derived.Test.YtlgihblojnoheaaPF5
import Derived.Test.YtlgihblojnoheaaPF6
import Derived.Test.YtlgihblojnoheaaPF8
namespace Go.Proofs.Ytlgihblojnoheaa.PF
open Go.RowKit Go.Proofs.YtlgihblojnoheaaW.PrintWords Go.Proofs.YtlgihblojnoheaaW.PrintLast Go.Proofs.YtlgihblojnoheaaW.PrintMore
set_option linter.unusedVariables false
set_option linter.unusedSimpArgs false
theorem few18.known (l : List S34) (b : Bool) (A : Option Addr) (c : Nat) (w : World) (hr : Kd.C k34 w A l.length l) (hc : l.length ≤ c) (h : spileref16_Few.f l = some b) :
    Calls Try.prog 10 #[.slice A l.length c] w fun e w' => e = .returned (.bool b) ∧ Below w.heap.size w w' := by
  refine (spileref16_Few.calls A c l b w hr hc h).mono ?_
  rintro e w' ⟨rfl, hd⟩
  exact ⟨rfl, hd.below⟩
theorem box2_ {W W5 : World} {g t : Nat} {x y u v : Value} (hb : Below W.heap.size W W5) (hg : g = W.heap.size) (hbox : W5.heap[g]? = some (.cells #[u, v] t (0, 0))) :
    Below W.heap.size W ((W5.setCell ⟨g, 0, none⟩ x).setCell ⟨g, 1, none⟩ y) ∧ ((W5.setCell ⟨g, 0, none⟩ x).setCell ⟨g, 1, none⟩ y).cell? ⟨g, 0, none⟩ = some x ∧ ((W5.setCell ⟨g, 0, none⟩ x).setCell ⟨g, 1, none⟩ y).cell? ⟨g, 1, none⟩ = some y := by
  have h0 : W5.cell? ⟨g, 0, none⟩ = some u := blk_cell hbox 0
  have h1 : W5.cell? ⟨g, 1, none⟩ = some v := blk_cell hbox 1
  have hne : (⟨g, 0, none⟩ : Addr) ≠ ⟨g, 1, none⟩ := by intro h; injection h with _ h; exact absurd h (by decide)
  refine ⟨below_set (below_set hb (Nat.le_of_eq hg.symm)) (Nat.le_of_eq hg.symm), ?_, ?_⟩
  · rw [World.cell?_setCell_other _ _ _ _ (Ne.symm hne)]
    exact World.cell?_setCell_same' _ _ _ (by rw [h0]; rfl)
  · refine World.cell?_setCell_same' _ _ _ ?_
    rw [World.cell?_setCell_other _ _ _ _ hne, h1]
    rfl
set_option maxHeartbeats 400000 in
set_option maxRecDepth 100000 in
theorem InterpolateUndoes.clo (bt : Nat) (A : Option Addr) (c : Nat) (l : List S34) (x v e : Int) (W : World) (hcl : l.length ≤ c) (hs : interpolate_Density.f l x = some (v, e)) (ht : W.cell? ⟨bt, 0, none⟩ = some (.slice A l.length c)) (hr : Kd.C k34 W A l.length l) :
    Calls Try.prog 18 (#[.int .i64 x] ++ #[.pointer (some ⟨bt, 0, none⟩)]) W fun e w' => e = .returned (.int .i64 v) ∧ Below W.heap.size W w' := by
  have HS := Aside0.mk (interpolate_Density.calls A c l x v e W hr hcl hs)
  clear hcl hs hr
  go_enter Try.func18, Try.ntmps18
  go_wp2_with (refine HS.out.mono ?_; rintro e w' ⟨rfl, hb⟩)
  go_ret
  exact ⟨rfl, hb⟩
set_option maxHeartbeats 8000000 in
set_option maxRecDepth 100000 in
theorem InterpolateUndoes.walk (DV DE SV SE RL RH RE : Int → Int) (A : Option Addr) (c : Nat) (l : List S34) (n s : Int) (b : Bool) (w : World) (hr : Kd.C k34 w A l.length l) (hc : l.length ≤ c) (hb0 : spileref16_Few.f l = some b)
    (hD : ∀ x, interpolate_Density.f l x = some (DV x, DE x)) (hS : ∀ x, interpolate_Strength.f l x = some (SV x, SE x)) (hR : ∀ x, interpolate_Range.f l x = some (RL x, RH x, RE x))
    (hA : b = false ∨ b = true ∧ ((DE s == 0) = false ∨ (DE s == 0) = true ∧ (SE (DV s) != 0) = false ∧ (RE (DV s) != 0) = false ∧ (SV (DV s) != RH (DV s)) = false ∧ decide (s < RL (DV s)) = false ∧ decide (RH (DV s) < s) = false))
    (hB : b = true → ((SE n != 0) = true ∧ (SV n == 0) = true) ∨ ((SE n != 0) = false ∧ decide (SV n < 0) = false ∧ decide (10000 < SV n) = false ∧ decide (DV (SV n) < n) = false ∧
      (decide (SV n < 10000) = false ∨ (decide (SV n < 10000) = true ∧ IntKind.i64.wrap (SV n + 1) = SV n + 1 ∧ decide (n ≤ DV (SV n + 1)) = false)) ∧
      (((RE n != 0) = true ∧ (RE n == 7) = true ∧ (DV (SV n) != n) = true) ∨ ((RE n != 0) = false ∧ (RH n == SV n) = true ∧ (DV (RL n) == n) = true ∧ ((RL n == 0) = true ∨ ((RL n == 0) = false ∧ IntKind.i64.wrap (RL n - 1) = RL n - 1 ∧ decide (n < DV (RL n - 1)) = true)))))) :
    Calls Try.prog 5 #[.slice A l.length c, .int .i64 n, .int .i64 s] w fun e w' => e = .returned (.bool true) ∧ Below w.heap.size w w' := by
  have hv := Try.underlying29
  obtain ⟨W0, hW0⟩ : ∃ W0, W0 = (w.alloc (.cells #[.slice A l.length c] 22)) := ⟨_, rfl⟩
  have hB0 : Below w.heap.size w W0 := by rw [hW0]; exact below_alloc (Below.refl _ _) _
  have ct : W0.cell? ⟨w.heap.size, 0, none⟩ = some (.slice A l.length c) := by rw [hW0]; exact pw_cell_new w _ _
  have HA := Aside0.mk (fun W => spilelaw18_awake.calls true W rfl)
  have HF := Aside0.mk (fun W (hb : Below w.heap.size w W) => few18.known l b A c W (Kd.C_below hr hb) hc hb0)
  have HD := Aside0.mk (fun W x (hb : Below w.heap.size w W) => interpolate_Density.calls A c l x (DV x) (DE x) W (Kd.C_below hr hb) hc (hD x))
  have HS := Aside0.mk (fun W x (hb : Below w.heap.size w W) => interpolate_Strength.calls A c l x (SV x) (SE x) W (Kd.C_below hr hb) hc (hS x))
  have HR := Aside0.mk (fun W x (hb : Below w.heap.size w W) => interpolate_Range.calls A c l x (RL x) (RH x) (RE x) W (Kd.C_below hr hb) hc (hR x))
  have HX := Aside0.mk (fun W x (hb : Below w.heap.size w W) (ht : W.cell? ⟨w.heap.size, 0, none⟩ = some (.slice A l.length c)) => InterpolateUndoes.clo w.heap.size A c l x (DV x) (DE x) W hc (hD x) ht (Kd.C_below hr hb))
  have eg : ∀ args w, (callFunc 18 args).run Try.prog w = .ok (.enter 18 args) w := enters_of Try.func18 (by kernel_rfl) rfl
  have HB0 := Aside0.mk hB0
  have HW0 := Aside0.mk hW0
  clear hB0 hW0 hr hc hb0 hD hS hR
  rcases hA with rfl | ⟨rfl, hA⟩
  · clear hB
    go_enter Try.func5, Try.ntmps5
    go_wp2_with fail
    rw [← HW0.out]
    refine (HA.out _).mono ?_
    rintro e' w1 ⟨rfl, hb⟩
    replace ct := pw_cell_below hb ct
    have HB := Aside0.mk (below_step HB0.out hb)
    clear hb
    go_wp2_with fail
    refine (HF.out _ HB.out).mono ?_
    rintro e' w2 ⟨rfl, hb⟩
    replace HB := Aside0.mk (below_step HB.out hb)
    clear hb
    go_wp2
    go_ret
    exact ⟨rfl, HB.out⟩
  replace hB := hB rfl
  rcases hA with a0 | ⟨a0, a1, a2, a3, a4, a5⟩ <;> rcases hB with ⟨b0, b1⟩ | ⟨b0, b1, b2, b3, hB1, hB2⟩ <;> (try rcases hB1 with c0 | ⟨c0, c1, c2⟩) <;> (try rcases hB2 with ⟨d0, d1, d2⟩ | ⟨d0, d1, d2, d3 | ⟨d3, d4, d5⟩⟩)
  all_goals
    go_enter Try.func5, Try.ntmps5
    go_wp2_with fail
    rw [← HW0.out]
    refine (HA.out _).mono ?_
    rintro e' w1 ⟨rfl, hb⟩
    replace ct := pw_cell_below hb ct
    have HB := Aside0.mk (below_step HB0.out hb)
    clear hb HA HB0 HW0
    go_wp2_with (first
      | (go_at_call 10; refine (HF.out _ HB.out).mono ?_; rintro e' w2 ⟨rfl, hb⟩; replace ct := pw_cell_below hb ct; replace HB := Aside0.mk (below_step HB.out hb); clear hb HF)
      | (go_at_call 11; refine (HD.out _ _ HB.out).mono ?_; rintro e' w3 ⟨rfl, hb⟩; replace ct := pw_cell_below hb ct; replace HB := Aside0.mk (below_step HB.out hb); clear hb)
      | (go_at_call 13; refine (HS.out _ _ HB.out).mono ?_; rintro e' w4 ⟨rfl, hb⟩; replace ct := pw_cell_below hb ct; (try replace q0 := pw_cell_below hb q0); (try replace q1 := pw_cell_below hb q1); replace HB := Aside0.mk (below_step HB.out hb); clear hb)
      | (go_at_call 15; refine (HR.out _ _ HB.out).mono ?_; rintro e' w5 ⟨rfl, hb⟩; replace ct := pw_cell_below hb ct; (try replace q0 := pw_cell_below hb q0); (try replace q1 := pw_cell_below hb q1); replace HB := Aside0.mk (below_step HB.out hb); clear hb)
      | (go_at_call 18; refine (HX.out _ _ HB.out ct).mono ?_; rintro e' w6 ⟨rfl, hb⟩; replace ct := pw_cell_below hb ct; (try replace q0 := pw_cell_below hb q0); (try replace q1 := pw_cell_below hb q1); replace HB := Aside0.mk (below_step HB.out hb); clear hb)
      | ((with_reducible refine gate_dst (N := 11) rfl ?_); refine box_event ?hg (N := 11) ?hd (cs := #[.int .i64 0, .int .i64 0]) (t := 29) ?hr ?_; (case hd => rfl); (case hg => rfl); (case hr => first | (go_simp; done) | (go_simp; rfl)); intro g hg w5 hbox hb5; have hc0 : w5.cell? ⟨g, 0, none⟩ = some (.int .i64 0) := blk_cell hbox 0; have hc1 : w5.cell? ⟨g, 1, none⟩ = some (.int .i64 0) := blk_cell hbox 1; have hf0 := blk_frozen hbox 0; have hf1 := blk_frozen hbox 1; replace hbox := Aside0.mk hbox; replace hb5 := Aside0.mk hb5; replace hg := Aside0.mk hg)
      | ((with_reducible refine gate_store (t := 29) (p := 11) rfl ?_); refine store_event (t := 29) (p := 11) (v := .tmp 41) (w1 := (w5.setCell ⟨g, 0, none⟩ (.int .i64 (RL (DV s)))).setCell ⟨g, 1, none⟩ (.int .i64 (RH (DV s)))) ?hg ?ho ?hn ?hr ?_; (case ho => rfl); (case hg => rfl); (case hn => rfl); (case hr => first | (go_simp; done) | (go_simp; rfl)); intro w6 hw6; clear hc0 hc1 hf0 hf1; have hbx := box2_ (x := .int .i64 (RL (DV s))) (y := .int .i64 (RH (DV s))) hb5.out hg.out hbox.out; rw [← hw6] at hbx; clear hw6 hb5 hg hbox; obtain ⟨hb6, q0, q1⟩ := hbx; replace ct := pw_cell_below hb6 ct; replace HB := Aside0.mk (below_step HB.out hb6); clear hb6)
      | ((with_reducible refine gate_dst (N := 16) rfl ?_); (try clear q0 q1); refine box_event ?hg (N := 16) ?hd (cs := #[.int .i64 0, .int .i64 0]) (t := 29) ?hr ?_; (case hd => rfl); (case hg => rfl); (case hr => first | (go_simp; done) | (go_simp; rfl)); intro g2 hg w7 hbox hb5; have hc0 : w7.cell? ⟨g2, 0, none⟩ = some (.int .i64 0) := blk_cell hbox 0; have hc1 : w7.cell? ⟨g2, 1, none⟩ = some (.int .i64 0) := blk_cell hbox 1; have hf0 := blk_frozen hbox 0; have hf1 := blk_frozen hbox 1; replace hbox := Aside0.mk hbox; replace hb5 := Aside0.mk hb5; replace hg := Aside0.mk hg)
      | ((with_reducible refine gate_store (t := 29) (p := 16) rfl ?_); refine store_event (t := 29) (p := 16) (v := .tmp 107) (w1 := (w7.setCell ⟨g2, 0, none⟩ (.int .i64 (RL n))).setCell ⟨g2, 1, none⟩ (.int .i64 (RH n))) ?hg ?ho ?hn ?hr ?_; (case ho => rfl); (case hg => rfl); (case hn => rfl); (case hr => first | (go_simp; done) | (go_simp; rfl)); intro w8 hw8; clear hc0 hc1 hf0 hf1; have hbx := box2_ (x := .int .i64 (RL n)) (y := .int .i64 (RH n)) hb5.out hg.out hbox.out; rw [← hw8] at hbx; clear hw8 hb5 hg hbox; obtain ⟨hb6, q0, q1⟩ := hbx; replace ct := pw_cell_below hb6 ct; replace HB := Aside0.mk (below_step HB.out hb6); clear hb6))
    go_ret
    exact ⟨rfl, HB.out⟩
def spilelaw18_InterpolateUndoes.f (l0 : List S34) (a1 a2 : Int) : Option Bool := some true
theorem spilelaw18_InterpolateUndoes.calls (A0 : Option Addr) (c0 : Nat) (l0 : List S34) (a1 a2 : Int) (r : Bool) (w : World) (hr0 : Kd.C k34 w A0 l0.length l0) (hc0 : l0.length ≤ c0) (h : spilelaw18_InterpolateUndoes.f l0 a1 a2 = some r) :
    Calls Try.prog 5 #[.slice A0 l0.length c0, .int .i64 a1, .int .i64 a2] w fun e w' => e = .returned (.bool r) ∧ Below w.heap.size w w' := by
  obtain rfl := Option.some.inj h
  obtain ⟨b, hb⟩ := few18_some l0
  refine InterpolateUndoes.walk (fun x => (denS l0 x).1) (fun x => (denS l0 x).2) (fun x => (strS l0 x).1) (fun x => (strS l0 x).2) (fun x => (rng18 l0 x).1) (fun x => (rng18 l0 x).2.1) (fun x => (rng18 l0 x).2.2) A0 c0 l0 a1 a2 b w hr0 hc0 hb
    (fun x => interpolate_Density.plain l0 x) (fun x => interpolate_Strength.plain l0 x) (fun x => interpolate_Range.plain l0 x) ?_ (fun hbt => ?_)
  · cases b
    · exact Or.inl rfl
    refine Or.inr ⟨rfl, ?_⟩
    by_cases hk : (dchk l0).2 = 0
    case neg =>
      left
      show ((denS l0 a2).2 == 0) = false
      unfold denS
      rw [if_pos hk]
      rfl
    have h := (right_iff l0).1 hk
    by_cases hs : a2 < 0 ∨ 10000 < a2
    · left
      show ((denS l0 a2).2 == 0) = false
      unfold denS
      rw [if_neg (not_not_intro hk), if_pos hs]
      rfl
    right
    have e1 : denS l0 a2 = (dens l0 a2, 0) := by unfold denS; rw [if_neg (not_not_intro hk), if_neg hs]
    have r1 := h.dens_rng (s := a2) (by omega) (by omega)
    have r2 := h.dens_anti (s := 0) (s' := a2) (by omega) (by omega) (by omega)
    obtain ⟨f0, f1, f2, f3⟩ := h.first_spec (dens l0 a2)
    obtain ⟨g0, g1, g2, g3⟩ := h.first_spec (dens l0 a2 + 1)
    have p1 : a2 ≤ firstS l0 (dens l0 a2) - 1 := by
      rcases Int.lt_or_le a2 (firstS l0 (dens l0 a2)) with q | q
      · omega
      · have := f3 a2 q (by omega)
        omega
    have p2 : firstS l0 (dens l0 a2 + 1) ≤ a2 := by
      rcases Int.lt_or_le a2 (firstS l0 (dens l0 a2 + 1)) with q | q
      · have := g2 a2 (by omega) q
        omega
      · exact q
    have e2 : strS l0 (dens l0 a2) = (firstS l0 (dens l0 a2) - 1, 0) := by unfold strS; rw [if_neg (not_not_intro hk), if_neg (by omega), if_neg (by omega)]
    have e3 : rng18 l0 (dens l0 a2) = (firstS l0 (dens l0 a2 + 1), firstS l0 (dens l0 a2) - 1, 0) := by unfold rng18; rw [if_neg (not_not_intro hk), if_neg (by omega), if_neg (by omega)]
    simp only [e1, e2, e3]
    exact ⟨rfl, rfl, rfl, bne_self_eq_false _, decide_eq_false (by omega), decide_eq_false (by omega)⟩
  · by_cases hk : (dchk l0).2 = 0
    case neg =>
      left
      have e : strS l0 a1 = (0, 1) := by unfold strS; rw [if_pos hk]
      simp only [e]
      exact ⟨rfl, rfl⟩
    have h := (right_iff l0).1 hk
    by_cases hn : 50000 ≤ a1 ∧ a1 ≤ 120000
    case neg =>
      left
      have e : strS l0 a1 = (0, 2) := by unfold strS; rw [if_neg (not_not_intro hk), if_pos hn]
      simp only [e]
      exact ⟨rfl, rfl⟩
    by_cases hd : a1 > dens l0 0
    · left
      have e : strS l0 a1 = (0, 2) := by unfold strS; rw [if_neg (not_not_intro hk), if_neg (not_not_intro hn), if_pos hd]
      simp only [e]
      exact ⟨rfl, rfl⟩
    right
    have e2 : strS l0 a1 = (firstS l0 a1 - 1, 0) := by unfold strS; rw [if_neg (not_not_intro hk), if_neg (not_not_intro hn), if_neg hd]
    have fp := h.first_pos (n := a1) (by omega)
    obtain ⟨f0, f1, f2, f3⟩ := h.first_spec a1
    obtain ⟨g0, g1, g2, g3⟩ := h.first_spec (a1 + 1)
    have ed : ∀ x, 0 ≤ x → x ≤ 10000 → denS l0 x = (dens l0 x, 0) := fun x q0 q1 => by unfold denS; rw [if_neg (not_not_intro hk), if_neg (by omega)]
    have d1 := f2 (firstS l0 a1 - 1) (by omega) (by omega)
    simp only [e2]
    refine ⟨rfl, decide_eq_false (by omega), decide_eq_false (by omega), ?_, ?_, ?_⟩
    · rw [ed _ (by omega) (by omega)]
      exact decide_eq_false (by show ¬ dens l0 (firstS l0 a1 - 1) < a1; omega)
    · by_cases q : firstS l0 a1 - 1 < 10000
      · right
        have := f3 (firstS l0 a1) (Int.le_refl _) (by omega)
        refine ⟨decide_eq_true q, by rw [i64_w]; exact w64_ (by omega) (by omega), ?_⟩
        rw [show firstS l0 a1 - 1 + 1 = firstS l0 a1 by omega, ed _ (by omega) (by omega)]
        exact decide_eq_false (by show ¬ a1 ≤ dens l0 (firstS l0 a1); omega)
      · exact Or.inl (decide_eq_false q)
    · by_cases hr : firstS l0 (a1 + 1) > firstS l0 a1 - 1
      · left
        have e3 : rng18 l0 a1 = (0, 0, 7) := by unfold rng18; rw [if_neg (not_not_intro hk), if_neg (not_not_intro hn), if_pos hr]
        have := g2 (firstS l0 a1 - 1) (by omega) (by omega)
        simp only [e3]
        refine ⟨rfl, rfl, ?_⟩
        rw [ed _ (by omega) (by omega)]
        exact bne_iff_ne.mpr (by show dens l0 (firstS l0 a1 - 1) ≠ a1; omega)
      · right
        have e3 : rng18 l0 a1 = (firstS l0 (a1 + 1), firstS l0 a1 - 1, 0) := by unfold rng18; rw [if_neg (not_not_intro hk), if_neg (not_not_intro hn), if_neg hr]
        have t1 := f2 (firstS l0 (a1 + 1)) (by omega) (by omega)
        have t2 := g3 (firstS l0 (a1 + 1)) (Int.le_refl _) (by omega)
        simp only [e3]
        refine ⟨rfl, beq_self_eq_true _, ?_, ?_⟩
        · rw [ed _ (by omega) (by omega)]
          exact beq_iff_eq.mpr (by show dens l0 (firstS l0 (a1 + 1)) = a1; omega)
        · by_cases q : firstS l0 (a1 + 1) = 0
          · exact Or.inl (beq_iff_eq.mpr q)
          · right
            have t3 := g2 (firstS l0 (a1 + 1) - 1) (by omega) (by omega)
            refine ⟨beq_eq_false_iff_ne.mpr q, by rw [i64_w]; exact w64_ (by omega) (by omega), ?_⟩
            rw [ed _ (by omega) (by omega)]
            exact decide_eq_true (by show a1 < dens l0 (firstS l0 (a1 + 1) - 1); omega)

end Go.Proofs.Ytlgihblojnoheaa.PF
