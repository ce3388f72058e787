-- Written by a program of this session (wip/pr.py) out of Lean's print of the translation; Lean checks it.
import Derived.Test.YtlgihblojnoheaaPF0
import Derived.Test.YtlgihblojnoheaaPF1
import Derived.Test.YtlgihblojnoheaaPF5
namespace Go.Proofs.Ytlgihblojnoheaa.PF
open Go.RowKit Go.Proofs.YtlgihblojnoheaaW.PrintWords Go.Proofs.YtlgihblojnoheaaW.PrintLast Go.Proofs.YtlgihblojnoheaaW.PrintMore
attribute [local go_sem] max2_int min2_int max_two min_two max_three min_three max_four min_four   -- for this text's walks alone
set_option linter.unusedVariables false
set_option linter.unusedSimpArgs false

/-! ### density_right: function 37 -/
def density_right.f (l0 : List (S34)) : Option (Bool) := (density_Check_s.f l0).bind fun bt202 => (some (bt202.2 == 0))
set_option maxHeartbeats 8000000 in
set_option maxRecDepth 100000 in
theorem density_right.calls (A0 : Option Addr) (c0 : Nat) (l0 : List (S34)) (r : Bool) (w : World) (hr0 : Kd.C k34 w A0 l0.length l0) (hc0 : l0.length ≤ c0) (h : density_right.f l0 = some r) :
  Calls Try.prog 37 #[.slice A0 l0.length c0] w fun e w' => e = .returned (.bool r) ∧ Below w.heap.size w w' := by
 have HR0 := Aside0.mk hr0
 have HC0 := Aside0.mk hc0
 clear hr0 hc0
 have HB := Aside0.mk (Below.refl w.heap.size w)
 have H : ((density_Check_s.f l0).bind fun bt202 => (some (bt202.2 == 0))) = some r := h
 clear h
 replace H := Option.bind_eq_some_iff.mp H
 obtain ⟨⟨t202, t203⟩, A20, H⟩ := H
 replace H : (some (t203 == 0)) = some r := H
 have A2 := Aside0.mk A20
 clear A20
 obtain rfl := Option.some.inj H
 go_enter Try.func37, Try.ntmps37
 go_wp2_with (first | ((with_reducible refine gate_callee (f := 47) rfl ?_); refine goesL_ (some 7) rfl rfl Try.func47 (by kernel_rfl) rfl #[.slice A0 l0.length c0] rfl (by (try simp only [List.map_toArray, List.map_cons, List.map_nil]); first | done | rfl | (simp only [List.length_drop, List.length_take]; rfl)) ?_; (with_reducible refine (density_Check_s.calls _ _ l0 t202 t203 _ ?side1 ?side2 A2.out).mono ?_); (case side1 => repeat (first | exact HR0.out | (with_reducible refine Kd.C_alloc ?_ _) | (with_reducible refine Kd.C_drewN ?_ _) | (with_reducible refine Kd.C_drew ?_))); (case side2 => exact HC0.out); rintro e w3 ⟨rfl, hb⟩; refine ⟨_, rfl, ?_⟩; have n0_ := Aside0.mk (below_step (by repeat (first | (with_reducible first | exact HB.out | apply below_alloc | apply pw_below_drewN | apply below_drew1) | exact HB.out)) hb); clear HB; have HB := n0_; clear n0_; (try clear hb); (try clear hb2); (try clear hk); (try clear hi)))
 go_ret
 exact ⟨by first | rfl | (simp [errW_none, errW_some] <;> rfl) | (simp [*, errW_none, errW_some] <;> rfl), by repeat (first | (with_reducible first | exact HB.out | apply below_alloc | apply pw_below_drewN | apply below_drew1) | exact HB.out)⟩

/-! ### density_Find: function 17 -/
-- MAKING
/-- How many rows have at most a strength. -/
def overB (l : List S34) (s : Int) (i : Nat) : Bool := decide (s < (rd_T34 l (i : Int)).f0)
def cntO (l : List S34) (s : Int) : Nat := (List.range l.length).countP (fun i => !(overB l s i))
theorem RightT.over_mono {l : List S34} (h : RightT l) (s : Int) : ∀ a b : Nat, a ≤ b → b < l.length → overB l s a = true → overB l s b = true := by
  intro a b hab hb ha
  have h1 := h.le hab hb
  unfold overB at *
  simp only [decide_eq_true_eq] at *
  omega
theorem RightT.cntO_spec {l : List S34} (h : RightT l) (s : Int) : cntO l s ≤ l.length ∧ (∀ t, t < cntO l s → (rd_T34 l (t : Int)).f0 ≤ s) ∧ (∀ t, cntO l s ≤ t → t < l.length → s < (rd_T34 l (t : Int)).f0) := by
  obtain ⟨c1, c2, c3⟩ := countP_mono l.length (overB l s) (h.over_mono s)
  refine ⟨c1, fun t h1 => ?_, fun t h1 h2 => ?_⟩
  · have := c2 t h1
    unfold overB at this
    simpa using this
  · have := c3 t h1 h2
    unfold overB at this
    simpa using this
set_option maxHeartbeats 4000000 in
set_option maxRecDepth 100000 in
theorem density_Find.clo (bt bn : Nat) (A : Option Addr) (c : Nat) (l : List S34) (n : Int) (i : Nat) (W : World) (hi : i < l.length)
    (ht : W.cell? ⟨bt, 0, none⟩ = some (.slice A l.length c)) (hn : W.cell? ⟨bn, 0, none⟩ = some (.int .i64 n)) (hr : Kd.C k34 W A l.length l) :
    Calls Try.prog 39 (#[.int .i64 i] ++ #[.pointer (some ⟨bt, 0, none⟩), .pointer (some ⟨bn, 0, none⟩)]) W fun e w' => e = .returned (.bool (overB l n i)) ∧ Below W.heap.size W w' := by
  have p : 0 ≤ (i : Int) := by omega
  have q : (i : Int) < (l.length : Int) := by omega
  obtain ⟨ad, e, h0, h1⟩ := at_T34 hr (i : Int) p q
  cases e
  simp only [Int.toNat_natCast] at h0 h1
  have HB := Aside0.mk (Below.refl W.heap.size W)
  clear hr hi
  unfold overB
  generalize (rd_T34 l (i : Int)).f0 = y0 at h0 ⊢
  generalize (rd_T34 l (i : Int)).f1 = y1 at h1
  replace p := eq_true p
  replace q := eq_true q
  go_enter Try.func39, Try.ntmps39
  go_wp2
  go_quiet (fail)
  go_wp2
  go_ret
  exact ⟨rfl, pw_below_drewN HB.out _⟩
def findS (l : List S34) (s : Int) : Int × Int := if (dchk l).2 ≠ 0 then (0, 1) else if s < 0 ∨ 10000 < s then (0, 2) else ((cntO l s : Int) - 1, 0)
def density_Find.f (l0 : List S34) (a1 : Int) : Option (Int × Int) := some (findS l0 a1)
set_option maxHeartbeats 4000000 in
set_option maxRecDepth 100000 in
theorem density_Find.calls (A0 : Option Addr) (c0 : Nat) (l0 : List S34) (a1 : Int) (r1 r2 : Int) (w : World) (hr0 : Kd.C k34 w A0 l0.length l0) (hc0 : l0.length ≤ c0) (h : density_Find.f l0 a1 = some (r1, r2)) :
    Calls Try.prog 17 #[.slice A0 l0.length c0, .int .i64 a1] w fun e w' => e = .returned (.tuple #[.int .i64 r1, .int .i64 r2]) ∧ Below w.heap.size w w' := by
  unfold density_Find.f at h
  have e1 := Option.some.inj h
  unfold findS at e1
  clear h
  obtain ⟨W0, hW0⟩ : ∃ W0, W0 = (w.alloc (.cells #[.slice A0 l0.length c0] 22)).alloc (.cells #[.int .i64 a1] 3) := ⟨_, rfl⟩
  have hB0 : Below w.heap.size w W0 := by rw [hW0]; exact below_alloc (below_alloc (Below.refl _ _) _) _
  have ct : W0.cell? ⟨w.heap.size, 0, none⟩ = some (.slice A0 l0.length c0) := by rw [hW0]; exact pw_cell_alloc _ (pw_cell_new w _ _)
  have cs : W0.cell? ⟨w.heap.size + 1, 0, none⟩ = some (.int .i64 a1) := by rw [hW0]; rw [World.cell?_alloc_at _ _ _ _ (by simp)]; rfl
  have hr : Kd.C k34 W0 A0 l0.length l0 := Kd.C_below hr0 hB0
  have HR := Aside0.mk (density_right.calls A0 c0 l0 ((dchk l0).2 == 0) W0 hr hc0 rfl)
  have HB0 := Aside0.mk hB0
  have HW0 := Aside0.mk hW0
  clear hB0 hW0
  by_cases hok : (dchk l0).2 = 0
  case neg =>
    rw [if_pos hok] at e1
    injection e1 with e1 e2
    subst e1 e2
    rw [show ((dchk l0).2 == 0) = false from beq_eq_false_iff_ne.mpr hok] at HR
    clear hok hr hr0 hc0
    go_enter Try.func17, Try.ntmps17
    go_wp2_with fail
    rw [← HW0.out]
    refine HR.out.mono ?_
    rintro e w' ⟨rfl, hb⟩
    have HB := Aside0.mk (below_step HB0.out hb)
    clear hb
    go_wp2
    go_ret2
    exact ⟨rfl, HB.out⟩
  rw [if_neg (not_not_intro hok)] at e1
  rw [show ((dchk l0).2 == 0) = true from beq_iff_eq.mpr hok] at HR
  have hR := (right_iff l0).1 hok
  by_cases h0 : a1 < 0
  · rw [if_pos (Or.inl h0)] at e1
    injection e1 with e1 e2
    subst e1 e2
    have b0 : decide (a1 < 0) = true := decide_eq_true h0
    clear hok hr hr0 hc0 hR h0
    go_enter Try.func17, Try.ntmps17
    go_wp2_with fail
    rw [← HW0.out]
    refine HR.out.mono ?_
    rintro e w' ⟨rfl, hb⟩
    replace ct := pw_cell_below hb ct
    replace cs := pw_cell_below hb cs
    have HB := Aside0.mk (below_step HB0.out hb)
    clear hb HB0 HW0 HR
    go_wp2
    go_ret2
    exact ⟨rfl, HB.out⟩
  have b0 : decide (a1 < 0) = false := decide_eq_false h0
  by_cases h1 : 10000 < a1
  · rw [if_pos (Or.inr h1)] at e1
    injection e1 with e1 e2
    subst e1 e2
    have b1 : decide (10000 < a1) = true := decide_eq_true h1
    clear hok hr hr0 hc0 hR h0 h1
    go_enter Try.func17, Try.ntmps17
    go_wp2_with fail
    rw [← HW0.out]
    refine HR.out.mono ?_
    rintro e w' ⟨rfl, hb⟩
    replace ct := pw_cell_below hb ct
    replace cs := pw_cell_below hb cs
    have HB := Aside0.mk (below_step HB0.out hb)
    clear hb HB0 HW0 HR
    go_wp2
    go_ret2
    exact ⟨rfl, HB.out⟩
  have b1 : decide (10000 < a1) = false := decide_eq_false h1
  rw [if_neg (by omega)] at e1
  injection e1 with e1 e2
  have eg : ∀ args w, (callFunc 39 args).run Try.prog w = .ok (.enter 39 args) w := enters_of Try.func39 (by kernel_rfl) rfl
  have hlen := hR.hi
  have HS := Aside0.mk (fun W (hB : Below W0.heap.size W0 W) => sort_Search.below 39 #[.pointer (some ⟨w.heap.size, 0, none⟩), .pointer (some ⟨w.heap.size + 1, 0, none⟩)] l0.length (overB l0 a1) W eg (by omega)
    (fun W' i hi hb => density_Find.clo w.heap.size (w.heap.size + 1) A0 c0 l0 a1 i W' hi (pw_cell_below hb (pw_cell_below hB ct)) (pw_cell_below hb (pw_cell_below hB cs)) (Kd.C_below (Kd.C_below hr hB) hb))
    (hR.over_mono a1))
  have hc := (hR.cntO_spec a1).1
  unfold cntO at e1 hc
  have hw1 : IntKind.i64.wrap (((List.range l0.length).countP (fun i => !(overB l0 a1 i)) : Nat) - 1 : Int) = r1 := by rw [i64_w, w64_ (by omega) (by omega)]; exact e1
  generalize (List.range l0.length).countP (fun i => !(overB l0 a1 i)) = d at HS hw1
  subst e2
  clear hok hr hr0 hc0 hR h0 h1 eg hlen hc e1
  go_enter Try.func17, Try.ntmps17
  go_wp2_with fail
  rw [← HW0.out]
  refine HR.out.mono ?_
  rintro e w' ⟨rfl, hb⟩
  replace ct := pw_cell_below hb ct
  replace cs := pw_cell_below hb cs
  have HS2 := Aside0.mk (HS.out _ hb)
  have HB := Aside0.mk (below_step HB0.out hb)
  clear hb HB0 HW0 HR HS
  go_wp2_with fail
  refine HS2.out.mono ?_
  rintro e w2 ⟨rfl, hb⟩
  replace HB := Aside0.mk (below_step HB.out hb)
  clear hb
  go_wp2
  go_ret2
  exact ⟨rfl, HB.out⟩

end Go.Proofs.Ytlgihblojnoheaa.PF
