/- The walk through the law InterpolateApart of package spilelaw18 and its closure. -/
import Derived.Test.YtlgihblojnoheaaMDif18
import Derived.Test.YtlgihblojnoheaaMDif18b
import Derived.Test.YtlgihblojnoheaaMDif18c
import Derived.Test.YtlgihblojnoheaaMInt18
import Derived.Test.YtlgihblojnoheaaPF0
import Derived.Test.YtlgihblojnoheaaPF1
import Derived.Test.YtlgihblojnoheaaPF5
import Derived.Test.YtlgihblojnoheaaPF6
import Derived.Test.YtlgihblojnoheaaPF8
namespace Go.Proofs.Ytlgihblojnoheaa.PF
open Go.RowKit Go.Proofs.YtlgihblojnoheaaW.PrintWords Go.Proofs.YtlgihblojnoheaaW.PrintLast Go.Proofs.YtlgihblojnoheaaW.PrintMore
set_option linter.unusedVariables false
set_option linter.unusedSimpArgs false
theorem InterpolateApart.few (l : List S34) : ∃ b, spileref16_Few.f l = some b := by
  unfold spileref16_Few.f
  split
  · exact ⟨_, rfl⟩
  · split <;> exact ⟨_, rfl⟩
theorem InterpolateApart.few18 (l : List S34) (b : Bool) (A : Option Addr) (c : Nat) (w : World) (hr : Kd.C k34 w A l.length l) (hc : l.length ≤ c) (h : spileref16_Few.f l = some b) :
    Calls Try.prog 10 #[.slice A l.length c] w fun e w' => e = .returned (.bool b) ∧ Below w.heap.size w w' := by
  refine (spileref16_Few.calls A c l b w hr hc h).mono ?_
  rintro e w' ⟨rfl, hd⟩
  exact ⟨rfl, hd.below⟩
set_option maxHeartbeats 1000000 in
set_option maxRecDepth 100000 in
theorem InterpolateApart.clo (g1 g2 : Nat) (A1 A2 : Option Addr) (c1 c2 : Nat) (t u : List S34) (x v1 v2 m : Int) (W : World) (hc1 : t.length ≤ c1) (hc2 : u.length ≤ c2) (hs1 : interpolate_Density.f t x = some (v1, 0)) (hs2 : interpolate_Density.f u x = some (v2, 0)) (ct : W.cell? ⟨g1, 0, none⟩ = some (.slice A1 t.length c1)) (cu : W.cell? ⟨g2, 0, none⟩ = some (.slice A2 u.length c2)) (hr1 : Kd.C k34 W A1 t.length t) (hr2 : Kd.C k34 W A2 u.length u)
    (q1 : IntKind.i64.wrap (v1 - v2) = v1 - v2) (q2 : IntKind.i64.wrap (v2 - v1) = v2 - v1) (hm : max (v1 - v2) (v2 - v1) = m) :
    Calls Try.prog 26 (#[.int .i64 x] ++ #[.pointer (some ⟨g1, 0, none⟩), .pointer (some ⟨g2, 0, none⟩)]) W fun e w' => e = .returned (.int .i64 m) ∧ Below W.heap.size W w' := by
  have HS1 := Aside0.mk (interpolate_Density.calls A1 c1 t x v1 0 W hr1 hc1 hs1)
  have HS2 := Aside0.mk (fun W' (hb : Below W.heap.size W W') => interpolate_Density.calls A2 c2 u x v2 0 W' (Kd.C_below hr2 hb) hc2 hs2)
  clear hc1 hc2 hs1 hs2 hr1 hr2
  go_enter Try.func26, Try.ntmps26
  go_wp2_with fail
  refine HS1.out.mono ?_
  rintro e w1 ⟨rfl, hb⟩
  have HB := Aside0.mk hb
  replace cu := pw_cell_below hb cu
  clear hb HS1
  go_wp2_with fail
  refine (HS2.out _ HB.out).mono ?_
  rintro e w2 ⟨rfl, hb⟩
  replace HB := Aside0.mk (below_step HB.out hb)
  clear hb HS2
  go_wp2
  go_ret
  exact ⟨by first | rfl | simp [hm], HB.out⟩
set_option maxHeartbeats 4000000 in
set_option maxRecDepth 100000 in
theorem InterpolateApart.walk (A1 A2 : Option Addr) (c1 c2 : Nat) (t u : List S34) (n p : Int) (w : World) (h1 : Kd.C k34 w A1 t.length t) (hc1 : t.length ≤ c1) (h2 : Kd.C k34 w A2 u.length u) (hc2 : u.length ≤ c2) (b1 b2 : Bool) (hb1 : spileref16_Few.f t = some b1) (hb2 : spileref16_Few.f u = some b2) (d a e : Int) (hr : difR t u n = (d, a, e)) (m s : Int)
    (he : (e != 0) = true ∧ d = 0 ∧ a = 0 ∨ (e != 0) = false ∧ e = 0 ∧ difR u t n = (d, a, 0) ∧ difR t t n = (0, 0, 0) ∧ decide (n < 1) = false ∧ ¬ n = 0 ∧ Int.tmod a n = 0 ∧ IntKind.i64.wrap p = p ∧ Int.tmod p 10001 = m ∧ IntKind.i64.wrap (Int.tdiv m n) = Int.tdiv m n ∧ IntKind.i64.wrap (Int.tdiv m n * n) = s ∧
      ∃ v1 v2 x1 x2 y : Int, interpolate_Density.f t a = some (v1, 0) ∧ interpolate_Density.f u a = some (v2, 0) ∧ IntKind.i64.wrap (v1 - v2) = v1 - v2 ∧ IntKind.i64.wrap (v2 - v1) = v2 - v1 ∧ max (v1 - v2) (v2 - v1) = d ∧
        interpolate_Density.f t s = some (x1, 0) ∧ interpolate_Density.f u s = some (x2, 0) ∧ IntKind.i64.wrap (x1 - x2) = x1 - x2 ∧ IntKind.i64.wrap (x2 - x1) = x2 - x1 ∧ max (x1 - x2) (x2 - x1) = y ∧ decide (0 ≤ y) = true ∧ decide (y ≤ d) = true) :
    Calls Try.prog 8 #[.slice A1 t.length c1, .slice A2 u.length c2, .int .i64 n, .int .u16 p] w fun e w' => e = .returned (.bool true) ∧ Below w.heap.size w w' := by
  obtain ⟨W0, hW0⟩ : ∃ W0, W0 = (w.alloc (.cells #[.slice A1 t.length c1] 22)).alloc (.cells #[.slice A2 u.length c2] 22) := ⟨_, rfl⟩
  have hB0 : Below w.heap.size w W0 := by rw [hW0]; exact below_alloc (below_alloc (Below.refl _ _) _) _
  have ct : W0.cell? ⟨w.heap.size, 0, none⟩ = some (.slice A1 t.length c1) := by rw [hW0]; exact ((Boxed.new w _ _).alloc _).cell
  have cu : W0.cell? ⟨w.heap.size + 1, 0, none⟩ = some (.slice A2 u.length c2) := by rw [hW0]; have := (Boxed.new (w.alloc (.cells #[.slice A1 t.length c1] 22)) 22 (.slice A2 u.length c2)).cell; rwa [World.size_alloc] at this
  have HA := Aside0.mk (fun W => spilelaw18_awake.calls true W rfl)
  have HF1 := Aside0.mk (fun W (hb : Below w.heap.size w W) => InterpolateApart.few18 t b1 A1 c1 W (Kd.C_below h1 hb) hc1 hb1)
  have HF2 := Aside0.mk (fun W (hb : Below w.heap.size w W) => InterpolateApart.few18 u b2 A2 c2 W (Kd.C_below h2 hb) hc2 hb2)
  have HD := Aside0.mk (fun W (hb : Below w.heap.size w W) => differ.known A1 A2 c1 c2 W (Kd.C_below h1 hb) hc1 (Kd.C_below h2 hb) hc2 hr)
  have eg : ∀ args w, (callFunc 26 args).run Try.prog w = .ok (.enter 26 args) w := enters_of Try.func26 (by kernel_rfl) rfl
  have HB0 := Aside0.mk hB0
  have HW0 := Aside0.mk hW0
  rcases he with ⟨he, rfl, rfl⟩ | ⟨he, rfl, hr2, hr3, k1, k2, k3, k4, k5, k6, k7, v1, v2, x1, x2, y, f1, f2, f3, f4, f5, f6, f7, f8, f9, f10, f11, f12⟩
  · clear hB0 hW0 hb1 hb2 h1 h2 hc1 hc2 hr
    cases b1 <;> cases b2
    all_goals
      go_enter Try.func8, Try.ntmps8
      go_wp2_with fail
      rw [← HW0.out]
      refine (HA.out _).mono ?_
      rintro e' w1 ⟨rfl, hb⟩
      replace ct := pw_cell_below hb ct
      replace cu := pw_cell_below hb cu
      have HB := Aside0.mk (below_step HB0.out hb)
      clear hb HA HB0 HW0
      go_wp2_with (first
        | (go_at_call 10; (first | (refine (HF1.out _ HB.out).mono ?_; clear HF1) | (refine (HF2.out _ HB.out).mono ?_; clear HF2)); rintro x w2 ⟨rfl, hb⟩; replace ct := pw_cell_below hb ct; replace cu := pw_cell_below hb cu; replace HB := Aside0.mk (below_step HB.out hb); clear hb)
        | (go_at_call 24; refine (HD.out _ HB.out).mono ?_; rintro x w2 ⟨rfl, hb⟩; replace ct := pw_cell_below hb ct; replace cu := pw_cell_below hb cu; replace HB := Aside0.mk (below_step HB.out hb); clear hb HD))
      go_ret
      exact ⟨by first | rfl | simp, HB.out⟩
  have HD2 := Aside0.mk (fun W (hb : Below w.heap.size w W) => differ.known A2 A1 c2 c1 W (Kd.C_below h2 hb) hc2 (Kd.C_below h1 hb) hc1 hr2)
  have HD3 := Aside0.mk (fun W (hb : Below w.heap.size w W) => differ.known A1 A1 c1 c1 W (Kd.C_below h1 hb) hc1 (Kd.C_below h1 hb) hc1 hr3)
  have HX1 := Aside0.mk (fun W (hb : Below w.heap.size w W) (ct : W.cell? ⟨w.heap.size, 0, none⟩ = some (.slice A1 t.length c1)) (cu : W.cell? ⟨w.heap.size + 1, 0, none⟩ = some (.slice A2 u.length c2)) => InterpolateApart.clo w.heap.size (w.heap.size + 1) A1 A2 c1 c2 t u a v1 v2 d W hc1 hc2 f1 f2 ct cu (Kd.C_below h1 hb) (Kd.C_below h2 hb) f3 f4 f5)
  have HX2 := Aside0.mk (fun W (hb : Below w.heap.size w W) (ct : W.cell? ⟨w.heap.size, 0, none⟩ = some (.slice A1 t.length c1)) (cu : W.cell? ⟨w.heap.size + 1, 0, none⟩ = some (.slice A2 u.length c2)) => InterpolateApart.clo w.heap.size (w.heap.size + 1) A1 A2 c1 c2 t u s x1 x2 y W hc1 hc2 f6 f7 ct cu (Kd.C_below h1 hb) (Kd.C_below h2 hb) f8 f9 f10)
  clear hB0 hW0 hb1 hb2 h1 h2 hc1 hc2 hr hr2 hr3 f1 f2 f3 f4 f5 f6 f7 f8 f9 f10
  cases b1
  · clear eg HD HD2 HD3 HX1 HX2 HF2 k1 k2 k3 k4 k5 k6 k7 f11 f12
    go_enter Try.func8, Try.ntmps8
    go_wp2_with fail
    rw [← HW0.out]
    refine (HA.out _).mono ?_
    rintro e' w1 ⟨rfl, hb⟩
    replace ct := pw_cell_below hb ct
    replace cu := pw_cell_below hb cu
    have HB := Aside0.mk (below_step HB0.out hb)
    clear hb HA HB0 HW0
    go_wp2_with fail
    refine (HF1.out _ HB.out).mono ?_
    rintro x w2 ⟨rfl, hb⟩
    replace ct := pw_cell_below hb ct
    replace cu := pw_cell_below hb cu
    replace HB := Aside0.mk (below_step HB.out hb)
    clear hb
    go_wp2
    go_ret
    exact ⟨by first | rfl | simp, HB.out⟩
  cases b2
  · clear eg HD HD2 HD3 HX1 HX2 k1 k2 k3 k4 k5 k6 k7 f11 f12
    go_enter Try.func8, Try.ntmps8
    go_wp2_with fail
    rw [← HW0.out]
    refine (HA.out _).mono ?_
    rintro e' w1 ⟨rfl, hb⟩
    replace ct := pw_cell_below hb ct
    replace cu := pw_cell_below hb cu
    have HB := Aside0.mk (below_step HB0.out hb)
    clear hb HA HB0 HW0
    go_wp2_with fail
    refine (HF1.out _ HB.out).mono ?_
    rintro x w2 ⟨rfl, hb⟩
    replace ct := pw_cell_below hb ct
    replace cu := pw_cell_below hb cu
    replace HB := Aside0.mk (below_step HB.out hb)
    clear hb
    go_wp2_with fail
    refine (HF2.out _ HB.out).mono ?_
    rintro x w3 ⟨rfl, hb⟩
    replace ct := pw_cell_below hb ct
    replace cu := pw_cell_below hb cu
    replace HB := Aside0.mk (below_step HB.out hb)
    clear hb
    go_wp2
    go_ret
    exact ⟨by first | rfl | simp, HB.out⟩
  go_enter Try.func8, Try.ntmps8
  go_wp2_with fail
  rw [← HW0.out]
  refine (HA.out _).mono ?_
  rintro e' w1 ⟨rfl, hb⟩
  replace ct := pw_cell_below hb ct
  replace cu := pw_cell_below hb cu
  have HB := Aside0.mk (below_step HB0.out hb)
  clear hb HA HB0 HW0
  go_wp2_with fail
  refine (HF1.out _ HB.out).mono ?_
  rintro x w2 ⟨rfl, hb⟩
  replace ct := pw_cell_below hb ct
  replace cu := pw_cell_below hb cu
  replace HB := Aside0.mk (below_step HB.out hb)
  clear hb
  go_wp2_with fail
  refine (HF2.out _ HB.out).mono ?_
  rintro x w3 ⟨rfl, hb⟩
  replace ct := pw_cell_below hb ct
  replace cu := pw_cell_below hb cu
  replace HB := Aside0.mk (below_step HB.out hb)
  clear hb
  clear HF1 HF2
  go_wp2_with fail
  refine (HD.out _ HB.out).mono ?_
  rintro x w4 ⟨rfl, hb⟩
  replace ct := pw_cell_below hb ct
  replace cu := pw_cell_below hb cu
  replace HB := Aside0.mk (below_step HB.out hb)
  clear hb
  clear HD
  go_wp2_with fail
  refine (HD2.out _ HB.out).mono ?_
  rintro x w5 ⟨rfl, hb⟩
  replace ct := pw_cell_below hb ct
  replace cu := pw_cell_below hb cu
  replace HB := Aside0.mk (below_step HB.out hb)
  clear hb
  clear HD2
  go_wp2_with fail
  refine (HD3.out _ HB.out).mono ?_
  rintro x w6 ⟨rfl, hb⟩
  replace ct := pw_cell_below hb ct
  replace cu := pw_cell_below hb cu
  replace HB := Aside0.mk (below_step HB.out hb)
  clear hb
  clear HD3
  go_wp2_with fail
  refine (HX1.out _ HB.out ct cu).mono ?_
  rintro x w7 ⟨rfl, hb⟩
  replace ct := pw_cell_below hb ct
  replace cu := pw_cell_below hb cu
  replace HB := Aside0.mk (below_step HB.out hb)
  clear hb
  clear HX1
  go_wp2_with fail
  refine (HX2.out _ HB.out ct cu).mono ?_
  rintro x w8 ⟨rfl, hb⟩
  replace ct := pw_cell_below hb ct
  replace cu := pw_cell_below hb cu
  replace HB := Aside0.mk (below_step HB.out hb)
  clear hb
  go_wp2_with fail
  refine (HX2.out _ HB.out ct cu).mono ?_
  rintro x w9 ⟨rfl, hb⟩
  replace ct := pw_cell_below hb ct
  replace cu := pw_cell_below hb cu
  replace HB := Aside0.mk (below_step HB.out hb)
  clear hb
  go_wp2
  go_ret
  exact ⟨by first | rfl | simp, HB.out⟩
/-! ### What Differ's answer says -/
def gapG (t u : List S34) (n : Int) (j : Nat) : Int := mx (dens t (sAt n j) - dens u (sAt n j)) (dens u (sAt n j) - dens t (sAt n j))
theorem mx_max (a b : Int) : mx a b = max a b := by unfold mx; split <;> omega
theorem gapG_pos (t u : List S34) (n : Int) (j : Nat) : 0 ≤ gapG t u n j := by unfold gapG; rw [mx_max]; omega
theorem difF_gap (t u : List S34) (n : Int) (p : Int × Int) (j : Nat) : difF t u n p j = if p.1 < gapG t u n j then (gapG t u n j, sAt n j) else p := rfl
theorem difS_spec (t u : List S34) (n : Int) (j : Nat) : (∃ i, i ≤ j ∧ difS t u n (List.range (j + 1)) = (gapG t u n i, sAt n i)) ∧ ∀ i, i ≤ j → gapG t u n i ≤ (difS t u n (List.range (j + 1))).1 := by
  induction j with
  | zero =>
    have h0 := gapG_pos t u n 0
    have e : difS t u n (List.range (0 + 1)) = (gapG t u n 0, sAt n 0) := by
      rw [difS_succ, difF_gap, if_pos (by show (-1 : Int) < _; omega)]
    refine ⟨⟨0, Nat.le_refl _, e⟩, fun i hi => ?_⟩
    obtain rfl : i = 0 := by omega
    rw [e]
    exact Int.le_refl _
  | succ j ih =>
    obtain ⟨⟨i, hi, e⟩, ih2⟩ := ih
    rw [difS_succ, difF_gap]
    by_cases hg : (difS t u n (List.range (j + 1))).1 < gapG t u n (j + 1)
    · rw [if_pos hg]
      refine ⟨⟨j + 1, Nat.le_refl _, rfl⟩, fun k hk => ?_⟩
      rcases Nat.lt_or_ge j k with q | q
      · obtain rfl : k = j + 1 := by omega
        exact Int.le_refl _
      · exact Int.le_trans (ih2 k q) (Int.le_of_lt hg)
    · rw [if_neg hg]
      refine ⟨⟨i, by omega, e⟩, fun k hk => ?_⟩
      rcases Nat.lt_or_ge j k with q | q
      · obtain rfl : k = j + 1 := by omega
        omega
      · exact ih2 k q
theorem gapG_comm (t u : List S34) (n : Int) (j : Nat) : gapG t u n j = gapG u t n j := by unfold gapG; rw [mx_max, mx_max]; omega
theorem difS_comm (t u : List S34) (n : Int) (js : List Nat) : difS t u n js = difS u t n js := by
  have h : difF t u n = difF u t n := by funext p j; rw [difF_gap, difF_gap, gapG_comm]
  unfold difS
  rw [h]
theorem difS_self (t : List S34) (n : Int) (j : Nat) : difS t t n (List.range (j + 1)) = (0, 0) := by
  have h0 : ∀ i, gapG t t n i = 0 := fun i => by unfold gapG; rw [mx_max]; omega
  induction j with
  | zero => rw [difS_succ, difF_gap, h0, if_pos (by show (-1 : Int) < 0; omega)]; unfold sAt; simp
  | succ j ih => rw [difS_succ, ih, difF_gap, h0, if_neg (by show ¬ (0 : Int) < 0; omega)]
theorem difR_good {t u : List S34} {n : Int} (h1 : RightT t) (h2 : RightT u) (hn : 1 ≤ n ∧ n ≤ 10000) : difR t u n = ((difS t u n (List.range (nRounds n))).1, (difS t u n (List.range (nRounds n))).2, 0) := by
  unfold difR
  rw [notR_false.2 ((right_iff t).2 h1), notR_false.2 ((right_iff u).2 h2), if_neg (by decide), if_neg (by omega)]
theorem difR_cases (t u : List S34) (n : Int) : (difR t u n = (0, 0, 1) ∨ difR t u n = (0, 0, 2)) ∨ RightT t ∧ RightT u ∧ 1 ≤ n ∧ n ≤ 10000 := by
  unfold difR
  by_cases hq : (notR t || notR u) = true
  · rw [if_pos hq]; exact .inl (.inl rfl)
  · rw [if_neg hq]
    replace hq : (notR t || notR u) = false := by simpa using hq
    by_cases hn : n < 1 ∨ 10000 < n
    · rw [if_pos hn]; exact .inl (.inr rfl)
    · obtain ⟨q1, q2⟩ := Bool.or_eq_false_iff.1 hq
      exact .inr ⟨(right_iff t).1 (notR_false.1 q1), (right_iff u).1 (notR_false.1 q2), by omega, by omega⟩
theorem sAt_lt {n : Int} (hn : 1 ≤ n) {j : Nat} (h : j < nRounds n) : sAt n j = (j : Int) * n := by
  unfold sAt
  rw [if_pos ((nRounds_iff hn j).1 h)]
def spilelaw18_InterpolateApart.f (l0 l1 : List S34) (a2 a3 : Int) : Option Bool := if 0 ≤ a3 ∧ a3 < 65536 then some true else none
theorem spilelaw18_InterpolateApart.calls (A0 : Option Addr) (c0 : Nat) (l0 : List S34) (A1 : Option Addr) (c1 : Nat) (l1 : List S34) (a2 a3 : Int) (r : Bool) (w : World) (hr0 : Kd.C k34 w A0 l0.length l0) (hc0 : l0.length ≤ c0) (hr1 : Kd.C k34 w A1 l1.length l1) (hc1 : l1.length ≤ c1) (h : spilelaw18_InterpolateApart.f l0 l1 a2 a3 = some r) :
    Calls Try.prog 8 #[.slice A0 l0.length c0, .slice A1 l1.length c1, .int .i64 a2, .int .u16 a3] w fun e w' => e = .returned (.bool r) ∧ Below w.heap.size w w' := by
  unfold spilelaw18_InterpolateApart.f at h
  by_cases hp : 0 ≤ a3 ∧ a3 < 65536
  case neg => rw [if_neg hp] at h; cases h
  rw [if_pos hp] at h
  obtain rfl := Option.some.inj h
  obtain ⟨b1, hb1⟩ := InterpolateApart.few l0
  obtain ⟨b2, hb2⟩ := InterpolateApart.few l1
  rcases difR_cases l0 l1 a2 with (e | e) | ⟨R1, R2, hn⟩
  · exact InterpolateApart.walk A0 A1 c0 c1 l0 l1 a2 a3 w hr0 hc0 hr1 hc1 b1 b2 hb1 hb2 _ _ _ e 0 0 (.inl ⟨rfl, rfl, rfl⟩)
  · exact InterpolateApart.walk A0 A1 c0 c1 l0 l1 a2 a3 w hr0 hc0 hr1 hc1 b1 b2 hb1 hb2 _ _ _ e 0 0 (.inl ⟨rfl, rfl, rfl⟩)
  have e1 := difR_good R1 R2 hn
  have e2 := difR_good R2 R1 hn
  have e3 := difR_good R1 R1 hn
  have hN : nRounds a2 = (10000 / a2).toNat + 1 := rfl
  rw [hN] at e1 e2 e3
  rw [difS_comm l1 l0] at e2
  rw [difS_self] at e3
  obtain ⟨⟨i, hi, es⟩, hmax⟩ := difS_spec l0 l1 a2 (10000 / a2).toNat
  have hiN : i < nRounds a2 := by omega
  rw [es] at e1 e2 hmax
  have m0 : 0 ≤ a3 % 10001 := Int.emod_nonneg _ (by omega)
  have m1 : a3 % 10001 < 10001 := Int.emod_lt_of_pos _ (by omega)
  have hm : Int.tmod a3 10001 = a3 % 10001 := Int.tmod_eq_emod_of_nonneg hp.1
  generalize a3 % 10001 = m at *
  have hq : Int.tdiv m a2 = m / a2 := Int.tdiv_eq_ediv_of_nonneg m0
  have q0 : 0 ≤ m / a2 := Int.ediv_nonneg m0 (by omega)
  have q1 : m / a2 * a2 ≤ m := Int.ediv_mul_le m (by omega)
  have q2 : m / a2 ≤ m := Int.ediv_le_self _ m0
  have q3 : 0 ≤ m / a2 * a2 := Int.mul_nonneg q0 (by omega)
  have hj : (m / a2).toNat < nRounds a2 := (nRounds_iff hn.1 _).2 (by rw [show (((m / a2).toNat : Nat) : Int) = m / a2 by omega]; omega)
  have hs : sAt a2 (m / a2).toNat = m / a2 * a2 := by rw [sAt_lt hn.1 hj, show (((m / a2).toNat : Nat) : Int) = m / a2 by omega]
  have hle := hmax (m / a2).toNat (by omega)
  have hpos := gapG_pos l0 l1 a2 (m / a2).toNat
  unfold gapG at hle hpos
  rw [hs] at hle hpos
  rw [mx_max] at hle hpos
  have ra := sAt_rng hn.1 i
  have da1 := R1.dens_rng ra.1 ra.2
  have da2 := R2.dens_rng ra.1 ra.2
  have ds1 := R1.dens_rng (s := m / a2 * a2) q3 (by omega)
  have ds2 := R2.dens_rng (s := m / a2 * a2) q3 (by omega)
  have ed : ∀ (l : List S34), RightT l → ∀ x, 0 ≤ x → x ≤ 10000 → interpolate_Density.f l x = some (dens l x, 0) := fun l R x x0 x1 => by
    rw [interpolate_Density.plain]
    unfold denS
    rw [if_neg (not_not_intro ((right_iff l).2 R)), if_neg (by omega)]
  have hw : ∀ x : Int, -1000000 ≤ x → x ≤ 1000000 → IntKind.i64.wrap x = x := fun x x0 x1 => by rw [i64_w]; exact w64_ (by omega) (by omega)
  refine InterpolateApart.walk A0 A1 c0 c1 l0 l1 a2 a3 w hr0 hc0 hr1 hc1 b1 b2 hb1 hb2 _ _ _ e1 m (m / a2 * a2) (.inr ⟨rfl, rfl, e2, e3, decide_eq_false (by omega), by omega, ?_, hw _ (by omega) (by omega), hm, ?_, ?_, dens l0 (sAt a2 i), dens l1 (sAt a2 i), dens l0 (m / a2 * a2), dens l1 (m / a2 * a2), _, ed _ R1 _ ra.1 ra.2, ed _ R2 _ ra.1 ra.2, hw _ (by omega) (by omega), hw _ (by omega) (by omega), ?_, ed _ R1 _ q3 (by omega), ed _ R2 _ q3 (by omega), hw _ (by omega) (by omega), hw _ (by omega) (by omega), rfl, decide_eq_true hpos, decide_eq_true ?_⟩)
  · show Int.tmod (sAt a2 i) a2 = 0
    rw [sAt_lt hn.1 hiN]
    exact Int.mul_tmod_left _ _
  · rw [hq]; exact hw _ (by omega) (by omega)
  · rw [hq]; exact hw _ (by omega) (by omega)
  · show _ = gapG l0 l1 a2 i
    unfold gapG
    rw [mx_max]
  · exact hle

end Go.Proofs.Ytlgihblojnoheaa.PF
