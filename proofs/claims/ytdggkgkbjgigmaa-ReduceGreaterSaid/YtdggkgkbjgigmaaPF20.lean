-- Written by a program of this session (wip/pr.py) out of Lean's print of the translation; Lean checks it.
import Derived.Test.YtdggkgkbjgigmaaPF0
import Derived.Test.YtdggkgkbjgigmaaPF7
import Derived.Test.YtdggkgkbjgigmaaPF10
import Derived.Test.YtdggkgkbjgigmaaPF11
namespace Go.Proofs.Ytdggkgkbjgigmaa.PF
open Go.RowKit Go.Proofs.YtdggkgkbjgigmaaW.PrintWords Go.Proofs.YtdggkgkbjgigmaaW.PrintLast Go.Proofs.YtdggkgkbjgigmaaW.PrintMore
attribute [local go_sem] max2_int min2_int max_two min_two max_three min_three max_four min_four   -- for this text's walks alone
set_option linter.unusedVariables false
set_option linter.unusedSimpArgs false

/-! ### spilelaw28_ReduceGreater: function 7 -/
mutual
def spilelaw28_ReduceGreater.j0 : Nat → List (S50) → Int → Bool → Int → Int → Option (Bool)
  | 0, _, _, _, _, _ => none
  | k + 1, x0, x2, x27, x272000, x272001 => if x27 = true then (some true) else ((reduce_Water.f x0 x272000 x272001 x2).bind fun bt274 => (if bt274.2 = 0 then (if x2 > 0 then ((reduce_Water.f x0 x272000 x272001 (wrap64 (x2 - 1))).bind fun bt276 => (if bt276.2 = 0 then (if bt276.1 < bt274.1 then (spilelaw28_ReduceGreater.j1 k x0 x2 bt274.1 true x272000 x272001) else (spilelaw28_ReduceGreater.j1 k x0 x2 bt274.1 false x272000 x272001)) else (spilelaw28_ReduceGreater.j1 k x0 x2 bt274.1 (bt276.2 != 15) x272000 x272001))) else ((reduce_Water.f x0 (wrap64 (2 * x272000)) (wrap64 (2 * x272001)) x2).bind fun bt280 => (if bt280.2 = 0 then (if bt280.1 = (wrap64 (2 * bt274.1)) then (some true) else (some (bt280.1 == (wrap64 ((wrap64 (2 * bt274.1)) - 1))))) else (some (bt280.2 == 15))))) else (some (bt274.1 == 0))))
def spilelaw28_ReduceGreater.j1 : Nat → List (S50) → Int → Int → Bool → Int → Int → Option (Bool)
  | 0, _, _, _, _, _, _ => none
  | k + 1, x0, x2, x7, x63, x272000, x272001 => if x63 = true then (some false) else ((reduce_Water.f x0 (wrap64 (2 * x272000)) (wrap64 (2 * x272001)) x2).bind fun bt278 => (if bt278.2 = 0 then (if bt278.1 = (wrap64 (2 * x7)) then (some true) else (some (bt278.1 == (wrap64 ((wrap64 (2 * x7)) - 1))))) else (some (bt278.2 == 15))))
end
def spilelaw28_ReduceGreater.f (k : Nat) (l0 : List (S50)) (a1_0 : Int) (a1_1 : Int) (a2 : Int) : Option (Bool) := (spilelaw28_awake.f).bind fun t272 => (if t272 = true then ((spileref16_Few.f l0).bind fun t273 => (if t273 = true then (if a1_0 > 5368709120000 then (spilelaw28_ReduceGreater.j0 k l0 a2 true a1_0 a1_1) else (spilelaw28_ReduceGreater.j0 k l0 a2 (decide (a1_1 > 64424509440000)) a1_0 a1_1)) else (spilelaw28_ReduceGreater.j0 k l0 a2 true a1_0 a1_1))) else (some false))
theorem spilelaw28_ReduceGreater.mono_l : ∀ k, (∀ y0 y1 y2 y3 y4, LeO (spilelaw28_ReduceGreater.j0 k y0 y1 y2 y3 y4) (spilelaw28_ReduceGreater.j0 (k + 1) y0 y1 y2 y3 y4)) ∧ (∀ y0 y1 y2 y3 y4 y5, LeO (spilelaw28_ReduceGreater.j1 k y0 y1 y2 y3 y4 y5) (spilelaw28_ReduceGreater.j1 (k + 1) y0 y1 y2 y3 y4 y5))
  | 0 => ⟨fun _ _ _ _ _ r h => by simp [spilelaw28_ReduceGreater.j0] at h, fun _ _ _ _ _ _ r h => by simp [spilelaw28_ReduceGreater.j1] at h⟩
  | k + 1 => by
    obtain ⟨ih0, ih1⟩ := spilelaw28_ReduceGreater.mono_l k
    refine ⟨?_, ?_⟩
    · intro y0 y1 y2 y3 y4
      unfold spilelaw28_ReduceGreater.j0
      repeat' first
      | (with_reducible exact ih0 _ _ _ _ _)
      | (with_reducible exact ih1 _ _ _ _ _ _)
      | (with_reducible exact LeO.refl _)
      | (with_reducible exact LeO.none _)
      | (with_reducible refine LeO.ite ?_ ?_)
      | (with_reducible refine LeO.bind ?_ (fun _ => ?_))
      | exact ih0 _ _ _ _ _
      | exact ih1 _ _ _ _ _ _
      | exact LeO.none _
      | refine LeO.ite ?_ ?_
      | refine LeO.bind ?_ (fun _ => ?_)
    · intro y0 y1 y2 y3 y4 y5
      unfold spilelaw28_ReduceGreater.j1
      repeat' first
      | (with_reducible exact ih0 _ _ _ _ _)
      | (with_reducible exact ih1 _ _ _ _ _ _)
      | (with_reducible exact LeO.refl _)
      | (with_reducible exact LeO.none _)
      | (with_reducible refine LeO.ite ?_ ?_)
      | (with_reducible refine LeO.bind ?_ (fun _ => ?_))
      | exact ih0 _ _ _ _ _
      | exact ih1 _ _ _ _ _ _
      | exact LeO.none _
      | refine LeO.ite ?_ ?_
      | refine LeO.bind ?_ (fun _ => ?_)
theorem spilelaw28_ReduceGreater.mono : ∀ a0 a1 a2 a3 k, LeO (spilelaw28_ReduceGreater.f k a0 a1 a2 a3) (spilelaw28_ReduceGreater.f (k + 1) a0 a1 a2 a3) := by
  intro a0 a1 a2 a3 k
  obtain ⟨ih0, ih1⟩ := spilelaw28_ReduceGreater.mono_l k
  unfold spilelaw28_ReduceGreater.f
  repeat' first
      | (with_reducible exact ih0 _ _ _ _ _)
      | (with_reducible exact ih1 _ _ _ _ _ _)
      | (with_reducible exact LeO.refl _)
      | (with_reducible exact LeO.none _)
      | (with_reducible refine LeO.ite ?_ ?_)
      | (with_reducible refine LeO.bind ?_ (fun _ => ?_))
      | exact ih0 _ _ _ _ _
      | exact ih1 _ _ _ _ _ _
      | exact LeO.none _
      | refine LeO.ite ?_ ?_
      | refine LeO.bind ?_ (fun _ => ?_)
set_option maxHeartbeats 8000000 in
set_option maxRecDepth 100000 in
theorem spilelaw28_ReduceGreater.calls (k : Nat) (A0 : Option Addr) (c0 : Nat) (l0 : List (S50)) (a1_0 : Int) (a1_1 : Int) (a2 : Int) (r : Bool) (w : World) (hr0 : Kd.C k50 w A0 l0.length l0) (hc0 : l0.length ≤ c0) (h : spilelaw28_ReduceGreater.f k l0 a1_0 a1_1 a2 = some r) :
    Calls Try.prog 7 #[.slice A0 l0.length c0, .agg #[.int .i64 a1_0, .int .i64 a1_1], .int .i64 a2] w fun e w' => e = .returned (.bool r) ∧ Below w.heap.size w w' := by
  have hu24 := Try.underlying24
  have HR0 := Aside0.mk hr0
  have HC0 := Aside0.mk hc0
  clear hr0 hc0
  have HB := Aside0.mk (Below.refl w.heap.size w)
  have H : ((spilelaw28_awake.f).bind fun t272 => (if t272 = true then ((spileref16_Few.f l0).bind fun t273 => (if t273 = true then (if a1_0 > 5368709120000 then (spilelaw28_ReduceGreater.j0 k l0 a2 true a1_0 a1_1) else (spilelaw28_ReduceGreater.j0 k l0 a2 (decide (a1_1 > 64424509440000)) a1_0 a1_1)) else (spilelaw28_ReduceGreater.j0 k l0 a2 true a1_0 a1_1))) else (some false))) = some r := h
  clear h
  replace H := Option.bind_eq_some_iff.mp H
  obtain ⟨t272, A40, H⟩ := H
  replace H : (if t272 = true then ((spileref16_Few.f l0).bind fun t273 => (if t273 = true then (if a1_0 > 5368709120000 then (spilelaw28_ReduceGreater.j0 k l0 a2 true a1_0 a1_1) else (spilelaw28_ReduceGreater.j0 k l0 a2 (decide (a1_1 > 64424509440000)) a1_0 a1_1)) else (spilelaw28_ReduceGreater.j0 k l0 a2 true a1_0 a1_1))) else (some false)) = some r := H
  have A4 := Aside0.mk A40
  clear A40
  by_cases c5 : t272 = true
  · subst c5
    have H1 : ((spileref16_Few.f l0).bind fun t273 => (if t273 = true then (if a1_0 > 5368709120000 then (spilelaw28_ReduceGreater.j0 k l0 a2 true a1_0 a1_1) else (spilelaw28_ReduceGreater.j0 k l0 a2 (decide (a1_1 > 64424509440000)) a1_0 a1_1)) else (spilelaw28_ReduceGreater.j0 k l0 a2 true a1_0 a1_1))) = some r := by rw [if_pos rfl] at H; exact H
    clear H
    have H := H1
    clear H1
    have HC6 := Aside0.mk H
    clear H
    go_enter Try.func7, Try.ntmps7
    go_upto_region 3 with (first | ((with_reducible refine gate_dst (N := 4) rfl ?_); refine box_event ?hg (N := 4) ?hd (cs := #[.int .i64 a1_0, .int .i64 a1_1]) (t := 24) ?hr ?_; (case hd => rfl); (case hg => rfl); (case hr => first | (go_simp; done) | (go_simp; rfl)); intro gb271 hg w7 hbox hb; have n0_ := Aside0.mk (below_step (by repeat (first | (with_reducible first | exact HB.out | apply below_alloc | apply pw_below_drewN | apply below_drew1) | exact HB.out)) hb); have n1_ := Aside0.mk (hbox); have n2_ := Aside0.mk ((by rw [hg]; exact (below_size (by repeat (first | (with_reducible first | exact HB.out | apply below_alloc | apply pw_below_drewN | apply below_drew1) | exact HB.out))) : w.heap.size ≤ gb271)); have n3_ := Aside0.mk ((by rw [hg]; exact (below_size (by repeat (first | (with_reducible first | exact HB.out | apply below_alloc | apply pw_below_drewN | apply below_drew1) | exact HB.out))) : w.heap.size ≤ gb271)); clear HB; have HB := n0_; have BK271 := n1_; have GW271 := n2_; have GE271 := n3_; clear n0_ n1_ n2_ n3_; clear hb hbox hg) | ((with_reducible refine gate_callee (f := 10) rfl ?_); refine goesL_ (some 13) rfl rfl Try.func10 (by kernel_rfl) rfl #[] rfl (by (try simp only [List.map_toArray, List.map_cons, List.map_nil]); first | done | rfl | (simp only [List.length_drop, List.length_take]; rfl)) ?_; (with_reducible refine (spilelaw28_awake.calls  true _ A4.out).mono ?_); rintro e w8 ⟨rfl, hb⟩; refine ⟨_, rfl, ?_⟩; have n0_ := Aside0.mk (blk_below (g := gb271) (o := .cells #[.int .i64 a1_0, .int .i64 a1_1] 24 (0, 0)) (by (with_reducible repeat (first | refine blk_drewN ?_ _ | refine blk_drew ?_ | refine blk_alloc ?_ _)); exact BK271.out) hb); have n1_ := Aside0.mk (below_step (by repeat (first | (with_reducible first | exact HB.out | apply below_alloc | apply pw_below_drewN | apply below_drew1 | refine below_set ?_ GE271.out) | exact HB.out)) hb); clear BK271; clear HB; have BK271 := n0_; have HB := n1_; clear n0_ n1_; (try clear hb); (try clear hb2); (try clear hk); (try clear hi)))
    (try simp only [Act.put, List.setIfInBounds_toArray, List.set_cons_zero, List.set_cons_succ])
    go_cut [27] (fun v27 wc => ∃ (kq : Nat) (x27_5 : Bool), v27 = .bool x27_5 ∧ Aside0 (spilelaw28_ReduceGreater.j0 kq l0 a2 x27_5 a1_0 a1_1 = some r) ∧ Aside0 (kq ≤ k) ∧ Aside0 (wc.heap[gb271]? = some (.cells #[.int .i64 a1_0, .int .i64 a1_1] 24 (0, 0))) ∧ Aside0 (Below w.heap.size w wc))
    case first =>
      have H := HC6.out
      clear HC6
      replace H := Option.bind_eq_some_iff.mp H
      obtain ⟨t273, A90, H⟩ := H
      replace H : (if t273 = true then (if a1_0 > 5368709120000 then (spilelaw28_ReduceGreater.j0 k l0 a2 true a1_0 a1_1) else (spilelaw28_ReduceGreater.j0 k l0 a2 (decide (a1_1 > 64424509440000)) a1_0 a1_1)) else (spilelaw28_ReduceGreater.j0 k l0 a2 true a1_0 a1_1)) = some r := H
      have A9 := Aside0.mk A90
      clear A90
      by_cases c10 : t273 = true
      · subst c10
        have H1 : (if a1_0 > 5368709120000 then (spilelaw28_ReduceGreater.j0 k l0 a2 true a1_0 a1_1) else (spilelaw28_ReduceGreater.j0 k l0 a2 (decide (a1_1 > 64424509440000)) a1_0 a1_1)) = some r := by rw [if_pos rfl] at H; exact H
        clear H
        have H := H1
        clear H1
        by_cases c11 : a1_0 > 5368709120000
        · rw [if_pos c11] at H
          have c11b0 : decide (5368709120000 < a1_0) = true := decide_eq_true c11
          clear c11
          (first | rw [c11b0] | (simp only [i64_w, i32_w]; rw [c11b0]) | skip)
          have H' := Aside0.mk H
          clear H
          go_wp2_with (first | ((with_reducible refine gate_callee (f := 11) rfl ?_); refine goesL_ (some 16) rfl rfl Try.func11 (by kernel_rfl) rfl #[.slice A0 l0.length c0] rfl (by (try simp only [List.map_toArray, List.map_cons, List.map_nil]); first | done | rfl | (simp only [List.length_drop, List.length_take]; rfl)) ?_; (with_reducible refine (spileref16_Few.calls _ _ l0 true _ ?side1 ?side2 A9.out).mono ?_); (case side1 => repeat (first | exact (Kd.C_below HR0.out HB.out) | (with_reducible refine Kd.C_alloc ?_ _) | (with_reducible refine Kd.C_drewN ?_ _) | (with_reducible refine Kd.C_drew ?_))); (case side2 => exact HC0.out); rintro e w' ⟨rfl, ⟨nd, rfl⟩⟩; refine ⟨_, rfl, ?_⟩; have hcz12_0 : w8.cell? ⟨gb271, 0, none⟩ = some (.int .i64 a1_0) := (blk_cell BK271.out 0).trans rfl; have hcz12_1 : w8.cell? ⟨gb271, 1, none⟩ = some (.int .i64 a1_1) := (blk_cell BK271.out 1).trans rfl; have hfz12_0 := blk_frozen BK271.out 0; have hfz12_1 := blk_frozen BK271.out 1))
          go_meet
          case rel => exact ⟨_, (true), (by first | rfl | (simp; done) | (simp [*]; done)), H', ⟨by first | omega | exact Nat.le_refl _⟩, ⟨by (with_reducible repeat (first | refine blk_drewN ?_ _ | refine blk_drew ?_ | refine blk_alloc ?_ _)); exact BK271.out⟩, ⟨by repeat (first | (with_reducible first | exact HB.out | apply below_alloc | apply pw_below_drewN | apply below_drew1 | refine below_set ?_ GE271.out) | exact HB.out)⟩⟩
        · rw [if_neg c11] at H
          have c11b0 : decide (5368709120000 < a1_0) = false := decide_eq_false c11
          clear c11
          (first | rw [c11b0] | (simp only [i64_w, i32_w]; rw [c11b0]) | skip)
          have H' := Aside0.mk H
          clear H
          go_wp2_with (first | ((with_reducible refine gate_callee (f := 11) rfl ?_); refine goesL_ (some 16) rfl rfl Try.func11 (by kernel_rfl) rfl #[.slice A0 l0.length c0] rfl (by (try simp only [List.map_toArray, List.map_cons, List.map_nil]); first | done | rfl | (simp only [List.length_drop, List.length_take]; rfl)) ?_; (with_reducible refine (spileref16_Few.calls _ _ l0 true _ ?side1 ?side2 A9.out).mono ?_); (case side1 => repeat (first | exact (Kd.C_below HR0.out HB.out) | (with_reducible refine Kd.C_alloc ?_ _) | (with_reducible refine Kd.C_drewN ?_ _) | (with_reducible refine Kd.C_drew ?_))); (case side2 => exact HC0.out); rintro e w' ⟨rfl, ⟨nd, rfl⟩⟩; refine ⟨_, rfl, ?_⟩; have hcz13_0 : w8.cell? ⟨gb271, 0, none⟩ = some (.int .i64 a1_0) := (blk_cell BK271.out 0).trans rfl; have hcz13_1 : w8.cell? ⟨gb271, 1, none⟩ = some (.int .i64 a1_1) := (blk_cell BK271.out 1).trans rfl; have hfz13_0 := blk_frozen BK271.out 0; have hfz13_1 := blk_frozen BK271.out 1))
          go_meet
          case rel => exact ⟨_, (decide (a1_1 > 64424509440000)), (by first | rfl | (simp; done) | (simp [*]; done)), H', ⟨by first | omega | exact Nat.le_refl _⟩, ⟨by (with_reducible repeat (first | refine blk_drewN ?_ _ | refine blk_drew ?_ | refine blk_alloc ?_ _)); exact BK271.out⟩, ⟨by repeat (first | (with_reducible first | exact HB.out | apply below_alloc | apply pw_below_drewN | apply below_drew1 | refine below_set ?_ GE271.out) | exact HB.out)⟩⟩
      · replace c10 := Bool.eq_false_iff.mpr c10
        subst c10
        have H1 : (spilelaw28_ReduceGreater.j0 k l0 a2 true a1_0 a1_1) = some r := by rw [if_neg (show ¬ (false = true) by decide)] at H; exact H
        clear H
        have H := H1
        clear H1
        have H' := Aside0.mk H
        clear H
        go_wp2_with (first | ((with_reducible refine gate_callee (f := 11) rfl ?_); refine goesL_ (some 16) rfl rfl Try.func11 (by kernel_rfl) rfl #[.slice A0 l0.length c0] rfl (by (try simp only [List.map_toArray, List.map_cons, List.map_nil]); first | done | rfl | (simp only [List.length_drop, List.length_take]; rfl)) ?_; (with_reducible refine (spileref16_Few.calls _ _ l0 false _ ?side1 ?side2 A9.out).mono ?_); (case side1 => repeat (first | exact (Kd.C_below HR0.out HB.out) | (with_reducible refine Kd.C_alloc ?_ _) | (with_reducible refine Kd.C_drewN ?_ _) | (with_reducible refine Kd.C_drew ?_))); (case side2 => exact HC0.out); rintro e w' ⟨rfl, ⟨nd, rfl⟩⟩; refine ⟨_, rfl, ?_⟩))
        go_meet
        case rel => exact ⟨_, (true), (by first | rfl | (simp; done) | (simp [*]; done)), H', ⟨by first | omega | exact Nat.le_refl _⟩, ⟨by (with_reducible repeat (first | refine blk_drewN ?_ _ | refine blk_drew ?_ | refine blk_alloc ?_ _)); exact BK271.out⟩, ⟨by repeat (first | (with_reducible first | exact HB.out | apply below_alloc | apply pw_below_drewN | apply below_drew1 | refine below_set ?_ GE271.out) | exact HB.out)⟩⟩
    case rest =>
      clear HC6
      try clear c1
      try clear p2
      try clear c5
      try clear c7
      try clear c10
      try clear c11
      try clear c11b0
      try clear hcz12_0
      try clear hcz12_1
      try clear hcz13_0
      try clear hcz13_1
      try clear hfz12_0
      try clear hfz12_1
      try clear hfz13_0
      try clear hfz13_1
      obtain ⟨kq, x27_5, rfl, HA, HJ5, BK271, HB⟩ := hcut
      cases kq with
      | zero => exact absurd HA.out (by simp [spilelaw28_ReduceGreater.j0])
      | succ kj5 =>
        have H := HA.out
        clear HA
        simp only [spilelaw28_ReduceGreater.j0] at H
        by_cases c14 : x27_5 = true
        · subst c14
          have H1 : (some true) = some r := by rw [if_pos rfl] at H; exact H
          clear H
          have H := H1
          clear H1
          obtain rfl := Option.some.inj H
          go_wp2
          go_ret
          exact ⟨by first | rfl | (simp [errW_none, errW_some] <;> rfl) | (simp [*, errW_none, errW_some] <;> rfl), by repeat (first | (with_reducible first | exact HB.out | apply below_alloc | apply pw_below_drewN | apply below_drew1 | refine below_set ?_ GE271.out) | exact HB.out)⟩
        · replace c14 := Bool.eq_false_iff.mpr c14
          subst c14
          have H1 : ((reduce_Water.f l0 a1_0 a1_1 a2).bind fun bt274 => (if bt274.2 = 0 then (if a2 > 0 then ((reduce_Water.f l0 a1_0 a1_1 (wrap64 (a2 - 1))).bind fun bt276 => (if bt276.2 = 0 then (if bt276.1 < bt274.1 then (spilelaw28_ReduceGreater.j1 kj5 l0 a2 bt274.1 true a1_0 a1_1) else (spilelaw28_ReduceGreater.j1 kj5 l0 a2 bt274.1 false a1_0 a1_1)) else (spilelaw28_ReduceGreater.j1 kj5 l0 a2 bt274.1 (bt276.2 != 15) a1_0 a1_1))) else ((reduce_Water.f l0 (wrap64 (2 * a1_0)) (wrap64 (2 * a1_1)) a2).bind fun bt280 => (if bt280.2 = 0 then (if bt280.1 = (wrap64 (2 * bt274.1)) then (some true) else (some (bt280.1 == (wrap64 ((wrap64 (2 * bt274.1)) - 1))))) else (some (bt280.2 == 15))))) else (some (bt274.1 == 0)))) = some r := by rw [if_neg (show ¬ (false = true) by decide)] at H; exact H
          clear H
          have H := H1
          clear H1
          replace H := Option.bind_eq_some_iff.mp H
          obtain ⟨⟨t274, t275⟩, A150, H⟩ := H
          replace H : (if t275 = 0 then (if a2 > 0 then ((reduce_Water.f l0 a1_0 a1_1 (wrap64 (a2 - 1))).bind fun bt276 => (if bt276.2 = 0 then (if bt276.1 < t274 then (spilelaw28_ReduceGreater.j1 kj5 l0 a2 t274 true a1_0 a1_1) else (spilelaw28_ReduceGreater.j1 kj5 l0 a2 t274 false a1_0 a1_1)) else (spilelaw28_ReduceGreater.j1 kj5 l0 a2 t274 (bt276.2 != 15) a1_0 a1_1))) else ((reduce_Water.f l0 (wrap64 (2 * a1_0)) (wrap64 (2 * a1_1)) a2).bind fun bt280 => (if bt280.2 = 0 then (if bt280.1 = (wrap64 (2 * t274)) then (some true) else (some (bt280.1 == (wrap64 ((wrap64 (2 * t274)) - 1))))) else (some (bt280.2 == 15))))) else (some (t274 == 0))) = some r := H
          have A15 := Aside0.mk A150
          clear A150
          by_cases c16 : t275 = 0
          · rw [if_pos c16] at H
            have c16b0 : (t275 == 0) = true := beq_iff_eq.mpr c16
            have c16b1 : (t275 != 0) = false := bne_eq_false_iff_eq.mpr c16
            clear c16
            by_cases c17 : a2 > 0
            · rw [if_pos c17] at H
              have c17b0 : decide (0 < a2) = true := decide_eq_true c17
              clear c17
              replace H := Option.bind_eq_some_iff.mp H
              obtain ⟨⟨t276, t277⟩, A180, H⟩ := H
              replace H : (if t277 = 0 then (if t276 < t274 then (spilelaw28_ReduceGreater.j1 kj5 l0 a2 t274 true a1_0 a1_1) else (spilelaw28_ReduceGreater.j1 kj5 l0 a2 t274 false a1_0 a1_1)) else (spilelaw28_ReduceGreater.j1 kj5 l0 a2 t274 (t277 != 15) a1_0 a1_1)) = some r := H
              have A18 := Aside0.mk A180
              clear A180
              have HC19 := Aside0.mk H
              clear H
              have hcz20_0 : wc.cell? ⟨gb271, 0, none⟩ = some (.int .i64 a1_0) := (blk_cell BK271.out 0).trans rfl
              have hcz20_1 : wc.cell? ⟨gb271, 1, none⟩ = some (.int .i64 a1_1) := (blk_cell BK271.out 1).trans rfl
              have hfz20_0 := blk_frozen BK271.out 0
              have hfz20_1 := blk_frozen BK271.out 1
              go_upto_region 10 with (first | ((with_reducible refine gate_callee (f := 12) rfl ?_); refine goesL_ (some 32) rfl rfl Try.func12 (by kernel_rfl) rfl #[.slice A0 l0.length c0, .agg #[.int .i64 a1_0, .int .i64 a1_1], .int .i64 a2] rfl (by (try simp only [List.map_toArray, List.map_cons, List.map_nil]); first | done | rfl | (simp only [List.length_drop, List.length_take]; rfl)) ?_; (with_reducible refine (reduce_Water.calls _ _ l0 a1_0 a1_1 a2 t274 t275 _ ?side1 ?side2 A15.out).mono ?_); (case side1 => repeat (first | exact (Kd.C_below HR0.out HB.out) | (with_reducible refine Kd.C_alloc ?_ _) | (with_reducible refine Kd.C_drewN ?_ _) | (with_reducible refine Kd.C_drew ?_))); (case side2 => exact HC0.out); rintro e w21 ⟨rfl, hb⟩; refine ⟨_, rfl, ?_⟩; have n0_ := Aside0.mk (blk_below (g := gb271) (o := .cells #[.int .i64 a1_0, .int .i64 a1_1] 24 (0, 0)) (by (with_reducible repeat (first | refine blk_drewN ?_ _ | refine blk_drew ?_ | refine blk_alloc ?_ _)); exact BK271.out) hb); have n1_ := Aside0.mk (below_step (by repeat (first | (with_reducible first | exact HB.out | apply below_alloc | apply pw_below_drewN | apply below_drew1 | refine below_set ?_ GE271.out) | exact HB.out)) hb); clear BK271; clear HB; have BK271 := n0_; have HB := n1_; clear n0_ n1_; (try clear hb); (try clear hb2); (try clear hk); (try clear hi); have hcz22_0 : w21.cell? ⟨gb271, 0, none⟩ = some (.int .i64 a1_0) := (blk_cell BK271.out 0).trans rfl; have hcz22_1 : w21.cell? ⟨gb271, 1, none⟩ = some (.int .i64 a1_1) := (blk_cell BK271.out 1).trans rfl; have hfz22_0 := blk_frozen BK271.out 0; have hfz22_1 := blk_frozen BK271.out 1) | ((with_reducible refine gate_callee (f := 12) rfl ?_); refine goesL_ (some 46) rfl rfl Try.func12 (by kernel_rfl) rfl #[.slice A0 l0.length c0, .agg #[.int .i64 a1_0, .int .i64 a1_1], .int .i64 (wrap64 (a2 - 1))] rfl (by (try simp only [List.map_toArray, List.map_cons, List.map_nil]); first | done | rfl | (simp only [List.length_drop, List.length_take]; rfl)) ?_; (with_reducible refine (reduce_Water.calls _ _ l0 a1_0 a1_1 (wrap64 (a2 - 1)) t276 t277 _ ?side1 ?side2 A18.out).mono ?_); (case side1 => repeat (first | exact (Kd.C_below HR0.out HB.out) | (with_reducible refine Kd.C_alloc ?_ _) | (with_reducible refine Kd.C_drewN ?_ _) | (with_reducible refine Kd.C_drew ?_))); (case side2 => exact HC0.out); rintro e w23 ⟨rfl, hb⟩; refine ⟨_, rfl, ?_⟩; have n0_ := Aside0.mk (blk_below (g := gb271) (o := .cells #[.int .i64 a1_0, .int .i64 a1_1] 24 (0, 0)) (by (with_reducible repeat (first | refine blk_drewN ?_ _ | refine blk_drew ?_ | refine blk_alloc ?_ _)); exact BK271.out) hb); have n1_ := Aside0.mk (below_step (by repeat (first | (with_reducible first | exact HB.out | apply below_alloc | apply pw_below_drewN | apply below_drew1 | refine below_set ?_ GE271.out) | exact HB.out)) hb); clear BK271; clear HB; have BK271 := n0_; have HB := n1_; clear n0_ n1_; (try clear hb); (try clear hb2); (try clear hk); (try clear hi)))
              (try simp only [Act.put, List.setIfInBounds_toArray, List.set_cons_zero, List.set_cons_succ])
              go_cut [63] (fun v63 wc => ∃ (kq : Nat) (x63_18 : Bool), v63 = .bool x63_18 ∧ Aside0 (spilelaw28_ReduceGreater.j1 kq l0 a2 t274 x63_18 a1_0 a1_1 = some r) ∧ Aside0 (kq ≤ kj5) ∧ Aside0 (wc.heap[gb271]? = some (.cells #[.int .i64 a1_0, .int .i64 a1_1] 24 (0, 0))) ∧ Aside0 (Below w.heap.size w wc))
              case first =>
                have H := HC19.out
                clear HC19
                by_cases c24 : t277 = 0
                · rw [if_pos c24] at H
                  have c24b0 : (t277 == 0) = true := beq_iff_eq.mpr c24
                  have c24b1 : (t277 != 0) = false := bne_eq_false_iff_eq.mpr c24
                  clear c24
                  (first | rw [c24b0] | (simp only [i64_w, i32_w]; rw [c24b0]) | skip)
                  by_cases c25 : t276 < t274
                  · rw [if_pos c25] at H
                    have c25b0 : decide (t276 < t274) = true := decide_eq_true c25
                    clear c25
                    have H' := Aside0.mk H
                    clear H
                    go_wp2
                    go_meet
                    case rel => exact ⟨_, (true), (by first | rfl | (simp; done) | (simp [*]; done)), H', ⟨by have := HJ5.out; first | omega | exact Nat.le_refl _⟩, ⟨by (with_reducible repeat (first | refine blk_drewN ?_ _ | refine blk_drew ?_ | refine blk_alloc ?_ _)); exact BK271.out⟩, ⟨by repeat (first | (with_reducible first | exact HB.out | apply below_alloc | apply pw_below_drewN | apply below_drew1 | refine below_set ?_ GE271.out) | exact HB.out)⟩⟩
                  · rw [if_neg c25] at H
                    have c25b0 : decide (t276 < t274) = false := decide_eq_false c25
                    clear c25
                    have H' := Aside0.mk H
                    clear H
                    go_wp2
                    go_meet
                    case rel => exact ⟨_, (false), (by first | rfl | (simp; done) | (simp [*]; done)), H', ⟨by have := HJ5.out; first | omega | exact Nat.le_refl _⟩, ⟨by (with_reducible repeat (first | refine blk_drewN ?_ _ | refine blk_drew ?_ | refine blk_alloc ?_ _)); exact BK271.out⟩, ⟨by repeat (first | (with_reducible first | exact HB.out | apply below_alloc | apply pw_below_drewN | apply below_drew1 | refine below_set ?_ GE271.out) | exact HB.out)⟩⟩
                · rw [if_neg c24] at H
                  have c24b0 : (t277 == 0) = false := beq_eq_false_iff_ne.mpr c24
                  have c24b1 : (t277 != 0) = true := bne_iff_ne.mpr c24
                  (first | rw [c24b0] | (simp only [i64_w, i32_w]; rw [c24b0]) | skip)
                  have H' := Aside0.mk H
                  clear H
                  go_wp2
                  go_meet
                  case rel => exact ⟨_, ((t277 != 15)), (by first | rfl | (simp; done) | (simp [*]; done)), H', ⟨by have := HJ5.out; first | omega | exact Nat.le_refl _⟩, ⟨by (with_reducible repeat (first | refine blk_drewN ?_ _ | refine blk_drew ?_ | refine blk_alloc ?_ _)); exact BK271.out⟩, ⟨by repeat (first | (with_reducible first | exact HB.out | apply below_alloc | apply pw_below_drewN | apply below_drew1 | refine below_set ?_ GE271.out) | exact HB.out)⟩⟩
              case rest =>
                clear HC19
                try clear c1
                try clear c2
                try clear p2
                try clear c5
                try clear p6
                try clear c7
                try clear c10
                try clear c11
                try clear c11b0
                try clear c12
                try clear c14
                try clear c16
                try clear c16b0
                try clear c16b1
                try clear c17
                try clear c17b0
                try clear c24
                try clear c24b0
                try clear c24b1
                try clear c25
                try clear c25b0
                try clear hcz12_0
                try clear hcz12_1
                try clear hcz13_0
                try clear hcz13_1
                try clear hcz20_0
                try clear hcz20_1
                try clear hcz22_0
                try clear hcz22_1
                try clear hfz12_0
                try clear hfz12_1
                try clear hfz13_0
                try clear hfz13_1
                try clear hfz20_0
                try clear hfz20_1
                try clear hfz22_0
                try clear hfz22_1
                try clear p2
                obtain ⟨kq, x63_18, rfl, HA, HJ18, BK271, HB⟩ := hcut
                cases kq with
                | zero => exact absurd HA.out (by simp [spilelaw28_ReduceGreater.j1])
                | succ kj18 =>
                  have H := HA.out
                  clear HA
                  simp only [spilelaw28_ReduceGreater.j1] at H
                  by_cases c26 : x63_18 = true
                  · subst c26
                    have H1 : (some false) = some r := by rw [if_pos rfl] at H; exact H
                    clear H
                    have H := H1
                    clear H1
                    obtain rfl := Option.some.inj H
                    go_wp2
                    go_ret
                    exact ⟨by first | rfl | (simp [errW_none, errW_some] <;> rfl) | (simp [*, errW_none, errW_some] <;> rfl), by repeat (first | (with_reducible first | exact HB.out | apply below_alloc | apply pw_below_drewN | apply below_drew1 | refine below_set ?_ GE271.out) | exact HB.out)⟩
                  · replace c26 := Bool.eq_false_iff.mpr c26
                    subst c26
                    have H1 : ((reduce_Water.f l0 (wrap64 (2 * a1_0)) (wrap64 (2 * a1_1)) a2).bind fun bt278 => (if bt278.2 = 0 then (if bt278.1 = (wrap64 (2 * t274)) then (some true) else (some (bt278.1 == (wrap64 ((wrap64 (2 * t274)) - 1))))) else (some (bt278.2 == 15)))) = some r := by rw [if_neg (show ¬ (false = true) by decide)] at H; exact H
                    clear H
                    have H := H1
                    clear H1
                    replace H := Option.bind_eq_some_iff.mp H
                    obtain ⟨⟨t278, t279⟩, A270, H⟩ := H
                    replace H : (if t279 = 0 then (if t278 = (wrap64 (2 * t274)) then (some true) else (some (t278 == (wrap64 ((wrap64 (2 * t274)) - 1))))) else (some (t279 == 15))) = some r := H
                    have A27 := Aside0.mk A270
                    clear A270
                    by_cases c28 : t279 = 0
                    · rw [if_pos c28] at H
                      have c28b0 : (t279 == 0) = true := beq_iff_eq.mpr c28
                      have c28b1 : (t279 != 0) = false := bne_eq_false_iff_eq.mpr c28
                      clear c28
                      by_cases c29 : t278 = (wrap64 (2 * t274))
                      · rw [if_pos c29] at H
                        have c29b0 : (t278 == (wrap64 (2 * t274))) = true := beq_iff_eq.mpr c29
                        have c29b1 : (t278 != (wrap64 (2 * t274))) = false := bne_eq_false_iff_eq.mpr c29
                        clear c29
                        obtain rfl := Option.some.inj H
                        have hcz30_0 : wc.cell? ⟨gb271, 0, none⟩ = some (.int .i64 a1_0) := (blk_cell BK271.out 0).trans rfl
                        have hcz30_1 : wc.cell? ⟨gb271, 1, none⟩ = some (.int .i64 a1_1) := (blk_cell BK271.out 1).trans rfl
                        have hfz30_0 := blk_frozen BK271.out 0
                        have hfz30_1 := blk_frozen BK271.out 1
                        go_wp2_with (first | ((with_reducible refine gate_callee (f := 12) rfl ?_); refine goesL_ (some 74) rfl rfl Try.func12 (by kernel_rfl) rfl #[.slice A0 l0.length c0, .agg #[.int .i64 (wrap64 (2 * a1_0)), .int .i64 (wrap64 (2 * a1_1))], .int .i64 a2] rfl (by (try simp only [List.map_toArray, List.map_cons, List.map_nil]); first | done | rfl | (simp only [List.length_drop, List.length_take]; rfl)) ?_; (with_reducible refine (reduce_Water.calls _ _ l0 (wrap64 (2 * a1_0)) (wrap64 (2 * a1_1)) a2 t278 t279 _ ?side1 ?side2 A27.out).mono ?_); (case side1 => repeat (first | exact (Kd.C_below HR0.out HB.out) | (with_reducible refine Kd.C_alloc ?_ _) | (with_reducible refine Kd.C_drewN ?_ _) | (with_reducible refine Kd.C_drew ?_))); (case side2 => exact HC0.out); rintro e w31 ⟨rfl, hb⟩; refine ⟨_, rfl, ?_⟩; have n0_ := Aside0.mk (blk_below (g := gb271) (o := .cells #[.int .i64 a1_0, .int .i64 a1_1] 24 (0, 0)) (by (with_reducible repeat (first | refine blk_drewN ?_ _ | refine blk_drew ?_ | refine blk_alloc ?_ _)); exact BK271.out) hb); have n1_ := Aside0.mk (below_step (by repeat (first | (with_reducible first | exact HB.out | apply below_alloc | apply pw_below_drewN | apply below_drew1 | refine below_set ?_ GE271.out) | exact HB.out)) hb); clear BK271; clear HB; have BK271 := n0_; have HB := n1_; clear n0_ n1_; (try clear hb); (try clear hb2); (try clear hk); (try clear hi)))
                        go_ret
                        exact ⟨by first | rfl | (simp [errW_none, errW_some] <;> rfl) | (simp [*, errW_none, errW_some] <;> rfl), by repeat (first | (with_reducible first | exact HB.out | apply below_alloc | apply pw_below_drewN | apply below_drew1 | refine below_set ?_ GE271.out) | exact HB.out)⟩
                      · rw [if_neg c29] at H
                        have c29b0 : (t278 == (wrap64 (2 * t274))) = false := beq_eq_false_iff_ne.mpr c29
                        have c29b1 : (t278 != (wrap64 (2 * t274))) = true := bne_iff_ne.mpr c29
                        obtain rfl := Option.some.inj H
                        have hcz32_0 : wc.cell? ⟨gb271, 0, none⟩ = some (.int .i64 a1_0) := (blk_cell BK271.out 0).trans rfl
                        have hcz32_1 : wc.cell? ⟨gb271, 1, none⟩ = some (.int .i64 a1_1) := (blk_cell BK271.out 1).trans rfl
                        have hfz32_0 := blk_frozen BK271.out 0
                        have hfz32_1 := blk_frozen BK271.out 1
                        go_wp2_with (first | ((with_reducible refine gate_callee (f := 12) rfl ?_); refine goesL_ (some 74) rfl rfl Try.func12 (by kernel_rfl) rfl #[.slice A0 l0.length c0, .agg #[.int .i64 (wrap64 (2 * a1_0)), .int .i64 (wrap64 (2 * a1_1))], .int .i64 a2] rfl (by (try simp only [List.map_toArray, List.map_cons, List.map_nil]); first | done | rfl | (simp only [List.length_drop, List.length_take]; rfl)) ?_; (with_reducible refine (reduce_Water.calls _ _ l0 (wrap64 (2 * a1_0)) (wrap64 (2 * a1_1)) a2 t278 t279 _ ?side1 ?side2 A27.out).mono ?_); (case side1 => repeat (first | exact (Kd.C_below HR0.out HB.out) | (with_reducible refine Kd.C_alloc ?_ _) | (with_reducible refine Kd.C_drewN ?_ _) | (with_reducible refine Kd.C_drew ?_))); (case side2 => exact HC0.out); rintro e w33 ⟨rfl, hb⟩; refine ⟨_, rfl, ?_⟩; have n0_ := Aside0.mk (blk_below (g := gb271) (o := .cells #[.int .i64 a1_0, .int .i64 a1_1] 24 (0, 0)) (by (with_reducible repeat (first | refine blk_drewN ?_ _ | refine blk_drew ?_ | refine blk_alloc ?_ _)); exact BK271.out) hb); have n1_ := Aside0.mk (below_step (by repeat (first | (with_reducible first | exact HB.out | apply below_alloc | apply pw_below_drewN | apply below_drew1 | refine below_set ?_ GE271.out) | exact HB.out)) hb); clear BK271; clear HB; have BK271 := n0_; have HB := n1_; clear n0_ n1_; (try clear hb); (try clear hb2); (try clear hk); (try clear hi)))
                        go_ret
                        exact ⟨by first | rfl | (simp [errW_none, errW_some] <;> rfl) | (simp [*, errW_none, errW_some] <;> rfl), by repeat (first | (with_reducible first | exact HB.out | apply below_alloc | apply pw_below_drewN | apply below_drew1 | refine below_set ?_ GE271.out) | exact HB.out)⟩
                    · rw [if_neg c28] at H
                      have c28b0 : (t279 == 0) = false := beq_eq_false_iff_ne.mpr c28
                      have c28b1 : (t279 != 0) = true := bne_iff_ne.mpr c28
                      obtain rfl := Option.some.inj H
                      have hcz34_0 : wc.cell? ⟨gb271, 0, none⟩ = some (.int .i64 a1_0) := (blk_cell BK271.out 0).trans rfl
                      have hcz34_1 : wc.cell? ⟨gb271, 1, none⟩ = some (.int .i64 a1_1) := (blk_cell BK271.out 1).trans rfl
                      have hfz34_0 := blk_frozen BK271.out 0
                      have hfz34_1 := blk_frozen BK271.out 1
                      go_wp2_with (first | ((with_reducible refine gate_callee (f := 12) rfl ?_); refine goesL_ (some 74) rfl rfl Try.func12 (by kernel_rfl) rfl #[.slice A0 l0.length c0, .agg #[.int .i64 (wrap64 (2 * a1_0)), .int .i64 (wrap64 (2 * a1_1))], .int .i64 a2] rfl (by (try simp only [List.map_toArray, List.map_cons, List.map_nil]); first | done | rfl | (simp only [List.length_drop, List.length_take]; rfl)) ?_; (with_reducible refine (reduce_Water.calls _ _ l0 (wrap64 (2 * a1_0)) (wrap64 (2 * a1_1)) a2 t278 t279 _ ?side1 ?side2 A27.out).mono ?_); (case side1 => repeat (first | exact (Kd.C_below HR0.out HB.out) | (with_reducible refine Kd.C_alloc ?_ _) | (with_reducible refine Kd.C_drewN ?_ _) | (with_reducible refine Kd.C_drew ?_))); (case side2 => exact HC0.out); rintro e w35 ⟨rfl, hb⟩; refine ⟨_, rfl, ?_⟩; have n0_ := Aside0.mk (blk_below (g := gb271) (o := .cells #[.int .i64 a1_0, .int .i64 a1_1] 24 (0, 0)) (by (with_reducible repeat (first | refine blk_drewN ?_ _ | refine blk_drew ?_ | refine blk_alloc ?_ _)); exact BK271.out) hb); have n1_ := Aside0.mk (below_step (by repeat (first | (with_reducible first | exact HB.out | apply below_alloc | apply pw_below_drewN | apply below_drew1 | refine below_set ?_ GE271.out) | exact HB.out)) hb); clear BK271; clear HB; have BK271 := n0_; have HB := n1_; clear n0_ n1_; (try clear hb); (try clear hb2); (try clear hk); (try clear hi)))
                      go_ret
                      exact ⟨by first | rfl | (simp [errW_none, errW_some] <;> rfl) | (simp [*, errW_none, errW_some] <;> rfl), by repeat (first | (with_reducible first | exact HB.out | apply below_alloc | apply pw_below_drewN | apply below_drew1 | refine below_set ?_ GE271.out) | exact HB.out)⟩
            · rw [if_neg c17] at H
              have c17b0 : decide (0 < a2) = false := decide_eq_false c17
              clear c17
              replace H := Option.bind_eq_some_iff.mp H
              obtain ⟨⟨t280, t281⟩, A360, H⟩ := H
              replace H : (if t281 = 0 then (if t280 = (wrap64 (2 * t274)) then (some true) else (some (t280 == (wrap64 ((wrap64 (2 * t274)) - 1))))) else (some (t281 == 15))) = some r := H
              have A36 := Aside0.mk A360
              clear A360
              by_cases c37 : t281 = 0
              · rw [if_pos c37] at H
                have c37b0 : (t281 == 0) = true := beq_iff_eq.mpr c37
                have c37b1 : (t281 != 0) = false := bne_eq_false_iff_eq.mpr c37
                clear c37
                by_cases c38 : t280 = (wrap64 (2 * t274))
                · rw [if_pos c38] at H
                  have c38b0 : (t280 == (wrap64 (2 * t274))) = true := beq_iff_eq.mpr c38
                  have c38b1 : (t280 != (wrap64 (2 * t274))) = false := bne_eq_false_iff_eq.mpr c38
                  clear c38
                  obtain rfl := Option.some.inj H
                  have hcz39_0 : wc.cell? ⟨gb271, 0, none⟩ = some (.int .i64 a1_0) := (blk_cell BK271.out 0).trans rfl
                  have hcz39_1 : wc.cell? ⟨gb271, 1, none⟩ = some (.int .i64 a1_1) := (blk_cell BK271.out 1).trans rfl
                  have hfz39_0 := blk_frozen BK271.out 0
                  have hfz39_1 := blk_frozen BK271.out 1
                  go_wp2_with (first | ((with_reducible refine gate_callee (f := 12) rfl ?_); refine goesL_ (some 32) rfl rfl Try.func12 (by kernel_rfl) rfl #[.slice A0 l0.length c0, .agg #[.int .i64 a1_0, .int .i64 a1_1], .int .i64 a2] rfl (by (try simp only [List.map_toArray, List.map_cons, List.map_nil]); first | done | rfl | (simp only [List.length_drop, List.length_take]; rfl)) ?_; (with_reducible refine (reduce_Water.calls _ _ l0 a1_0 a1_1 a2 t274 t275 _ ?side1 ?side2 A15.out).mono ?_); (case side1 => repeat (first | exact (Kd.C_below HR0.out HB.out) | (with_reducible refine Kd.C_alloc ?_ _) | (with_reducible refine Kd.C_drewN ?_ _) | (with_reducible refine Kd.C_drew ?_))); (case side2 => exact HC0.out); rintro e w40 ⟨rfl, hb⟩; refine ⟨_, rfl, ?_⟩; have n0_ := Aside0.mk (blk_below (g := gb271) (o := .cells #[.int .i64 a1_0, .int .i64 a1_1] 24 (0, 0)) (by (with_reducible repeat (first | refine blk_drewN ?_ _ | refine blk_drew ?_ | refine blk_alloc ?_ _)); exact BK271.out) hb); have n1_ := Aside0.mk (below_step (by repeat (first | (with_reducible first | exact HB.out | apply below_alloc | apply pw_below_drewN | apply below_drew1 | refine below_set ?_ GE271.out) | exact HB.out)) hb); clear BK271; clear HB; have BK271 := n0_; have HB := n1_; clear n0_ n1_; (try clear hb); (try clear hb2); (try clear hk); (try clear hi); have hcz41_0 : w40.cell? ⟨gb271, 0, none⟩ = some (.int .i64 a1_0) := (blk_cell BK271.out 0).trans rfl; have hcz41_1 : w40.cell? ⟨gb271, 1, none⟩ = some (.int .i64 a1_1) := (blk_cell BK271.out 1).trans rfl; have hfz41_0 := blk_frozen BK271.out 0; have hfz41_1 := blk_frozen BK271.out 1) | ((with_reducible refine gate_callee (f := 12) rfl ?_); refine goesL_ (some 74) rfl rfl Try.func12 (by kernel_rfl) rfl #[.slice A0 l0.length c0, .agg #[.int .i64 (wrap64 (2 * a1_0)), .int .i64 (wrap64 (2 * a1_1))], .int .i64 a2] rfl (by (try simp only [List.map_toArray, List.map_cons, List.map_nil]); first | done | rfl | (simp only [List.length_drop, List.length_take]; rfl)) ?_; (with_reducible refine (reduce_Water.calls _ _ l0 (wrap64 (2 * a1_0)) (wrap64 (2 * a1_1)) a2 t280 t281 _ ?side1 ?side2 A36.out).mono ?_); (case side1 => repeat (first | exact (Kd.C_below HR0.out HB.out) | (with_reducible refine Kd.C_alloc ?_ _) | (with_reducible refine Kd.C_drewN ?_ _) | (with_reducible refine Kd.C_drew ?_))); (case side2 => exact HC0.out); rintro e w42 ⟨rfl, hb⟩; refine ⟨_, rfl, ?_⟩; have n0_ := Aside0.mk (blk_below (g := gb271) (o := .cells #[.int .i64 a1_0, .int .i64 a1_1] 24 (0, 0)) (by (with_reducible repeat (first | refine blk_drewN ?_ _ | refine blk_drew ?_ | refine blk_alloc ?_ _)); exact BK271.out) hb); have n1_ := Aside0.mk (below_step (by repeat (first | (with_reducible first | exact HB.out | apply below_alloc | apply pw_below_drewN | apply below_drew1 | refine below_set ?_ GE271.out) | exact HB.out)) hb); clear BK271; clear HB; have BK271 := n0_; have HB := n1_; clear n0_ n1_; (try clear hb); (try clear hb2); (try clear hk); (try clear hi)))
                  go_ret
                  exact ⟨by first | rfl | (simp [errW_none, errW_some] <;> rfl) | (simp [*, errW_none, errW_some] <;> rfl), by repeat (first | (with_reducible first | exact HB.out | apply below_alloc | apply pw_below_drewN | apply below_drew1 | refine below_set ?_ GE271.out) | exact HB.out)⟩
                · rw [if_neg c38] at H
                  have c38b0 : (t280 == (wrap64 (2 * t274))) = false := beq_eq_false_iff_ne.mpr c38
                  have c38b1 : (t280 != (wrap64 (2 * t274))) = true := bne_iff_ne.mpr c38
                  obtain rfl := Option.some.inj H
                  have hcz43_0 : wc.cell? ⟨gb271, 0, none⟩ = some (.int .i64 a1_0) := (blk_cell BK271.out 0).trans rfl
                  have hcz43_1 : wc.cell? ⟨gb271, 1, none⟩ = some (.int .i64 a1_1) := (blk_cell BK271.out 1).trans rfl
                  have hfz43_0 := blk_frozen BK271.out 0
                  have hfz43_1 := blk_frozen BK271.out 1
                  go_wp2_with (first | ((with_reducible refine gate_callee (f := 12) rfl ?_); refine goesL_ (some 32) rfl rfl Try.func12 (by kernel_rfl) rfl #[.slice A0 l0.length c0, .agg #[.int .i64 a1_0, .int .i64 a1_1], .int .i64 a2] rfl (by (try simp only [List.map_toArray, List.map_cons, List.map_nil]); first | done | rfl | (simp only [List.length_drop, List.length_take]; rfl)) ?_; (with_reducible refine (reduce_Water.calls _ _ l0 a1_0 a1_1 a2 t274 t275 _ ?side1 ?side2 A15.out).mono ?_); (case side1 => repeat (first | exact (Kd.C_below HR0.out HB.out) | (with_reducible refine Kd.C_alloc ?_ _) | (with_reducible refine Kd.C_drewN ?_ _) | (with_reducible refine Kd.C_drew ?_))); (case side2 => exact HC0.out); rintro e w44 ⟨rfl, hb⟩; refine ⟨_, rfl, ?_⟩; have n0_ := Aside0.mk (blk_below (g := gb271) (o := .cells #[.int .i64 a1_0, .int .i64 a1_1] 24 (0, 0)) (by (with_reducible repeat (first | refine blk_drewN ?_ _ | refine blk_drew ?_ | refine blk_alloc ?_ _)); exact BK271.out) hb); have n1_ := Aside0.mk (below_step (by repeat (first | (with_reducible first | exact HB.out | apply below_alloc | apply pw_below_drewN | apply below_drew1 | refine below_set ?_ GE271.out) | exact HB.out)) hb); clear BK271; clear HB; have BK271 := n0_; have HB := n1_; clear n0_ n1_; (try clear hb); (try clear hb2); (try clear hk); (try clear hi); have hcz45_0 : w44.cell? ⟨gb271, 0, none⟩ = some (.int .i64 a1_0) := (blk_cell BK271.out 0).trans rfl; have hcz45_1 : w44.cell? ⟨gb271, 1, none⟩ = some (.int .i64 a1_1) := (blk_cell BK271.out 1).trans rfl; have hfz45_0 := blk_frozen BK271.out 0; have hfz45_1 := blk_frozen BK271.out 1) | ((with_reducible refine gate_callee (f := 12) rfl ?_); refine goesL_ (some 74) rfl rfl Try.func12 (by kernel_rfl) rfl #[.slice A0 l0.length c0, .agg #[.int .i64 (wrap64 (2 * a1_0)), .int .i64 (wrap64 (2 * a1_1))], .int .i64 a2] rfl (by (try simp only [List.map_toArray, List.map_cons, List.map_nil]); first | done | rfl | (simp only [List.length_drop, List.length_take]; rfl)) ?_; (with_reducible refine (reduce_Water.calls _ _ l0 (wrap64 (2 * a1_0)) (wrap64 (2 * a1_1)) a2 t280 t281 _ ?side1 ?side2 A36.out).mono ?_); (case side1 => repeat (first | exact (Kd.C_below HR0.out HB.out) | (with_reducible refine Kd.C_alloc ?_ _) | (with_reducible refine Kd.C_drewN ?_ _) | (with_reducible refine Kd.C_drew ?_))); (case side2 => exact HC0.out); rintro e w46 ⟨rfl, hb⟩; refine ⟨_, rfl, ?_⟩; have n0_ := Aside0.mk (blk_below (g := gb271) (o := .cells #[.int .i64 a1_0, .int .i64 a1_1] 24 (0, 0)) (by (with_reducible repeat (first | refine blk_drewN ?_ _ | refine blk_drew ?_ | refine blk_alloc ?_ _)); exact BK271.out) hb); have n1_ := Aside0.mk (below_step (by repeat (first | (with_reducible first | exact HB.out | apply below_alloc | apply pw_below_drewN | apply below_drew1 | refine below_set ?_ GE271.out) | exact HB.out)) hb); clear BK271; clear HB; have BK271 := n0_; have HB := n1_; clear n0_ n1_; (try clear hb); (try clear hb2); (try clear hk); (try clear hi)))
                  go_ret
                  exact ⟨by first | rfl | (simp [errW_none, errW_some] <;> rfl) | (simp [*, errW_none, errW_some] <;> rfl), by repeat (first | (with_reducible first | exact HB.out | apply below_alloc | apply pw_below_drewN | apply below_drew1 | refine below_set ?_ GE271.out) | exact HB.out)⟩
              · rw [if_neg c37] at H
                have c37b0 : (t281 == 0) = false := beq_eq_false_iff_ne.mpr c37
                have c37b1 : (t281 != 0) = true := bne_iff_ne.mpr c37
                obtain rfl := Option.some.inj H
                have hcz47_0 : wc.cell? ⟨gb271, 0, none⟩ = some (.int .i64 a1_0) := (blk_cell BK271.out 0).trans rfl
                have hcz47_1 : wc.cell? ⟨gb271, 1, none⟩ = some (.int .i64 a1_1) := (blk_cell BK271.out 1).trans rfl
                have hfz47_0 := blk_frozen BK271.out 0
                have hfz47_1 := blk_frozen BK271.out 1
                go_wp2_with (first | ((with_reducible refine gate_callee (f := 12) rfl ?_); refine goesL_ (some 32) rfl rfl Try.func12 (by kernel_rfl) rfl #[.slice A0 l0.length c0, .agg #[.int .i64 a1_0, .int .i64 a1_1], .int .i64 a2] rfl (by (try simp only [List.map_toArray, List.map_cons, List.map_nil]); first | done | rfl | (simp only [List.length_drop, List.length_take]; rfl)) ?_; (with_reducible refine (reduce_Water.calls _ _ l0 a1_0 a1_1 a2 t274 t275 _ ?side1 ?side2 A15.out).mono ?_); (case side1 => repeat (first | exact (Kd.C_below HR0.out HB.out) | (with_reducible refine Kd.C_alloc ?_ _) | (with_reducible refine Kd.C_drewN ?_ _) | (with_reducible refine Kd.C_drew ?_))); (case side2 => exact HC0.out); rintro e w48 ⟨rfl, hb⟩; refine ⟨_, rfl, ?_⟩; have n0_ := Aside0.mk (blk_below (g := gb271) (o := .cells #[.int .i64 a1_0, .int .i64 a1_1] 24 (0, 0)) (by (with_reducible repeat (first | refine blk_drewN ?_ _ | refine blk_drew ?_ | refine blk_alloc ?_ _)); exact BK271.out) hb); have n1_ := Aside0.mk (below_step (by repeat (first | (with_reducible first | exact HB.out | apply below_alloc | apply pw_below_drewN | apply below_drew1 | refine below_set ?_ GE271.out) | exact HB.out)) hb); clear BK271; clear HB; have BK271 := n0_; have HB := n1_; clear n0_ n1_; (try clear hb); (try clear hb2); (try clear hk); (try clear hi); have hcz49_0 : w48.cell? ⟨gb271, 0, none⟩ = some (.int .i64 a1_0) := (blk_cell BK271.out 0).trans rfl; have hcz49_1 : w48.cell? ⟨gb271, 1, none⟩ = some (.int .i64 a1_1) := (blk_cell BK271.out 1).trans rfl; have hfz49_0 := blk_frozen BK271.out 0; have hfz49_1 := blk_frozen BK271.out 1) | ((with_reducible refine gate_callee (f := 12) rfl ?_); refine goesL_ (some 74) rfl rfl Try.func12 (by kernel_rfl) rfl #[.slice A0 l0.length c0, .agg #[.int .i64 (wrap64 (2 * a1_0)), .int .i64 (wrap64 (2 * a1_1))], .int .i64 a2] rfl (by (try simp only [List.map_toArray, List.map_cons, List.map_nil]); first | done | rfl | (simp only [List.length_drop, List.length_take]; rfl)) ?_; (with_reducible refine (reduce_Water.calls _ _ l0 (wrap64 (2 * a1_0)) (wrap64 (2 * a1_1)) a2 t280 t281 _ ?side1 ?side2 A36.out).mono ?_); (case side1 => repeat (first | exact (Kd.C_below HR0.out HB.out) | (with_reducible refine Kd.C_alloc ?_ _) | (with_reducible refine Kd.C_drewN ?_ _) | (with_reducible refine Kd.C_drew ?_))); (case side2 => exact HC0.out); rintro e w50 ⟨rfl, hb⟩; refine ⟨_, rfl, ?_⟩; have n0_ := Aside0.mk (blk_below (g := gb271) (o := .cells #[.int .i64 a1_0, .int .i64 a1_1] 24 (0, 0)) (by (with_reducible repeat (first | refine blk_drewN ?_ _ | refine blk_drew ?_ | refine blk_alloc ?_ _)); exact BK271.out) hb); have n1_ := Aside0.mk (below_step (by repeat (first | (with_reducible first | exact HB.out | apply below_alloc | apply pw_below_drewN | apply below_drew1 | refine below_set ?_ GE271.out) | exact HB.out)) hb); clear BK271; clear HB; have BK271 := n0_; have HB := n1_; clear n0_ n1_; (try clear hb); (try clear hb2); (try clear hk); (try clear hi)))
                go_ret
                exact ⟨by first | rfl | (simp [errW_none, errW_some] <;> rfl) | (simp [*, errW_none, errW_some] <;> rfl), by repeat (first | (with_reducible first | exact HB.out | apply below_alloc | apply pw_below_drewN | apply below_drew1 | refine below_set ?_ GE271.out) | exact HB.out)⟩
          · rw [if_neg c16] at H
            have c16b0 : (t275 == 0) = false := beq_eq_false_iff_ne.mpr c16
            have c16b1 : (t275 != 0) = true := bne_iff_ne.mpr c16
            obtain rfl := Option.some.inj H
            have hcz51_0 : wc.cell? ⟨gb271, 0, none⟩ = some (.int .i64 a1_0) := (blk_cell BK271.out 0).trans rfl
            have hcz51_1 : wc.cell? ⟨gb271, 1, none⟩ = some (.int .i64 a1_1) := (blk_cell BK271.out 1).trans rfl
            have hfz51_0 := blk_frozen BK271.out 0
            have hfz51_1 := blk_frozen BK271.out 1
            go_wp2_with (first | ((with_reducible refine gate_callee (f := 12) rfl ?_); refine goesL_ (some 32) rfl rfl Try.func12 (by kernel_rfl) rfl #[.slice A0 l0.length c0, .agg #[.int .i64 a1_0, .int .i64 a1_1], .int .i64 a2] rfl (by (try simp only [List.map_toArray, List.map_cons, List.map_nil]); first | done | rfl | (simp only [List.length_drop, List.length_take]; rfl)) ?_; (with_reducible refine (reduce_Water.calls _ _ l0 a1_0 a1_1 a2 t274 t275 _ ?side1 ?side2 A15.out).mono ?_); (case side1 => repeat (first | exact (Kd.C_below HR0.out HB.out) | (with_reducible refine Kd.C_alloc ?_ _) | (with_reducible refine Kd.C_drewN ?_ _) | (with_reducible refine Kd.C_drew ?_))); (case side2 => exact HC0.out); rintro e w52 ⟨rfl, hb⟩; refine ⟨_, rfl, ?_⟩; have n0_ := Aside0.mk (blk_below (g := gb271) (o := .cells #[.int .i64 a1_0, .int .i64 a1_1] 24 (0, 0)) (by (with_reducible repeat (first | refine blk_drewN ?_ _ | refine blk_drew ?_ | refine blk_alloc ?_ _)); exact BK271.out) hb); have n1_ := Aside0.mk (below_step (by repeat (first | (with_reducible first | exact HB.out | apply below_alloc | apply pw_below_drewN | apply below_drew1 | refine below_set ?_ GE271.out) | exact HB.out)) hb); clear BK271; clear HB; have BK271 := n0_; have HB := n1_; clear n0_ n1_; (try clear hb); (try clear hb2); (try clear hk); (try clear hi)))
            go_ret
            exact ⟨by first | rfl | (simp [errW_none, errW_some] <;> rfl) | (simp [*, errW_none, errW_some] <;> rfl), by repeat (first | (with_reducible first | exact HB.out | apply below_alloc | apply pw_below_drewN | apply below_drew1 | refine below_set ?_ GE271.out) | exact HB.out)⟩
  · replace c5 := Bool.eq_false_iff.mpr c5
    subst c5
    have H1 : (some false) = some r := by rw [if_neg (show ¬ (false = true) by decide)] at H; exact H
    clear H
    have H := H1
    clear H1
    obtain rfl := Option.some.inj H
    go_enter Try.func7, Try.ntmps7
    go_wp2_with (first | ((with_reducible refine gate_dst (N := 4) rfl ?_); refine box_event ?hg (N := 4) ?hd (cs := #[.int .i64 a1_0, .int .i64 a1_1]) (t := 24) ?hr ?_; (case hd => rfl); (case hg => rfl); (case hr => first | (go_simp; done) | (go_simp; rfl)); intro gb271 hg w53 hbox hb; have n0_ := Aside0.mk (below_step (by repeat (first | (with_reducible first | exact HB.out | apply below_alloc | apply pw_below_drewN | apply below_drew1) | exact HB.out)) hb); have n1_ := Aside0.mk (hbox); have n2_ := Aside0.mk ((by rw [hg]; exact (below_size (by repeat (first | (with_reducible first | exact HB.out | apply below_alloc | apply pw_below_drewN | apply below_drew1) | exact HB.out))) : w.heap.size ≤ gb271)); have n3_ := Aside0.mk ((by rw [hg]; exact (below_size (by repeat (first | (with_reducible first | exact HB.out | apply below_alloc | apply pw_below_drewN | apply below_drew1) | exact HB.out))) : w.heap.size ≤ gb271)); clear HB; have HB := n0_; have BK271 := n1_; have GW271 := n2_; have GE271 := n3_; clear n0_ n1_ n2_ n3_; clear hb hbox hg) | ((with_reducible refine gate_callee (f := 10) rfl ?_); refine goesL_ (some 13) rfl rfl Try.func10 (by kernel_rfl) rfl #[] rfl (by (try simp only [List.map_toArray, List.map_cons, List.map_nil]); first | done | rfl | (simp only [List.length_drop, List.length_take]; rfl)) ?_; (with_reducible refine (spilelaw28_awake.calls  false _ A4.out).mono ?_); rintro e w54 ⟨rfl, hb⟩; refine ⟨_, rfl, ?_⟩; have n0_ := Aside0.mk (blk_below (g := gb271) (o := .cells #[.int .i64 a1_0, .int .i64 a1_1] 24 (0, 0)) (by (with_reducible repeat (first | refine blk_drewN ?_ _ | refine blk_drew ?_ | refine blk_alloc ?_ _)); exact BK271.out) hb); have n1_ := Aside0.mk (below_step (by repeat (first | (with_reducible first | exact HB.out | apply below_alloc | apply pw_below_drewN | apply below_drew1 | refine below_set ?_ GE271.out) | exact HB.out)) hb); clear BK271; clear HB; have BK271 := n0_; have HB := n1_; clear n0_ n1_; (try clear hb); (try clear hb2); (try clear hk); (try clear hi)))
    go_ret
    exact ⟨by first | rfl | (simp [errW_none, errW_some] <;> rfl) | (simp [*, errW_none, errW_some] <;> rfl), by repeat (first | (with_reducible first | exact HB.out | apply below_alloc | apply pw_below_drewN | apply below_drew1 | refine below_set ?_ GE271.out) | exact HB.out)⟩

end Go.Proofs.Ytdggkgkbjgigmaa.PF
