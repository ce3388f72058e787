-- Written by a program of this session (wip/pr.py) out of Lean's print of the translation; Lean checks it.
import Derived.Test.YtdolabpkgienkaaPF0
import Derived.Test.YtdolabpkgienkaaPF1
namespace Go.Proofs.Ytdolabpkgienkaa.PF
open Go.RowKit Go.Proofs.YtdolabpkgienkaaW.PrintWords Go.Proofs.YtdolabpkgienkaaW.PrintLast Go.Proofs.YtdolabpkgienkaaW.PrintMore
attribute [local go_sem] max2_int min2_int max_two min_two max_three min_three max_four min_four   -- for this text's walks alone
set_option linter.unusedVariables false
set_option linter.unusedSimpArgs false

/-! ### bond_within: function 37 -/
def bond_within.f (a0 : Int) (a1 : Int) (a2 : Int) : Option (Bool) := if a0 ≥ a1 then (some (decide (a0 ≤ a2))) else (some false)
set_option maxHeartbeats 8000000 in
set_option maxRecDepth 100000 in
theorem bond_within.calls (a0 : Int) (a1 : Int) (a2 : Int) (r : Bool) (w : World) (h : bond_within.f a0 a1 a2 = some r) :
  Calls Try.prog 37 #[.int .i64 a0, .int .i64 a1, .int .i64 a2] w fun e w' => e = .returned (.bool r) ∧ Drawn0 w w' := by
 have H : (if a0 ≥ a1 then (some (decide (a0 ≤ a2))) else (some false)) = some r := h
 clear h
 by_cases c4 : a0 ≥ a1
 ·rw [if_pos c4] at H
  have c4b0 : decide (a1 ≤ a0) = true := decide_eq_true c4
  clear c4
  obtain rfl := Option.some.inj H
  go_enter Try.func37, Try.ntmps37
  go_wp2
  go_ret
  exact ⟨by first | rfl | (simp; done) | (simp [*]; done), by repeat (first | exact Drawn0.refl _ | apply Drawn0.step)⟩
 ·rw [if_neg c4] at H
  have c4b0 : decide (a1 ≤ a0) = false := decide_eq_false c4
  clear c4
  obtain rfl := Option.some.inj H
  go_enter Try.func37, Try.ntmps37
  go_wp2
  go_ret
  exact ⟨by first | rfl | (simp; done) | (simp [*]; done), by repeat (first | exact Drawn0.refl _ | apply Drawn0.step)⟩

/-! ### bond_Check: function 12 -/
mutual
def bond_Check.l0 : Nat → List (S31) → List (S31) → Int → Int → Option (Int × Int)
 | 0, _, _, _, _ => none
 | k + 1, x0, x9, x10, x11 => if x11 < x10 then (if 0 ≤ x11 then (if x11 < (x9.length : Int) then ((bond_within.f ((rd_T31 x9 x11).f0) 1 1073741824).bind fun t103 => (if t103 = true then ((bond_within.f ((rd_T31 x9 x11).f1) 0 100000).bind fun t104 => (if t104 = true then ((bond_within.f ((rd_T31 x9 x11).f2) ((rd_T31 x9 x11).f1) 100000).bind fun t105 => (if t105 = true then ((bond_within.f ((rd_T31 x9 x11).f3) 0 1125899906842624).bind fun t106 => (bond_Check.j1 k x0 x11 x9 x10 x11 (!t106) ((rd_T31 x9 x11).f0) ((rd_T31 x9 x11).f1) ((rd_T31 x9 x11).f2) ((rd_T31 x9 x11).f3))) else (bond_Check.j1 k x0 x11 x9 x10 x11 true ((rd_T31 x9 x11).f0) ((rd_T31 x9 x11).f1) ((rd_T31 x9 x11).f2) ((rd_T31 x9 x11).f3)))) else (bond_Check.j1 k x0 x11 x9 x10 x11 true ((rd_T31 x9 x11).f0) ((rd_T31 x9 x11).f1) ((rd_T31 x9 x11).f2) ((rd_T31 x9 x11).f3)))) else (bond_Check.j1 k x0 x11 x9 x10 x11 true ((rd_T31 x9 x11).f0) ((rd_T31 x9 x11).f1) ((rd_T31 x9 x11).f2) ((rd_T31 x9 x11).f3)))) else (none)) else (none)) else (some ((-1), 0))
def bond_Check.j1 : Nat → List (S31) → Int → List (S31) → Int → Int → Bool → Int → Int → Int → Int → Option (Int × Int)
 | 0, _, _, _, _, _, _, _, _, _, _ => none
 | k + 1, x0, x4, x9, x10, x11, x16, x103000, x103001, x103002, x103003 => if x16 = true then (some (x4, 2)) else (if x4 > 0 then (if 0 ≤ (wrap64 (x4 - 1)) then (if (wrap64 (x4 - 1)) < (x0.length : Int) then (if x103000 ≤ ((rd_T31 x0 (wrap64 (x4 - 1))).f0) then (some (x4, 5)) else (bond_Check.l0 k x0 x9 x10 (wrap64 (x11 + 1)))) else (none)) else (none)) else (bond_Check.l0 k x0 x9 x10 (wrap64 (x11 + 1))))
end
def bond_Check.f (k : Nat) (l0 : List (S31)) : Option (Int × Int) := if (l0.length : Int) > 16 then (some ((-1), 8)) else (bond_Check.l0 k l0 l0 (l0.length : Int) 0)
theorem bond_Check.mono_l : ∀ k, (∀ y0 y1 y2 y3, LeO (bond_Check.l0 k y0 y1 y2 y3) (bond_Check.l0 (k + 1) y0 y1 y2 y3)) ∧ (∀ y0 y1 y2 y3 y4 y5 y6 y7 y8 y9, LeO (bond_Check.j1 k y0 y1 y2 y3 y4 y5 y6 y7 y8 y9) (bond_Check.j1 (k + 1) y0 y1 y2 y3 y4 y5 y6 y7 y8 y9))
 | 0 => ⟨fun _ _ _ _ r h => by simp [bond_Check.l0] at h, fun _ _ _ _ _ _ _ _ _ _ r h => by simp [bond_Check.j1] at h⟩
 | k + 1 => by
  obtain ⟨ih0, ih1⟩ := bond_Check.mono_l k
  refine ⟨?_, ?_⟩
  ·intro y0 y1 y2 y3
   unfold bond_Check.l0
   repeat' first
   | (with_reducible exact ih0 _ _ _ _)
   | (with_reducible exact ih1 _ _ _ _ _ _ _ _ _ _)
   | (with_reducible exact LeO.refl _)
   | (with_reducible exact LeO.none _)
   | (with_reducible refine LeO.ite ?_ ?_)
   | (with_reducible refine LeO.bind ?_ (fun _ => ?_))
   | exact ih0 _ _ _ _
   | exact ih1 _ _ _ _ _ _ _ _ _ _
   | exact LeO.none _
   | refine LeO.ite ?_ ?_
   | refine LeO.bind ?_ (fun _ => ?_)
  ·intro y0 y1 y2 y3 y4 y5 y6 y7 y8 y9
   unfold bond_Check.j1
   repeat' first
   | (with_reducible exact ih0 _ _ _ _)
   | (with_reducible exact ih1 _ _ _ _ _ _ _ _ _ _)
   | (with_reducible exact LeO.refl _)
   | (with_reducible exact LeO.none _)
   | (with_reducible refine LeO.ite ?_ ?_)
   | (with_reducible refine LeO.bind ?_ (fun _ => ?_))
   | exact ih0 _ _ _ _
   | exact ih1 _ _ _ _ _ _ _ _ _ _
   | exact LeO.none _
   | refine LeO.ite ?_ ?_
   | refine LeO.bind ?_ (fun _ => ?_)
theorem bond_Check.mono : ∀ a0 k, LeO (bond_Check.f k a0) (bond_Check.f (k + 1) a0) := by
 intro a0 k
 obtain ⟨ih0, ih1⟩ := bond_Check.mono_l k
 unfold bond_Check.f
 repeat' first
   | (with_reducible exact ih0 _ _ _ _)
   | (with_reducible exact ih1 _ _ _ _ _ _ _ _ _ _)
   | (with_reducible exact LeO.refl _)
   | (with_reducible exact LeO.none _)
   | (with_reducible refine LeO.ite ?_ ?_)
   | (with_reducible refine LeO.bind ?_ (fun _ => ?_))
   | exact ih0 _ _ _ _
   | exact ih1 _ _ _ _ _ _ _ _ _ _
   | exact LeO.none _
   | refine LeO.ite ?_ ?_
   | refine LeO.bind ?_ (fun _ => ?_)
set_option maxHeartbeats 8000000 in
set_option maxRecDepth 100000 in
theorem bond_Check.calls (k : Nat) (A0 : Option Addr) (c0 : Nat) (l0 : List (S31)) (r1 : Int) (r2 : Int) (w : World) (hr0 : Kd.C k31 w A0 l0.length l0) (hc0 : l0.length ≤ c0) (h : bond_Check.f k l0 = some (r1, r2)) :
  Calls Try.prog 12 #[.slice A0 l0.length c0] w fun e w' => e = .returned (.tuple #[.int .i64 r1, .int .i64 r2]) ∧ Below w.heap.size w w' := by
 have hu31 := Try.underlying31
 have HR0 := Aside0.mk hr0
 have HC0 := Aside0.mk hc0
 clear hr0 hc0
 have HB := Aside0.mk (Below.refl w.heap.size w)
 have H : (if (l0.length : Int) > 16 then (some ((-1), 8)) else (bond_Check.l0 k l0 l0 (l0.length : Int) 0)) = some (r1, r2) := h
 clear h
 by_cases c2 : (l0.length : Int) > 16
 ·rw [if_pos c2] at H
  have c2b0 : decide (16 < (l0.length : Int)) = true := decide_eq_true c2
  have c2b1 : decide (16 < l0.length) = true := decide_eq_true (by omega)
  clear c2
  simp only [Option.some.injEq, Prod.mk.injEq] at H
  obtain ⟨rfl, rfl⟩ := H
  go_enter Try.func12, Try.ntmps12
  go_wp2
  repeat (go_quiet (fail); try go_wp2)
  go_ret2
  exact ⟨by first | rfl | (simp [errW_none, errW_some] <;> rfl) | (simp [*, errW_none, errW_some] <;> rfl), by repeat (first | (with_reducible first | exact HB.out | apply below_alloc | apply pw_below_drewN | apply below_drew1) | exact HB.out)⟩
 ·rw [if_neg c2] at H
  have c2b0 : decide (16 < (l0.length : Int)) = false := decide_eq_false c2
  have c2b1 : decide (16 < l0.length) = false := decide_eq_false (by omega)
  clear c2
  have H' := Aside0.mk H
  clear H
  go_enter Try.func12, Try.ntmps12
  go_wp2
  repeat (go_quiet (fail); try go_wp2)
  go_loopg [11] k (fun kq v11 w' => ∃ (x11_1 : Int), v11 = .int .i64 x11_1 ∧ Aside0 (bond_Check.l0 kq l0 l0 (l0.length : Int) x11_1 = some (r1, r2)) ∧ Aside0 (kq ≤ k) ∧ Aside0 (Below w.heap.size w w'))
  case atStart => exact ⟨(0), (by first | rfl | (simp; done) | (simp [*]; done)), H', ⟨Nat.le_refl _⟩, ⟨by repeat (first | (with_reducible first | exact HB.out | apply below_alloc | apply pw_below_drewN | apply below_drew1) | exact HB.out)⟩⟩
  case round =>
   clear H'
   try clear c1
   try clear c2
   try clear c2b0
   try clear c2b1
   try clear p2
   obtain ⟨x11_1, rfl, HA, HK1, HB⟩ := hrel
   cases gk with
   | zero => exact absurd HA.out (by simp [bond_Check.l0])
   | succ k1 =>
    have H := HA.out
    clear HA
    simp only [bond_Check.l0] at H
    by_cases c3 : x11_1 < (l0.length : Int)
    ·rw [if_pos c3] at H
     have c3b0 : decide (x11_1 < (l0.length : Int)) = true := decide_eq_true c3
     clear c3
     by_cases c4 : 0 ≤ x11_1
     ·rw [if_pos c4] at H
      have c4b0 : decide (0 ≤ x11_1) = true := decide_eq_true c4
      clear c4
      by_cases c5 : x11_1 < (l0.length : Int)
      ·rw [if_pos c5] at H
       have c5b0 : decide (x11_1 < (l0.length : Int)) = true := decide_eq_true c5
       clear c5
       have HC6 := Aside0.mk H
       clear H
       have p101 : 0 ≤ (x11_1 : Int) := of_decide_eq_true (by first | (with_reducible assumption) | assumption)
       have q101 : x11_1 < (l0.length : Int) := of_decide_eq_true (by first | (with_reducible assumption) | assumption)
       obtain ⟨ad101, e101, hx101_0, hx101_1, hx101_2, hx101_3⟩ := at_T31 HR0.out x11_1 p101 q101
       cases e101
       replace hx101_0 := (HB.out.cell (World.block_lt_of_cell? w _ hx101_0)).trans hx101_0
       replace hx101_1 := (HB.out.cell (World.block_lt_of_cell? w _ hx101_1)).trans hx101_1
       replace hx101_2 := (HB.out.cell (World.block_lt_of_cell? w _ hx101_2)).trans hx101_2
       replace hx101_3 := (HB.out.cell (World.block_lt_of_cell? w _ hx101_3)).trans hx101_3
       replace p101 := eq_true p101
       replace q101 := eq_true q101
       go_upto_region 6 with (first | ((with_reducible refine gate_dst (N := 5) rfl ?_); refine box_event ?hg (N := 5) ?hd (cs := #[.int .i64 0, .int .i64 0, .int .i64 0, .int .i64 0]) (t := 31) ?hr ?_; (case hd => rfl); (case hg => rfl); (case hr => first | (go_simp; done) | (go_simp; rfl)); intro gb102 hg w7 hbox hb; have n0_ := Aside0.mk (below_step (by repeat (first | (with_reducible first | exact HB.out | apply below_alloc | apply pw_below_drewN | apply below_drew1) | exact HB.out)) hb); have n1_ := Aside0.mk (hbox); have n2_ := Aside0.mk ((by rw [hg]; exact (below_size (by repeat (first | (with_reducible first | exact HB.out | apply below_alloc | apply pw_below_drewN | apply below_drew1) | exact HB.out))) : w.heap.size ≤ gb102)); have n3_ := Aside0.mk ((by rw [hg]; exact (below_size (by repeat (first | (with_reducible first | exact HB.out | apply below_alloc | apply pw_below_drewN | apply below_drew1) | exact HB.out))) : w.heap.size ≤ gb102)); clear HB; have HB := n0_; have BK102 := n1_; have GW102 := n2_; have GE102 := n3_; clear n0_ n1_ n2_ n3_; clear hb hbox hg; have hcz8_0 : w7.cell? ⟨gb102, 0, none⟩ = some (.int .i64 0) := (blk_cell BK102.out 0).trans rfl; have hcz8_1 : w7.cell? ⟨gb102, 1, none⟩ = some (.int .i64 0) := (blk_cell BK102.out 1).trans rfl; have hcz8_2 : w7.cell? ⟨gb102, 2, none⟩ = some (.int .i64 0) := (blk_cell BK102.out 2).trans rfl; have hcz8_3 : w7.cell? ⟨gb102, 3, none⟩ = some (.int .i64 0) := (blk_cell BK102.out 3).trans rfl; have hfz8_0 := blk_frozen BK102.out 0; have hfz8_1 := blk_frozen BK102.out 1; have hfz8_2 := blk_frozen BK102.out 2; have hfz8_3 := blk_frozen BK102.out 3))
       repeat (go_quiet (first | ((with_reducible refine gate_dst (N := 5) rfl ?_); refine box_event ?hg (N := 5) ?hd (cs := #[.int .i64 0, .int .i64 0, .int .i64 0, .int .i64 0]) (t := 31) ?hr ?_; (case hd => rfl); (case hg => rfl); (case hr => first | (go_simp; done) | (go_simp; rfl)); intro gb102 hg w7 hbox hb; have n0_ := Aside0.mk (below_step (by repeat (first | (with_reducible first | exact HB.out | apply below_alloc | apply pw_below_drewN | apply below_drew1) | exact HB.out)) hb); have n1_ := Aside0.mk (hbox); have n2_ := Aside0.mk ((by rw [hg]; exact (below_size (by repeat (first | (with_reducible first | exact HB.out | apply below_alloc | apply pw_below_drewN | apply below_drew1) | exact HB.out))) : w.heap.size ≤ gb102)); have n3_ := Aside0.mk ((by rw [hg]; exact (below_size (by repeat (first | (with_reducible first | exact HB.out | apply below_alloc | apply pw_below_drewN | apply below_drew1) | exact HB.out))) : w.heap.size ≤ gb102)); clear HB; have HB := n0_; have BK102 := n1_; have GW102 := n2_; have GE102 := n3_; clear n0_ n1_ n2_ n3_; clear hb hbox hg; have hcz8_0 : w7.cell? ⟨gb102, 0, none⟩ = some (.int .i64 0) := (blk_cell BK102.out 0).trans rfl; have hcz8_1 : w7.cell? ⟨gb102, 1, none⟩ = some (.int .i64 0) := (blk_cell BK102.out 1).trans rfl; have hcz8_2 : w7.cell? ⟨gb102, 2, none⟩ = some (.int .i64 0) := (blk_cell BK102.out 2).trans rfl; have hcz8_3 : w7.cell? ⟨gb102, 3, none⟩ = some (.int .i64 0) := (blk_cell BK102.out 3).trans rfl; have hfz8_0 := blk_frozen BK102.out 0; have hfz8_1 := blk_frozen BK102.out 1; have hfz8_2 := blk_frozen BK102.out 2; have hfz8_3 := blk_frozen BK102.out 3)); go_upto_region 6 with (first | ((with_reducible refine gate_dst (N := 5) rfl ?_); refine box_event ?hg (N := 5) ?hd (cs := #[.int .i64 0, .int .i64 0, .int .i64 0, .int .i64 0]) (t := 31) ?hr ?_; (case hd => rfl); (case hg => rfl); (case hr => first | (go_simp; done) | (go_simp; rfl)); intro gb102 hg w7 hbox hb; have n0_ := Aside0.mk (below_step (by repeat (first | (with_reducible first | exact HB.out | apply below_alloc | apply pw_below_drewN | apply below_drew1) | exact HB.out)) hb); have n1_ := Aside0.mk (hbox); have n2_ := Aside0.mk ((by rw [hg]; exact (below_size (by repeat (first | (with_reducible first | exact HB.out | apply below_alloc | apply pw_below_drewN | apply below_drew1) | exact HB.out))) : w.heap.size ≤ gb102)); have n3_ := Aside0.mk ((by rw [hg]; exact (below_size (by repeat (first | (with_reducible first | exact HB.out | apply below_alloc | apply pw_below_drewN | apply below_drew1) | exact HB.out))) : w.heap.size ≤ gb102)); clear HB; have HB := n0_; have BK102 := n1_; have GW102 := n2_; have GE102 := n3_; clear n0_ n1_ n2_ n3_; clear hb hbox hg; have hcz8_0 : w7.cell? ⟨gb102, 0, none⟩ = some (.int .i64 0) := (blk_cell BK102.out 0).trans rfl; have hcz8_1 : w7.cell? ⟨gb102, 1, none⟩ = some (.int .i64 0) := (blk_cell BK102.out 1).trans rfl; have hcz8_2 : w7.cell? ⟨gb102, 2, none⟩ = some (.int .i64 0) := (blk_cell BK102.out 2).trans rfl; have hcz8_3 : w7.cell? ⟨gb102, 3, none⟩ = some (.int .i64 0) := (blk_cell BK102.out 3).trans rfl; have hfz8_0 := blk_frozen BK102.out 0; have hfz8_1 := blk_frozen BK102.out 1; have hfz8_2 := blk_frozen BK102.out 2; have hfz8_3 := blk_frozen BK102.out 3)))
       (try simp only [Act.put, List.setIfInBounds_toArray, List.set_cons_zero, List.set_cons_succ])
       go_cut [16] (fun v16 wc => ∃ (kq : Nat) (x16_5 : Bool), v16 = .bool x16_5 ∧ Aside0 (bond_Check.j1 kq l0 x11_1 l0 (l0.length : Int) x11_1 x16_5 ((rd_T31 l0 x11_1).f0) ((rd_T31 l0 x11_1).f1) ((rd_T31 l0 x11_1).f2) ((rd_T31 l0 x11_1).f3) = some (r1, r2)) ∧ Aside0 (kq ≤ k1) ∧ Aside0 (wc.heap[gb102]? = some (.cells #[.int .i64 ((rd_T31 l0 x11_1).f0), .int .i64 ((rd_T31 l0 x11_1).f1), .int .i64 ((rd_T31 l0 x11_1).f2), .int .i64 ((rd_T31 l0 x11_1).f3)] 31 (0, 0))) ∧ Aside0 (Below w.heap.size w wc))
       case first =>
        have H := HC6.out
        clear HC6
        replace H := Option.bind_eq_some_iff.mp H
        obtain ⟨t103, A90, H⟩ := H
        replace H : (if t103 = true then ((bond_within.f ((rd_T31 l0 x11_1).f1) 0 100000).bind fun t104 => (if t104 = true then ((bond_within.f ((rd_T31 l0 x11_1).f2) ((rd_T31 l0 x11_1).f1) 100000).bind fun t105 => (if t105 = true then ((bond_within.f ((rd_T31 l0 x11_1).f3) 0 1125899906842624).bind fun t106 => (bond_Check.j1 k1 l0 x11_1 l0 (l0.length : Int) x11_1 (!t106) ((rd_T31 l0 x11_1).f0) ((rd_T31 l0 x11_1).f1) ((rd_T31 l0 x11_1).f2) ((rd_T31 l0 x11_1).f3))) else (bond_Check.j1 k1 l0 x11_1 l0 (l0.length : Int) x11_1 true ((rd_T31 l0 x11_1).f0) ((rd_T31 l0 x11_1).f1) ((rd_T31 l0 x11_1).f2) ((rd_T31 l0 x11_1).f3)))) else (bond_Check.j1 k1 l0 x11_1 l0 (l0.length : Int) x11_1 true ((rd_T31 l0 x11_1).f0) ((rd_T31 l0 x11_1).f1) ((rd_T31 l0 x11_1).f2) ((rd_T31 l0 x11_1).f3)))) else (bond_Check.j1 k1 l0 x11_1 l0 (l0.length : Int) x11_1 true ((rd_T31 l0 x11_1).f0) ((rd_T31 l0 x11_1).f1) ((rd_T31 l0 x11_1).f2) ((rd_T31 l0 x11_1).f3))) = some (r1, r2) := H
        have A9 := Aside0.mk A90
        clear A90
        by_cases c10 : t103 = true
        ·subst c10
         have H1 : ((bond_within.f ((rd_T31 l0 x11_1).f1) 0 100000).bind fun t104 => (if t104 = true then ((bond_within.f ((rd_T31 l0 x11_1).f2) ((rd_T31 l0 x11_1).f1) 100000).bind fun t105 => (if t105 = true then ((bond_within.f ((rd_T31 l0 x11_1).f3) 0 1125899906842624).bind fun t106 => (bond_Check.j1 k1 l0 x11_1 l0 (l0.length : Int) x11_1 (!t106) ((rd_T31 l0 x11_1).f0) ((rd_T31 l0 x11_1).f1) ((rd_T31 l0 x11_1).f2) ((rd_T31 l0 x11_1).f3))) else (bond_Check.j1 k1 l0 x11_1 l0 (l0.length : Int) x11_1 true ((rd_T31 l0 x11_1).f0) ((rd_T31 l0 x11_1).f1) ((rd_T31 l0 x11_1).f2) ((rd_T31 l0 x11_1).f3)))) else (bond_Check.j1 k1 l0 x11_1 l0 (l0.length : Int) x11_1 true ((rd_T31 l0 x11_1).f0) ((rd_T31 l0 x11_1).f1) ((rd_T31 l0 x11_1).f2) ((rd_T31 l0 x11_1).f3)))) = some (r1, r2) := by rw [if_pos rfl] at H; exact H
         clear H
         have H := H1
         clear H1
         replace H := Option.bind_eq_some_iff.mp H
         obtain ⟨t104, A110, H⟩ := H
         replace H : (if t104 = true then ((bond_within.f ((rd_T31 l0 x11_1).f2) ((rd_T31 l0 x11_1).f1) 100000).bind fun t105 => (if t105 = true then ((bond_within.f ((rd_T31 l0 x11_1).f3) 0 1125899906842624).bind fun t106 => (bond_Check.j1 k1 l0 x11_1 l0 (l0.length : Int) x11_1 (!t106) ((rd_T31 l0 x11_1).f0) ((rd_T31 l0 x11_1).f1) ((rd_T31 l0 x11_1).f2) ((rd_T31 l0 x11_1).f3))) else (bond_Check.j1 k1 l0 x11_1 l0 (l0.length : Int) x11_1 true ((rd_T31 l0 x11_1).f0) ((rd_T31 l0 x11_1).f1) ((rd_T31 l0 x11_1).f2) ((rd_T31 l0 x11_1).f3)))) else (bond_Check.j1 k1 l0 x11_1 l0 (l0.length : Int) x11_1 true ((rd_T31 l0 x11_1).f0) ((rd_T31 l0 x11_1).f1) ((rd_T31 l0 x11_1).f2) ((rd_T31 l0 x11_1).f3))) = some (r1, r2) := H
         have A11 := Aside0.mk A110
         clear A110
         by_cases c12 : t104 = true
         ·subst c12
          have H1 : ((bond_within.f ((rd_T31 l0 x11_1).f2) ((rd_T31 l0 x11_1).f1) 100000).bind fun t105 => (if t105 = true then ((bond_within.f ((rd_T31 l0 x11_1).f3) 0 1125899906842624).bind fun t106 => (bond_Check.j1 k1 l0 x11_1 l0 (l0.length : Int) x11_1 (!t106) ((rd_T31 l0 x11_1).f0) ((rd_T31 l0 x11_1).f1) ((rd_T31 l0 x11_1).f2) ((rd_T31 l0 x11_1).f3))) else (bond_Check.j1 k1 l0 x11_1 l0 (l0.length : Int) x11_1 true ((rd_T31 l0 x11_1).f0) ((rd_T31 l0 x11_1).f1) ((rd_T31 l0 x11_1).f2) ((rd_T31 l0 x11_1).f3)))) = some (r1, r2) := by rw [if_pos rfl] at H; exact H
          clear H
          have H := H1
          clear H1
          replace H := Option.bind_eq_some_iff.mp H
          obtain ⟨t105, A130, H⟩ := H
          replace H : (if t105 = true then ((bond_within.f ((rd_T31 l0 x11_1).f3) 0 1125899906842624).bind fun t106 => (bond_Check.j1 k1 l0 x11_1 l0 (l0.length : Int) x11_1 (!t106) ((rd_T31 l0 x11_1).f0) ((rd_T31 l0 x11_1).f1) ((rd_T31 l0 x11_1).f2) ((rd_T31 l0 x11_1).f3))) else (bond_Check.j1 k1 l0 x11_1 l0 (l0.length : Int) x11_1 true ((rd_T31 l0 x11_1).f0) ((rd_T31 l0 x11_1).f1) ((rd_T31 l0 x11_1).f2) ((rd_T31 l0 x11_1).f3))) = some (r1, r2) := H
          have A13 := Aside0.mk A130
          clear A130
          by_cases c14 : t105 = true
          ·subst c14
           have H1 : ((bond_within.f ((rd_T31 l0 x11_1).f3) 0 1125899906842624).bind fun t106 => (bond_Check.j1 k1 l0 x11_1 l0 (l0.length : Int) x11_1 (!t106) ((rd_T31 l0 x11_1).f0) ((rd_T31 l0 x11_1).f1) ((rd_T31 l0 x11_1).f2) ((rd_T31 l0 x11_1).f3))) = some (r1, r2) := by rw [if_pos rfl] at H; exact H
           clear H
           have H := H1
           clear H1
           replace H := Option.bind_eq_some_iff.mp H
           obtain ⟨t106, A150, H⟩ := H
           replace H : (bond_Check.j1 k1 l0 x11_1 l0 (l0.length : Int) x11_1 (!t106) ((rd_T31 l0 x11_1).f0) ((rd_T31 l0 x11_1).f1) ((rd_T31 l0 x11_1).f2) ((rd_T31 l0 x11_1).f3)) = some (r1, r2) := H
           have A15 := Aside0.mk A150
           clear A150
           have H' := Aside0.mk H
           clear H
           have hcz16_0 : w7.cell? ⟨gb102, 0, none⟩ = some (.int .i64 0) := (blk_cell BK102.out 0).trans rfl
           have hcz16_1 : w7.cell? ⟨gb102, 1, none⟩ = some (.int .i64 0) := (blk_cell BK102.out 1).trans rfl
           have hcz16_2 : w7.cell? ⟨gb102, 2, none⟩ = some (.int .i64 0) := (blk_cell BK102.out 2).trans rfl
           have hcz16_3 : w7.cell? ⟨gb102, 3, none⟩ = some (.int .i64 0) := (blk_cell BK102.out 3).trans rfl
           have hfz16_0 := blk_frozen BK102.out 0
           have hfz16_1 := blk_frozen BK102.out 1
           have hfz16_2 := blk_frozen BK102.out 2
           have hfz16_3 := blk_frozen BK102.out 3
           go_wp2_with (first | (go_at_call 37; (with_reducible refine (bond_within.calls ((rd_T31 l0 x11_1).f0) 1 1073741824 true _ A9.out).mono ?_); rintro e w' ⟨rfl, ⟨nd, rfl⟩⟩; (try first | exact ⟨rfl, _, World.drewN_drewN _ _ _⟩ | exact ⟨rfl, _, Eq.trans (World.drewN_drewN _ _ _) (congrArg (World.drewN _) (Nat.add_assoc _ _ _))⟩)) | (go_at_call 37; (with_reducible refine (bond_within.calls ((rd_T31 l0 x11_1).f1) 0 100000 true _ A11.out).mono ?_); rintro e w' ⟨rfl, ⟨nd, rfl⟩⟩; (try first | exact ⟨rfl, _, World.drewN_drewN _ _ _⟩ | exact ⟨rfl, _, Eq.trans (World.drewN_drewN _ _ _) (congrArg (World.drewN _) (Nat.add_assoc _ _ _))⟩)) | (go_at_call 37; (with_reducible refine (bond_within.calls ((rd_T31 l0 x11_1).f2) ((rd_T31 l0 x11_1).f1) 100000 true _ A13.out).mono ?_); rintro e w' ⟨rfl, ⟨nd, rfl⟩⟩; (try first | exact ⟨rfl, _, World.drewN_drewN _ _ _⟩ | exact ⟨rfl, _, Eq.trans (World.drewN_drewN _ _ _) (congrArg (World.drewN _) (Nat.add_assoc _ _ _))⟩)) | (go_at_call 37; (with_reducible refine (bond_within.calls ((rd_T31 l0 x11_1).f3) 0 1125899906842624 t106 _ A15.out).mono ?_); rintro e w' ⟨rfl, ⟨nd, rfl⟩⟩; (try first | exact ⟨rfl, _, World.drewN_drewN _ _ _⟩ | exact ⟨rfl, _, Eq.trans (World.drewN_drewN _ _ _) (congrArg (World.drewN _) (Nat.add_assoc _ _ _))⟩)))
           repeat (go_quiet (first | (go_at_call 37; (with_reducible refine (bond_within.calls ((rd_T31 l0 x11_1).f0) 1 1073741824 true _ A9.out).mono ?_); rintro e w' ⟨rfl, ⟨nd, rfl⟩⟩; (try first | exact ⟨rfl, _, World.drewN_drewN _ _ _⟩ | exact ⟨rfl, _, Eq.trans (World.drewN_drewN _ _ _) (congrArg (World.drewN _) (Nat.add_assoc _ _ _))⟩)) | (go_at_call 37; (with_reducible refine (bond_within.calls ((rd_T31 l0 x11_1).f1) 0 100000 true _ A11.out).mono ?_); rintro e w' ⟨rfl, ⟨nd, rfl⟩⟩; (try first | exact ⟨rfl, _, World.drewN_drewN _ _ _⟩ | exact ⟨rfl, _, Eq.trans (World.drewN_drewN _ _ _) (congrArg (World.drewN _) (Nat.add_assoc _ _ _))⟩)) | (go_at_call 37; (with_reducible refine (bond_within.calls ((rd_T31 l0 x11_1).f2) ((rd_T31 l0 x11_1).f1) 100000 true _ A13.out).mono ?_); rintro e w' ⟨rfl, ⟨nd, rfl⟩⟩; (try first | exact ⟨rfl, _, World.drewN_drewN _ _ _⟩ | exact ⟨rfl, _, Eq.trans (World.drewN_drewN _ _ _) (congrArg (World.drewN _) (Nat.add_assoc _ _ _))⟩)) | (go_at_call 37; (with_reducible refine (bond_within.calls ((rd_T31 l0 x11_1).f3) 0 1125899906842624 t106 _ A15.out).mono ?_); rintro e w' ⟨rfl, ⟨nd, rfl⟩⟩; (try first | exact ⟨rfl, _, World.drewN_drewN _ _ _⟩ | exact ⟨rfl, _, Eq.trans (World.drewN_drewN _ _ _) (congrArg (World.drewN _) (Nat.add_assoc _ _ _))⟩))); try go_wp2_with (first | (go_at_call 37; (with_reducible refine (bond_within.calls ((rd_T31 l0 x11_1).f0) 1 1073741824 true _ A9.out).mono ?_); rintro e w' ⟨rfl, ⟨nd, rfl⟩⟩; (try first | exact ⟨rfl, _, World.drewN_drewN _ _ _⟩ | exact ⟨rfl, _, Eq.trans (World.drewN_drewN _ _ _) (congrArg (World.drewN _) (Nat.add_assoc _ _ _))⟩)) | (go_at_call 37; (with_reducible refine (bond_within.calls ((rd_T31 l0 x11_1).f1) 0 100000 true _ A11.out).mono ?_); rintro e w' ⟨rfl, ⟨nd, rfl⟩⟩; (try first | exact ⟨rfl, _, World.drewN_drewN _ _ _⟩ | exact ⟨rfl, _, Eq.trans (World.drewN_drewN _ _ _) (congrArg (World.drewN _) (Nat.add_assoc _ _ _))⟩)) | (go_at_call 37; (with_reducible refine (bond_within.calls ((rd_T31 l0 x11_1).f2) ((rd_T31 l0 x11_1).f1) 100000 true _ A13.out).mono ?_); rintro e w' ⟨rfl, ⟨nd, rfl⟩⟩; (try first | exact ⟨rfl, _, World.drewN_drewN _ _ _⟩ | exact ⟨rfl, _, Eq.trans (World.drewN_drewN _ _ _) (congrArg (World.drewN _) (Nat.add_assoc _ _ _))⟩)) | (go_at_call 37; (with_reducible refine (bond_within.calls ((rd_T31 l0 x11_1).f3) 0 1125899906842624 t106 _ A15.out).mono ?_); rintro e w' ⟨rfl, ⟨nd, rfl⟩⟩; (try first | exact ⟨rfl, _, World.drewN_drewN _ _ _⟩ | exact ⟨rfl, _, Eq.trans (World.drewN_drewN _ _ _) (congrArg (World.drewN _) (Nat.add_assoc _ _ _))⟩))))
           go_meet
           case rel => exact ⟨_, (!t106), (by first | rfl | (simp; done) | (simp [*]; done)), H', ⟨by have := HK1.out; first | omega | exact Nat.le_refl _⟩, ⟨by (with_reducible repeat (first | refine blk_drewN ?_ _ | refine blk_drew ?_ | refine blk_alloc ?_ _)); refine blk_put (cs := #[.int .i64 ((rd_T31 l0 x11_1).f0), .int .i64 ((rd_T31 l0 x11_1).f1), .int .i64 ((rd_T31 l0 x11_1).f2), .int .i64 0]) ?_ 3 _ rfl; (with_reducible repeat (first | refine blk_drewN ?_ _ | refine blk_drew ?_ | refine blk_alloc ?_ _)); refine blk_put (cs := #[.int .i64 ((rd_T31 l0 x11_1).f0), .int .i64 ((rd_T31 l0 x11_1).f1), .int .i64 0, .int .i64 0]) ?_ 2 _ rfl; (with_reducible repeat (first | refine blk_drewN ?_ _ | refine blk_drew ?_ | refine blk_alloc ?_ _)); refine blk_put (cs := #[.int .i64 ((rd_T31 l0 x11_1).f0), .int .i64 0, .int .i64 0, .int .i64 0]) ?_ 1 _ rfl; (with_reducible repeat (first | refine blk_drewN ?_ _ | refine blk_drew ?_ | refine blk_alloc ?_ _)); refine blk_put (cs := #[.int .i64 0, .int .i64 0, .int .i64 0, .int .i64 0]) ?_ 0 _ rfl; (with_reducible repeat (first | refine blk_drewN ?_ _ | refine blk_drew ?_ | refine blk_alloc ?_ _)); exact BK102.out⟩, ⟨by repeat (first | (with_reducible first | exact HB.out | apply below_alloc | apply pw_below_drewN | apply below_drew1 | refine below_set ?_ GE102.out) | exact HB.out)⟩⟩
          ·replace c14 := Bool.eq_false_iff.mpr c14
           subst c14
           have H1 : (bond_Check.j1 k1 l0 x11_1 l0 (l0.length : Int) x11_1 true ((rd_T31 l0 x11_1).f0) ((rd_T31 l0 x11_1).f1) ((rd_T31 l0 x11_1).f2) ((rd_T31 l0 x11_1).f3)) = some (r1, r2) := by rw [if_neg (show ¬ (false = true) by decide)] at H; exact H
           clear H
           have H := H1
           clear H1
           have H' := Aside0.mk H
           clear H
           have hcz17_0 : w7.cell? ⟨gb102, 0, none⟩ = some (.int .i64 0) := (blk_cell BK102.out 0).trans rfl
           have hcz17_1 : w7.cell? ⟨gb102, 1, none⟩ = some (.int .i64 0) := (blk_cell BK102.out 1).trans rfl
           have hcz17_2 : w7.cell? ⟨gb102, 2, none⟩ = some (.int .i64 0) := (blk_cell BK102.out 2).trans rfl
           have hcz17_3 : w7.cell? ⟨gb102, 3, none⟩ = some (.int .i64 0) := (blk_cell BK102.out 3).trans rfl
           have hfz17_0 := blk_frozen BK102.out 0
           have hfz17_1 := blk_frozen BK102.out 1
           have hfz17_2 := blk_frozen BK102.out 2
           have hfz17_3 := blk_frozen BK102.out 3
           go_wp2_with (first | (go_at_call 37; (with_reducible refine (bond_within.calls ((rd_T31 l0 x11_1).f0) 1 1073741824 true _ A9.out).mono ?_); rintro e w' ⟨rfl, ⟨nd, rfl⟩⟩; (try first | exact ⟨rfl, _, World.drewN_drewN _ _ _⟩ | exact ⟨rfl, _, Eq.trans (World.drewN_drewN _ _ _) (congrArg (World.drewN _) (Nat.add_assoc _ _ _))⟩)) | (go_at_call 37; (with_reducible refine (bond_within.calls ((rd_T31 l0 x11_1).f1) 0 100000 true _ A11.out).mono ?_); rintro e w' ⟨rfl, ⟨nd, rfl⟩⟩; (try first | exact ⟨rfl, _, World.drewN_drewN _ _ _⟩ | exact ⟨rfl, _, Eq.trans (World.drewN_drewN _ _ _) (congrArg (World.drewN _) (Nat.add_assoc _ _ _))⟩)) | (go_at_call 37; (with_reducible refine (bond_within.calls ((rd_T31 l0 x11_1).f2) ((rd_T31 l0 x11_1).f1) 100000 false _ A13.out).mono ?_); rintro e w' ⟨rfl, ⟨nd, rfl⟩⟩; (try first | exact ⟨rfl, _, World.drewN_drewN _ _ _⟩ | exact ⟨rfl, _, Eq.trans (World.drewN_drewN _ _ _) (congrArg (World.drewN _) (Nat.add_assoc _ _ _))⟩)))
           repeat (go_quiet (first | (go_at_call 37; (with_reducible refine (bond_within.calls ((rd_T31 l0 x11_1).f0) 1 1073741824 true _ A9.out).mono ?_); rintro e w' ⟨rfl, ⟨nd, rfl⟩⟩; (try first | exact ⟨rfl, _, World.drewN_drewN _ _ _⟩ | exact ⟨rfl, _, Eq.trans (World.drewN_drewN _ _ _) (congrArg (World.drewN _) (Nat.add_assoc _ _ _))⟩)) | (go_at_call 37; (with_reducible refine (bond_within.calls ((rd_T31 l0 x11_1).f1) 0 100000 true _ A11.out).mono ?_); rintro e w' ⟨rfl, ⟨nd, rfl⟩⟩; (try first | exact ⟨rfl, _, World.drewN_drewN _ _ _⟩ | exact ⟨rfl, _, Eq.trans (World.drewN_drewN _ _ _) (congrArg (World.drewN _) (Nat.add_assoc _ _ _))⟩)) | (go_at_call 37; (with_reducible refine (bond_within.calls ((rd_T31 l0 x11_1).f2) ((rd_T31 l0 x11_1).f1) 100000 false _ A13.out).mono ?_); rintro e w' ⟨rfl, ⟨nd, rfl⟩⟩; (try first | exact ⟨rfl, _, World.drewN_drewN _ _ _⟩ | exact ⟨rfl, _, Eq.trans (World.drewN_drewN _ _ _) (congrArg (World.drewN _) (Nat.add_assoc _ _ _))⟩))); try go_wp2_with (first | (go_at_call 37; (with_reducible refine (bond_within.calls ((rd_T31 l0 x11_1).f0) 1 1073741824 true _ A9.out).mono ?_); rintro e w' ⟨rfl, ⟨nd, rfl⟩⟩; (try first | exact ⟨rfl, _, World.drewN_drewN _ _ _⟩ | exact ⟨rfl, _, Eq.trans (World.drewN_drewN _ _ _) (congrArg (World.drewN _) (Nat.add_assoc _ _ _))⟩)) | (go_at_call 37; (with_reducible refine (bond_within.calls ((rd_T31 l0 x11_1).f1) 0 100000 true _ A11.out).mono ?_); rintro e w' ⟨rfl, ⟨nd, rfl⟩⟩; (try first | exact ⟨rfl, _, World.drewN_drewN _ _ _⟩ | exact ⟨rfl, _, Eq.trans (World.drewN_drewN _ _ _) (congrArg (World.drewN _) (Nat.add_assoc _ _ _))⟩)) | (go_at_call 37; (with_reducible refine (bond_within.calls ((rd_T31 l0 x11_1).f2) ((rd_T31 l0 x11_1).f1) 100000 false _ A13.out).mono ?_); rintro e w' ⟨rfl, ⟨nd, rfl⟩⟩; (try first | exact ⟨rfl, _, World.drewN_drewN _ _ _⟩ | exact ⟨rfl, _, Eq.trans (World.drewN_drewN _ _ _) (congrArg (World.drewN _) (Nat.add_assoc _ _ _))⟩))))
           go_meet
           case rel => exact ⟨_, (true), (by first | rfl | (simp; done) | (simp [*]; done)), H', ⟨by have := HK1.out; first | omega | exact Nat.le_refl _⟩, ⟨by (with_reducible repeat (first | refine blk_drewN ?_ _ | refine blk_drew ?_ | refine blk_alloc ?_ _)); refine blk_put (cs := #[.int .i64 ((rd_T31 l0 x11_1).f0), .int .i64 ((rd_T31 l0 x11_1).f1), .int .i64 ((rd_T31 l0 x11_1).f2), .int .i64 0]) ?_ 3 _ rfl; (with_reducible repeat (first | refine blk_drewN ?_ _ | refine blk_drew ?_ | refine blk_alloc ?_ _)); refine blk_put (cs := #[.int .i64 ((rd_T31 l0 x11_1).f0), .int .i64 ((rd_T31 l0 x11_1).f1), .int .i64 0, .int .i64 0]) ?_ 2 _ rfl; (with_reducible repeat (first | refine blk_drewN ?_ _ | refine blk_drew ?_ | refine blk_alloc ?_ _)); refine blk_put (cs := #[.int .i64 ((rd_T31 l0 x11_1).f0), .int .i64 0, .int .i64 0, .int .i64 0]) ?_ 1 _ rfl; (with_reducible repeat (first | refine blk_drewN ?_ _ | refine blk_drew ?_ | refine blk_alloc ?_ _)); refine blk_put (cs := #[.int .i64 0, .int .i64 0, .int .i64 0, .int .i64 0]) ?_ 0 _ rfl; (with_reducible repeat (first | refine blk_drewN ?_ _ | refine blk_drew ?_ | refine blk_alloc ?_ _)); exact BK102.out⟩, ⟨by repeat (first | (with_reducible first | exact HB.out | apply below_alloc | apply pw_below_drewN | apply below_drew1 | refine below_set ?_ GE102.out) | exact HB.out)⟩⟩
         ·replace c12 := Bool.eq_false_iff.mpr c12
          subst c12
          have H1 : (bond_Check.j1 k1 l0 x11_1 l0 (l0.length : Int) x11_1 true ((rd_T31 l0 x11_1).f0) ((rd_T31 l0 x11_1).f1) ((rd_T31 l0 x11_1).f2) ((rd_T31 l0 x11_1).f3)) = some (r1, r2) := by rw [if_neg (show ¬ (false = true) by decide)] at H; exact H
          clear H
          have H := H1
          clear H1
          have H' := Aside0.mk H
          clear H
          have hcz18_0 : w7.cell? ⟨gb102, 0, none⟩ = some (.int .i64 0) := (blk_cell BK102.out 0).trans rfl
          have hcz18_1 : w7.cell? ⟨gb102, 1, none⟩ = some (.int .i64 0) := (blk_cell BK102.out 1).trans rfl
          have hcz18_2 : w7.cell? ⟨gb102, 2, none⟩ = some (.int .i64 0) := (blk_cell BK102.out 2).trans rfl
          have hcz18_3 : w7.cell? ⟨gb102, 3, none⟩ = some (.int .i64 0) := (blk_cell BK102.out 3).trans rfl
          have hfz18_0 := blk_frozen BK102.out 0
          have hfz18_1 := blk_frozen BK102.out 1
          have hfz18_2 := blk_frozen BK102.out 2
          have hfz18_3 := blk_frozen BK102.out 3
          go_wp2_with (first | (go_at_call 37; (with_reducible refine (bond_within.calls ((rd_T31 l0 x11_1).f0) 1 1073741824 true _ A9.out).mono ?_); rintro e w' ⟨rfl, ⟨nd, rfl⟩⟩; (try first | exact ⟨rfl, _, World.drewN_drewN _ _ _⟩ | exact ⟨rfl, _, Eq.trans (World.drewN_drewN _ _ _) (congrArg (World.drewN _) (Nat.add_assoc _ _ _))⟩)) | (go_at_call 37; (with_reducible refine (bond_within.calls ((rd_T31 l0 x11_1).f1) 0 100000 false _ A11.out).mono ?_); rintro e w' ⟨rfl, ⟨nd, rfl⟩⟩; (try first | exact ⟨rfl, _, World.drewN_drewN _ _ _⟩ | exact ⟨rfl, _, Eq.trans (World.drewN_drewN _ _ _) (congrArg (World.drewN _) (Nat.add_assoc _ _ _))⟩)))
          repeat (go_quiet (first | (go_at_call 37; (with_reducible refine (bond_within.calls ((rd_T31 l0 x11_1).f0) 1 1073741824 true _ A9.out).mono ?_); rintro e w' ⟨rfl, ⟨nd, rfl⟩⟩; (try first | exact ⟨rfl, _, World.drewN_drewN _ _ _⟩ | exact ⟨rfl, _, Eq.trans (World.drewN_drewN _ _ _) (congrArg (World.drewN _) (Nat.add_assoc _ _ _))⟩)) | (go_at_call 37; (with_reducible refine (bond_within.calls ((rd_T31 l0 x11_1).f1) 0 100000 false _ A11.out).mono ?_); rintro e w' ⟨rfl, ⟨nd, rfl⟩⟩; (try first | exact ⟨rfl, _, World.drewN_drewN _ _ _⟩ | exact ⟨rfl, _, Eq.trans (World.drewN_drewN _ _ _) (congrArg (World.drewN _) (Nat.add_assoc _ _ _))⟩))); try go_wp2_with (first | (go_at_call 37; (with_reducible refine (bond_within.calls ((rd_T31 l0 x11_1).f0) 1 1073741824 true _ A9.out).mono ?_); rintro e w' ⟨rfl, ⟨nd, rfl⟩⟩; (try first | exact ⟨rfl, _, World.drewN_drewN _ _ _⟩ | exact ⟨rfl, _, Eq.trans (World.drewN_drewN _ _ _) (congrArg (World.drewN _) (Nat.add_assoc _ _ _))⟩)) | (go_at_call 37; (with_reducible refine (bond_within.calls ((rd_T31 l0 x11_1).f1) 0 100000 false _ A11.out).mono ?_); rintro e w' ⟨rfl, ⟨nd, rfl⟩⟩; (try first | exact ⟨rfl, _, World.drewN_drewN _ _ _⟩ | exact ⟨rfl, _, Eq.trans (World.drewN_drewN _ _ _) (congrArg (World.drewN _) (Nat.add_assoc _ _ _))⟩))))
          go_meet
          case rel => exact ⟨_, (true), (by first | rfl | (simp; done) | (simp [*]; done)), H', ⟨by have := HK1.out; first | omega | exact Nat.le_refl _⟩, ⟨by (with_reducible repeat (first | refine blk_drewN ?_ _ | refine blk_drew ?_ | refine blk_alloc ?_ _)); refine blk_put (cs := #[.int .i64 ((rd_T31 l0 x11_1).f0), .int .i64 ((rd_T31 l0 x11_1).f1), .int .i64 ((rd_T31 l0 x11_1).f2), .int .i64 0]) ?_ 3 _ rfl; (with_reducible repeat (first | refine blk_drewN ?_ _ | refine blk_drew ?_ | refine blk_alloc ?_ _)); refine blk_put (cs := #[.int .i64 ((rd_T31 l0 x11_1).f0), .int .i64 ((rd_T31 l0 x11_1).f1), .int .i64 0, .int .i64 0]) ?_ 2 _ rfl; (with_reducible repeat (first | refine blk_drewN ?_ _ | refine blk_drew ?_ | refine blk_alloc ?_ _)); refine blk_put (cs := #[.int .i64 ((rd_T31 l0 x11_1).f0), .int .i64 0, .int .i64 0, .int .i64 0]) ?_ 1 _ rfl; (with_reducible repeat (first | refine blk_drewN ?_ _ | refine blk_drew ?_ | refine blk_alloc ?_ _)); refine blk_put (cs := #[.int .i64 0, .int .i64 0, .int .i64 0, .int .i64 0]) ?_ 0 _ rfl; (with_reducible repeat (first | refine blk_drewN ?_ _ | refine blk_drew ?_ | refine blk_alloc ?_ _)); exact BK102.out⟩, ⟨by repeat (first | (with_reducible first | exact HB.out | apply below_alloc | apply pw_below_drewN | apply below_drew1 | refine below_set ?_ GE102.out) | exact HB.out)⟩⟩
        ·replace c10 := Bool.eq_false_iff.mpr c10
         subst c10
         have H1 : (bond_Check.j1 k1 l0 x11_1 l0 (l0.length : Int) x11_1 true ((rd_T31 l0 x11_1).f0) ((rd_T31 l0 x11_1).f1) ((rd_T31 l0 x11_1).f2) ((rd_T31 l0 x11_1).f3)) = some (r1, r2) := by rw [if_neg (show ¬ (false = true) by decide)] at H; exact H
         clear H
         have H := H1
         clear H1
         have H' := Aside0.mk H
         clear H
         have hcz19_0 : w7.cell? ⟨gb102, 0, none⟩ = some (.int .i64 0) := (blk_cell BK102.out 0).trans rfl
         have hcz19_1 : w7.cell? ⟨gb102, 1, none⟩ = some (.int .i64 0) := (blk_cell BK102.out 1).trans rfl
         have hcz19_2 : w7.cell? ⟨gb102, 2, none⟩ = some (.int .i64 0) := (blk_cell BK102.out 2).trans rfl
         have hcz19_3 : w7.cell? ⟨gb102, 3, none⟩ = some (.int .i64 0) := (blk_cell BK102.out 3).trans rfl
         have hfz19_0 := blk_frozen BK102.out 0
         have hfz19_1 := blk_frozen BK102.out 1
         have hfz19_2 := blk_frozen BK102.out 2
         have hfz19_3 := blk_frozen BK102.out 3
         go_wp2_with (first | (go_at_call 37; (with_reducible refine (bond_within.calls ((rd_T31 l0 x11_1).f0) 1 1073741824 false _ A9.out).mono ?_); rintro e w' ⟨rfl, ⟨nd, rfl⟩⟩; (try first | exact ⟨rfl, _, World.drewN_drewN _ _ _⟩ | exact ⟨rfl, _, Eq.trans (World.drewN_drewN _ _ _) (congrArg (World.drewN _) (Nat.add_assoc _ _ _))⟩)))
         repeat (go_quiet (first | (go_at_call 37; (with_reducible refine (bond_within.calls ((rd_T31 l0 x11_1).f0) 1 1073741824 false _ A9.out).mono ?_); rintro e w' ⟨rfl, ⟨nd, rfl⟩⟩; (try first | exact ⟨rfl, _, World.drewN_drewN _ _ _⟩ | exact ⟨rfl, _, Eq.trans (World.drewN_drewN _ _ _) (congrArg (World.drewN _) (Nat.add_assoc _ _ _))⟩))); try go_wp2_with (first | (go_at_call 37; (with_reducible refine (bond_within.calls ((rd_T31 l0 x11_1).f0) 1 1073741824 false _ A9.out).mono ?_); rintro e w' ⟨rfl, ⟨nd, rfl⟩⟩; (try first | exact ⟨rfl, _, World.drewN_drewN _ _ _⟩ | exact ⟨rfl, _, Eq.trans (World.drewN_drewN _ _ _) (congrArg (World.drewN _) (Nat.add_assoc _ _ _))⟩))))
         go_meet
         case rel => exact ⟨_, (true), (by first | rfl | (simp; done) | (simp [*]; done)), H', ⟨by have := HK1.out; first | omega | exact Nat.le_refl _⟩, ⟨by (with_reducible repeat (first | refine blk_drewN ?_ _ | refine blk_drew ?_ | refine blk_alloc ?_ _)); refine blk_put (cs := #[.int .i64 ((rd_T31 l0 x11_1).f0), .int .i64 ((rd_T31 l0 x11_1).f1), .int .i64 ((rd_T31 l0 x11_1).f2), .int .i64 0]) ?_ 3 _ rfl; (with_reducible repeat (first | refine blk_drewN ?_ _ | refine blk_drew ?_ | refine blk_alloc ?_ _)); refine blk_put (cs := #[.int .i64 ((rd_T31 l0 x11_1).f0), .int .i64 ((rd_T31 l0 x11_1).f1), .int .i64 0, .int .i64 0]) ?_ 2 _ rfl; (with_reducible repeat (first | refine blk_drewN ?_ _ | refine blk_drew ?_ | refine blk_alloc ?_ _)); refine blk_put (cs := #[.int .i64 ((rd_T31 l0 x11_1).f0), .int .i64 0, .int .i64 0, .int .i64 0]) ?_ 1 _ rfl; (with_reducible repeat (first | refine blk_drewN ?_ _ | refine blk_drew ?_ | refine blk_alloc ?_ _)); refine blk_put (cs := #[.int .i64 0, .int .i64 0, .int .i64 0, .int .i64 0]) ?_ 0 _ rfl; (with_reducible repeat (first | refine blk_drewN ?_ _ | refine blk_drew ?_ | refine blk_alloc ?_ _)); exact BK102.out⟩, ⟨by repeat (first | (with_reducible first | exact HB.out | apply below_alloc | apply pw_below_drewN | apply below_drew1 | refine below_set ?_ GE102.out) | exact HB.out)⟩⟩
       case rest =>
        clear HC6
        try clear c1
        try clear p1
        try clear q1
        try clear hx1
        try clear c2
        try clear c2b0
        try clear c2b1
        try clear p2
        try clear c3
        try clear c3b0
        try clear c4
        try clear c4b0
        try clear c5
        try clear c5b0
        try clear c10
        try clear p10
        try clear q10
        try clear hx10
        try clear c12
        try clear c14
        try clear hcz16_0
        try clear hcz16_1
        try clear hcz16_2
        try clear hcz16_3
        try clear hcz17_0
        try clear hcz17_1
        try clear hcz17_2
        try clear hcz17_3
        try clear hcz18_0
        try clear hcz18_1
        try clear hcz18_2
        try clear hcz18_3
        try clear hcz19_0
        try clear hcz19_1
        try clear hcz19_2
        try clear hcz19_3
        try clear hcz8_0
        try clear hcz8_1
        try clear hcz8_2
        try clear hcz8_3
        try clear hfz16_0
        try clear hfz16_1
        try clear hfz16_2
        try clear hfz16_3
        try clear hfz17_0
        try clear hfz17_1
        try clear hfz17_2
        try clear hfz17_3
        try clear hfz18_0
        try clear hfz18_1
        try clear hfz18_2
        try clear hfz18_3
        try clear hfz19_0
        try clear hfz19_1
        try clear hfz19_2
        try clear hfz19_3
        try clear hfz8_0
        try clear hfz8_1
        try clear hfz8_2
        try clear hfz8_3
        try clear hx101_0
        try clear hx101_1
        try clear hx101_2
        try clear hx101_3
        try clear p101
        try clear p2
        try clear q101
        obtain ⟨kq, x16_5, rfl, HA, HJ5, BK102, HB⟩ := hcut
        cases kq with
        | zero => exact absurd HA.out (by simp [bond_Check.j1])
        | succ kj5 =>
         have H := HA.out
         clear HA
         simp only [bond_Check.j1] at H
         by_cases c20 : x16_5 = true
         ·subst c20
          have H1 : (some (x11_1, 2)) = some (r1, r2) := by rw [if_pos rfl] at H; exact H
          clear H
          have H := H1
          clear H1
          simp only [Option.some.injEq, Prod.mk.injEq] at H
          obtain ⟨rfl, rfl⟩ := H
          go_wp2
          repeat (go_quiet (fail); try go_wp2)
          go_ret2
          exact ⟨by first | rfl | (simp [errW_none, errW_some] <;> rfl) | (simp [*, errW_none, errW_some] <;> rfl), by repeat (first | (with_reducible first | exact HB.out | apply below_alloc | apply pw_below_drewN | apply below_drew1 | refine below_set ?_ GE102.out) | exact HB.out)⟩
         ·replace c20 := Bool.eq_false_iff.mpr c20
          subst c20
          have H1 : (if x11_1 > 0 then (if 0 ≤ (wrap64 (x11_1 - 1)) then (if (wrap64 (x11_1 - 1)) < (l0.length : Int) then (if ((rd_T31 l0 x11_1).f0) ≤ ((rd_T31 l0 (wrap64 (x11_1 - 1))).f0) then (some (x11_1, 5)) else (bond_Check.l0 kj5 l0 l0 (l0.length : Int) (wrap64 (x11_1 + 1)))) else (none)) else (none)) else (bond_Check.l0 kj5 l0 l0 (l0.length : Int) (wrap64 (x11_1 + 1)))) = some (r1, r2) := by rw [if_neg (show ¬ (false = true) by decide)] at H; exact H
          clear H
          have H := H1
          clear H1
          by_cases c21 : x11_1 > 0
          ·rw [if_pos c21] at H
           have c21b0 : decide (0 < x11_1) = true := decide_eq_true c21
           clear c21
           obtain ⟨ji22, hji22⟩ : ∃ j_ : Int, (wrap64 (x11_1 - 1)) = j_ := ⟨_, rfl⟩
           replace H : (if 0 ≤ (ji22) then (if (ji22) < (l0.length : Int) then (if ((rd_T31 l0 x11_1).f0) ≤ ((rd_T31 l0 (ji22)).f0) then (some (x11_1, 5)) else (bond_Check.l0 kj5 l0 l0 (l0.length : Int) (wrap64 (x11_1 + 1)))) else (none)) else (none)) = some (r1, r2) := by first | (rw [hji22] at H; exact H) | (simp only [hji22] at H ⊢; exact H)
           have hji22w : (IntKind.i64.wrap (x11_1 - 1)) = ji22 := (i64_w _).trans hji22
           by_cases c23 : 0 ≤ (ji22)
           ·rw [if_pos c23] at H
            have c23b0 : decide (0 ≤ (ji22)) = true := decide_eq_true c23
            clear c23
            by_cases c24 : (ji22) < (l0.length : Int)
            ·rw [if_pos c24] at H
             have c24b0 : decide ((ji22) < (l0.length : Int)) = true := decide_eq_true c24
             clear c24
             by_cases c25 : ((rd_T31 l0 x11_1).f0) ≤ ((rd_T31 l0 (ji22)).f0)
             ·rw [if_pos c25] at H
              have c25b0 : decide (((rd_T31 l0 x11_1).f0) ≤ ((rd_T31 l0 (ji22)).f0)) = true := decide_eq_true c25
              clear c25
              simp only [Option.some.injEq, Prod.mk.injEq] at H
              obtain ⟨rfl, rfl⟩ := H
              have hcz26_0 : wc.cell? ⟨gb102, 0, none⟩ = some (.int .i64 ((rd_T31 l0 x11_1).f0)) := (blk_cell BK102.out 0).trans rfl
              have hcz26_1 : wc.cell? ⟨gb102, 1, none⟩ = some (.int .i64 ((rd_T31 l0 x11_1).f1)) := (blk_cell BK102.out 1).trans rfl
              have hcz26_2 : wc.cell? ⟨gb102, 2, none⟩ = some (.int .i64 ((rd_T31 l0 x11_1).f2)) := (blk_cell BK102.out 2).trans rfl
              have hcz26_3 : wc.cell? ⟨gb102, 3, none⟩ = some (.int .i64 ((rd_T31 l0 x11_1).f3)) := (blk_cell BK102.out 3).trans rfl
              have hfz26_0 := blk_frozen BK102.out 0
              have hfz26_1 := blk_frozen BK102.out 1
              have hfz26_2 := blk_frozen BK102.out 2
              have hfz26_3 := blk_frozen BK102.out 3
              have p107 : 0 ≤ ((ji22) : Int) := of_decide_eq_true (by first | (with_reducible assumption) | assumption)
              have q107 : (ji22) < (l0.length : Int) := of_decide_eq_true (by first | (with_reducible assumption) | assumption)
              obtain ⟨ad107, e107, hx107_0, hx107_1, hx107_2, hx107_3⟩ := at_T31 HR0.out (ji22) p107 q107
              obtain rfl : ad101 = ad107 := (by injection e107)
              replace hx107_0 := (HB.out.cell (World.block_lt_of_cell? w _ hx107_0)).trans hx107_0
              replace hx107_1 := (HB.out.cell (World.block_lt_of_cell? w _ hx107_1)).trans hx107_1
              replace hx107_2 := (HB.out.cell (World.block_lt_of_cell? w _ hx107_2)).trans hx107_2
              replace hx107_3 := (HB.out.cell (World.block_lt_of_cell? w _ hx107_3)).trans hx107_3
              replace p107 := eq_true p107
              replace q107 := eq_true q107
              go_wp2
              repeat (go_quiet (fail); try go_wp2)
              go_ret2
              exact ⟨by first | rfl | (simp [errW_none, errW_some] <;> rfl) | (simp only [← hji22]; first | rfl | (simp [errW_none, errW_some] <;> rfl)) | (simp [*, errW_none, errW_some] <;> rfl), by repeat (first | (with_reducible first | exact HB.out | apply below_alloc | apply pw_below_drewN | apply below_drew1 | refine below_set ?_ GE102.out) | exact HB.out)⟩
             ·rw [if_neg c25] at H
              have c25b0 : decide (((rd_T31 l0 x11_1).f0) ≤ ((rd_T31 l0 (ji22)).f0)) = false := decide_eq_false c25
              clear c25
              have H' := Aside0.mk H
              clear H
              have hcz27_0 : wc.cell? ⟨gb102, 0, none⟩ = some (.int .i64 ((rd_T31 l0 x11_1).f0)) := (blk_cell BK102.out 0).trans rfl
              have hcz27_1 : wc.cell? ⟨gb102, 1, none⟩ = some (.int .i64 ((rd_T31 l0 x11_1).f1)) := (blk_cell BK102.out 1).trans rfl
              have hcz27_2 : wc.cell? ⟨gb102, 2, none⟩ = some (.int .i64 ((rd_T31 l0 x11_1).f2)) := (blk_cell BK102.out 2).trans rfl
              have hcz27_3 : wc.cell? ⟨gb102, 3, none⟩ = some (.int .i64 ((rd_T31 l0 x11_1).f3)) := (blk_cell BK102.out 3).trans rfl
              have hfz27_0 := blk_frozen BK102.out 0
              have hfz27_1 := blk_frozen BK102.out 1
              have hfz27_2 := blk_frozen BK102.out 2
              have hfz27_3 := blk_frozen BK102.out 3
              have p107 : 0 ≤ ((ji22) : Int) := of_decide_eq_true (by first | (with_reducible assumption) | assumption)
              have q107 : (ji22) < (l0.length : Int) := of_decide_eq_true (by first | (with_reducible assumption) | assumption)
              obtain ⟨ad107, e107, hx107_0, hx107_1, hx107_2, hx107_3⟩ := at_T31 HR0.out (ji22) p107 q107
              obtain rfl : ad101 = ad107 := (by injection e107)
              replace hx107_0 := (HB.out.cell (World.block_lt_of_cell? w _ hx107_0)).trans hx107_0
              replace hx107_1 := (HB.out.cell (World.block_lt_of_cell? w _ hx107_1)).trans hx107_1
              replace hx107_2 := (HB.out.cell (World.block_lt_of_cell? w _ hx107_2)).trans hx107_2
              replace hx107_3 := (HB.out.cell (World.block_lt_of_cell? w _ hx107_3)).trans hx107_3
              replace p107 := eq_true p107
              replace q107 := eq_true q107
              go_wp2
              repeat (go_quiet (fail); try go_wp2)
              go_roundg kj5
              case measure => have := HK1.out; have := HJ5.out; omega
              case rel => exact ⟨(wrap64 (x11_1 + 1)), (by first | rfl | (simp; done) | (simp [*]; done)), H', ⟨by have := HK1.out; have := HJ5.out; omega⟩, ⟨by repeat (first | (with_reducible first | exact HB.out | apply below_alloc | apply pw_below_drewN | apply below_drew1 | refine below_set ?_ GE102.out) | exact HB.out)⟩⟩
            ·rw [if_neg c24] at H
             exact absurd H (by simp)
           ·rw [if_neg c23] at H
            exact absurd H (by simp)
          ·rw [if_neg c21] at H
           have c21b0 : decide (0 < x11_1) = false := decide_eq_false c21
           clear c21
           have H' := Aside0.mk H
           clear H
           go_wp2
           repeat (go_quiet (fail); try go_wp2)
           go_roundg kj5
           case measure => have := HK1.out; have := HJ5.out; omega
           case rel => exact ⟨(wrap64 (x11_1 + 1)), (by first | rfl | (simp; done) | (simp [*]; done)), H', ⟨by have := HK1.out; have := HJ5.out; omega⟩, ⟨by repeat (first | (with_reducible first | exact HB.out | apply below_alloc | apply pw_below_drewN | apply below_drew1 | refine below_set ?_ GE102.out) | exact HB.out)⟩⟩
      ·rw [if_neg c5] at H
       exact absurd H (by simp)
     ·rw [if_neg c4] at H
      exact absurd H (by simp)
    ·rw [if_neg c3] at H
     have c3b0 : decide (x11_1 < (l0.length : Int)) = false := decide_eq_false c3
     clear c3
     simp only [Option.some.injEq, Prod.mk.injEq] at H
     obtain ⟨rfl, rfl⟩ := H
     go_wp2
     repeat (go_quiet (fail); try go_wp2)
     go_ret2
     exact ⟨by first | rfl | (simp [errW_none, errW_some] <;> rfl) | (simp [*, errW_none, errW_some] <;> rfl), by repeat (first | (with_reducible first | exact HB.out | apply below_alloc | apply pw_below_drewN | apply below_drew1) | exact HB.out)⟩
def okB (b : S31) : Prop := 1 ≤ b.f0 ∧ b.f0 ≤ 1073741824 ∧ 0 ≤ b.f1 ∧ b.f1 ≤ 100000 ∧ b.f1 ≤ b.f2 ∧ b.f2 ≤ 100000 ∧ 0 ≤ b.f3 ∧ b.f3 ≤ 1125899906842624
instance : DecidablePred okB := fun b => by unfold okB; infer_instance
def okH (x : S35) : Prop := 1 ≤ x.f1 ∧ x.f1 ≤ 1073741824 ∧ 0 ≤ x.f2 ∧ x.f2 ≤ 1125899906842624
instance : DecidablePred okH := fun b => by unfold okH; infer_instance
def chkBs : List S31 → Int → Int → Int × Int
  | [], _, _ => (-1, 0)
  | b :: r, i, p => if ¬ okB b then (i, 2) else if b.f0 ≤ p then (i, 5) else chkBs r (i + 1) b.f0
def chkB (l : List S31) : Int × Int := if 16 < l.length then (-1, 8) else chkBs l 0 0
def RightB (l : List S31) : Prop := l.length ≤ 16 ∧ (∀ b ∈ l, okB b) ∧ l.Pairwise (fun a b => a.f0 < b.f0)
theorem chkBs_zero (l : List S31) : ∀ i p : Int, (chkBs l i p).2 = 0 ↔ (∀ b ∈ l, okB b) ∧ (∀ b ∈ l, p < b.f0) ∧ l.Pairwise (fun a b => a.f0 < b.f0) := by
  induction l with
  | nil => intro i p; simp [chkBs]
  | cons b l ih =>
    intro i p
    unfold chkBs
    by_cases h1 : okB b
    · rw [if_neg (not_not_intro h1)]
      by_cases h2 : b.f0 ≤ p
      · rw [if_pos h2]
        constructor
        · intro h; cases h
        · rintro ⟨_, h, _⟩; have := h b (by simp); omega
      · rw [if_neg h2, ih]
        constructor
        · rintro ⟨a1, a2, a3⟩
          refine ⟨fun c hc => ?_, fun c hc => ?_, List.pairwise_cons.2 ⟨a2, a3⟩⟩
          · rcases List.mem_cons.1 hc with rfl | hc
            · exact h1
            · exact a1 c hc
          · rcases List.mem_cons.1 hc with rfl | hc
            · omega
            · have := a2 c hc; omega
        · rintro ⟨a1, a2, a3⟩
          rw [List.pairwise_cons] at a3
          exact ⟨fun c hc => a1 c (by simp [hc]), a3.1, a3.2⟩
    · rw [if_pos h1]
      constructor
      · intro h; cases h
      · rintro ⟨h, _⟩; exact absurd (h b (by simp)) h1
theorem chkB_zero (l : List S31) : (chkB l).2 = 0 ↔ RightB l := by
  unfold chkB RightB
  by_cases h : 16 < l.length
  · rw [if_pos h]
    constructor
    · intro h; cases h
    · rintro ⟨h', _⟩; omega
  · rw [if_neg h, chkBs_zero]
    constructor
    · rintro ⟨a1, _, a3⟩; exact ⟨by omega, a1, a3⟩
    · rintro ⟨_, a1, a3⟩; exact ⟨a1, fun b hb => by have := a1 b hb; unfold okB at this; omega, a3⟩
theorem chkBs_pos (l : List S31) : ∀ i p : Int, (chkBs l i p).2 = 0 → (chkBs l i p).1 = -1 := by
  induction l with
  | nil => intro i p _; rfl
  | cons b l ih =>
    intro i p h
    unfold chkBs at h ⊢
    split at h
    · cases h
    · rename_i h1
      rw [if_neg h1]
      split at h
      · cases h
      · rename_i h2
        rw [if_neg h2]
        exact ih _ _ h
theorem chkB_ok {l : List S31} (h : RightB l) : chkB l = (-1, 0) := by
  have h0 := (chkB_zero l).2 h
  refine Prod.ext ?_ h0
  unfold chkB at h0 ⊢
  split at h0
  · cases h0
  · rename_i h1
    rw [if_neg h1]
    exact chkBs_pos _ _ _ h0
/-- For how much a bond is bound. -/
def sumH : List S35 → Int → Int
  | [], _ => 0
  | x :: r, id => (if x.f0 = id then x.f2 else 0) + sumH r id
theorem sumH_append (a b : List S35) (id : Int) : sumH (a ++ b) id = sumH a id + sumH b id := by
  induction a with
  | nil => simp [sumH]
  | cons x a ih => rw [List.cons_append, sumH, sumH, ih]; omega
theorem sumH_nonneg {h : List S35} (hk : ∀ x ∈ h, 0 ≤ x.f2) (id : Int) : 0 ≤ sumH h id := by
  induction h with
  | nil => exact Int.le_refl _
  | cons x h ih =>
    have := hk x (by simp)
    have := ih (fun y hy => hk y (by simp [hy]))
    rw [sumH]
    split <;> omega
theorem sumH_le {h : List S35} {M : Int} (hM : 0 ≤ M) (hk : ∀ x ∈ h, x.f2 ≤ M) (id : Int) : sumH h id ≤ h.length * M := by
  induction h with
  | nil => simp [sumH]
  | cons x h ih =>
    have h1 := hk x (by simp)
    have h2 := ih (fun y hy => hk y (by simp [hy]))
    have e : (((x :: h).length : Nat) : Int) * M = (h.length : Int) * M + M := by rw [List.length_cons, show ((h.length + 1 : Nat) : Int) = (h.length : Int) + 1 by omega, Int.add_mul, Int.one_mul]
    rw [e, sumH]
    split <;> omega
/-- The bond with an ID. -/
def findB (l : List S31) (id : Int) : Option S31 := l.find? (fun b => b.f0 == id)
theorem findB_some {l : List S31} {id : Int} {b : S31} (h : findB l id = some b) : b ∈ l ∧ b.f0 = id := by
  unfold findB at h
  exact ⟨List.mem_of_find?_eq_some h, by have := List.find?_some h; simpa using this⟩
theorem findB_none {l : List S31} {id : Int} (h : findB l id = none) : ∀ b ∈ l, b.f0 ≠ id := by
  unfold findB at h
  intro b hb
  have := List.find?_eq_none.1 h b hb
  simpa using this
theorem pairwise_inj {l : List S31} (h : l.Pairwise (fun a b => a.f0 < b.f0)) {b c : S31} (hb : b ∈ l) (hc : c ∈ l) (e : b.f0 = c.f0) : b = c := by
  induction l with
  | nil => cases hb
  | cons x l ih =>
    rw [List.pairwise_cons] at h
    rcases List.mem_cons.1 hb with h1 | h1
    · rcases List.mem_cons.1 hc with h2 | h2
      · rw [h1, h2]
      · have := h.1 c h2; rw [h1] at e; omega
    · rcases List.mem_cons.1 hc with h2 | h2
      · have := h.1 b h1; rw [h2] at e; omega
      · exact ih h.2 h1 h2
theorem findB_mem {l : List S31} (h : RightB l) {b : S31} (hb : b ∈ l) : findB l b.f0 = some b := by
  cases hf : findB l b.f0 with
  | none => exact absurd rfl (findB_none hf b hb)
  | some c =>
    obtain ⟨h1, h2⟩ := findB_some hf
    rw [pairwise_inj h.2.2 h1 hb h2]
/-- The first fault of holds: those behind some that have none. -/
def hldS (l : List S31) : List S35 → List S35 → Int → Int → Int × Int
  | _, [], _, _ => (-1, 0)
  | pre, x :: r, i, p => if ¬ okH x then (i, 2) else if x.f1 ≤ p then (i, 5) else match findB l x.f0 with
    | none => (i, 7)
    | some b => if b.f3 < sumH (pre ++ [x]) x.f0 then (i, 17) else hldS l (pre ++ [x]) r (i + 1) x.f1
def hldR (l : List S31) (h : List S35) : Int × Int := if (chkB l).2 ≠ 0 then (-1, 1) else if 16 < h.length then (-1, 8) else hldS l [] h 0 0
def RightH (l : List S31) (h : List S35) : Prop :=
  RightB l ∧ h.length ≤ 16 ∧ (∀ x ∈ h, okH x) ∧ h.Pairwise (fun a b => a.f1 < b.f1) ∧ ∀ x ∈ h, ∃ b, findB l x.f0 = some b ∧ sumH h x.f0 ≤ b.f3
theorem hldS_zero (l : List S31) (r : List S35) : ∀ (pre : List S35) (i p : Int), (∀ x ∈ pre, okH x) → ((hldS l pre r i p).2 = 0 ↔ (∀ x ∈ r, okH x) ∧ (∀ x ∈ r, p < x.f1) ∧ r.Pairwise (fun a b => a.f1 < b.f1) ∧ ∀ x ∈ r, ∃ b, findB l x.f0 = some b ∧ sumH (pre ++ r) x.f0 ≤ b.f3) := by
  induction r with
  | nil => intro pre i p _; simp [hldS]
  | cons x r ih =>
    intro pre i p hp
    unfold hldS
    by_cases h1 : okH x
    · rw [if_neg (not_not_intro h1)]
      by_cases h2 : x.f1 ≤ p
      · rw [if_pos h2]
        constructor
        · intro h; cases h
        · rintro ⟨_, h, _⟩; have := h x (by simp); omega
      · rw [if_neg h2]
        cases hf : findB l x.f0 with
        | none =>
          constructor
          · intro h; cases h
          · rintro ⟨_, _, _, h⟩
            obtain ⟨b, hb, _⟩ := h x (by simp)
            rw [hf] at hb
            cases hb
        | some b =>
          simp only
          have hpx : ∀ y ∈ pre ++ [x], okH y := fun y hy => by
            rcases List.mem_append.1 hy with hy | hy
            · exact hp y hy
            · rw [List.mem_singleton] at hy; rw [hy]; exact h1
          have hap : pre ++ [x] ++ r = pre ++ x :: r := by simp
          by_cases h3 : b.f3 < sumH (pre ++ [x]) x.f0
          · rw [if_pos h3]
            constructor
            · intro h; cases h
            · rintro ⟨k1, _, _, h⟩
              obtain ⟨b', hb', hs⟩ := h x (by simp)
              rw [hf] at hb'
              obtain rfl := Option.some.inj hb'
              rw [← hap, sumH_append] at hs
              have := sumH_nonneg (h := r) (fun y hy => (k1 y (by simp [hy])).2.2.1) x.f0
              omega
          · rw [if_neg h3, ih _ _ _ hpx, hap]
            constructor
            · rintro ⟨a1, a2, a3, a4⟩
              refine ⟨fun y hy => ?_, fun y hy => ?_, List.pairwise_cons.2 ⟨a2, a3⟩, fun y hy => ?_⟩
              · rcases List.mem_cons.1 hy with rfl | hy
                · exact h1
                · exact a1 y hy
              · rcases List.mem_cons.1 hy with rfl | hy
                · omega
                · have := a2 y hy; omega
              · rcases List.mem_cons.1 hy with rfl | hy
                · by_cases h4 : ∃ z ∈ r, z.f0 = y.f0
                  · obtain ⟨z, hz, e⟩ := h4
                    have := a4 z hz
                    rwa [e] at this
                  · refine ⟨b, hf, ?_⟩
                    have hz : sumH r y.f0 = 0 := by
                      clear ih a1 a2 a3 a4 hy hap
                      induction r with
                      | nil => rfl
                      | cons z r ihr =>
                        rw [sumH, if_neg (fun e => h4 ⟨z, by simp, e⟩), ihr (fun ⟨u, hu, e⟩ => h4 ⟨u, by simp [hu], e⟩)]
                        rfl
                    rw [← hap, sumH_append, hz]
                    omega
                · exact a4 y hy
            · rintro ⟨a1, a2, a3, a4⟩
              rw [List.pairwise_cons] at a3
              exact ⟨fun y hy => a1 y (by simp [hy]), a3.1, a3.2, fun y hy => a4 y (by simp [hy])⟩
    · rw [if_pos h1]
      constructor
      · intro h; cases h
      · rintro ⟨h, _⟩; exact absurd (h x (by simp)) h1
theorem hldR_zero (l : List S31) (h : List S35) : (hldR l h).2 = 0 ↔ RightH l h := by
  unfold hldR RightH
  by_cases h1 : (chkB l).2 = 0
  · rw [if_neg (not_not_intro h1)]
    have h1' := (chkB_zero l).1 h1
    by_cases h2 : 16 < h.length
    · rw [if_pos h2]
      constructor
      · intro h; cases h
      · rintro ⟨_, h', _⟩; omega
    · rw [if_neg h2, hldS_zero l h [] 0 0 (fun x hx => by cases hx), List.nil_append]
      constructor
      · rintro ⟨a1, _, a3, a4⟩; exact ⟨h1', by omega, a1, a3, a4⟩
      · rintro ⟨_, _, a1, a3, a4⟩; exact ⟨a1, fun x hx => by have := a1 x hx; unfold okH at this; omega, a3, a4⟩
  · rw [if_pos h1]
    constructor
    · intro h; cases h
    · rintro ⟨h', _⟩; exact absurd ((chkB_zero l).2 h') h1
theorem hldS_pos (l : List S31) (r : List S35) : ∀ (pre : List S35) (i p : Int), (hldS l pre r i p).2 = 0 → (hldS l pre r i p).1 = -1 := by
  induction r with
  | nil => intro pre i p _; rfl
  | cons x r ih =>
    intro pre i p h
    unfold hldS at h ⊢
    split at h
    · cases h
    · rename_i h1
      rw [if_neg h1]
      split at h
      · cases h
      · rename_i h2
        rw [if_neg h2]
        cases hf : findB l x.f0 with
        | none => rw [hf] at h; cases h
        | some b =>
          rw [hf] at h
          simp only at h ⊢
          split at h
          · cases h
          · rename_i h3
            rw [if_neg h3]
            exact ih _ _ _ h
theorem hldR_ok {l : List S31} {h : List S35} (hr : RightH l h) : hldR l h = (-1, 0) := by
  have h0 := (hldR_zero l h).2 hr
  refine Prod.ext ?_ h0
  unfold hldR at h0 ⊢
  split at h0
  · cases h0
  · rename_i h1
    rw [if_neg h1]
    split at h0
    · cases h0
    · rename_i h2
      rw [if_neg h2]
      exact hldS_pos _ _ _ _ _ h0
theorem bond_within.plain (a lo hi : Int) : bond_within.f a lo hi = some (decide (lo ≤ a ∧ a ≤ hi)) := by
  unfold bond_within.f
  by_cases h : a ≥ lo
  · rw [if_pos h]
    congr 1
    rw [decide_eq_decide]
    exact ⟨fun h2 => ⟨h, h2⟩, fun h2 => h2.2⟩
  · rw [if_neg h, decide_eq_false (fun h2 => h h2.1)]
theorem bond_Check.l0_step {l : List S31} {i : Nat} (hi : i < l.length) (k : Nat) :
    bond_Check.l0 (k + 1) l l (l.length : Int) (i : Int) = bond_Check.j1 k l (i : Int) l (l.length : Int) (i : Int) (decide (¬ okB (rd_T31 l i))) (rd_T31 l i).f0 (rd_T31 l i).f1 (rd_T31 l i).f2 (rd_T31 l i).f3 := by
  simp only [bond_Check.l0]
  rw [if_pos (by omega), if_pos (by omega), if_pos (by omega)]
  simp only [bond_within.plain, Option.bind_some]
  generalize rd_T31 l i = b
  unfold okB
  by_cases h1 : 1 ≤ b.f0 ∧ b.f0 ≤ 1073741824
  · rw [decide_eq_true h1, if_pos rfl]
    by_cases h2 : 0 ≤ b.f1 ∧ b.f1 ≤ 100000
    · rw [decide_eq_true h2, if_pos rfl]
      by_cases h3 : b.f1 ≤ b.f2 ∧ b.f2 ≤ 100000
      · rw [decide_eq_true h3, if_pos rfl]
        by_cases h4 : 0 ≤ b.f3 ∧ b.f3 ≤ 1125899906842624
        · rw [decide_eq_true h4, decide_eq_false (by omega)]
          rfl
        · rw [decide_eq_false h4, decide_eq_true (by omega)]
          rfl
      · rw [decide_eq_false h3, if_neg (by decide), decide_eq_true (by omega)]
    · rw [decide_eq_false h2, if_neg (by decide), decide_eq_true (by omega)]
  · rw [decide_eq_false h1, if_neg (by decide), decide_eq_true (by omega)]
/-- The ID ahead of a place, or 0. -/
def prvB (l : List S31) (i : Nat) : Int := if i = 0 then 0 else (rd_T31 l ((i : Int) - 1)).f0
theorem dropB {l : List S31} {i : Nat} (hi : i < l.length) : l.drop i = rd_T31 l (i : Int) :: l.drop (i + 1) := by
  rw [List.drop_eq_getElem_cons hi]
  unfold rd_T31
  rw [Int.toNat_natCast, List.getD_eq_getElem?_getD, List.getElem?_eq_getElem hi]
  rfl
theorem bond_Check.go {l : List S31} (hl : l.length ≤ 1000) : ∀ d i : Nat, i + d = l.length → ∃ N, ∀ k, N ≤ k → bond_Check.l0 k l l (l.length : Int) (i : Int) = some (chkBs (l.drop i) (i : Int) (prvB l i)) := by
  intro d
  induction d with
  | zero =>
    intro i hi
    refine ⟨1, fun k hk => ?_⟩
    obtain ⟨k, rfl⟩ : ∃ j, k = j + 1 := ⟨k - 1, by omega⟩
    rw [List.drop_eq_nil_of_le (by omega)]
    simp only [bond_Check.l0]
    rw [if_neg (by omega)]
    rfl
  | succ d ih =>
    intro i hi
    have hil : i < l.length := by omega
    obtain ⟨N, hN⟩ := ih (i + 1) (by omega)
    refine ⟨N + 2, fun k hk => ?_⟩
    obtain ⟨k, rfl⟩ : ∃ j, k = j + 2 := ⟨k - 2, by omega⟩
    have hn := hN k (by omega)
    have hp : prvB l (i + 1) = (rd_T31 l (i : Int)).f0 := by
      unfold prvB
      rw [if_neg (by omega), show ((i + 1 : Nat) : Int) - 1 = (i : Int) by omega]
    rw [bond_Check.l0_step hil, dropB hil]
    rw [hp] at hn
    simp only [bond_Check.j1, chkBs]
    have w1 : wrap64 ((i : Int) + 1) = ((i + 1 : Nat) : Int) := by rw [w64_ (by omega) (by omega)]; rfl
    by_cases h1 : okB (rd_T31 l i)
    · rw [decide_eq_false (not_not_intro h1), if_neg (by decide), if_neg (not_not_intro h1), w1]
      by_cases h2 : i = 0
      · subst h2
        rw [if_neg (by omega), hn]
        have : ¬ (rd_T31 l ((0 : Nat) : Int)).f0 ≤ prvB l 0 := by unfold okB at h1; unfold prvB; rw [if_pos rfl]; omega
        rw [if_neg this]
        rfl
      · have w2 : wrap64 ((i : Int) - 1) = (i : Int) - 1 := w64_ (by omega) (by omega)
        rw [if_pos (by omega), w2, if_pos (by omega), if_pos (by omega), hn]
        have : prvB l i = (rd_T31 l ((i : Int) - 1)).f0 := by unfold prvB; rw [if_neg h2]
        rw [this]
        split
        · rfl
        · rfl
    · rw [decide_eq_true h1, if_pos rfl, if_pos h1]
theorem bond_Check.plain (l : List S31) : ∃ k, bond_Check.f k l = some (chkB l) := by
  unfold bond_Check.f chkB
  by_cases h : 16 < l.length
  · exact ⟨0, by rw [if_pos (by omega), if_pos h]⟩
  · obtain ⟨N, hN⟩ := bond_Check.go (l := l) (by omega) l.length 0 (by omega)
    refine ⟨N, ?_⟩
    rw [if_neg (by omega), if_neg h]
    exact hN N (Nat.le_refl _)
def bond_Check_s.f (l0 : List S31) : Option (Int × Int) := some (chkB l0)
theorem bond_Check_s.calls (A0 : Option Addr) (c0 : Nat) (l0 : List S31) (r1 r2 : Int) (w : World) (hr0 : Kd.C k31 w A0 l0.length l0) (hc0 : l0.length ≤ c0) (h : bond_Check_s.f l0 = some (r1, r2)) :
    Calls Try.prog 12 #[.slice A0 l0.length c0] w fun e w' => e = .returned (.tuple #[.int .i64 r1, .int .i64 r2]) ∧ Below w.heap.size w w' := by
  obtain ⟨k, hk⟩ := bond_Check.plain l0
  exact bond_Check.calls k A0 c0 l0 r1 r2 w hr0 hc0 (hk.trans h)

/-! ### api_Bond_33: function 33 -/
-- HELPER
set_option maxHeartbeats 4000000 in
set_option maxRecDepth 1000000 in
/-- slices.IndexFunc[[]spile/api.Bond,spile/api.Bond] over a closure that may make memory. -/
theorem api_Bond_33.below (g : Nat) (cb : Array Value) (A : Option Addr) (c : Nat) (l : List S31) (q : Nat → Bool) (w : World) (eg : ∀ args w, (callFunc g args).run Try.prog w = .ok (.enter g args) w) (hsz : l.length < 4611686018427387904) (hr : Kd.C k31 w A l.length l)
    (hf : ∀ (W : World) (i : Int), 0 ≤ i → i < l.length → Below w.heap.size w W → Calls Try.prog g (#[.agg #[.int .i64 (rd_T31 l i).f0, .int .i64 (rd_T31 l i).f1, .int .i64 (rd_T31 l i).f2, .int .i64 (rd_T31 l i).f3]] ++ cb) W fun e w' => e = .returned (.bool (q i.toNat)) ∧ Below W.heap.size W w') :
    Calls Try.prog 33 #[.slice A l.length c, .func (.func g) #[] cb] w fun e w' => e = .returned (.int .i64 (idxP q l.length 0)) ∧ Below w.heap.size w w' := by
  have hu := Try.underlying31
  have HF := Aside0.mk hf
  have HR := Aside0.mk hr
  clear hf hr
  obtain ⟨res, hres⟩ : ∃ res, idxP q l.length 0 = res := ⟨_, rfl⟩
  rw [hres]
  have HS := Aside0.mk hres
  clear hres
  go_enter Try.func33, Try.ntmps33
  go_wp2
  go_loopg [5, 8] l.length (fun kx s5 s8 wr => ∃ x : Int, s8 = .int .i64 x ∧ Aside0 (0 ≤ x ∧ x ≤ l.length ∧ l.length - x.toNat ≤ kx ∧ ∀ j, j < x.toNat → q j = false) ∧ Aside0 (Below w.heap.size w wr))
  case atStart => exact ⟨0, rfl, ⟨by omega, by omega, by omega, fun j hj => by simp at hj⟩, ⟨Below.refl _ _⟩⟩
  case round =>
    obtain ⟨x, rfl, HX, HB⟩ := hrel
    by_cases hlt : x < (l.length : Int)
    · have hltb : decide (x < (l.length : Int)) = true := decide_eq_true hlt
      have p1 : 0 ≤ x := HX.out.1
      obtain ⟨ad, e, h1, h2, h3, h4⟩ := at_T31 HR.out x p1 hlt
      cases e
      replace h1 := pw_cell_below HB.out h1
      replace h2 := pw_cell_below HB.out h2
      replace h3 := pw_cell_below HB.out h3
      replace h4 := pw_cell_below HB.out h4
      have hc := Aside0.mk (HF.out _ x p1 hlt HB.out)
      have HLT := Aside0.mk hlt
      clear hlt
      replace p1 := eq_true p1
      have p2 : (x < (l.length : Int)) = True := eq_true HLT.out
      generalize (rd_T31 l x).f0 = y0 at h1 hc
      generalize (rd_T31 l x).f1 = y1 at h2 hc
      generalize (rd_T31 l x).f2 = y2 at h3 hc
      generalize (rd_T31 l x).f3 = y3 at h4 hc
      have hw : wrap64 (x + 1) = x + 1 := by have := HX.out.1; have := HLT.out; unfold wrap64; omega
      have HW := Aside0.mk hw
      clear hw
      cases hq : q x.toNat
      · rw [hq] at hc
        have HQ := Aside0.mk hq
        clear hq
        go_wp2_with (refine hc.out.mono ?_; rintro e w' ⟨rfl, hb2⟩)
        have HB2 := Aside0.mk (below_then HB.out HB.out.size hb2)
        go_roundg (l.length - (x + 1).toNat)
        case measure => have := HX.out; have := HLT.out; omega
        case rel => exact ⟨x + 1, by rw [HW.out], ⟨by have := HX.out; omega, by have := HLT.out; omega, Nat.le_refl _, fun j hj => by
          rcases Nat.lt_or_ge j x.toNat with h | h
          · exact HX.out.2.2.2 j h
          · have e : j = x.toNat := by have := HX.out.1; omega
            rw [e]; exact HQ.out⟩, HB2⟩
      · rw [hq] at hc
        have er : x = res := by
          rw [← HS.out, idxP_found q x.toNat l.length 0 hq (fun j _ hj => HX.out.2.2.2 j hj) (Nat.zero_le _) (by have := HX.out; have := HLT.out; omega)]
          have := HX.out.1; omega
        have ER := Aside0.mk er
        clear hq er
        go_wp2_with (refine hc.out.mono ?_; rintro e w' ⟨rfl, hb2⟩)
        have HB2 := Aside0.mk (below_then HB.out HB.out.size hb2)
        go_ret
        exact ⟨by rw [← ER.out]; rfl, HB2.out⟩
    · have hltb : decide (x < (l.length : Int)) = false := decide_eq_false hlt
      have er : -1 = res := by
        rw [← HS.out]
        exact (idxP_none q l.length 0 (fun j _ hj => HX.out.2.2.2 j (by have := HX.out; omega))).symm
      have ER := Aside0.mk er
      clear hlt er
      go_wp2
      go_ret
      exact ⟨by rw [← ER.out]; rfl, HB.out⟩

end Go.Proofs.Ytdolabpkgienkaa.PF
