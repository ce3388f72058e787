-- Written by a program of this session (wip/pr.py) out of Lean's print of the translation; Lean checks it.
import Derived.Test.YtdfghldnialmbaaPF0
import Derived.Test.YtdfghldnialmbaaPF3
import Derived.Test.YtdfghldnialmbaaPF4
namespace Go.Proofs.Ytdfghldnialmbaa.PF
open Go.RowKit Go.Proofs.YtdfghldnialmbaaW.PrintWords Go.Proofs.YtdfghldnialmbaaW.PrintLast Go.Proofs.YtdfghldnialmbaaW.PrintMore
attribute [local go_sem] max2_int min2_int max_two min_two max_three min_three max_four min_four   -- for this text's walks alone
set_option linter.unusedVariables false
set_option linter.unusedSimpArgs false

/-! ### alcohol_Check: function 13 -/
def alcohol_Check.j0 : Nat → List (S42) → Bool → Int → Int → Option (Int)
  | 0, _, _, _, _ => none
  | k + 1, x0, x15, x121000, x121001 => if x15 = true then (some 2) else ((alcohol_of.f x0 10000).bind fun t123 => (if (wrap64 (x121000 * t123)) > (wrap64 (x121001 * 10000)) then (some 10) else (some 0)))
def alcohol_Check.f (k : Nat) (l0 : List (S42)) (a1_0 : Int) (a1_1 : Int) : Option (Int) := (density_Check_s.f l0).bind fun bt121 => (if bt121.2 = 0 then (if a1_0 < 0 then (alcohol_Check.j0 k l0 true a1_0 a1_1) else (if a1_0 > 10737418240000 then (alcohol_Check.j0 k l0 true a1_0 a1_1) else (if a1_1 < 0 then (alcohol_Check.j0 k l0 true a1_0 a1_1) else (alcohol_Check.j0 k l0 (decide (a1_1 > 128849018880000)) a1_0 a1_1)))) else (some 1))
theorem alcohol_Check.mono_l : ∀ k, (∀ y0 y1 y2 y3, LeO (alcohol_Check.j0 k y0 y1 y2 y3) (alcohol_Check.j0 (k + 1) y0 y1 y2 y3))
  | 0 => fun _ _ _ _ r h => by simp [alcohol_Check.j0] at h
  | k + 1 => by
    have ih0 := alcohol_Check.mono_l k
    · intro y0 y1 y2 y3
      unfold alcohol_Check.j0
      repeat' first
      | (with_reducible exact ih0 _ _ _ _)
      | (with_reducible exact LeO.refl _)
      | (with_reducible exact LeO.none _)
      | (with_reducible refine LeO.ite ?_ ?_)
      | (with_reducible refine LeO.bind ?_ (fun _ => ?_))
      | exact ih0 _ _ _ _
      | exact LeO.none _
      | refine LeO.ite ?_ ?_
      | refine LeO.bind ?_ (fun _ => ?_)
theorem alcohol_Check.mono : ∀ a0 a1 a2 k, LeO (alcohol_Check.f k a0 a1 a2) (alcohol_Check.f (k + 1) a0 a1 a2) := by
  intro a0 a1 a2 k
  have ih0 := alcohol_Check.mono_l k
  unfold alcohol_Check.f
  repeat' first
      | (with_reducible exact ih0 _ _ _ _)
      | (with_reducible exact LeO.refl _)
      | (with_reducible exact LeO.none _)
      | (with_reducible refine LeO.ite ?_ ?_)
      | (with_reducible refine LeO.bind ?_ (fun _ => ?_))
      | exact ih0 _ _ _ _
      | exact LeO.none _
      | refine LeO.ite ?_ ?_
      | refine LeO.bind ?_ (fun _ => ?_)
def alcohol_Check.T6 : Bool × List (List Nat × List Nat) := (true, [([], []), ([0], [0]), ([], []), ([2], [2]), ([1, 3], [1, 3]), ([], []), ([5], [5]), ([6], [6]), ([4, 7], [4, 7]), ([8, 3], [8])])
def alcohol_Check.B6 : List Nat := [0, 1, 0, 4, 15, 0, 32, 96, 255, 511]
theorem alcohol_Check.tab6 : rtab .any (opsOf Try.f13 6) = alcohol_Check.T6 := by kernel_rfl
theorem alcohol_Check.bits6 : waitsOk alcohol_Check.T6.2 alcohol_Check.B6 = true := by kernel_rfl
set_option maxHeartbeats 8000000 in
set_option maxRecDepth 100000 in
theorem alcohol_Check.calls (k : Nat) (A0 : Option Addr) (c0 : Nat) (l0 : List (S42)) (a1_0 : Int) (a1_1 : Int) (r : Int) (w : World) (hr0 : Kd.C k42 w A0 l0.length l0) (hc0 : l0.length ≤ c0) (h : alcohol_Check.f k l0 a1_0 a1_1 = some r) :
    Calls Try.prog 13 #[.slice A0 l0.length c0, .agg #[.int .i64 a1_0, .int .i64 a1_1]] w fun e w' => e = .returned (.int .i64 r) ∧ Below w.heap.size w w' := by
  have hu24 := Try.underlying24
  have HR0 := Aside0.mk hr0
  have HC0 := Aside0.mk hc0
  clear hr0 hc0
  have HB := Aside0.mk (Below.refl w.heap.size w)
  have H : ((density_Check_s.f l0).bind fun bt121 => (if bt121.2 = 0 then (if a1_0 < 0 then (alcohol_Check.j0 k l0 true a1_0 a1_1) else (if a1_0 > 10737418240000 then (alcohol_Check.j0 k l0 true a1_0 a1_1) else (if a1_1 < 0 then (alcohol_Check.j0 k l0 true a1_0 a1_1) else (alcohol_Check.j0 k l0 (decide (a1_1 > 128849018880000)) a1_0 a1_1)))) else (some 1))) = some r := h
  clear h
  replace H := Option.bind_eq_some_iff.mp H
  obtain ⟨⟨t121, t122⟩, A30, H⟩ := H
  replace H : (if t122 = 0 then (if a1_0 < 0 then (alcohol_Check.j0 k l0 true a1_0 a1_1) else (if a1_0 > 10737418240000 then (alcohol_Check.j0 k l0 true a1_0 a1_1) else (if a1_1 < 0 then (alcohol_Check.j0 k l0 true a1_0 a1_1) else (alcohol_Check.j0 k l0 (decide (a1_1 > 128849018880000)) a1_0 a1_1)))) else (some 1)) = some r := H
  have A3 := Aside0.mk A30
  clear A30
  by_cases c4 : t122 = 0
  · rw [if_pos c4] at H
    have c4b0 : (t122 == 0) = true := beq_iff_eq.mpr c4
    have c4b1 : (t122 != 0) = false := bne_eq_false_iff_eq.mpr c4
    clear c4
    have HC5 := Aside0.mk H
    clear H
    go_enter Try.func13, Try.ntmps13
    go_upto_region 4 with (first | ((with_reducible refine gate_dst (N := 3) rfl ?_); refine box_event ?hg (N := 3) ?hd (cs := #[.int .i64 a1_0, .int .i64 a1_1]) (t := 24) ?hr ?_; (case hd => rfl); (case hg => rfl); (case hr => first | (go_simp; done) | (go_simp; rfl)); intro gb120 hg w6 hbox hb; have n0_ := Aside0.mk (below_step (by repeat (first | (with_reducible first | exact HB.out | apply below_alloc | apply pw_below_drewN | apply below_drew1) | exact HB.out)) hb); have n1_ := Aside0.mk (hbox); have n2_ := Aside0.mk ((by rw [hg]; exact (below_size (by repeat (first | (with_reducible first | exact HB.out | apply below_alloc | apply pw_below_drewN | apply below_drew1) | exact HB.out))) : w.heap.size ≤ gb120)); have n3_ := Aside0.mk ((by rw [hg]; exact (below_size (by repeat (first | (with_reducible first | exact HB.out | apply below_alloc | apply pw_below_drewN | apply below_drew1) | exact HB.out))) : w.heap.size ≤ gb120)); clear HB; have HB := n0_; have BK120 := n1_; have GW120 := n2_; have GE120 := n3_; clear n0_ n1_ n2_ n3_; clear hb hbox hg) | ((with_reducible refine gate_callee (f := 24) rfl ?_); refine goesL_ (some 9) rfl rfl Try.func24 (by kernel_rfl) rfl #[.slice A0 l0.length c0] rfl (by (try simp only [List.map_toArray, List.map_cons, List.map_nil]); first | done | rfl | (simp only [List.length_drop, List.length_take]; rfl)) ?_; (with_reducible refine (density_Check_s.calls _ _ l0 t121 t122 _ ?side1 ?side2 A3.out).mono ?_); (case side1 => repeat (first | exact (Kd.C_below HR0.out HB.out) | (with_reducible refine Kd.C_alloc ?_ _) | (with_reducible refine Kd.C_drewN ?_ _) | (with_reducible refine Kd.C_drew ?_))); (case side2 => exact HC0.out); rintro e w7 ⟨rfl, hb⟩; refine ⟨_, rfl, ?_⟩; have n0_ := Aside0.mk (blk_below (g := gb120) (o := .cells #[.int .i64 a1_0, .int .i64 a1_1] 24 (0, 0)) (by (with_reducible repeat (first | refine blk_drewN ?_ _ | refine blk_drew ?_ | refine blk_alloc ?_ _)); exact BK120.out) hb); have n1_ := Aside0.mk (below_step (by repeat (first | (with_reducible first | exact HB.out | apply below_alloc | apply pw_below_drewN | apply below_drew1 | refine below_set ?_ GE120.out) | exact HB.out)) hb); clear BK120; clear HB; have BK120 := n0_; have HB := n1_; clear n0_ n1_; (try clear hb); (try clear hb2); (try clear hk); (try clear hi)))
    (try simp only [Act.put, List.setIfInBounds_toArray, List.set_cons_zero, List.set_cons_succ])
    go_cut [15] (fun v15 wc => ∃ (kq : Nat) (x15_4 : Bool), v15 = .bool x15_4 ∧ Aside0 (alcohol_Check.j0 kq l0 x15_4 a1_0 a1_1 = some r) ∧ Aside0 (kq ≤ k) ∧ Aside0 (wc.heap[gb120]? = some (.cells #[.int .i64 a1_0, .int .i64 a1_1] 24 (0, 0))) ∧ Aside0 (Below w.heap.size w wc))
    case first =>
      have H := HC5.out
      clear HC5
      by_cases c8 : a1_0 < 0
      · rw [if_pos c8] at H
        have c8b0 : decide (a1_0 < 0) = true := decide_eq_true c8
        clear c8
        (first | rw [c8b0] | (simp only [i64_w, i32_w]; rw [c8b0]) | skip)
        have H' := Aside0.mk H
        clear H
        have hcz9_0 : w7.cell? ⟨gb120, 0, none⟩ = some (.int .i64 a1_0) := (blk_cell BK120.out 0).trans rfl
        have hcz9_1 : w7.cell? ⟨gb120, 1, none⟩ = some (.int .i64 a1_1) := (blk_cell BK120.out 1).trans rfl
        have hfz9_0 := blk_frozen BK120.out 0
        have hfz9_1 := blk_frozen BK120.out 1
        go_wp2
        go_meet
        case rel => exact ⟨_, (true), (by first | rfl | (simp; done) | (simp [*]; done)), H', ⟨by first | omega | exact Nat.le_refl _⟩, ⟨by (with_reducible repeat (first | refine blk_drewN ?_ _ | refine blk_drew ?_ | refine blk_alloc ?_ _)); exact BK120.out⟩, ⟨by repeat (first | (with_reducible first | exact HB.out | apply below_alloc | apply pw_below_drewN | apply below_drew1 | refine below_set ?_ GE120.out) | exact HB.out)⟩⟩
      · rw [if_neg c8] at H
        have c8b0 : decide (a1_0 < 0) = false := decide_eq_false c8
        clear c8
        (first | rw [c8b0] | (simp only [i64_w, i32_w]; rw [c8b0]) | skip)
        by_cases c10 : a1_0 > 10737418240000
        · rw [if_pos c10] at H
          have c10b0 : decide (10737418240000 < a1_0) = true := decide_eq_true c10
          clear c10
          have H' := Aside0.mk H
          clear H
          have hcz11_0 : w7.cell? ⟨gb120, 0, none⟩ = some (.int .i64 a1_0) := (blk_cell BK120.out 0).trans rfl
          have hcz11_1 : w7.cell? ⟨gb120, 1, none⟩ = some (.int .i64 a1_1) := (blk_cell BK120.out 1).trans rfl
          have hfz11_0 := blk_frozen BK120.out 0
          have hfz11_1 := blk_frozen BK120.out 1
          go_wp2
          go_meet
          case rel => exact ⟨_, (true), (by first | rfl | (simp; done) | (simp [*]; done)), H', ⟨by first | omega | exact Nat.le_refl _⟩, ⟨by (with_reducible repeat (first | refine blk_drewN ?_ _ | refine blk_drew ?_ | refine blk_alloc ?_ _)); exact BK120.out⟩, ⟨by repeat (first | (with_reducible first | exact HB.out | apply below_alloc | apply pw_below_drewN | apply below_drew1 | refine below_set ?_ GE120.out) | exact HB.out)⟩⟩
        · rw [if_neg c10] at H
          have c10b0 : decide (10737418240000 < a1_0) = false := decide_eq_false c10
          clear c10
          by_cases c12 : a1_1 < 0
          · rw [if_pos c12] at H
            have c12b0 : decide (a1_1 < 0) = true := decide_eq_true c12
            clear c12
            have H' := Aside0.mk H
            clear H
            have hcz13_0 : w7.cell? ⟨gb120, 0, none⟩ = some (.int .i64 a1_0) := (blk_cell BK120.out 0).trans rfl
            have hcz13_1 : w7.cell? ⟨gb120, 1, none⟩ = some (.int .i64 a1_1) := (blk_cell BK120.out 1).trans rfl
            have hfz13_0 := blk_frozen BK120.out 0
            have hfz13_1 := blk_frozen BK120.out 1
            go_wp2
            go_meet
            case rel => exact ⟨_, (true), (by first | rfl | (simp; done) | (simp [*]; done)), H', ⟨by first | omega | exact Nat.le_refl _⟩, ⟨by (with_reducible repeat (first | refine blk_drewN ?_ _ | refine blk_drew ?_ | refine blk_alloc ?_ _)); exact BK120.out⟩, ⟨by repeat (first | (with_reducible first | exact HB.out | apply below_alloc | apply pw_below_drewN | apply below_drew1 | refine below_set ?_ GE120.out) | exact HB.out)⟩⟩
          · rw [if_neg c12] at H
            have c12b0 : decide (a1_1 < 0) = false := decide_eq_false c12
            clear c12
            have H' := Aside0.mk H
            clear H
            have hcz14_0 : w7.cell? ⟨gb120, 0, none⟩ = some (.int .i64 a1_0) := (blk_cell BK120.out 0).trans rfl
            have hcz14_1 : w7.cell? ⟨gb120, 1, none⟩ = some (.int .i64 a1_1) := (blk_cell BK120.out 1).trans rfl
            have hfz14_0 := blk_frozen BK120.out 0
            have hfz14_1 := blk_frozen BK120.out 1
            go_wp2
            go_meet
            case rel => exact ⟨_, (decide (a1_1 > 128849018880000)), (by first | rfl | (simp; done) | (simp [*]; done)), H', ⟨by first | omega | exact Nat.le_refl _⟩, ⟨by (with_reducible repeat (first | refine blk_drewN ?_ _ | refine blk_drew ?_ | refine blk_alloc ?_ _)); exact BK120.out⟩, ⟨by repeat (first | (with_reducible first | exact HB.out | apply below_alloc | apply pw_below_drewN | apply below_drew1 | refine below_set ?_ GE120.out) | exact HB.out)⟩⟩
    case rest =>
      clear HC5
      try clear c1
      try clear c2
      try clear p2
      try clear c4
      try clear c4b0
      try clear c4b1
      try clear c8
      try clear c8b0
      try clear c10
      try clear c10b0
      try clear c12
      try clear c12b0
      try clear c13
      try clear hcz11_0
      try clear hcz11_1
      try clear hcz13_0
      try clear hcz13_1
      try clear hcz14_0
      try clear hcz14_1
      try clear hcz9_0
      try clear hcz9_1
      try clear hfz11_0
      try clear hfz11_1
      try clear hfz13_0
      try clear hfz13_1
      try clear hfz14_0
      try clear hfz14_1
      try clear hfz9_0
      try clear hfz9_1
      obtain ⟨kq, x15_4, rfl, HA, HJ4, BK120, HB⟩ := hcut
      cases kq with
      | zero => exact absurd HA.out (by simp [alcohol_Check.j0])
      | succ kj4 =>
        have H := HA.out
        clear HA
        simp only [alcohol_Check.j0] at H
        by_cases c15 : x15_4 = true
        · subst c15
          have H1 : (some 2) = some r := by rw [if_pos rfl] at H; exact H
          clear H
          have H := H1
          clear H1
          obtain rfl := Option.some.inj H
          go_wp2
          go_ret
          exact ⟨by first | rfl | (simp [errW_none, errW_some] <;> rfl) | (simp [*, errW_none, errW_some] <;> rfl), by repeat (first | (with_reducible first | exact HB.out | apply below_alloc | apply pw_below_drewN | apply below_drew1 | refine below_set ?_ GE120.out) | exact HB.out)⟩
        · replace c15 := Bool.eq_false_iff.mpr c15
          subst c15
          have H1 : ((alcohol_of.f l0 10000).bind fun t123 => (if (wrap64 (a1_0 * t123)) > (wrap64 (a1_1 * 10000)) then (some 10) else (some 0))) = some r := by rw [if_neg (show ¬ (false = true) by decide)] at H; exact H
          clear H
          have H := H1
          clear H1
          replace H := Option.bind_eq_some_iff.mp H
          obtain ⟨t123, A160, H⟩ := H
          replace H : (if (wrap64 (a1_0 * t123)) > (wrap64 (a1_1 * 10000)) then (some 10) else (some 0)) = some r := H
          have A16 := Aside0.mk A160
          clear A160
          by_cases c17 : (wrap64 (a1_0 * t123)) > (wrap64 (a1_1 * 10000))
          · rw [if_pos c17] at H
            have c17b0 : decide ((wrap64 (a1_1 * 10000)) < (wrap64 (a1_0 * t123))) = true := decide_eq_true c17
            clear c17
            obtain rfl := Option.some.inj H
            try go_wp2
            have n0_ := Aside0.mk (blk_drew BK120.out)
            have n1_ := Aside0.mk (below_drew1 HB.out)
            clear BK120
            clear HB
            have BK120 := n0_
            have HB := n1_
            clear n0_ n1_
            refine start_ (n := 10) (S := fun w' => w'.cell? ⟨gb120, 0, none⟩ = some (.int .i64 a1_0) ∧ w'.cell? ⟨gb120, 1, none⟩ = some (.int .i64 a1_1)) (ds := []) #[false, false, false, false, false, false, false, false, false, false] (by kernel_rfl) rfl rfl ⟨(blk_cell BK120.out 0).trans rfl, (blk_cell BK120.out 1).trans rfl⟩ (fun hHeld => ?_); refine with_tabW alcohol_Check.tab6 alcohol_Check.bits6 (fun HT_ HW_ => ?_)
            generalize wc.drew = w18 at BK120 HB hHeld ⊢
            refine pure_ (i := 0) (N := some 35) (v := ?_) (a' := ?_) #[true, false, false, false, false, false, false, false, false, false] rfl rfl (any_of HT_.out (by kernel_rfl)) (fun _ _ _ h => h) (Or.inl ⟨by rfl, ?_⟩) ?_ ?_
            rotate_left
            · intro w'
              go_simp
              with_reducible rfl
            rotate_left
            · simp only [Act.put, List.setIfInBounds_toArray, List.set_cons_zero, List.set_cons_succ, i64_w, i32_w]
              rfl
            refine pure_ (i := 2) (N := some 37) (v := ?_) (a' := ?_) #[true, false, true, false, false, false, false, false, false, false] rfl rfl (any_of HT_.out (by kernel_rfl)) (fun _ _ _ h => h) (Or.inl ⟨by rfl, ?_⟩) ?_ ?_
            rotate_left
            · intro w'
              go_simp
              with_reducible rfl
            rotate_left
            · simp only [Act.put, List.setIfInBounds_toArray, List.set_cons_zero, List.set_cons_succ, i64_w, i32_w]
              rfl
            refine pure_ (i := 5) (N := some 40) (v := ?_) (a' := ?_) #[true, false, true, false, false, true, false, false, false, false] rfl rfl (any_of HT_.out (by kernel_rfl)) (fun _ _ _ h => h) (Or.inl ⟨by rfl, ?_⟩) ?_ ?_
            rotate_left
            · intro w'
              go_simp
              with_reducible rfl
            rotate_left
            · simp only [Act.put, List.setIfInBounds_toArray, List.set_cons_zero, List.set_cons_succ, i64_w, i32_w]
              rfl
            refine take_ (i := 1) (N := some 36) (v := ?_) (a' := ?_) #[true, true, true, false, false, true, false, false, false, false] rfl rfl (take_ofW HT_.out HW_.out (by kernel_rfl)) (fun _ _ _ h => h) (Or.inl ⟨by rfl, ?_⟩) hHeld ?_ ?_
            rotate_left
            · rintro w' ⟨s0, s1⟩
              go_simp
              with_reducible rfl
            rotate_left
            · simp only [Act.put, List.setIfInBounds_toArray, List.set_cons_zero, List.set_cons_succ, i64_w, i32_w]
              rfl
            refine take_ (i := 6) (N := some 41) (v := ?_) (a' := ?_) #[true, true, true, false, false, true, true, false, false, false] rfl rfl (take_ofW HT_.out HW_.out (by kernel_rfl)) (fun _ _ _ h => h) (Or.inl ⟨by rfl, ?_⟩) hHeld ?_ ?_
            rotate_left
            · rintro w' ⟨s0, s1⟩
              go_simp
              with_reducible rfl
            rotate_left
            · simp only [Act.put, List.setIfInBounds_toArray, List.set_cons_zero, List.set_cons_succ, i64_w, i32_w]
              rfl
            refine pure_ (i := 7) (N := some 42) (v := ?_) (a' := ?_) #[true, true, true, false, false, true, true, true, false, false] rfl rfl (any_of HT_.out (by kernel_rfl)) (fun _ _ _ h => h) (Or.inl ⟨by rfl, ?_⟩) ?_ ?_
            rotate_left
            · intro w'
              go_simp
              with_reducible rfl
            rotate_left
            · simp only [Act.put, List.setIfInBounds_toArray, List.set_cons_zero, List.set_cons_succ, i64_w, i32_w]
              rfl
            refine one_ (i := 3) (N := some 38) #[true, true, true, true, false, true, true, true, false, false] rfl rfl (one_of HT_.out (by kernel_rfl)) (by decide) (fun K hK => ?_)
            refine goes_ Try.func25 (by kernel_rfl) rfl #[.slice A0 l0.length c0, .int .i64 10000] (by rfl) rfl rfl (by (try simp only [List.map_toArray, List.map_cons, List.map_nil]); first | done | rfl | (simp only [List.length_drop, List.length_take]; rfl)) ?_
            with_reducible refine (alcohol_of.calls _ _ l0 10000 t123 _ ?side1 ?side2 A16.out).mono ?_
            (case side1 => repeat (first | exact (Kd.C_below HR0.out HB.out) | (with_reducible refine Kd.C_alloc ?_ _) | (with_reducible refine Kd.C_drewN ?_ _) | (with_reducible refine Kd.C_drew ?_)))
            (case side2 => exact HC0.out)
            rintro e w19 ⟨rfl, hb⟩
            refine ⟨_, rfl, ?_⟩
            have n0_ := Aside0.mk (blk_below (g := gb120) (o := .cells #[.int .i64 a1_0, .int .i64 a1_1] 24 (0, 0)) (by (with_reducible repeat (first | refine blk_drewN ?_ _ | refine blk_drew ?_ | refine blk_alloc ?_ _)); exact BK120.out) hb)
            have n1_ := Aside0.mk (below_step (by repeat (first | (with_reducible first | exact HB.out | apply below_alloc | apply pw_below_drewN | apply below_drew1 | refine below_set ?_ GE120.out) | exact HB.out)) hb)
            clear BK120
            clear HB
            have BK120 := n0_
            have HB := n1_
            clear n0_ n1_
            (try clear hb)
            (try clear hb2)
            (try clear hk)
            (try clear hi)
            refine hK.out _ _ ⟨(blk_cell BK120.out 0).trans rfl, (blk_cell BK120.out 1).trans rfl⟩ (fun hHeld => ?_)
            clear hK K
            refine norm_ (a' := ?_) ?_ ?_
            rotate_left
            · show Act.put _ (some 38) _ = _
              simp only [Act.put, List.setIfInBounds_toArray, List.set_cons_zero, List.set_cons_succ, i64_w, i32_w]
              rfl
            refine pure_ (i := 4) (N := some 39) (v := ?_) (a' := ?_) #[true, true, true, true, true, true, true, true, false, false] rfl rfl (any_of HT_.out (by kernel_rfl)) (fun _ _ _ h => h) (Or.inl ⟨by rfl, ?_⟩) ?_ ?_
            rotate_left
            · intro w'
              go_simp
              with_reducible rfl
            rotate_left
            · simp only [Act.put, List.setIfInBounds_toArray, List.set_cons_zero, List.set_cons_succ, i64_w, i32_w]
              rfl
            refine pure_ (i := 8) (N := some 43) (v := ?_) (a' := ?_) #[true, true, true, true, true, true, true, true, true, false] rfl rfl (any_of HT_.out (by kernel_rfl)) (fun _ _ _ h => h) (Or.inl ⟨by rfl, ?_⟩) ?_ ?_
            rotate_left
            · intro w'
              go_simp
              with_reducible rfl
            rotate_left
            · simp only [Act.put, List.setIfInBounds_toArray, List.set_cons_zero, List.set_cons_succ, i64_w, i32_w]
              rfl
            refine pure_ (i := 9) (N := some 34) (v := ?_) (a' := ?_) #[true, true, true, true, true, true, true, true, true, true] rfl rfl (any_of HT_.out (by kernel_rfl)) (fun _ _ _ h => h) (Or.inl ⟨by rfl, ?_⟩) ?_ ?_
            rotate_left
            · intro w'
              go_simp
              with_reducible rfl
            rotate_left
            · simp only [Act.put, List.setIfInBounds_toArray, List.set_cons_zero, List.set_cons_succ, i64_w, i32_w]
              rfl
            refine done_ (done_of HT_.out (by kernel_rfl)) ?_
            try go_wp2
            go_ret
            exact ⟨by first | rfl | (simp [errW_none, errW_some] <;> rfl) | (simp [*, errW_none, errW_some] <;> rfl), by repeat (first | (with_reducible first | exact HB.out | apply below_alloc | apply pw_below_drewN | apply below_drew1 | refine below_set ?_ GE120.out) | exact HB.out)⟩
          · rw [if_neg c17] at H
            have c17b0 : decide ((wrap64 (a1_1 * 10000)) < (wrap64 (a1_0 * t123))) = false := decide_eq_false c17
            clear c17
            obtain rfl := Option.some.inj H
            try go_wp2
            have n0_ := Aside0.mk (blk_drew BK120.out)
            have n1_ := Aside0.mk (below_drew1 HB.out)
            clear BK120
            clear HB
            have BK120 := n0_
            have HB := n1_
            clear n0_ n1_
            refine start_ (n := 10) (S := fun w' => w'.cell? ⟨gb120, 0, none⟩ = some (.int .i64 a1_0) ∧ w'.cell? ⟨gb120, 1, none⟩ = some (.int .i64 a1_1)) (ds := []) #[false, false, false, false, false, false, false, false, false, false] (by kernel_rfl) rfl rfl ⟨(blk_cell BK120.out 0).trans rfl, (blk_cell BK120.out 1).trans rfl⟩ (fun hHeld => ?_); refine with_tabW alcohol_Check.tab6 alcohol_Check.bits6 (fun HT_ HW_ => ?_)
            generalize wc.drew = w20 at BK120 HB hHeld ⊢
            refine pure_ (i := 0) (N := some 35) (v := ?_) (a' := ?_) #[true, false, false, false, false, false, false, false, false, false] rfl rfl (any_of HT_.out (by kernel_rfl)) (fun _ _ _ h => h) (Or.inl ⟨by rfl, ?_⟩) ?_ ?_
            rotate_left
            · intro w'
              go_simp
              with_reducible rfl
            rotate_left
            · simp only [Act.put, List.setIfInBounds_toArray, List.set_cons_zero, List.set_cons_succ, i64_w, i32_w]
              rfl
            refine pure_ (i := 2) (N := some 37) (v := ?_) (a' := ?_) #[true, false, true, false, false, false, false, false, false, false] rfl rfl (any_of HT_.out (by kernel_rfl)) (fun _ _ _ h => h) (Or.inl ⟨by rfl, ?_⟩) ?_ ?_
            rotate_left
            · intro w'
              go_simp
              with_reducible rfl
            rotate_left
            · simp only [Act.put, List.setIfInBounds_toArray, List.set_cons_zero, List.set_cons_succ, i64_w, i32_w]
              rfl
            refine pure_ (i := 5) (N := some 40) (v := ?_) (a' := ?_) #[true, false, true, false, false, true, false, false, false, false] rfl rfl (any_of HT_.out (by kernel_rfl)) (fun _ _ _ h => h) (Or.inl ⟨by rfl, ?_⟩) ?_ ?_
            rotate_left
            · intro w'
              go_simp
              with_reducible rfl
            rotate_left
            · simp only [Act.put, List.setIfInBounds_toArray, List.set_cons_zero, List.set_cons_succ, i64_w, i32_w]
              rfl
            refine take_ (i := 1) (N := some 36) (v := ?_) (a' := ?_) #[true, true, true, false, false, true, false, false, false, false] rfl rfl (take_ofW HT_.out HW_.out (by kernel_rfl)) (fun _ _ _ h => h) (Or.inl ⟨by rfl, ?_⟩) hHeld ?_ ?_
            rotate_left
            · rintro w' ⟨s0, s1⟩
              go_simp
              with_reducible rfl
            rotate_left
            · simp only [Act.put, List.setIfInBounds_toArray, List.set_cons_zero, List.set_cons_succ, i64_w, i32_w]
              rfl
            refine take_ (i := 6) (N := some 41) (v := ?_) (a' := ?_) #[true, true, true, false, false, true, true, false, false, false] rfl rfl (take_ofW HT_.out HW_.out (by kernel_rfl)) (fun _ _ _ h => h) (Or.inl ⟨by rfl, ?_⟩) hHeld ?_ ?_
            rotate_left
            · rintro w' ⟨s0, s1⟩
              go_simp
              with_reducible rfl
            rotate_left
            · simp only [Act.put, List.setIfInBounds_toArray, List.set_cons_zero, List.set_cons_succ, i64_w, i32_w]
              rfl
            refine pure_ (i := 7) (N := some 42) (v := ?_) (a' := ?_) #[true, true, true, false, false, true, true, true, false, false] rfl rfl (any_of HT_.out (by kernel_rfl)) (fun _ _ _ h => h) (Or.inl ⟨by rfl, ?_⟩) ?_ ?_
            rotate_left
            · intro w'
              go_simp
              with_reducible rfl
            rotate_left
            · simp only [Act.put, List.setIfInBounds_toArray, List.set_cons_zero, List.set_cons_succ, i64_w, i32_w]
              rfl
            refine one_ (i := 3) (N := some 38) #[true, true, true, true, false, true, true, true, false, false] rfl rfl (one_of HT_.out (by kernel_rfl)) (by decide) (fun K hK => ?_)
            refine goes_ Try.func25 (by kernel_rfl) rfl #[.slice A0 l0.length c0, .int .i64 10000] (by rfl) rfl rfl (by (try simp only [List.map_toArray, List.map_cons, List.map_nil]); first | done | rfl | (simp only [List.length_drop, List.length_take]; rfl)) ?_
            with_reducible refine (alcohol_of.calls _ _ l0 10000 t123 _ ?side1 ?side2 A16.out).mono ?_
            (case side1 => repeat (first | exact (Kd.C_below HR0.out HB.out) | (with_reducible refine Kd.C_alloc ?_ _) | (with_reducible refine Kd.C_drewN ?_ _) | (with_reducible refine Kd.C_drew ?_)))
            (case side2 => exact HC0.out)
            rintro e w21 ⟨rfl, hb⟩
            refine ⟨_, rfl, ?_⟩
            have n0_ := Aside0.mk (blk_below (g := gb120) (o := .cells #[.int .i64 a1_0, .int .i64 a1_1] 24 (0, 0)) (by (with_reducible repeat (first | refine blk_drewN ?_ _ | refine blk_drew ?_ | refine blk_alloc ?_ _)); exact BK120.out) hb)
            have n1_ := Aside0.mk (below_step (by repeat (first | (with_reducible first | exact HB.out | apply below_alloc | apply pw_below_drewN | apply below_drew1 | refine below_set ?_ GE120.out) | exact HB.out)) hb)
            clear BK120
            clear HB
            have BK120 := n0_
            have HB := n1_
            clear n0_ n1_
            (try clear hb)
            (try clear hb2)
            (try clear hk)
            (try clear hi)
            refine hK.out _ _ ⟨(blk_cell BK120.out 0).trans rfl, (blk_cell BK120.out 1).trans rfl⟩ (fun hHeld => ?_)
            clear hK K
            refine norm_ (a' := ?_) ?_ ?_
            rotate_left
            · show Act.put _ (some 38) _ = _
              simp only [Act.put, List.setIfInBounds_toArray, List.set_cons_zero, List.set_cons_succ, i64_w, i32_w]
              rfl
            refine pure_ (i := 4) (N := some 39) (v := ?_) (a' := ?_) #[true, true, true, true, true, true, true, true, false, false] rfl rfl (any_of HT_.out (by kernel_rfl)) (fun _ _ _ h => h) (Or.inl ⟨by rfl, ?_⟩) ?_ ?_
            rotate_left
            · intro w'
              go_simp
              with_reducible rfl
            rotate_left
            · simp only [Act.put, List.setIfInBounds_toArray, List.set_cons_zero, List.set_cons_succ, i64_w, i32_w]
              rfl
            refine pure_ (i := 8) (N := some 43) (v := ?_) (a' := ?_) #[true, true, true, true, true, true, true, true, true, false] rfl rfl (any_of HT_.out (by kernel_rfl)) (fun _ _ _ h => h) (Or.inl ⟨by rfl, ?_⟩) ?_ ?_
            rotate_left
            · intro w'
              go_simp
              with_reducible rfl
            rotate_left
            · simp only [Act.put, List.setIfInBounds_toArray, List.set_cons_zero, List.set_cons_succ, i64_w, i32_w]
              rfl
            refine pure_ (i := 9) (N := some 34) (v := ?_) (a' := ?_) #[true, true, true, true, true, true, true, true, true, true] rfl rfl (any_of HT_.out (by kernel_rfl)) (fun _ _ _ h => h) (Or.inl ⟨by rfl, ?_⟩) ?_ ?_
            rotate_left
            · intro w'
              go_simp
              with_reducible rfl
            rotate_left
            · simp only [Act.put, List.setIfInBounds_toArray, List.set_cons_zero, List.set_cons_succ, i64_w, i32_w]
              rfl
            refine done_ (done_of HT_.out (by kernel_rfl)) ?_
            try go_wp2
            go_ret
            exact ⟨by first | rfl | (simp [errW_none, errW_some] <;> rfl) | (simp [*, errW_none, errW_some] <;> rfl), by repeat (first | (with_reducible first | exact HB.out | apply below_alloc | apply pw_below_drewN | apply below_drew1 | refine below_set ?_ GE120.out) | exact HB.out)⟩
  · rw [if_neg c4] at H
    have c4b0 : (t122 == 0) = false := beq_eq_false_iff_ne.mpr c4
    have c4b1 : (t122 != 0) = true := bne_iff_ne.mpr c4
    obtain rfl := Option.some.inj H
    go_enter Try.func13, Try.ntmps13
    go_wp2_with (first | ((with_reducible refine gate_dst (N := 3) rfl ?_); refine box_event ?hg (N := 3) ?hd (cs := #[.int .i64 a1_0, .int .i64 a1_1]) (t := 24) ?hr ?_; (case hd => rfl); (case hg => rfl); (case hr => first | (go_simp; done) | (go_simp; rfl)); intro gb120 hg w22 hbox hb; have n0_ := Aside0.mk (below_step (by repeat (first | (with_reducible first | exact HB.out | apply below_alloc | apply pw_below_drewN | apply below_drew1) | exact HB.out)) hb); have n1_ := Aside0.mk (hbox); have n2_ := Aside0.mk ((by rw [hg]; exact (below_size (by repeat (first | (with_reducible first | exact HB.out | apply below_alloc | apply pw_below_drewN | apply below_drew1) | exact HB.out))) : w.heap.size ≤ gb120)); have n3_ := Aside0.mk ((by rw [hg]; exact (below_size (by repeat (first | (with_reducible first | exact HB.out | apply below_alloc | apply pw_below_drewN | apply below_drew1) | exact HB.out))) : w.heap.size ≤ gb120)); clear HB; have HB := n0_; have BK120 := n1_; have GW120 := n2_; have GE120 := n3_; clear n0_ n1_ n2_ n3_; clear hb hbox hg) | ((with_reducible refine gate_callee (f := 24) rfl ?_); refine goesL_ (some 9) rfl rfl Try.func24 (by kernel_rfl) rfl #[.slice A0 l0.length c0] rfl (by (try simp only [List.map_toArray, List.map_cons, List.map_nil]); first | done | rfl | (simp only [List.length_drop, List.length_take]; rfl)) ?_; (with_reducible refine (density_Check_s.calls _ _ l0 t121 t122 _ ?side1 ?side2 A3.out).mono ?_); (case side1 => repeat (first | exact (Kd.C_below HR0.out HB.out) | (with_reducible refine Kd.C_alloc ?_ _) | (with_reducible refine Kd.C_drewN ?_ _) | (with_reducible refine Kd.C_drew ?_))); (case side2 => exact HC0.out); rintro e w23 ⟨rfl, hb⟩; refine ⟨_, rfl, ?_⟩; have n0_ := Aside0.mk (blk_below (g := gb120) (o := .cells #[.int .i64 a1_0, .int .i64 a1_1] 24 (0, 0)) (by (with_reducible repeat (first | refine blk_drewN ?_ _ | refine blk_drew ?_ | refine blk_alloc ?_ _)); exact BK120.out) hb); have n1_ := Aside0.mk (below_step (by repeat (first | (with_reducible first | exact HB.out | apply below_alloc | apply pw_below_drewN | apply below_drew1 | refine below_set ?_ GE120.out) | exact HB.out)) hb); clear BK120; clear HB; have BK120 := n0_; have HB := n1_; clear n0_ n1_; (try clear hb); (try clear hb2); (try clear hk); (try clear hi)))
    go_ret
    exact ⟨by first | rfl | (simp [errW_none, errW_some] <;> rfl) | (simp [*, errW_none, errW_some] <;> rfl), by repeat (first | (with_reducible first | exact HB.out | apply below_alloc | apply pw_below_drewN | apply below_drew1 | refine below_set ?_ GE120.out) | exact HB.out)⟩
/-! The faults of a liquid, plainly. -/
def lchk (l : List S42) (a m : Int) : Int :=
  if (dchk l).2 = 0 then (if a < 0 ∨ a > 10737418240000 ∨ m < 0 ∨ m > 128849018880000 then 2 else if a * dens l 10000 > m * 10000 then 10 else 0) else 1
theorem RightT.of_ {l : List S42} (h : RightT l) {s : Int} (h0 : 0 ≤ s) (h1 : s ≤ 10000) : alcohol_of.f l s = some (dens l s) := by
  unfold alcohol_of.f interpolate_Density.f interpolate_right.f density_Check_s.f
  simp only [Option.bind_some, (right_iff l).2 h, beq_self_eq_true, if_true]
  rw [if_neg (by omega), if_neg (by omega), h.at h0 h1]
  rfl
theorem wmul {x y X Y : Int} (hx : 0 ≤ x) (hX : x ≤ X) (hy : 0 ≤ y) (hY : y ≤ Y) (h : X * Y ≤ 9223372036854775807) : wrap64 (x * y) = x * y := by
  have := mul_rng hx hX hy hY
  exact w64_ (by omega) (by omega)
theorem alcohol_Check.plain (l : List S42) (a m : Int) : alcohol_Check.f 1 l a m = some (lchk l a m) := by
  unfold alcohol_Check.f lchk density_Check_s.f
  simp only [Option.bind_some]
  by_cases hr : (dchk l).2 = 0
  · have h := (right_iff l).1 hr
    simp only [if_pos hr, alcohol_Check.j0, h.of_ (show (0 : Int) ≤ 10000 by decide) (show (10000 : Int) ≤ 10000 by decide), Option.bind_some, if_true]
    by_cases h0 : a < 0
    · simp [h0]
    by_cases h1 : a > 10737418240000
    · simp [h0, h1]
    by_cases h2 : m < 0
    · simp [h0, h1, h2]
    by_cases h3 : m > 128849018880000
    · simp [h0, h1, h2, h3]
    have hd := h.dens_rng (show (0 : Int) ≤ 10000 by decide) (show (10000 : Int) ≤ 10000 by decide)
    have w1 : wrap64 (a * dens l 10000) = a * dens l 10000 := wmul (by omega) (show a ≤ 10737418240000 by omega) (by omega) hd.2 (by decide)
    have w2 : wrap64 (m * 10000) = m * 10000 := w64_ (by omega) (by omega)
    rw [w1, w2]
    generalize a * dens l 10000 = x
    by_cases h4 : x > m * 10000
    · simp [h0, h1, h2, h3, h4]
    · simp [h0, h1, h2, h3, h4]
  · simp only [if_neg hr]
def alcohol_Check_s.f (l0 : List S42) (a1_0 a1_1 : Int) : Option Int := some (lchk l0 a1_0 a1_1)
theorem alcohol_Check_s.calls (A0 : Option Addr) (c0 : Nat) (l0 : List S42) (a1_0 a1_1 : Int) (r : Int) (w : World) (hr0 : Kd.C k42 w A0 l0.length l0) (hc0 : l0.length ≤ c0) (h : alcohol_Check_s.f l0 a1_0 a1_1 = some r) :
    Calls Try.prog 13 #[.slice A0 l0.length c0, .agg #[.int .i64 a1_0, .int .i64 a1_1]] w fun e w' => e = .returned (.int .i64 r) ∧ Below w.heap.size w w' :=
  alcohol_Check.calls 1 A0 c0 l0 a1_0 a1_1 r w hr0 hc0 ((alcohol_Check.plain l0 a1_0 a1_1).trans h)

/-! ### Right liquids, and their strength -/
structure LiqOK (l : List S42) (a m : Int) : Prop where
  right : RightT l
  a0 : 0 ≤ a
  a1 : a ≤ 10737418240000
  m0 : 0 ≤ m
  m1 : m ≤ 128849018880000
  fit : a * dens l 10000 ≤ m * 10000
theorem lchk_iff (l : List S42) (a m : Int) : lchk l a m = 0 ↔ LiqOK l a m := by
  unfold lchk
  by_cases hr : (dchk l).2 = 0
  · rw [if_pos hr]
    split
    · constructor
      · intro h; exact absurd h (by decide)
      · intro h; have := h.a0; have := h.a1; have := h.m0; have := h.m1; omega
    split
    · constructor
      · intro h; exact absurd h (by decide)
      · intro h; have := h.fit; omega
    · exact ⟨fun _ => ⟨(right_iff l).1 hr, by omega, by omega, by omega, by omega, by omega⟩, fun _ => rfl⟩
  · rw [if_neg hr]
    constructor
    · intro h; exact absurd h (by decide)
    · intro h; exact absurd ((right_iff l).2 h.right) hr
theorem lchk_vals (l : List S42) (a m : Int) : lchk l a m = 0 ∨ lchk l a m = 1 ∨ lchk l a m = 2 ∨ lchk l a m = 10 := by
  unfold lchk
  split
  · split
    · simp
    · split <;> simp
  · simp

theorem countP_mono (n : Nat) (p : Nat → Bool) (hm : ∀ a b, a ≤ b → b < n → p a = true → p b = true) :
    (List.range n).countP (fun i => !p i) ≤ n ∧ (∀ t, t < (List.range n).countP (fun i => !p i) → p t = false) ∧ (∀ t, (List.range n).countP (fun i => !p i) ≤ t → t < n → p t = true) := by
  induction n with
  | zero => exact ⟨by simp, fun t ht => by simp at ht, fun t _ h => by omega⟩
  | succ n ih =>
    obtain ⟨i1, i2, i3⟩ := ih (fun a b h1 h2 => hm a b h1 (by omega))
    rw [List.range_succ, List.countP_append, List.countP_singleton]
    cases hp : p n with
    | true =>
      simp only [Bool.not_true, Bool.false_eq_true, if_false, Nat.add_zero]
      refine ⟨by omega, i2, fun t h1 h2 => ?_⟩
      rcases Nat.lt_or_ge t n with h3 | h3
      · exact i3 t h1 h3
      · obtain rfl : t = n := by omega
        exact hp
    | false =>
      have e : (List.range n).countP (fun i => !p i) = n := by
        rcases Nat.lt_or_ge ((List.range n).countP (fun i => !p i)) n with h3 | h3
        · have := hm (n - 1) n (by omega) (by omega) (i3 (n - 1) (by omega) (by omega))
          rw [hp] at this
          cases this
        · omega
      simp only [Bool.not_false, if_true]
      rw [e] at i2 ⊢
      refine ⟨Nat.le_refl _, fun t ht => ?_, fun t h1 h2 => by omega⟩
      rcases Nat.lt_or_ge t n with h3 | h3
      · exact i2 t h3
      · obtain rfl : t = n := by omega
        exact hp

/-- Is the alcohol too little for a strength? -/
def weak (l : List S42) (a m s : Int) : Bool := decide (a * dens l s < m * s)
theorem LiqOK.weak_mono {l : List S42} {a m : Int} (h : LiqOK l a m) {s t : Int} (h0 : 0 ≤ s) (hst : s ≤ t) (ht : t ≤ 10000) (hw : weak l a m s = true) : weak l a m t = true := by
  unfold weak at *
  simp only [decide_eq_true_eq] at *
  have e1 := Int.mul_le_mul_of_nonneg_left (h.right.dens_anti h0 hst ht) h.a0
  have e2 := Int.mul_le_mul_of_nonneg_left hst h.m0
  omega
def gradeS (l : List S42) (a m : Int) : Int := if m = 0 then 0 else ((List.range 10001).countP (fun (i : Nat) => !(weak l a m (i : Int))) : Nat) - 1
theorem LiqOK.grade {l : List S42} {a m : Int} (h : LiqOK l a m) :
    0 ≤ gradeS l a m ∧ gradeS l a m ≤ 10000 ∧ (∀ s, 0 ≤ s → s ≤ gradeS l a m → m * s ≤ a * dens l s) ∧ (m ≠ 0 → ∀ s, gradeS l a m < s → s ≤ 10000 → a * dens l s < m * s) := by
  unfold gradeS
  by_cases hm : m = 0
  · rw [if_pos hm]
    refine ⟨by decide, by decide, fun s h1 h2 => ?_, fun h1 => absurd hm h1⟩
    obtain rfl : s = 0 := by omega
    rw [hm, Int.zero_mul]
    exact Int.mul_nonneg h.a0 (by have := (h.right.dens_rng (show (0 : Int) ≤ 0 by decide) (by decide)).1; omega)
  · rw [if_neg hm]
    obtain ⟨c1, c2, c3⟩ := countP_mono 10001 (fun i => weak l a m (i : Int)) (fun a b h1 h2 h3 => h.weak_mono (by omega) (by omega) (by omega) h3)
    generalize hc : (List.range 10001).countP (fun (i : Nat) => !(weak l a m (i : Int))) = c at c1 c2 c3 ⊢
    have c4 : 1 ≤ c := by
      rcases Nat.lt_or_ge 0 c with h1 | h1
      · exact h1
      · have h2 := c3 0 (by omega) (by omega)
        have h3 : weak l a m 0 = true := h2
        unfold weak at h3
        simp only [decide_eq_true_eq, Int.mul_zero] at h3
        have := Int.mul_nonneg h.a0 (show 0 ≤ dens l 0 by have := (h.right.dens_rng (show (0 : Int) ≤ 0 by decide) (by decide)).1; omega)
        omega
    refine ⟨by omega, by omega, fun s h1 h2 => ?_, fun _ s h1 h2 => ?_⟩
    · have h3 := c2 s.toNat (by omega)
      rw [show ((s.toNat : Nat) : Int) = s by omega] at h3
      unfold weak at h3
      simp only [decide_eq_false_iff_not] at h3
      omega
    · have h3 := c3 s.toNat (by omega) (by omega)
      rw [show ((s.toNat : Nat) : Int) = s by omega] at h3
      unfold weak at h3
      simpa using h3
/-- The strength is known by its two sides. -/
theorem LiqOK.grade_eq {l : List S42} {a m : Int} (h : LiqOK l a m) (hm : m ≠ 0) {s : Int} (h0 : 0 ≤ s) (h1 : s ≤ 10000) (h2 : m * s ≤ a * dens l s) (h3 : s < 10000 → a * dens l (s + 1) < m * (s + 1)) : gradeS l a m = s := by
  obtain ⟨g0, g1, g2, g3⟩ := h.grade
  rcases Int.lt_trichotomy (gradeS l a m) s with h4 | h4 | h4
  · have := g3 hm s h4 h1; omega
  · exact h4
  · have := g2 (s + 1) (by omega) (by omega)
    have := h3 (by omega)
    omega

/-! ### alcohol_Strength: function 15 (by hand) -/
-- MAKING
set_option maxHeartbeats 4000000 in
set_option maxRecDepth 100000 in
/-- The closure of alcohol.Strength. -/
theorem alcohol_Strength.clo (bt bl : Nat) (A : Option Addr) (c : Nat) (l : List S42) (a m : Int) (i : Nat) (W : World) (hok : LiqOK l a m) (hi : i < 10001) (hcl : l.length ≤ c)
    (ht : W.cell? ⟨bt, 0, none⟩ = some (.slice A l.length c)) (ha : W.cell? ⟨bl, 0, none⟩ = some (.int .i64 a)) (hm : W.cell? ⟨bl, 1, none⟩ = some (.int .i64 m)) (hr : Kd.C k42 W A l.length l) :
    Calls Try.prog 28 (#[.int .i64 i] ++ #[.pointer (some ⟨bl, 0, none⟩), .pointer (some ⟨bt, 0, none⟩)]) W fun e w' => e = .returned (.bool (weak l a m (i : Int))) ∧ Below W.heap.size W w' := by
  have hu := Try.underlying24
  have hd := hok.right.dens_rng (s := (i : Int)) (by omega) (by omega)
  have hof := Aside0.mk (fun w' hb => alcohol_of.calls A c l (i : Int) (dens l i) w' (Kd.C_below hr hb) hcl (hok.right.of_ (by omega) (by omega)))
  have w1 : wrap64 (a * dens l i) = a * dens l i := wmul hok.a0 hok.a1 (by omega) hd.2 (by decide)
  have w2 : wrap64 (m * (i : Int)) = m * (i : Int) := wmul hok.m0 hok.m1 (by omega) (show (i : Int) ≤ 10000 by omega) (by decide)
  have W1 := Aside0.mk w1
  have W2 := Aside0.mk w2
  have HB := Aside0.mk (Below.refl W.heap.size W)
  clear w1 w2 hok hr hcl hd
  unfold weak
  generalize dens l i = d at hof W1 ⊢
  go_enter Try.func28, Try.ntmps28
  go_wp2
  go_region_held3 (fun w' => w'.cell? ⟨bt, 0, none⟩ = some (.slice A l.length c) ∧ w'.cell? ⟨bl, 0, none⟩ = some (.int .i64 a) ∧ w'.cell? ⟨bl, 1, none⟩ = some (.int .i64 m) ∧ Aside0 (Below W.heap.size W w'))
    (first | exact ⟨ht, ha, hm, ⟨below_drew1 HB.out⟩⟩ | exact ⟨pw_cell_below hb ht, pw_cell_below hb ha, pw_cell_below hb hm, ⟨below_step (below_drew1 HB.out) hb⟩⟩)
    (first | (go_at_call 25; refine (hof.out _ (below_drew1 HB.out)).mono ?_; rintro e w' ⟨rfl, hb⟩))
  have hb' := Aside0.mk (below_step (below_drew1 HB.out) hb)
  clear hb
  go_wp2
  go_ret
  exact ⟨by rw [i64_w, i64_w, W1.out, W2.out]; rfl, hb'.out⟩
theorem alcohol_Strength.eqL (d : Nat) (w : World) (x0 y0 x1 y1 : Int) :
    (Op.equalIn (d + 2) 24 (.agg #[.int .i64 x0, .int .i64 x1]) (.agg #[.int .i64 y0, .int .i64 y1])).run Try.prog w = .ok (x0 == y0 && (x1 == y1)) w := by
  refine eqA_of Try.underlying24 (by kernel_rfl) ?_
  refine eqf_cons (by rfl) (by go_simp; rfl) (by go_simp; rfl) (by go_simp) ?_
  exact eqf_last (by rfl) (by go_simp; rfl) (by go_simp; rfl) (by go_simp)
section
attribute [local go_sem high] alcohol_Strength.eqL
def alcohol_Strength.f (l0 : List S42) (a1_0 a1_1 : Int) : Option (Int × Int) := if lchk l0 a1_0 a1_1 = 0 then some (gradeS l0 a1_0 a1_1, 0) else some (0, 1)
set_option maxHeartbeats 4000000 in
set_option maxRecDepth 100000 in
theorem alcohol_Strength.calls (A0 : Option Addr) (c0 : Nat) (l0 : List S42) (a1_0 a1_1 : Int) (r1 r2 : Int) (w : World) (hr0 : Kd.C k42 w A0 l0.length l0) (hc0 : l0.length ≤ c0) (h : alcohol_Strength.f l0 a1_0 a1_1 = some (r1, r2)) :
    Calls Try.prog 15 #[.slice A0 l0.length c0, .agg #[.int .i64 a1_0, .int .i64 a1_1]] w fun e w' => e = .returned (.tuple #[.int .i64 r1, .int .i64 r2]) ∧ Below w.heap.size w w' := by
  have hu := Try.underlying24
  obtain ⟨W0, hW0⟩ : ∃ W0, W0 = (w.alloc (.cells #[.slice A0 l0.length c0] 22)).alloc (.cells #[.int .i64 a1_0, .int .i64 a1_1] 24) := ⟨_, rfl⟩
  have hsize : W0.heap.size = w.heap.size + 1 + 1 := by rw [hW0]; simp
  have hB0 : Below w.heap.size w W0 := by rw [hW0]; exact below_alloc (below_alloc (Below.refl _ _) _) _
  have ct : W0.cell? ⟨w.heap.size, 0, none⟩ = some (.slice A0 l0.length c0) := by rw [hW0]; exact pw_cell_alloc _ (pw_cell_new w _ _)
  have ca : W0.cell? ⟨w.heap.size + 1, 0, none⟩ = some (.int .i64 a1_0) := by rw [hW0]; rw [World.cell?_alloc_at _ _ _ _ (by simp)]; rfl
  have cm : W0.cell? ⟨w.heap.size + 1, 1, none⟩ = some (.int .i64 a1_1) := by rw [hW0]; rw [World.cell?_alloc_at _ _ _ _ (by simp)]; rfl
  have hr : Kd.C k42 W0 A0 l0.length l0 := Kd.C_below hr0 hB0
  have hC := Aside0.mk (fun w' hb r he => alcohol_Check_s.calls A0 c0 l0 a1_0 a1_1 r w' (Kd.C_below hr hb) hc0 he)
  unfold alcohol_Strength.f at h
  have HW0 := Aside0.mk hW0
  have HB0 := Aside0.mk hB0
  have HR := Aside0.mk hr
  clear hW0 hB0 hr hr0
  by_cases hc : lchk l0 a1_0 a1_1 = 0
  · rw [if_pos hc] at h
    obtain ⟨e1, rfl⟩ := Prod.mk.inj (Option.some.inj h)
    clear h
    have hok := (lchk_iff l0 a1_0 a1_1).1 hc
    have hC2 := Aside0.mk (hC.out W0 (Below.refl _ _) _ rfl)
    clear hC
    rw [hc] at hC2
    by_cases hm : a1_1 = 0
    · have ha : a1_0 = 0 := by
        have h1 := hok.fit
        have h2 := (hok.right.dens_rng (show (0 : Int) ≤ 10000 by decide) (by decide)).1
        have h3 := hok.a0
        rw [hm, Int.zero_mul] at h1
        rcases Int.lt_or_eq_of_le h3 with h4 | h4
        · have := Int.mul_pos h4 (show 0 < dens l0 10000 by omega); omega
        · exact h4.symm
      have e0 : r1 = 0 := by rw [← e1, gradeS, if_pos hm]
      clear e1 hc hok
      subst hm ha e0
      go_enter Try.func15, Try.ntmps15
      go_wp2_with fail
      rw [← HW0.out]
      refine hC2.out.mono ?_
      rintro e w' ⟨rfl, hb⟩
      replace ct := pw_cell_below hb ct
      replace ca := pw_cell_below hb ca
      replace cm := pw_cell_below hb cm
      have HB := Aside0.mk (below_then HB0.out HB0.out.size hb)
      clear hb HB0
      go_wp2
      go_ret2
      exact ⟨rfl, HB.out⟩
    · have hmb : (a1_1 == 0) = false := beq_eq_false_iff_ne.mpr hm
      have eg : ∀ args w, (callFunc 28 args).run Try.prog w = .ok (.enter 28 args) w := enters_of Try.func28 (by kernel_rfl) rfl
      have hS := fun w' (hb : Below W0.heap.size W0 w') => sort_Search.below 28 #[.pointer (some ⟨w.heap.size + 1, 0, none⟩), .pointer (some ⟨w.heap.size, 0, none⟩)] 10001 (fun i => weak l0 a1_0 a1_1 (i : Int)) w' eg (by decide)
        (fun W i hi hb2 => alcohol_Strength.clo w.heap.size (w.heap.size + 1) A0 c0 l0 a1_0 a1_1 i W hok hi hc0 (pw_cell_below hb2 (pw_cell_below hb ct)) (pw_cell_below hb2 (pw_cell_below hb ca)) (pw_cell_below hb2 (pw_cell_below hb cm)) (Kd.C_below (Kd.C_below HR.out hb) hb2))
        (fun a b h1 h2 h3 => hok.weak_mono (by omega) (by omega) (by omega) h3)
      have HS := Aside0.mk hS
      rw [gradeS, if_neg hm] at e1
      clear hS eg hok hc
      obtain ⟨c, hcq⟩ : ∃ c, (List.range 10001).countP (fun (i : Nat) => !(weak l0 a1_0 a1_1 (i : Int))) = c := ⟨_, rfl⟩
      have hcl : c ≤ 10001 := by rw [← hcq]; have := List.countP_le_length (p := fun (i : Nat) => !(weak l0 a1_0 a1_1 (i : Int))) (l := List.range 10001); rwa [List.length_range] at this
      simp only [hcq] at HS e1
      clear hcq
      subst e1
      have hw : IntKind.i64.wrap ((c : Int) - 1) = (c : Int) - 1 := by rw [i64_w]; exact w64_ (by omega) (by omega)
      have HWR := Aside0.mk hw
      clear hw
      go_enter Try.func15, Try.ntmps15
      go_wp2_with fail
      rw [← HW0.out]
      refine hC2.out.mono ?_
      rintro e w' ⟨rfl, hb⟩
      replace ct := pw_cell_below hb ct
      replace ca := pw_cell_below hb ca
      replace cm := pw_cell_below hb cm
      have HB := Aside0.mk (below_then HB0.out HB0.out.size hb)
      have HS2 := Aside0.mk (HS.out w' hb)
      clear hb HB0 HS HR
      go_wp2_with (refine HS2.out.mono ?_; rintro e w2 ⟨rfl, hb2⟩)
      have HB2 := Aside0.mk (below_then HB.out HB.out.size hb2)
      clear hb2 HB
      go_ret2
      exact ⟨by first | rfl | (rw [HWR.out]; rfl), HB2.out⟩
  · rw [if_neg hc] at h
    obtain ⟨rfl, rfl⟩ := Prod.mk.inj (Option.some.inj h)
    have hcb : (lchk l0 a1_0 a1_1 != 0) = true := bne_iff_ne.mpr hc
    clear h hc
    have hC2 := Aside0.mk (hC.out W0 (Below.refl _ _) _ rfl)
    clear hC
    generalize lchk l0 a1_0 a1_1 = q at hC2 hcb
    go_enter Try.func15, Try.ntmps15
    go_wp2_with fail
    rw [← HW0.out]
    refine hC2.out.mono ?_
    rintro e w' ⟨rfl, hb⟩
    have HB := Aside0.mk (below_then HB0.out HB0.out.size hb)
    clear hb HB0
    go_wp2
    go_ret2
    exact ⟨rfl, HB.out⟩
end

/-! ### alcohol_Volume: function 16 -/
def alcohol_Volume.f (l0 : List (S42)) (a1_0 : Int) (a1_1 : Int) : Option (Int × Int) := (alcohol_Strength.f l0 a1_0 a1_1).bind fun bt125 => (if bt125.2 = 0 then ((alcohol_of.f l0 bt125.1).bind fun t127 => (if t127 = 0 then (none) else (some (wrap64 (Int.tdiv a1_1 t127), 0)))) else (some (0, bt125.2)))
def alcohol_Volume.T4 : Bool × List (List Nat × List Nat) := (true, [([], []), ([0], [0]), ([], []), ([], []), ([2, 3], [2, 3]), ([1, 4], [1, 4]), ([5, 4, 0, 1, 2, 3, 4, 5], [5]), ([6, 0, 1, 2, 3, 4, 5, 6], [])])
def alcohol_Volume.B4 : List Nat := [0, 1, 0, 0, 12, 31, 63, 127]
theorem alcohol_Volume.tab4 : rtab .any (opsOf Try.f16 4) = alcohol_Volume.T4 := by kernel_rfl
theorem alcohol_Volume.bits4 : waitsOk alcohol_Volume.T4.2 alcohol_Volume.B4 = true := by kernel_rfl
set_option maxHeartbeats 8000000 in
set_option maxRecDepth 100000 in
theorem alcohol_Volume.calls (A0 : Option Addr) (c0 : Nat) (l0 : List (S42)) (a1_0 : Int) (a1_1 : Int) (r1 : Int) (r2 : Int) (w : World) (hr0 : Kd.C k42 w A0 l0.length l0) (hc0 : l0.length ≤ c0) (h : alcohol_Volume.f l0 a1_0 a1_1 = some (r1, r2)) :
    Calls Try.prog 16 #[.slice A0 l0.length c0, .agg #[.int .i64 a1_0, .int .i64 a1_1]] w fun e w' => e = .returned (.tuple #[.int .i64 r1, .int .i64 r2]) ∧ Below w.heap.size w w' := by
  have hu24 := Try.underlying24
  have HR0 := Aside0.mk hr0
  have HC0 := Aside0.mk hc0
  clear hr0 hc0
  have HB := Aside0.mk (Below.refl w.heap.size w)
  have H : ((alcohol_Strength.f l0 a1_0 a1_1).bind fun bt125 => (if bt125.2 = 0 then ((alcohol_of.f l0 bt125.1).bind fun t127 => (if t127 = 0 then (none) else (some (wrap64 (Int.tdiv a1_1 t127), 0)))) else (some (0, bt125.2)))) = some (r1, r2) := h
  clear h
  replace H := Option.bind_eq_some_iff.mp H
  obtain ⟨⟨t125, t126⟩, A30, H⟩ := H
  replace H : (if t126 = 0 then ((alcohol_of.f l0 t125).bind fun t127 => (if t127 = 0 then (none) else (some (wrap64 (Int.tdiv a1_1 t127), 0)))) else (some (0, t126))) = some (r1, r2) := H
  have A3 := Aside0.mk A30
  clear A30
  by_cases c4 : t126 = 0
  · rw [if_pos c4] at H
    have c4b0 : (t126 == 0) = true := beq_iff_eq.mpr c4
    have c4b1 : (t126 != 0) = false := bne_eq_false_iff_eq.mpr c4
    clear c4
    replace H := Option.bind_eq_some_iff.mp H
    obtain ⟨t127, A50, H⟩ := H
    replace H : (if t127 = 0 then (none) else (some (wrap64 (Int.tdiv a1_1 t127), 0))) = some (r1, r2) := H
    have A5 := Aside0.mk A50
    clear A50
    by_cases c6 : t127 = 0
    · rw [if_pos c6] at H
      exact absurd H (by simp)
    · rw [if_neg c6] at H
      have c6b0 : (t127 == 0) = false := beq_eq_false_iff_ne.mpr c6
      have c6b1 : (t127 != 0) = true := bne_iff_ne.mpr c6
      simp only [Option.some.injEq, Prod.mk.injEq] at H
      obtain ⟨rfl, rfl⟩ := H
      go_enter Try.func16, Try.ntmps16
      try go_wp2_with (first | ((with_reducible refine gate_dst (N := 3) rfl ?_); refine box_event ?hg (N := 3) ?hd (cs := #[.int .i64 a1_0, .int .i64 a1_1]) (t := 24) ?hr ?_; (case hd => rfl); (case hg => rfl); (case hr => first | (go_simp; done) | (go_simp; rfl)); intro gb124 hg w7 hbox hb; have n0_ := Aside0.mk (below_step (by repeat (first | (with_reducible first | exact HB.out | apply below_alloc | apply pw_below_drewN | apply below_drew1) | exact HB.out)) hb); have n1_ := Aside0.mk (hbox); have n2_ := Aside0.mk ((by rw [hg]; exact (below_size (by repeat (first | (with_reducible first | exact HB.out | apply below_alloc | apply pw_below_drewN | apply below_drew1) | exact HB.out))) : w.heap.size ≤ gb124)); have n3_ := Aside0.mk ((by rw [hg]; exact (below_size (by repeat (first | (with_reducible first | exact HB.out | apply below_alloc | apply pw_below_drewN | apply below_drew1) | exact HB.out))) : w.heap.size ≤ gb124)); clear HB; have HB := n0_; have BK124 := n1_; have GW124 := n2_; have GE124 := n3_; clear n0_ n1_ n2_ n3_; clear hb hbox hg; have hcz8_0 : w7.cell? ⟨gb124, 0, none⟩ = some (.int .i64 a1_0) := (blk_cell BK124.out 0).trans rfl; have hcz8_1 : w7.cell? ⟨gb124, 1, none⟩ = some (.int .i64 a1_1) := (blk_cell BK124.out 1).trans rfl; have hfz8_0 := blk_frozen BK124.out 0; have hfz8_1 := blk_frozen BK124.out 1) | ((with_reducible refine gate_callee (f := 15) rfl ?_); refine goesL_ (some 11) rfl rfl Try.func15 (by kernel_rfl) rfl #[.slice A0 l0.length c0, .agg #[.int .i64 a1_0, .int .i64 a1_1]] rfl (by (try simp only [List.map_toArray, List.map_cons, List.map_nil]); first | done | rfl | (simp only [List.length_drop, List.length_take]; rfl)) ?_; (with_reducible refine (alcohol_Strength.calls _ _ l0 a1_0 a1_1 t125 t126 _ ?side1 ?side2 A3.out).mono ?_); (case side1 => repeat (first | exact (Kd.C_below HR0.out HB.out) | (with_reducible refine Kd.C_alloc ?_ _) | (with_reducible refine Kd.C_drewN ?_ _) | (with_reducible refine Kd.C_drew ?_))); (case side2 => exact HC0.out); rintro e w9 ⟨rfl, hb⟩; refine ⟨_, rfl, ?_⟩; have n0_ := Aside0.mk (blk_below (g := gb124) (o := .cells #[.int .i64 a1_0, .int .i64 a1_1] 24 (0, 0)) (by (with_reducible repeat (first | refine blk_drewN ?_ _ | refine blk_drew ?_ | refine blk_alloc ?_ _)); exact BK124.out) hb); have n1_ := Aside0.mk (below_step (by repeat (first | (with_reducible first | exact HB.out | apply below_alloc | apply pw_below_drewN | apply below_drew1 | refine below_set ?_ GE124.out) | exact HB.out)) hb); clear BK124; clear HB; have BK124 := n0_; have HB := n1_; clear n0_ n1_; (try clear hb); (try clear hb2); (try clear hk); (try clear hi)))
      have n0_ := Aside0.mk (blk_drew BK124.out)
      have n1_ := Aside0.mk (below_drew1 HB.out)
      clear BK124
      clear HB
      have BK124 := n0_
      have HB := n1_
      clear n0_ n1_
      refine start_ (n := 8) (S := fun w' => w'.cell? ⟨gb124, 0, none⟩ = some (.int .i64 a1_0) ∧ w'.cell? ⟨gb124, 1, none⟩ = some (.int .i64 a1_1)) (ds := []) #[false, false, false, false, false, false, false, false] (by kernel_rfl) rfl rfl ⟨(blk_cell BK124.out 0).trans rfl, (blk_cell BK124.out 1).trans rfl⟩ (fun hHeld => ?_); refine with_tabW alcohol_Volume.tab4 alcohol_Volume.bits4 (fun HT_ HW_ => ?_)
      generalize w9.drew = w10 at BK124 HB hHeld ⊢
      refine pure_ (i := 0) (N := some 17) (v := ?_) (a' := ?_) #[true, false, false, false, false, false, false, false] rfl rfl (any_of HT_.out (by kernel_rfl)) (fun _ _ _ h => h) (Or.inl ⟨by rfl, ?_⟩) ?_ ?_
      rotate_left
      · intro w'
        go_simp
        with_reducible rfl
      rotate_left
      · simp only [Act.put, List.setIfInBounds_toArray, List.set_cons_zero, List.set_cons_succ, i64_w, i32_w]
        rfl
      refine pure_ (i := 2) (N := some 19) (v := ?_) (a' := ?_) #[true, false, true, false, false, false, false, false] rfl rfl (any_of HT_.out (by kernel_rfl)) (fun _ _ _ h => h) (Or.inl ⟨by rfl, ?_⟩) ?_ ?_
      rotate_left
      · intro w'
        go_simp
        with_reducible rfl
      rotate_left
      · simp only [Act.put, List.setIfInBounds_toArray, List.set_cons_zero, List.set_cons_succ, i64_w, i32_w]
        rfl
      refine pure_ (i := 3) (N := some 20) (v := ?_) (a' := ?_) #[true, false, true, true, false, false, false, false] rfl rfl (any_of HT_.out (by kernel_rfl)) (fun _ _ _ h => h) (Or.inl ⟨by rfl, ?_⟩) ?_ ?_
      rotate_left
      · intro w'
        go_simp
        with_reducible rfl
      rotate_left
      · simp only [Act.put, List.setIfInBounds_toArray, List.set_cons_zero, List.set_cons_succ, i64_w, i32_w]
        rfl
      refine take_ (i := 1) (N := some 18) (v := ?_) (a' := ?_) #[true, true, true, true, false, false, false, false] rfl rfl (take_ofW HT_.out HW_.out (by kernel_rfl)) (fun _ _ _ h => h) (Or.inl ⟨by rfl, ?_⟩) hHeld ?_ ?_
      rotate_left
      · rintro w' ⟨s0, s1⟩
        go_simp
        with_reducible rfl
      rotate_left
      · simp only [Act.put, List.setIfInBounds_toArray, List.set_cons_zero, List.set_cons_succ, i64_w, i32_w]
        rfl
      refine one_ (i := 4) (N := some 21) #[true, true, true, true, true, false, false, false] rfl rfl (one_of HT_.out (by kernel_rfl)) (by decide) (fun K hK => ?_)
      refine goes_ Try.func25 (by kernel_rfl) rfl #[.slice A0 l0.length c0, .int .i64 t125] (by rfl) rfl rfl (by (try simp only [List.map_toArray, List.map_cons, List.map_nil]); first | done | rfl | (simp only [List.length_drop, List.length_take]; rfl)) ?_
      with_reducible refine (alcohol_of.calls _ _ l0 t125 t127 _ ?side1 ?side2 A5.out).mono ?_
      (case side1 => repeat (first | exact (Kd.C_below HR0.out HB.out) | (with_reducible refine Kd.C_alloc ?_ _) | (with_reducible refine Kd.C_drewN ?_ _) | (with_reducible refine Kd.C_drew ?_)))
      (case side2 => exact HC0.out)
      rintro e w11 ⟨rfl, hb⟩
      refine ⟨_, rfl, ?_⟩
      have n0_ := Aside0.mk (blk_below (g := gb124) (o := .cells #[.int .i64 a1_0, .int .i64 a1_1] 24 (0, 0)) (by (with_reducible repeat (first | refine blk_drewN ?_ _ | refine blk_drew ?_ | refine blk_alloc ?_ _)); exact BK124.out) hb)
      have n1_ := Aside0.mk (below_step (by repeat (first | (with_reducible first | exact HB.out | apply below_alloc | apply pw_below_drewN | apply below_drew1 | refine below_set ?_ GE124.out) | exact HB.out)) hb)
      clear BK124
      clear HB
      have BK124 := n0_
      have HB := n1_
      clear n0_ n1_
      (try clear hb)
      (try clear hb2)
      (try clear hk)
      (try clear hi)
      refine hK.out _ _ ⟨(blk_cell BK124.out 0).trans rfl, (blk_cell BK124.out 1).trans rfl⟩ (fun hHeld => ?_)
      clear hK K
      refine norm_ (a' := ?_) ?_ ?_
      rotate_left
      · show Act.put _ (some 21) _ = _
        simp only [Act.put, List.setIfInBounds_toArray, List.set_cons_zero, List.set_cons_succ, i64_w, i32_w]
        rfl
      refine pure_ (i := 5) (N := some 22) (v := ?_) (a' := ?_) #[true, true, true, true, true, true, false, false] rfl rfl (any_of HT_.out (by kernel_rfl)) (fun _ _ _ h => h) (Or.inl ⟨by rfl, ?_⟩) ?_ ?_
      rotate_left
      · intro w'
        go_simp
        with_reducible rfl
      rotate_left
      · simp only [Act.put, List.setIfInBounds_toArray, List.set_cons_zero, List.set_cons_succ, i64_w, i32_w]
        rfl
      refine pure_ (i := 6) (N := some 4) (v := ?_) (a' := ?_) #[true, true, true, true, true, true, true, false] rfl rfl (any_of HT_.out (by kernel_rfl)) (fun _ _ _ h => h) (Or.inl ⟨by rfl, ?_⟩) ?_ ?_
      rotate_left
      · intro w'
        go_simp
        with_reducible rfl
      rotate_left
      · simp only [Act.put, List.setIfInBounds_toArray, List.set_cons_zero, List.set_cons_succ, i64_w, i32_w]
        rfl
      refine pure_ (i := 7) (N := some 5) (v := ?_) (a' := ?_) #[true, true, true, true, true, true, true, true] rfl rfl (any_of HT_.out (by kernel_rfl)) (fun _ _ _ h => h) (Or.inl ⟨by rfl, ?_⟩) ?_ ?_
      rotate_left
      · intro w'
        go_simp
        with_reducible rfl
      rotate_left
      · simp only [Act.put, List.setIfInBounds_toArray, List.set_cons_zero, List.set_cons_succ, i64_w, i32_w]
        rfl
      refine done_ (done_of HT_.out (by kernel_rfl)) ?_
      try go_wp2
      go_ret2
      exact ⟨by first | rfl | (simp [errW_none, errW_some] <;> rfl) | (simp [*, errW_none, errW_some] <;> rfl), by repeat (first | (with_reducible first | exact HB.out | apply below_alloc | apply pw_below_drewN | apply below_drew1 | refine below_set ?_ GE124.out) | exact HB.out)⟩
  · rw [if_neg c4] at H
    have c4b0 : (t126 == 0) = false := beq_eq_false_iff_ne.mpr c4
    have c4b1 : (t126 != 0) = true := bne_iff_ne.mpr c4
    simp only [Option.some.injEq, Prod.mk.injEq] at H
    obtain ⟨rfl, rfl⟩ := H
    go_enter Try.func16, Try.ntmps16
    go_wp2_with (first | ((with_reducible refine gate_dst (N := 3) rfl ?_); refine box_event ?hg (N := 3) ?hd (cs := #[.int .i64 a1_0, .int .i64 a1_1]) (t := 24) ?hr ?_; (case hd => rfl); (case hg => rfl); (case hr => first | (go_simp; done) | (go_simp; rfl)); intro gb124 hg w12 hbox hb; have n0_ := Aside0.mk (below_step (by repeat (first | (with_reducible first | exact HB.out | apply below_alloc | apply pw_below_drewN | apply below_drew1) | exact HB.out)) hb); have n1_ := Aside0.mk (hbox); have n2_ := Aside0.mk ((by rw [hg]; exact (below_size (by repeat (first | (with_reducible first | exact HB.out | apply below_alloc | apply pw_below_drewN | apply below_drew1) | exact HB.out))) : w.heap.size ≤ gb124)); have n3_ := Aside0.mk ((by rw [hg]; exact (below_size (by repeat (first | (with_reducible first | exact HB.out | apply below_alloc | apply pw_below_drewN | apply below_drew1) | exact HB.out))) : w.heap.size ≤ gb124)); clear HB; have HB := n0_; have BK124 := n1_; have GW124 := n2_; have GE124 := n3_; clear n0_ n1_ n2_ n3_; clear hb hbox hg; have hcz13_0 : w12.cell? ⟨gb124, 0, none⟩ = some (.int .i64 a1_0) := (blk_cell BK124.out 0).trans rfl; have hcz13_1 : w12.cell? ⟨gb124, 1, none⟩ = some (.int .i64 a1_1) := (blk_cell BK124.out 1).trans rfl; have hfz13_0 := blk_frozen BK124.out 0; have hfz13_1 := blk_frozen BK124.out 1) | ((with_reducible refine gate_callee (f := 15) rfl ?_); refine goesL_ (some 11) rfl rfl Try.func15 (by kernel_rfl) rfl #[.slice A0 l0.length c0, .agg #[.int .i64 a1_0, .int .i64 a1_1]] rfl (by (try simp only [List.map_toArray, List.map_cons, List.map_nil]); first | done | rfl | (simp only [List.length_drop, List.length_take]; rfl)) ?_; (with_reducible refine (alcohol_Strength.calls _ _ l0 a1_0 a1_1 t125 t126 _ ?side1 ?side2 A3.out).mono ?_); (case side1 => repeat (first | exact (Kd.C_below HR0.out HB.out) | (with_reducible refine Kd.C_alloc ?_ _) | (with_reducible refine Kd.C_drewN ?_ _) | (with_reducible refine Kd.C_drew ?_))); (case side2 => exact HC0.out); rintro e w14 ⟨rfl, hb⟩; refine ⟨_, rfl, ?_⟩; have n0_ := Aside0.mk (blk_below (g := gb124) (o := .cells #[.int .i64 a1_0, .int .i64 a1_1] 24 (0, 0)) (by (with_reducible repeat (first | refine blk_drewN ?_ _ | refine blk_drew ?_ | refine blk_alloc ?_ _)); exact BK124.out) hb); have n1_ := Aside0.mk (below_step (by repeat (first | (with_reducible first | exact HB.out | apply below_alloc | apply pw_below_drewN | apply below_drew1 | refine below_set ?_ GE124.out) | exact HB.out)) hb); clear BK124; clear HB; have BK124 := n0_; have HB := n1_; clear n0_ n1_; (try clear hb); (try clear hb2); (try clear hk); (try clear hi)))
    go_ret2
    exact ⟨by first | rfl | (simp [errW_none, errW_some] <;> rfl) | (simp [*, errW_none, errW_some] <;> rfl), by repeat (first | (with_reducible first | exact HB.out | apply below_alloc | apply pw_below_drewN | apply below_drew1 | refine below_set ?_ GE124.out) | exact HB.out)⟩

end Go.Proofs.Ytdfghldnialmbaa.PF
