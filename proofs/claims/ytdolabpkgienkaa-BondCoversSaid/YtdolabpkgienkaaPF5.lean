-- Written by a program of this session (wip/pr.py) out of Lean's print of the translation; Lean checks it.
import Derived.Test.YtdolabpkgienkaaPF0
import Derived.Test.YtdolabpkgienkaaPF1
import Derived.Test.YtdolabpkgienkaaPF3
import Derived.Test.YtdolabpkgienkaaPF4
namespace Go.Proofs.Ytdolabpkgienkaa.PF
open Go.RowKit Go.Proofs.YtdolabpkgienkaaW.PrintWords Go.Proofs.YtdolabpkgienkaaW.PrintLast Go.Proofs.YtdolabpkgienkaaW.PrintMore
attribute [local go_sem] max2_int min2_int max_two min_two max_three min_three max_four min_four   -- for this text's walks alone
set_option linter.unusedVariables false
set_option linter.unusedSimpArgs false

/-! ### api_Hold_16: function 16 -/
-- MAKING
theorem api_Hold_16.info : (Try.prog.info? 35).map (fun i => (i.zero, i.size, i.bytes)) = some (some (.agg #[(.int .i64 0), (.int .i64 0), (.int .i64 0)]), 3, 24) := by kernel_rfl
theorem api_Hold_16.eqn (w : World) (a : Option Addr) (l c : Nat) : (binOp .eql 23 (.slice a l c) (.slice none 0 0)).run Try.prog w = .ok (.bool a.isNone) w := by
  simp only [binOp]
  simp [run_equal_slice_nil w 23 35 a l c Try.underlying23]
section
attribute [local go_sem] api_Hold_16.eqn
def api_Hold_16.f (l0 : List S35) : Option (List S35) := if l0.length < 5864062014805 then some l0 else none
set_option maxHeartbeats 4000000 in
set_option maxRecDepth 100000 in
theorem api_Hold_16.calls (A0 : Option Addr) (c0 : Nat) (l0 : List S35) (r : List S35) (w : World) (hr0 : Kd.C k35 w A0 l0.length l0) (hc0 : l0.length ≤ c0) (h : api_Hold_16.f l0 = some r) :
    Calls Try.prog 16 #[.slice A0 l0.length c0] w fun e w' => ∃ v0_ : Value, e = .returned (v0_) ∧ Kd.R k35 35 w' w.heap.size (fun _ => True) v0_ r ∧ Below w.heap.size w w' := by
  unfold api_Hold_16.f at h
  by_cases hl : l0.length < 5864062014805
  case neg => rw [if_neg hl] at h; exact absurd h (by simp)
  rw [if_pos hl] at h
  obtain rfl := Option.some.inj h
  clear h
  have HL := Aside0.mk hl
  have HR := Aside0.mk hr0
  clear hl
  cases A0 with
  | none =>
    have e0 : l0 = [] := by
      rcases Nat.eq_zero_or_pos l0.length with h0 | h0
      · exact List.eq_nil_of_length_eq_zero h0
      · obtain ⟨ad, h1, _⟩ := hr0.2.2 h0
        cases h1
    subst e0
    clear HR HL hc0 hr0
    go_enter Try.func16, Try.ntmps16
    go_wp2
    go_ret
    exact ⟨_, rfl, Kd.R_nil _ _ _ _ _, Below.refl _ _⟩
  | some ad =>
    clear hr0
    go_enter Try.func16, Try.ntmps16
    go_wp2_with (first | ((with_reducible refine gate_dst (N := 5) rfl ?_); refine Kd.R_lit k35 _ 35 ?hg (N := 5) ?hd (xs := ([] : List (S35))) (inner := []) (ok := fun _ => True) (okp := fun _ => True) ?hr ?hp (fun _ hk => hk) trivial (Below.refl _ _) (Nat.le_refl _) (by simp) ?_; (case hd => rfl); (case hg => rfl); (case hr => first | (go_simp; done) | (go_simp; rfl)); (case hp => exact (Reps.none _ _)); intro v1 w1 ho1 hb hg_ hnew_; clear hg_ hnew_; have HO1 := Aside0.mk ho1; have HB1 := Aside0.mk hb; clear ho1 hb) | ((with_reducible refine gate_builtin (b := .append) (xs := #[.tmp 5, .tmp 6]) rfl ?_); at_builtin; refine Kd.R_append_rows k35 (w0 := w) w.heap.size rfl (.tmp 5) (.tmp 6) 23 35 (.agg #[(.int .i64 0), (.int .i64 0), (.int .i64 0)]) 24 rfl Try.underlying23 api_Hold_16.info rfl (by decide) (by omega) v1 [] l0 _ _ _ (fun _ => True) (fun _ => False) rfl rfl ?aO ?aR (fun _ _ h => h) (fun _ h => h.elim) ?aF ?aB ?aS ?aL ?_; (case aR => exact (Kd.C_below HR.out HB1.out)); (case aB => exact HB1.out); (case aF => exact (fun _ _ => trivial)); (case aO => exact HO1.out); (case aS => exact HB1.out.size); (case aL => have := HL.out; simp only [List.length_nil]; omega); intro v2 w2 ho hb hg hat; clear hg hat; have HO2 := Aside0.mk ho; have HB2 := Aside0.mk hb; clear ho hb))
    go_ret
    exact ⟨_, rfl, HO2.out, HB2.out⟩
end

/-! ### bond_asks: function 42 -/
def bond_asks.f (l0 : List (S31)) (l1 : List (S35)) : Option (Int) := (bond_Holds.f l0 l1).bind fun bt108 => (if bt108.2 = 0 then (some 0) else (some 1))
set_option maxHeartbeats 8000000 in
set_option maxRecDepth 100000 in
theorem bond_asks.calls (A0 : Option Addr) (c0 : Nat) (l0 : List (S31)) (A1 : Option Addr) (c1 : Nat) (l1 : List (S35)) (r : Int) (w : World) (hr0 : Kd.C k31 w A0 l0.length l0) (hc0 : l0.length ≤ c0) (hr1 : Kd.C k35 w A1 l1.length l1) (hc1 : l1.length ≤ c1) (h : bond_asks.f l0 l1 = some r) :
  Calls Try.prog 42 #[.slice A0 l0.length c0, .slice A1 l1.length c1] w fun e w' => e = .returned (.int .i64 r) ∧ Below w.heap.size w w' := by
 have HR0 := Aside0.mk hr0
 have HC0 := Aside0.mk hc0
 clear hr0 hc0
 have HR1 := Aside0.mk hr1
 have HC1 := Aside0.mk hc1
 clear hr1 hc1
 have HB := Aside0.mk (Below.refl w.heap.size w)
 have H : ((bond_Holds.f l0 l1).bind fun bt108 => (if bt108.2 = 0 then (some 0) else (some 1))) = some r := h
 clear h
 replace H := Option.bind_eq_some_iff.mp H
 obtain ⟨⟨t108, t109⟩, A30, H⟩ := H
 replace H : (if t109 = 0 then (some 0) else (some 1)) = some r := H
 have A3 := Aside0.mk A30
 clear A30
 by_cases c4 : t109 = 0
 ·rw [if_pos c4] at H
  have c4b0 : (t109 == 0) = true := beq_iff_eq.mpr c4
  have c4b1 : (t109 != 0) = false := bne_eq_false_iff_eq.mpr c4
  clear c4
  obtain rfl := Option.some.inj H
  go_enter Try.func42, Try.ntmps42
  go_wp2_with (first | ((with_reducible refine gate_callee (f := 15) rfl ?_); refine goesL_ (some 10) rfl rfl Try.func15 (by kernel_rfl) rfl #[.slice A0 l0.length c0, .slice A1 l1.length c1] rfl (by (try simp only [List.map_toArray, List.map_cons, List.map_nil]); first | done | rfl | (simp only [List.length_drop, List.length_take]; rfl)) ?_; (with_reducible refine (bond_Holds.calls _ _ l0 _ _ l1 t108 t109 _ ?side1 ?side2 ?side3 ?side4 A3.out).mono ?_); (case side1 => repeat (first | exact HR0.out | (with_reducible refine Kd.C_alloc ?_ _) | (with_reducible refine Kd.C_drewN ?_ _) | (with_reducible refine Kd.C_drew ?_))); (case side2 => exact HC0.out); (case side3 => repeat (first | exact HR1.out | (with_reducible refine Kd.C_alloc ?_ _) | (with_reducible refine Kd.C_drewN ?_ _) | (with_reducible refine Kd.C_drew ?_))); (case side4 => exact HC1.out); rintro e w5 ⟨rfl, hb⟩; refine ⟨_, rfl, ?_⟩; have n0_ := Aside0.mk (below_step (by repeat (first | (with_reducible first | exact HB.out | apply below_alloc | apply pw_below_drewN | apply below_drew1) | exact HB.out)) hb); clear HB; have HB := n0_; clear n0_; (try clear hb); (try clear hb2); (try clear hk); (try clear hi)))
  go_ret
  exact ⟨by first | rfl | (simp [errW_none, errW_some] <;> rfl) | (simp [*, errW_none, errW_some] <;> rfl), by repeat (first | (with_reducible first | exact HB.out | apply below_alloc | apply pw_below_drewN | apply below_drew1) | exact HB.out)⟩
 ·rw [if_neg c4] at H
  have c4b0 : (t109 == 0) = false := beq_eq_false_iff_ne.mpr c4
  have c4b1 : (t109 != 0) = true := bne_iff_ne.mpr c4
  obtain rfl := Option.some.inj H
  go_enter Try.func42, Try.ntmps42
  go_wp2_with (first | ((with_reducible refine gate_callee (f := 15) rfl ?_); refine goesL_ (some 10) rfl rfl Try.func15 (by kernel_rfl) rfl #[.slice A0 l0.length c0, .slice A1 l1.length c1] rfl (by (try simp only [List.map_toArray, List.map_cons, List.map_nil]); first | done | rfl | (simp only [List.length_drop, List.length_take]; rfl)) ?_; (with_reducible refine (bond_Holds.calls _ _ l0 _ _ l1 t108 t109 _ ?side1 ?side2 ?side3 ?side4 A3.out).mono ?_); (case side1 => repeat (first | exact HR0.out | (with_reducible refine Kd.C_alloc ?_ _) | (with_reducible refine Kd.C_drewN ?_ _) | (with_reducible refine Kd.C_drew ?_))); (case side2 => exact HC0.out); (case side3 => repeat (first | exact HR1.out | (with_reducible refine Kd.C_alloc ?_ _) | (with_reducible refine Kd.C_drewN ?_ _) | (with_reducible refine Kd.C_drew ?_))); (case side4 => exact HC1.out); rintro e w6 ⟨rfl, hb⟩; refine ⟨_, rfl, ?_⟩; have n0_ := Aside0.mk (below_step (by repeat (first | (with_reducible first | exact HB.out | apply below_alloc | apply pw_below_drewN | apply below_drew1) | exact HB.out)) hb); clear HB; have HB := n0_; clear n0_; (try clear hb); (try clear hb2); (try clear hk); (try clear hi)))
  go_ret
  exact ⟨by first | rfl | (simp [errW_none, errW_some] <;> rfl) | (simp [*, errW_none, errW_some] <;> rfl), by repeat (first | (with_reducible first | exact HB.out | apply below_alloc | apply pw_below_drewN | apply below_drew1) | exact HB.out)⟩

/-! ### bond_free: function 43 -/
def bond_free.l0 : Nat → Int → List (S35) → Int → Int → Int → Int → Int → Int → Option (Int)
 | 0, _, _, _, _, _, _, _, _ => none
 | k + 1, x5, x10, x11, x12, x111000, x111001, x111002, x111003 => if x12 < x11 then (if 0 ≤ x12 then (if x12 < (x10.length : Int) then (if ((rd_T35 x10 x12).f0) = x111000 then (bond_free.l0 k (wrap64 (x5 - ((rd_T35 x10 x12).f2))) x10 x11 (wrap64 (x12 + 1)) x111000 x111001 x111002 x111003) else (bond_free.l0 k x5 x10 x11 (wrap64 (x12 + 1)) x111000 x111001 x111002 x111003)) else (none)) else (none)) else (some x5)
def bond_free.f (k : Nat) (a0_0 : Int) (a0_1 : Int) (a0_2 : Int) (a0_3 : Int) (l1 : List (S35)) : Option (Int) := bond_free.l0 k a0_3 l1 (l1.length : Int) 0 a0_0 a0_1 a0_2 a0_3
theorem bond_free.mono_l : ∀ k, (∀ y0 y1 y2 y3 y4 y5 y6 y7, LeO (bond_free.l0 k y0 y1 y2 y3 y4 y5 y6 y7) (bond_free.l0 (k + 1) y0 y1 y2 y3 y4 y5 y6 y7))
 | 0 => fun _ _ _ _ _ _ _ _ r h => by simp [bond_free.l0] at h
 | k + 1 => by
  have ih0 := bond_free.mono_l k
  ·intro y0 y1 y2 y3 y4 y5 y6 y7
   unfold bond_free.l0
   repeat' first
   | (with_reducible exact ih0 _ _ _ _ _ _ _ _)
   | (with_reducible exact LeO.refl _)
   | (with_reducible exact LeO.none _)
   | (with_reducible refine LeO.ite ?_ ?_)
   | (with_reducible refine LeO.bind ?_ (fun _ => ?_))
   | exact ih0 _ _ _ _ _ _ _ _
   | exact LeO.none _
   | refine LeO.ite ?_ ?_
   | refine LeO.bind ?_ (fun _ => ?_)
theorem bond_free.mono : ∀ a0 a1 a2 a3 a4 k, LeO (bond_free.f k a0 a1 a2 a3 a4) (bond_free.f (k + 1) a0 a1 a2 a3 a4) := by
 intro a0 a1 a2 a3 a4 k
 have ih0 := bond_free.mono_l k
 unfold bond_free.f
 repeat' first
   | (with_reducible exact ih0 _ _ _ _ _ _ _ _)
   | (with_reducible exact LeO.refl _)
   | (with_reducible exact LeO.none _)
   | (with_reducible refine LeO.ite ?_ ?_)
   | (with_reducible refine LeO.bind ?_ (fun _ => ?_))
   | exact ih0 _ _ _ _ _ _ _ _
   | exact LeO.none _
   | refine LeO.ite ?_ ?_
   | refine LeO.bind ?_ (fun _ => ?_)
set_option maxHeartbeats 8000000 in
set_option maxRecDepth 100000 in
theorem bond_free.calls (k : Nat) (a0_0 : Int) (a0_1 : Int) (a0_2 : Int) (a0_3 : Int) (A1 : Option Addr) (c1 : Nat) (l1 : List (S35)) (r : Int) (w : World) (hr1 : Kd.C k35 w A1 l1.length l1) (hc1 : l1.length ≤ c1) (h : bond_free.f k a0_0 a0_1 a0_2 a0_3 l1 = some r) :
  Calls Try.prog 43 #[.agg #[.int .i64 a0_0, .int .i64 a0_1, .int .i64 a0_2, .int .i64 a0_3], .slice A1 l1.length c1] w fun e w' => e = .returned (.int .i64 r) ∧ Below w.heap.size w w' := by
 have hu31 := Try.underlying31
 have hu35 := Try.underlying35
 have HR1 := Aside0.mk hr1
 have HC1 := Aside0.mk hc1
 clear hr1 hc1
 have HB := Aside0.mk (Below.refl w.heap.size w)
 have H : (bond_free.l0 k a0_3 l1 (l1.length : Int) 0 a0_0 a0_1 a0_2 a0_3) = some r := h
 clear h
 have H' := Aside0.mk H
 clear H
 go_enter Try.func43, Try.ntmps43
 go_wp2_with (first | ((with_reducible refine gate_dst (N := 2) rfl ?_); refine box_event ?hg (N := 2) ?hd (cs := #[.int .i64 a0_0, .int .i64 a0_1, .int .i64 a0_2, .int .i64 a0_3]) (t := 31) ?hr ?_; (case hd => rfl); (case hg => rfl); (case hr => first | (go_simp; done) | (go_simp; rfl)); intro gb110 hg w3 hbox hb; have n0_ := Aside0.mk (below_step (by repeat (first | (with_reducible first | exact HB.out | apply below_alloc | apply pw_below_drewN | apply below_drew1) | exact HB.out)) hb); have n1_ := Aside0.mk (hbox); have n2_ := Aside0.mk ((by rw [hg]; exact (below_size (by repeat (first | (with_reducible first | exact HB.out | apply below_alloc | apply pw_below_drewN | apply below_drew1) | exact HB.out))) : w.heap.size ≤ gb110)); have n3_ := Aside0.mk ((by rw [hg]; exact (below_size (by repeat (first | (with_reducible first | exact HB.out | apply below_alloc | apply pw_below_drewN | apply below_drew1) | exact HB.out))) : w.heap.size ≤ gb110)); clear HB; have HB := n0_; have BK110 := n1_; have GW110 := n2_; have GE110 := n3_; clear n0_ n1_ n2_ n3_; clear hb hbox hg; have hcz4_0 : w3.cell? ⟨gb110, 0, none⟩ = some (.int .i64 a0_0) := (blk_cell BK110.out 0).trans rfl; have hcz4_1 : w3.cell? ⟨gb110, 1, none⟩ = some (.int .i64 a0_1) := (blk_cell BK110.out 1).trans rfl; have hcz4_2 : w3.cell? ⟨gb110, 2, none⟩ = some (.int .i64 a0_2) := (blk_cell BK110.out 2).trans rfl; have hcz4_3 : w3.cell? ⟨gb110, 3, none⟩ = some (.int .i64 a0_3) := (blk_cell BK110.out 3).trans rfl; have hfz4_0 := blk_frozen BK110.out 0; have hfz4_1 := blk_frozen BK110.out 1; have hfz4_2 := blk_frozen BK110.out 2; have hfz4_3 := blk_frozen BK110.out 3))
 go_loopg [5, 12] k (fun kq v5 v12 w' => ∃ (x5_1 : Int) (x12_1 : Int), v5 = .int .i64 x5_1 ∧ v12 = .int .i64 x12_1 ∧ Aside0 (bond_free.l0 kq x5_1 l1 (l1.length : Int) x12_1 a0_0 a0_1 a0_2 a0_3 = some r) ∧ Aside0 (kq ≤ k) ∧ Aside0 (w'.heap[gb110]? = some (.cells #[.int .i64 a0_0, .int .i64 a0_1, .int .i64 a0_2, .int .i64 a0_3] 31 (0, 0))) ∧ Aside0 (Below w.heap.size w w'))
 case atStart => exact ⟨(a0_3), (0), (by first | rfl | (simp; done) | (simp [*]; done)), (by first | rfl | (simp; done) | (simp [*]; done)), H', ⟨Nat.le_refl _⟩, ⟨by (with_reducible repeat (first | refine blk_drewN ?_ _ | refine blk_drew ?_ | refine blk_alloc ?_ _)); exact BK110.out⟩, ⟨by repeat (first | (with_reducible first | exact HB.out | apply below_alloc | apply pw_below_drewN | apply below_drew1 | refine below_set ?_ GE110.out) | exact HB.out)⟩⟩
 case round =>
  clear H'
  try clear c1
  try clear p2
  try clear c4
  try clear hcz4_0
  try clear hcz4_1
  try clear hcz4_2
  try clear hcz4_3
  try clear hfz4_0
  try clear hfz4_1
  try clear hfz4_2
  try clear hfz4_3
  obtain ⟨x5_1, x12_1, rfl, rfl, HA, HK1, BK110, HB⟩ := hrel
  cases gk with
  | zero => exact absurd HA.out (by simp [bond_free.l0])
  | succ k1 =>
   have H := HA.out
   clear HA
   simp only [bond_free.l0] at H
   by_cases c5 : x12_1 < (l1.length : Int)
   ·rw [if_pos c5] at H
    have c5b0 : decide (x12_1 < (l1.length : Int)) = true := decide_eq_true c5
    clear c5
    by_cases c6 : 0 ≤ x12_1
    ·rw [if_pos c6] at H
     have c6b0 : decide (0 ≤ x12_1) = true := decide_eq_true c6
     clear c6
     by_cases c7 : x12_1 < (l1.length : Int)
     ·rw [if_pos c7] at H
      have c7b0 : decide (x12_1 < (l1.length : Int)) = true := decide_eq_true c7
      clear c7
      by_cases c8 : ((rd_T35 l1 x12_1).f0) = a0_0
      ·rw [if_pos c8] at H
       have c8b0 : (((rd_T35 l1 x12_1).f0) == a0_0) = true := beq_iff_eq.mpr c8
       have c8b1 : (((rd_T35 l1 x12_1).f0) != a0_0) = false := bne_eq_false_iff_eq.mpr c8
       clear c8
       have H' := Aside0.mk H
       clear H
       have p111 : 0 ≤ (x12_1 : Int) := of_decide_eq_true (by first | (with_reducible assumption) | assumption)
       have q111 : x12_1 < (l1.length : Int) := of_decide_eq_true (by first | (with_reducible assumption) | assumption)
       obtain ⟨ad111, e111, hx111_0, hx111_1, hx111_2⟩ := at_T35 HR1.out x12_1 p111 q111
       cases e111
       replace hx111_0 := (HB.out.cell (World.block_lt_of_cell? w _ hx111_0)).trans hx111_0
       replace hx111_1 := (HB.out.cell (World.block_lt_of_cell? w _ hx111_1)).trans hx111_1
       replace hx111_2 := (HB.out.cell (World.block_lt_of_cell? w _ hx111_2)).trans hx111_2
       replace p111 := eq_true p111
       replace q111 := eq_true q111
       go_wp2_with (first | ((with_reducible refine gate_dst (N := 7) rfl ?_); refine box_event ?hg (N := 7) ?hd (cs := #[.int .i64 0, .int .i64 0, .int .i64 0]) (t := 35) ?hr ?_; (case hd => rfl); (case hg => rfl); (case hr => first | (go_simp; done) | (go_simp; rfl)); intro gb112 hg w9 hbox hb; have n0_ := Aside0.mk (blk_below (g := gb110) (o := .cells #[.int .i64 a0_0, .int .i64 a0_1, .int .i64 a0_2, .int .i64 a0_3] 31 (0, 0)) (by (with_reducible repeat (first | refine blk_drewN ?_ _ | refine blk_drew ?_ | refine blk_alloc ?_ _)); exact BK110.out) hb); have n1_ := Aside0.mk (below_step (by repeat (first | (with_reducible first | exact HB.out | apply below_alloc | apply pw_below_drewN | apply below_drew1 | refine below_set ?_ GE110.out) | exact HB.out)) hb); have n2_ := Aside0.mk (hbox); have n3_ := Aside0.mk ((by rw [hg]; exact (below_size (by repeat (first | (with_reducible first | exact HB.out | apply below_alloc | apply pw_below_drewN | apply below_drew1 | refine below_set ?_ GE110.out) | exact HB.out))) : w.heap.size ≤ gb112)); have n4_ := Aside0.mk ((by rw [hg]; exact (below_size (by repeat (first | (with_reducible first | exact HB.out | apply below_alloc | apply pw_below_drewN | apply below_drew1 | refine below_set ?_ GE110.out) | exact HB.out))) : w.heap.size ≤ gb112)); have n5_ := Aside0.mk ((by rw [hg]; exact Nat.ne_of_lt (blk_lt (g := gb110) (o := .cells #[.int .i64 a0_0, .int .i64 a0_1, .int .i64 a0_2, .int .i64 a0_3] 31 (0, 0)) (by (with_reducible repeat (first | refine blk_drewN ?_ _ | refine blk_drew ?_ | refine blk_alloc ?_ _)); exact BK110.out)) : gb110 ≠ gb112)); have n6_ := Aside0.mk ((by rw [hg]; exact Nat.ne_of_gt (blk_lt (g := gb110) (o := .cells #[.int .i64 a0_0, .int .i64 a0_1, .int .i64 a0_2, .int .i64 a0_3] 31 (0, 0)) (by (with_reducible repeat (first | refine blk_drewN ?_ _ | refine blk_drew ?_ | refine blk_alloc ?_ _)); exact BK110.out)) : gb112 ≠ gb110)); clear BK110; clear HB; have BK110 := n0_; have HB := n1_; have BK112 := n2_; have GW112 := n3_; have GE112 := n4_; have NB110_112 := n5_; have NB112_110 := n6_; clear n0_ n1_ n2_ n3_ n4_ n5_ n6_; clear hb hbox hg; have hnb10 := NB112_110.out; have hnc10 := NB110_112.out; have hcz11_0 : w9.cell? ⟨gb112, 0, none⟩ = some (.int .i64 0) := (blk_cell BK112.out 0).trans rfl; have hcz11_1 : w9.cell? ⟨gb112, 1, none⟩ = some (.int .i64 0) := (blk_cell BK112.out 1).trans rfl; have hcz11_2 : w9.cell? ⟨gb112, 2, none⟩ = some (.int .i64 0) := (blk_cell BK112.out 2).trans rfl; have hfz11_0 := blk_frozen BK112.out 0; have hfz11_1 := blk_frozen BK112.out 1; have hfz11_2 := blk_frozen BK112.out 2; have hcz12_0 : w9.cell? ⟨gb110, 0, none⟩ = some (.int .i64 a0_0) := (blk_cell BK110.out 0).trans rfl; have hcz12_1 : w9.cell? ⟨gb110, 1, none⟩ = some (.int .i64 a0_1) := (blk_cell BK110.out 1).trans rfl; have hcz12_2 : w9.cell? ⟨gb110, 2, none⟩ = some (.int .i64 a0_2) := (blk_cell BK110.out 2).trans rfl; have hcz12_3 : w9.cell? ⟨gb110, 3, none⟩ = some (.int .i64 a0_3) := (blk_cell BK110.out 3).trans rfl; have hfz12_0 := blk_frozen BK110.out 0; have hfz12_1 := blk_frozen BK110.out 1; have hfz12_2 := blk_frozen BK110.out 2; have hfz12_3 := blk_frozen BK110.out 3))
       go_roundg k1
       case measure => have := HK1.out; omega
       case rel => exact ⟨(wrap64 (x5_1 - ((rd_T35 l1 x12_1).f2))), (wrap64 (x12_1 + 1)), (by first | rfl | (simp; done) | (simp [*]; done)), (by first | rfl | (simp; done) | (simp [*]; done)), H', ⟨by have := HK1.out; omega⟩, ⟨by (with_reducible repeat (first | refine blk_drewN ?_ _ | refine blk_drew ?_ | refine blk_alloc ?_ _)); refine blk_far ?_ NB110_112.out _; (with_reducible repeat (first | refine blk_drewN ?_ _ | refine blk_drew ?_ | refine blk_alloc ?_ _)); refine blk_far ?_ NB110_112.out _; (with_reducible repeat (first | refine blk_drewN ?_ _ | refine blk_drew ?_ | refine blk_alloc ?_ _)); refine blk_far ?_ NB110_112.out _; (with_reducible repeat (first | refine blk_drewN ?_ _ | refine blk_drew ?_ | refine blk_alloc ?_ _)); exact BK110.out⟩, ⟨by repeat (first | (with_reducible first | exact HB.out | apply below_alloc | apply pw_below_drewN | apply below_drew1 | refine below_set ?_ GE110.out | refine below_set ?_ GE112.out) | exact HB.out)⟩⟩
      ·rw [if_neg c8] at H
       have c8b0 : (((rd_T35 l1 x12_1).f0) == a0_0) = false := beq_eq_false_iff_ne.mpr c8
       have c8b1 : (((rd_T35 l1 x12_1).f0) != a0_0) = true := bne_iff_ne.mpr c8
       have H' := Aside0.mk H
       clear H
       have p111 : 0 ≤ (x12_1 : Int) := of_decide_eq_true (by first | (with_reducible assumption) | assumption)
       have q111 : x12_1 < (l1.length : Int) := of_decide_eq_true (by first | (with_reducible assumption) | assumption)
       obtain ⟨ad111, e111, hx111_0, hx111_1, hx111_2⟩ := at_T35 HR1.out x12_1 p111 q111
       cases e111
       replace hx111_0 := (HB.out.cell (World.block_lt_of_cell? w _ hx111_0)).trans hx111_0
       replace hx111_1 := (HB.out.cell (World.block_lt_of_cell? w _ hx111_1)).trans hx111_1
       replace hx111_2 := (HB.out.cell (World.block_lt_of_cell? w _ hx111_2)).trans hx111_2
       replace p111 := eq_true p111
       replace q111 := eq_true q111
       go_wp2_with (first | ((with_reducible refine gate_dst (N := 7) rfl ?_); refine box_event ?hg (N := 7) ?hd (cs := #[.int .i64 0, .int .i64 0, .int .i64 0]) (t := 35) ?hr ?_; (case hd => rfl); (case hg => rfl); (case hr => first | (go_simp; done) | (go_simp; rfl)); intro gb112 hg w13 hbox hb; have n0_ := Aside0.mk (blk_below (g := gb110) (o := .cells #[.int .i64 a0_0, .int .i64 a0_1, .int .i64 a0_2, .int .i64 a0_3] 31 (0, 0)) (by (with_reducible repeat (first | refine blk_drewN ?_ _ | refine blk_drew ?_ | refine blk_alloc ?_ _)); exact BK110.out) hb); have n1_ := Aside0.mk (below_step (by repeat (first | (with_reducible first | exact HB.out | apply below_alloc | apply pw_below_drewN | apply below_drew1 | refine below_set ?_ GE110.out) | exact HB.out)) hb); have n2_ := Aside0.mk (hbox); have n3_ := Aside0.mk ((by rw [hg]; exact (below_size (by repeat (first | (with_reducible first | exact HB.out | apply below_alloc | apply pw_below_drewN | apply below_drew1 | refine below_set ?_ GE110.out) | exact HB.out))) : w.heap.size ≤ gb112)); have n4_ := Aside0.mk ((by rw [hg]; exact (below_size (by repeat (first | (with_reducible first | exact HB.out | apply below_alloc | apply pw_below_drewN | apply below_drew1 | refine below_set ?_ GE110.out) | exact HB.out))) : w.heap.size ≤ gb112)); have n5_ := Aside0.mk ((by rw [hg]; exact Nat.ne_of_lt (blk_lt (g := gb110) (o := .cells #[.int .i64 a0_0, .int .i64 a0_1, .int .i64 a0_2, .int .i64 a0_3] 31 (0, 0)) (by (with_reducible repeat (first | refine blk_drewN ?_ _ | refine blk_drew ?_ | refine blk_alloc ?_ _)); exact BK110.out)) : gb110 ≠ gb112)); have n6_ := Aside0.mk ((by rw [hg]; exact Nat.ne_of_gt (blk_lt (g := gb110) (o := .cells #[.int .i64 a0_0, .int .i64 a0_1, .int .i64 a0_2, .int .i64 a0_3] 31 (0, 0)) (by (with_reducible repeat (first | refine blk_drewN ?_ _ | refine blk_drew ?_ | refine blk_alloc ?_ _)); exact BK110.out)) : gb112 ≠ gb110)); clear BK110; clear HB; have BK110 := n0_; have HB := n1_; have BK112 := n2_; have GW112 := n3_; have GE112 := n4_; have NB110_112 := n5_; have NB112_110 := n6_; clear n0_ n1_ n2_ n3_ n4_ n5_ n6_; clear hb hbox hg; have hnb14 := NB112_110.out; have hnc14 := NB110_112.out; have hcz15_0 : w13.cell? ⟨gb112, 0, none⟩ = some (.int .i64 0) := (blk_cell BK112.out 0).trans rfl; have hcz15_1 : w13.cell? ⟨gb112, 1, none⟩ = some (.int .i64 0) := (blk_cell BK112.out 1).trans rfl; have hcz15_2 : w13.cell? ⟨gb112, 2, none⟩ = some (.int .i64 0) := (blk_cell BK112.out 2).trans rfl; have hfz15_0 := blk_frozen BK112.out 0; have hfz15_1 := blk_frozen BK112.out 1; have hfz15_2 := blk_frozen BK112.out 2; have hcz16_0 : w13.cell? ⟨gb110, 0, none⟩ = some (.int .i64 a0_0) := (blk_cell BK110.out 0).trans rfl; have hcz16_1 : w13.cell? ⟨gb110, 1, none⟩ = some (.int .i64 a0_1) := (blk_cell BK110.out 1).trans rfl; have hcz16_2 : w13.cell? ⟨gb110, 2, none⟩ = some (.int .i64 a0_2) := (blk_cell BK110.out 2).trans rfl; have hcz16_3 : w13.cell? ⟨gb110, 3, none⟩ = some (.int .i64 a0_3) := (blk_cell BK110.out 3).trans rfl; have hfz16_0 := blk_frozen BK110.out 0; have hfz16_1 := blk_frozen BK110.out 1; have hfz16_2 := blk_frozen BK110.out 2; have hfz16_3 := blk_frozen BK110.out 3))
       go_roundg k1
       case measure => have := HK1.out; omega
       case rel => exact ⟨(x5_1), (wrap64 (x12_1 + 1)), (by first | rfl | (simp; done) | (simp [*]; done)), (by first | rfl | (simp; done) | (simp [*]; done)), H', ⟨by have := HK1.out; omega⟩, ⟨by (with_reducible repeat (first | refine blk_drewN ?_ _ | refine blk_drew ?_ | refine blk_alloc ?_ _)); refine blk_far ?_ NB110_112.out _; (with_reducible repeat (first | refine blk_drewN ?_ _ | refine blk_drew ?_ | refine blk_alloc ?_ _)); refine blk_far ?_ NB110_112.out _; (with_reducible repeat (first | refine blk_drewN ?_ _ | refine blk_drew ?_ | refine blk_alloc ?_ _)); refine blk_far ?_ NB110_112.out _; (with_reducible repeat (first | refine blk_drewN ?_ _ | refine blk_drew ?_ | refine blk_alloc ?_ _)); exact BK110.out⟩, ⟨by repeat (first | (with_reducible first | exact HB.out | apply below_alloc | apply pw_below_drewN | apply below_drew1 | refine below_set ?_ GE110.out | refine below_set ?_ GE112.out) | exact HB.out)⟩⟩
     ·rw [if_neg c7] at H
      exact absurd H (by simp)
    ·rw [if_neg c6] at H
     exact absurd H (by simp)
   ·rw [if_neg c5] at H
    have c5b0 : decide (x12_1 < (l1.length : Int)) = false := decide_eq_false c5
    clear c5
    obtain rfl := Option.some.inj H
    go_wp2
    go_ret
    exact ⟨by first | rfl | (simp [errW_none, errW_some] <;> rfl) | (simp [*, errW_none, errW_some] <;> rfl), by repeat (first | (with_reducible first | exact HB.out | apply below_alloc | apply pw_below_drewN | apply below_drew1 | refine below_set ?_ GE110.out) | exact HB.out)⟩

/-! ### bond_Free: function 18 -/
def bond_Free.f (k : Nat) (l0 : List (S31)) (l1 : List (S35)) (a2 : Int) : Option (Int × Int) := (bond_asks.f l0 l1).bind fun t113 => (if t113 = 0 then ((bond_find.f l0 a2).bind fun bt114 => (if bt114.2.2.2.2 = true then ((bond_free.f k bt114.1 bt114.2.1 bt114.2.2.1 bt114.2.2.2.1 l1).bind fun t120 => (some (t120, 0))) else (some (0, 7)))) else (some (0, t113)))
theorem bond_Free.mono : ∀ a0 a1 a2 k, LeO (bond_Free.f k a0 a1 a2) (bond_Free.f (k + 1) a0 a1 a2) := by
 intro a0 a1 a2 k
 unfold bond_Free.f
 repeat' first
   | (with_reducible exact bond_free.mono _ _ _ _ _ _)
   | (with_reducible exact LeO.refl _)
   | (with_reducible exact LeO.none _)
   | (with_reducible refine LeO.ite ?_ ?_)
   | (with_reducible refine LeO.bind ?_ (fun _ => ?_))
   | exact bond_free.mono _ _ _ _ _ _
   | exact LeO.none _
   | refine LeO.ite ?_ ?_
   | refine LeO.bind ?_ (fun _ => ?_)
set_option maxHeartbeats 8000000 in
set_option maxRecDepth 100000 in
theorem bond_Free.calls (k : Nat) (A0 : Option Addr) (c0 : Nat) (l0 : List (S31)) (A1 : Option Addr) (c1 : Nat) (l1 : List (S35)) (a2 : Int) (r1 : Int) (r2 : Int) (w : World) (hr0 : Kd.C k31 w A0 l0.length l0) (hc0 : l0.length ≤ c0) (hr1 : Kd.C k35 w A1 l1.length l1) (hc1 : l1.length ≤ c1) (h : bond_Free.f k l0 l1 a2 = some (r1, r2)) :
  Calls Try.prog 18 #[.slice A0 l0.length c0, .slice A1 l1.length c1, .int .i64 a2] w fun e w' => e = .returned (.tuple #[.int .i64 r1, .int .i64 r2]) ∧ Below w.heap.size w w' := by
 have hu31 := Try.underlying31
 have HR0 := Aside0.mk hr0
 have HC0 := Aside0.mk hc0
 clear hr0 hc0
 have HR1 := Aside0.mk hr1
 have HC1 := Aside0.mk hc1
 clear hr1 hc1
 have HB := Aside0.mk (Below.refl w.heap.size w)
 have H : ((bond_asks.f l0 l1).bind fun t113 => (if t113 = 0 then ((bond_find.f l0 a2).bind fun bt114 => (if bt114.2.2.2.2 = true then ((bond_free.f k bt114.1 bt114.2.1 bt114.2.2.1 bt114.2.2.2.1 l1).bind fun t120 => (some (t120, 0))) else (some (0, 7)))) else (some (0, t113)))) = some (r1, r2) := h
 clear h
 replace H := Option.bind_eq_some_iff.mp H
 obtain ⟨t113, A40, H⟩ := H
 replace H : (if t113 = 0 then ((bond_find.f l0 a2).bind fun bt114 => (if bt114.2.2.2.2 = true then ((bond_free.f k bt114.1 bt114.2.1 bt114.2.2.1 bt114.2.2.2.1 l1).bind fun t120 => (some (t120, 0))) else (some (0, 7)))) else (some (0, t113))) = some (r1, r2) := H
 have A4 := Aside0.mk A40
 clear A40
 by_cases c5 : t113 = 0
 ·rw [if_pos c5] at H
  have c5b0 : (t113 == 0) = true := beq_iff_eq.mpr c5
  have c5b1 : (t113 != 0) = false := bne_eq_false_iff_eq.mpr c5
  clear c5
  replace H := Option.bind_eq_some_iff.mp H
  obtain ⟨⟨t114, t115, t116, t117, t118⟩, A60, H⟩ := H
  replace H : (if t118 = true then ((bond_free.f k t114 t115 t116 t117 l1).bind fun t120 => (some (t120, 0))) else (some (0, 7))) = some (r1, r2) := H
  have A6 := Aside0.mk A60
  clear A60
  by_cases c7 : t118 = true
  ·subst c7
   have H1 : ((bond_free.f k t114 t115 t116 t117 l1).bind fun t120 => (some (t120, 0))) = some (r1, r2) := by rw [if_pos rfl] at H; exact H
   clear H
   have H := H1
   clear H1
   replace H := Option.bind_eq_some_iff.mp H
   obtain ⟨t120, A80, H⟩ := H
   replace H : (some (t120, 0)) = some (r1, r2) := H
   have A8 := Aside0.mk A80
   clear A80
   simp only [Option.some.injEq, Prod.mk.injEq] at H
   obtain ⟨rfl, rfl⟩ := H
   go_enter Try.func18, Try.ntmps18
   go_wp2_with (first | ((with_reducible refine gate_callee (f := 42) rfl ?_); refine goesL_ (some 13) rfl rfl Try.func42 (by kernel_rfl) rfl #[.slice A0 l0.length c0, .slice A1 l1.length c1] rfl (by (try simp only [List.map_toArray, List.map_cons, List.map_nil]); first | done | rfl | (simp only [List.length_drop, List.length_take]; rfl)) ?_; (with_reducible refine (bond_asks.calls _ _ l0 _ _ l1 t113 _ ?side1 ?side2 ?side3 ?side4 A4.out).mono ?_); (case side1 => repeat (first | exact HR0.out | (with_reducible refine Kd.C_alloc ?_ _) | (with_reducible refine Kd.C_drewN ?_ _) | (with_reducible refine Kd.C_drew ?_))); (case side2 => exact HC0.out); (case side3 => repeat (first | exact HR1.out | (with_reducible refine Kd.C_alloc ?_ _) | (with_reducible refine Kd.C_drewN ?_ _) | (with_reducible refine Kd.C_drew ?_))); (case side4 => exact HC1.out); rintro e w9 ⟨rfl, hb⟩; refine ⟨_, rfl, ?_⟩; have n0_ := Aside0.mk (below_step (by repeat (first | (with_reducible first | exact HB.out | apply below_alloc | apply pw_below_drewN | apply below_drew1) | exact HB.out)) hb); clear HB; have HB := n0_; clear n0_; (try clear hb); (try clear hb2); (try clear hk); (try clear hi)) | ((with_reducible refine gate_callee (f := 39) rfl ?_); refine goesL_ (some 20) rfl rfl Try.func39 (by kernel_rfl) rfl #[.slice A0 l0.length c0, .int .i64 a2] rfl (by (try simp only [List.map_toArray, List.map_cons, List.map_nil]); first | done | rfl | (simp only [List.length_drop, List.length_take]; rfl)) ?_; (with_reducible refine (bond_find.calls _ _ l0 a2 t114 t115 t116 t117 true _ ?side1 ?side2 A6.out).mono ?_); (case side1 => repeat (first | exact (Kd.C_below HR0.out HB.out) | (with_reducible refine Kd.C_alloc ?_ _) | (with_reducible refine Kd.C_drewN ?_ _) | (with_reducible refine Kd.C_drew ?_))); (case side2 => exact HC0.out); rintro e w10 ⟨rfl, hb⟩; refine ⟨_, rfl, ?_⟩; have n0_ := Aside0.mk (below_step (by repeat (first | (with_reducible first | exact HB.out | apply below_alloc | apply pw_below_drewN | apply below_drew1) | exact HB.out)) hb); clear HB; have HB := n0_; clear n0_; (try clear hb); (try clear hb2); (try clear hk); (try clear hi)) | ((with_reducible refine gate_dst (N := 9) rfl ?_); refine box_event ?hg (N := 9) ?hd (cs := #[.int .i64 0, .int .i64 0, .int .i64 0, .int .i64 0]) (t := 31) ?hr ?_; (case hd => rfl); (case hg => rfl); (case hr => first | (go_simp; done) | (go_simp; rfl)); intro gb119 hg w11 hbox hb; have n0_ := Aside0.mk (below_step (by repeat (first | (with_reducible first | exact HB.out | apply below_alloc | apply pw_below_drewN | apply below_drew1) | exact HB.out)) hb); have n1_ := Aside0.mk (hbox); have n2_ := Aside0.mk ((by rw [hg]; exact (below_size (by repeat (first | (with_reducible first | exact HB.out | apply below_alloc | apply pw_below_drewN | apply below_drew1) | exact HB.out))) : w.heap.size ≤ gb119)); have n3_ := Aside0.mk ((by rw [hg]; exact (below_size (by repeat (first | (with_reducible first | exact HB.out | apply below_alloc | apply pw_below_drewN | apply below_drew1) | exact HB.out))) : w.heap.size ≤ gb119)); clear HB; have HB := n0_; have BK119 := n1_; have GW119 := n2_; have GE119 := n3_; clear n0_ n1_ n2_ n3_; clear hb hbox hg; have hcz12_0 : w11.cell? ⟨gb119, 0, none⟩ = some (.int .i64 0) := (blk_cell BK119.out 0).trans rfl; have hcz12_1 : w11.cell? ⟨gb119, 1, none⟩ = some (.int .i64 0) := (blk_cell BK119.out 1).trans rfl; have hcz12_2 : w11.cell? ⟨gb119, 2, none⟩ = some (.int .i64 0) := (blk_cell BK119.out 2).trans rfl; have hcz12_3 : w11.cell? ⟨gb119, 3, none⟩ = some (.int .i64 0) := (blk_cell BK119.out 3).trans rfl; have hfz12_0 := blk_frozen BK119.out 0; have hfz12_1 := blk_frozen BK119.out 1; have hfz12_2 := blk_frozen BK119.out 2; have hfz12_3 := blk_frozen BK119.out 3) | ((with_reducible refine gate_callee (f := 43) rfl ?_); refine goesL_ (some 27) rfl rfl Try.func43 (by kernel_rfl) rfl #[.agg #[.int .i64 t114, .int .i64 t115, .int .i64 t116, .int .i64 t117], .slice A1 l1.length c1] rfl (by (try simp only [List.map_toArray, List.map_cons, List.map_nil]); first | done | rfl | (simp only [List.length_drop, List.length_take]; rfl)) ?_; (with_reducible refine (bond_free.calls k t114 t115 t116 t117 _ _ l1 t120 _ ?side1 ?side2 A8.out).mono ?_); (case side1 => exact Kd.C_below HR1.out (by repeat (first | (with_reducible first | exact HB.out | apply below_alloc | apply pw_below_drewN | apply below_drew1 | refine below_set ?_ GE119.out) | exact HB.out))); (case side2 => exact HC1.out); rintro e w13 ⟨rfl, hb⟩; refine ⟨_, rfl, ?_⟩; have n0_ := Aside0.mk (blk_below (g := gb119) (o := .cells #[.int .i64 t114, .int .i64 t115, .int .i64 t116, .int .i64 t117] 31 (0, 0)) (by (with_reducible repeat (first | refine blk_drewN ?_ _ | refine blk_drew ?_ | refine blk_alloc ?_ _)); refine blk_put (cs := #[.int .i64 t114, .int .i64 t115, .int .i64 t116, .int .i64 0]) ?_ 3 _ rfl; (with_reducible repeat (first | refine blk_drewN ?_ _ | refine blk_drew ?_ | refine blk_alloc ?_ _)); refine blk_put (cs := #[.int .i64 t114, .int .i64 t115, .int .i64 0, .int .i64 0]) ?_ 2 _ rfl; (with_reducible repeat (first | refine blk_drewN ?_ _ | refine blk_drew ?_ | refine blk_alloc ?_ _)); refine blk_put (cs := #[.int .i64 t114, .int .i64 0, .int .i64 0, .int .i64 0]) ?_ 1 _ rfl; (with_reducible repeat (first | refine blk_drewN ?_ _ | refine blk_drew ?_ | refine blk_alloc ?_ _)); refine blk_put (cs := #[.int .i64 0, .int .i64 0, .int .i64 0, .int .i64 0]) ?_ 0 _ rfl; (with_reducible repeat (first | refine blk_drewN ?_ _ | refine blk_drew ?_ | refine blk_alloc ?_ _)); exact BK119.out) hb); have n1_ := Aside0.mk (below_step (by repeat (first | (with_reducible first | exact HB.out | apply below_alloc | apply pw_below_drewN | apply below_drew1 | refine below_set ?_ GE119.out) | exact HB.out)) hb); clear BK119; clear HB; have BK119 := n0_; have HB := n1_; clear n0_ n1_; (try clear hb); (try clear hb2); (try clear hk); (try clear hi)))
   go_ret2
   exact ⟨by first | rfl | (simp [errW_none, errW_some] <;> rfl) | (simp [*, errW_none, errW_some] <;> rfl), by repeat (first | (with_reducible first | exact HB.out | apply below_alloc | apply pw_below_drewN | apply below_drew1 | refine below_set ?_ GE119.out) | exact HB.out)⟩
  ·replace c7 := Bool.eq_false_iff.mpr c7
   subst c7
   have H1 : (some (0, 7)) = some (r1, r2) := by rw [if_neg (show ¬ (false = true) by decide)] at H; exact H
   clear H
   have H := H1
   clear H1
   simp only [Option.some.injEq, Prod.mk.injEq] at H
   obtain ⟨rfl, rfl⟩ := H
   go_enter Try.func18, Try.ntmps18
   go_wp2_with (first | ((with_reducible refine gate_callee (f := 42) rfl ?_); refine goesL_ (some 13) rfl rfl Try.func42 (by kernel_rfl) rfl #[.slice A0 l0.length c0, .slice A1 l1.length c1] rfl (by (try simp only [List.map_toArray, List.map_cons, List.map_nil]); first | done | rfl | (simp only [List.length_drop, List.length_take]; rfl)) ?_; (with_reducible refine (bond_asks.calls _ _ l0 _ _ l1 t113 _ ?side1 ?side2 ?side3 ?side4 A4.out).mono ?_); (case side1 => repeat (first | exact HR0.out | (with_reducible refine Kd.C_alloc ?_ _) | (with_reducible refine Kd.C_drewN ?_ _) | (with_reducible refine Kd.C_drew ?_))); (case side2 => exact HC0.out); (case side3 => repeat (first | exact HR1.out | (with_reducible refine Kd.C_alloc ?_ _) | (with_reducible refine Kd.C_drewN ?_ _) | (with_reducible refine Kd.C_drew ?_))); (case side4 => exact HC1.out); rintro e w14 ⟨rfl, hb⟩; refine ⟨_, rfl, ?_⟩; have n0_ := Aside0.mk (below_step (by repeat (first | (with_reducible first | exact HB.out | apply below_alloc | apply pw_below_drewN | apply below_drew1) | exact HB.out)) hb); clear HB; have HB := n0_; clear n0_; (try clear hb); (try clear hb2); (try clear hk); (try clear hi)) | ((with_reducible refine gate_callee (f := 39) rfl ?_); refine goesL_ (some 20) rfl rfl Try.func39 (by kernel_rfl) rfl #[.slice A0 l0.length c0, .int .i64 a2] rfl (by (try simp only [List.map_toArray, List.map_cons, List.map_nil]); first | done | rfl | (simp only [List.length_drop, List.length_take]; rfl)) ?_; (with_reducible refine (bond_find.calls _ _ l0 a2 t114 t115 t116 t117 false _ ?side1 ?side2 A6.out).mono ?_); (case side1 => repeat (first | exact (Kd.C_below HR0.out HB.out) | (with_reducible refine Kd.C_alloc ?_ _) | (with_reducible refine Kd.C_drewN ?_ _) | (with_reducible refine Kd.C_drew ?_))); (case side2 => exact HC0.out); rintro e w15 ⟨rfl, hb⟩; refine ⟨_, rfl, ?_⟩; have n0_ := Aside0.mk (below_step (by repeat (first | (with_reducible first | exact HB.out | apply below_alloc | apply pw_below_drewN | apply below_drew1) | exact HB.out)) hb); clear HB; have HB := n0_; clear n0_; (try clear hb); (try clear hb2); (try clear hk); (try clear hi)) | ((with_reducible refine gate_dst (N := 9) rfl ?_); refine box_event ?hg (N := 9) ?hd (cs := #[.int .i64 0, .int .i64 0, .int .i64 0, .int .i64 0]) (t := 31) ?hr ?_; (case hd => rfl); (case hg => rfl); (case hr => first | (go_simp; done) | (go_simp; rfl)); intro gb119 hg w16 hbox hb; have n0_ := Aside0.mk (below_step (by repeat (first | (with_reducible first | exact HB.out | apply below_alloc | apply pw_below_drewN | apply below_drew1) | exact HB.out)) hb); have n1_ := Aside0.mk (hbox); have n2_ := Aside0.mk ((by rw [hg]; exact (below_size (by repeat (first | (with_reducible first | exact HB.out | apply below_alloc | apply pw_below_drewN | apply below_drew1) | exact HB.out))) : w.heap.size ≤ gb119)); have n3_ := Aside0.mk ((by rw [hg]; exact (below_size (by repeat (first | (with_reducible first | exact HB.out | apply below_alloc | apply pw_below_drewN | apply below_drew1) | exact HB.out))) : w.heap.size ≤ gb119)); clear HB; have HB := n0_; have BK119 := n1_; have GW119 := n2_; have GE119 := n3_; clear n0_ n1_ n2_ n3_; clear hb hbox hg; have hcz17_0 : w16.cell? ⟨gb119, 0, none⟩ = some (.int .i64 0) := (blk_cell BK119.out 0).trans rfl; have hcz17_1 : w16.cell? ⟨gb119, 1, none⟩ = some (.int .i64 0) := (blk_cell BK119.out 1).trans rfl; have hcz17_2 : w16.cell? ⟨gb119, 2, none⟩ = some (.int .i64 0) := (blk_cell BK119.out 2).trans rfl; have hcz17_3 : w16.cell? ⟨gb119, 3, none⟩ = some (.int .i64 0) := (blk_cell BK119.out 3).trans rfl; have hfz17_0 := blk_frozen BK119.out 0; have hfz17_1 := blk_frozen BK119.out 1; have hfz17_2 := blk_frozen BK119.out 2; have hfz17_3 := blk_frozen BK119.out 3))
   go_ret2
   exact ⟨by first | rfl | (simp [errW_none, errW_some] <;> rfl) | (simp [*, errW_none, errW_some] <;> rfl), by repeat (first | (with_reducible first | exact HB.out | apply below_alloc | apply pw_below_drewN | apply below_drew1 | refine below_set ?_ GE119.out) | exact HB.out)⟩
 ·rw [if_neg c5] at H
  have c5b0 : (t113 == 0) = false := beq_eq_false_iff_ne.mpr c5
  have c5b1 : (t113 != 0) = true := bne_iff_ne.mpr c5
  simp only [Option.some.injEq, Prod.mk.injEq] at H
  obtain ⟨rfl, rfl⟩ := H
  go_enter Try.func18, Try.ntmps18
  go_wp2_with (first | ((with_reducible refine gate_callee (f := 42) rfl ?_); refine goesL_ (some 13) rfl rfl Try.func42 (by kernel_rfl) rfl #[.slice A0 l0.length c0, .slice A1 l1.length c1] rfl (by (try simp only [List.map_toArray, List.map_cons, List.map_nil]); first | done | rfl | (simp only [List.length_drop, List.length_take]; rfl)) ?_; (with_reducible refine (bond_asks.calls _ _ l0 _ _ l1 t113 _ ?side1 ?side2 ?side3 ?side4 A4.out).mono ?_); (case side1 => repeat (first | exact HR0.out | (with_reducible refine Kd.C_alloc ?_ _) | (with_reducible refine Kd.C_drewN ?_ _) | (with_reducible refine Kd.C_drew ?_))); (case side2 => exact HC0.out); (case side3 => repeat (first | exact HR1.out | (with_reducible refine Kd.C_alloc ?_ _) | (with_reducible refine Kd.C_drewN ?_ _) | (with_reducible refine Kd.C_drew ?_))); (case side4 => exact HC1.out); rintro e w18 ⟨rfl, hb⟩; refine ⟨_, rfl, ?_⟩; have n0_ := Aside0.mk (below_step (by repeat (first | (with_reducible first | exact HB.out | apply below_alloc | apply pw_below_drewN | apply below_drew1) | exact HB.out)) hb); clear HB; have HB := n0_; clear n0_; (try clear hb); (try clear hb2); (try clear hk); (try clear hi)))
  go_ret2
  exact ⟨by first | rfl | (simp [errW_none, errW_some] <;> rfl) | (simp [*, errW_none, errW_some] <;> rfl), by repeat (first | (with_reducible first | exact HB.out | apply below_alloc | apply pw_below_drewN | apply below_drew1) | exact HB.out)⟩

/-! ### api_Hold_int: function 54 -/
-- HELPER
/-- Where a binary search ends that asks q, from i to j. -/
def bsF (q : Nat → Bool) : Nat → Nat → Nat → Nat
  | 0, i, _ => i
  | k + 1, i, j => if i < j then (if q ((i + j) / 2) = true then bsF q k ((i + j) / 2 + 1) j else bsF q k i ((i + j) / 2)) else i
theorem bsF_done (q : Nat → Bool) (k i j : Nat) (h : ¬ i < j) : bsF q k i j = i := by
  cases k with
  | zero => rfl
  | succ k => simp only [bsF]; rw [if_neg h]
theorem bsF_fuel (q : Nat → Bool) : ∀ k k' i j : Nat, j - i ≤ k → j - i ≤ k' → bsF q k i j = bsF q k' i j := by
  intro k
  induction k with
  | zero => intro k' i j h1 _; rw [bsF_done q 0 i j (by omega), bsF_done q k' i j (by omega)]
  | succ k ih =>
    intro k' i j h1 h2
    by_cases h : i < j
    · obtain ⟨k', rfl⟩ : ∃ m, k' = m + 1 := ⟨k' - 1, by omega⟩
      simp only [bsF]
      rw [if_pos h, if_pos h]
      split
      · exact ih _ _ _ (by omega) (by omega)
      · exact ih _ _ _ (by omega) (by omega)
    · rw [bsF_done q _ i j h, bsF_done q _ i j h]
theorem bsF_le (q : Nat → Bool) : ∀ k i j : Nat, i ≤ j → bsF q k i j ≤ j ∧ i ≤ bsF q k i j := by
  intro k
  induction k with
  | zero => intro i j h; exact ⟨h, Nat.le_refl _⟩
  | succ k ih =>
    intro i j h
    simp only [bsF]
    split
    · split
      · have := ih ((i + j) / 2 + 1) j (by omega); omega
      · have := ih i ((i + j) / 2) (by omega); omega
    · omega
/-- What slices.BinarySearchFunc returns, c j being what the comparison says of place j. -/
def bsR (c : Nat → Int) (n : Nat) : Nat × Bool := (bsF (fun j => decide (c j < 0)) n 0 n, decide (bsF (fun j => decide (c j < 0)) n 0 n < n) && (c (bsF (fun j => decide (c j < 0)) n 0 n) == 0))
theorem bs_w0 {i j : Nat} (h : i + j ≤ 2000) : IntKind.i64.wrap ((i : Int) + (j : Int)) = (i : Int) + (j : Int) := by rw [i64_w]; exact w64_ (by omega) (by omega)
theorem bs_w1 {i j : Nat} (h : i + j ≤ 2000) : IntKind.u64.wrap ((i : Int) + (j : Int)) = (i : Int) + (j : Int) := by rw [IntKind.wrap_u64]; omega
theorem bs_w2 {i j : Nat} (h : i + j ≤ 2000) : wrap64 (((i : Int) + (j : Int)) / 2) = (((i + j) / 2 : Nat) : Int) := by
  have e : ((i : Int) + (j : Int)) / 2 = (((i + j) / 2 : Nat) : Int) := by omega
  rw [e]
  exact w64_ (by omega) (by omega)
theorem bs_w3 {i : Nat} (h : i ≤ 2000) : IntKind.i64.wrap ((i : Int) + 1) = (i : Int) + 1 := by rw [i64_w]; exact w64_ (by omega) (by omega)
set_option maxHeartbeats 4000000 in
set_option maxRecDepth 1000000 in
theorem api_Hold_int.below (g : Nat) (cb : Array Value) (A : Option Addr) (c : Nat) (l : List S35) (m : Int) (q : Nat → Int) (w : World) (eg : ∀ args w, (callFunc g args).run Try.prog w = .ok (.enter g args) w) (hsz : l.length ≤ 1000) (hr : Kd.C k35 w A l.length l)
    (hf : ∀ (W : World) (i : Int), 0 ≤ i → i < l.length → Below w.heap.size w W → Calls Try.prog g (#[.agg #[.int .i64 (rd_T35 l i).f0, .int .i64 (rd_T35 l i).f1, .int .i64 (rd_T35 l i).f2], .int .i64 m] ++ cb) W fun e w' => e = .returned (.int .i64 (q i.toNat)) ∧ Below W.heap.size W w') :
    Calls Try.prog 54 #[.slice A l.length c, .int .i64 m, .func (.func g) #[] cb] w fun e w' => e = .returned (.tuple #[.int .i64 ((bsR q l.length).1 : Nat), .bool (bsR q l.length).2]) ∧ Below w.heap.size w w' := by
  have hu := Try.underlying35
  have HF := Aside0.mk hf
  have HR := Aside0.mk hr
  obtain ⟨res, hres⟩ : ∃ res, bsF (fun j => decide (q j < 0)) l.length 0 l.length = res := ⟨_, rfl⟩
  have hle := bsF_le (fun j => decide (q j < 0)) l.length 0 l.length (Nat.zero_le _)
  unfold bsR
  rw [hres] at hle ⊢
  have HS := Aside0.mk hres
  have HSZ := Aside0.mk hsz
  have HLE := Aside0.mk hle.1
  clear hf hr hres hsz hle
  go_enter Try.func54, Try.ntmps54
  go_wp2
  go_loopg [9, 10] (l.length + 1) (fun kx s9 s10 wr => ∃ i j : Nat, s9 = .int .i64 (i : Int) ∧ s10 = .int .i64 (j : Int) ∧ Aside0 (i ≤ j ∧ j ≤ l.length ∧ j - i < kx + 1 ∧ bsF (fun j => decide (q j < 0)) (j - i) i j = res) ∧ Aside0 (Below w.heap.size w wr))
  case atStart => exact ⟨0, l.length, rfl, rfl, ⟨Nat.zero_le _, Nat.le_refl _, by omega, by rw [← HS.out]; exact bsF_fuel _ _ _ _ _ (by omega) (by omega)⟩, ⟨Below.refl _ _⟩⟩
  case round =>
    obtain ⟨i, j, rfl, rfl, HX, HB⟩ := hrel
    by_cases hlt : i < j
    · have hltb : decide (i < j) = true := decide_eq_true hlt
      have hltb' : decide ((i : Int) < (j : Int)) = true := decide_eq_true (by omega)
      have hx := HX.out
      have hs := HSZ.out
      have hsum : i + j ≤ 2000 := by omega
      obtain ⟨mid, hmid⟩ : ∃ mid, mid = (i + j) / 2 := ⟨_, rfl⟩
      have hm1 : i ≤ mid ∧ mid < j := by omega
      have hm2 : mid ≤ 2000 := by omega
      have HW := Aside0.mk (⟨bs_w0 hsum, bs_w1 hsum, (show wrap64 (((i : Int) + (j : Int)) / 2) = (mid : Int) by rw [hmid]; exact bs_w2 hsum), bs_w3 hm2, (i64_w _).symm.trans (bs_w3 hm2)⟩ : _ ∧ _ ∧ _ ∧ _ ∧ _)
      have p1 : (0 ≤ (mid : Int)) = True := eq_true (by omega)
      have p2 : ((mid : Int) < (l.length : Int)) = True := eq_true (by omega)
      have p3 : (mid < l.length) = True := eq_true (by omega)
      obtain ⟨ad, e, h1, h2, h3⟩ := at_T35 HR.out (mid : Int) (by omega) (by omega)
      cases e
      replace h1 := pw_cell_below HB.out h1
      replace h2 := pw_cell_below HB.out h2
      replace h3 := pw_cell_below HB.out h3
      have hc := HF.out wr (mid : Int) (by omega) (by omega) HB.out
      rw [Int.toNat_natCast] at hc h1 h2 h3
      have hc := Aside0.mk hc
      generalize (rd_T35 l (mid : Int)).f0 = y0 at h1 hc
      generalize (rd_T35 l (mid : Int)).f1 = y1 at h2 hc
      generalize (rd_T35 l (mid : Int)).f2 = y2 at h3 hc
      have hst : bsF (fun j => decide (q j < 0)) (j - i) i j = if decide (q mid < 0) = true then bsF (fun j => decide (q j < 0)) (j - i - 1) (mid + 1) j else bsF (fun j => decide (q j < 0)) (j - i - 1) i mid := by
        obtain ⟨d, hd⟩ : ∃ d, j - i = d + 1 := ⟨j - i - 1, by omega⟩
        rw [hd, Nat.add_sub_cancel]
        simp only [bsF]
        rw [if_pos hlt, ← hmid]
      rw [hx.2.2.2] at hst
      have HM := Aside0.mk hm1
      by_cases hq : q mid < 0
      · have hqb : decide (q mid < 0) = true := decide_eq_true hq
        rw [hqb, if_pos rfl, bsF_fuel _ _ (j - (mid + 1)) _ _ (by omega) (by omega)] at hst
        have HST := Aside0.mk hst.symm
        clear hst hx hs hmid hm1 hm2 hsum hlt hq
        obtain ⟨w0, w1, w2, w3, w3'⟩ := HW.out
        go_wp2_with (refine hc.out.mono ?_; rintro e w' ⟨rfl, hb2⟩)
        have HB2 := Aside0.mk (below_then HB.out HB.out.size hb2)
        clear w0 w1 w2 w3 w3'
        go_roundg (gk - 1)
        case measure => have := HX.out; have := HM.out; omega
        case rel => exact ⟨mid + 1, j, by first | rfl | (rw [HW.out.2.2.2.2]; rfl) | (rw [HW.out.2.2.2.1]; rfl), rfl, ⟨by have := HM.out; omega, by have := HX.out; omega, by have := HX.out; have := HM.out; omega, HST.out⟩, HB2⟩
      · have hqb : decide (q mid < 0) = false := decide_eq_false hq
        rw [hqb, if_neg (by decide), bsF_fuel _ _ (mid - i) _ _ (by omega) (by omega)] at hst
        have HST := Aside0.mk hst.symm
        clear hst hx hs hmid hm1 hm2 hsum hlt hq
        obtain ⟨w0, w1, w2, w3, w3'⟩ := HW.out
        go_wp2_with (refine hc.out.mono ?_; rintro e w' ⟨rfl, hb2⟩)
        have HB2 := Aside0.mk (below_then HB.out HB.out.size hb2)
        clear w0 w1 w2 w3 w3'
        go_roundg (gk - 1)
        case measure => have := HX.out; have := HM.out; omega
        case rel => exact ⟨i, mid, rfl, rfl, ⟨by have := HM.out; omega, by have := HX.out; have := HM.out; omega, by have := HX.out; have := HM.out; omega, HST.out⟩, HB2⟩
    · have hx := HX.out
      have hij : i = j := by omega
      subst hij
      have hr : i = res := by rw [← hx.2.2.2, bsF_done _ _ _ _ (Nat.lt_irrefl i)]
      subst hr
      have hltb : decide (i < i) = false := decide_eq_false hlt
      have hltb' : decide ((i : Int) < (i : Int)) = false := decide_eq_false (by omega)
      by_cases hn : i < l.length
      · have n1 : decide ((i : Int) < (l.length : Int)) = true := decide_eq_true (by omega)
        have n2 : decide (i < l.length) = true := decide_eq_true hn
        have p1 : (0 ≤ (i : Int)) = True := eq_true (by omega)
        have p2 : ((i : Int) < (l.length : Int)) = True := eq_true (by omega)
        have p3 : (i < l.length) = True := eq_true hn
        obtain ⟨ad, e, h1, h2, h3⟩ := at_T35 HR.out (i : Int) (by omega) (by omega)
        cases e
        replace h1 := pw_cell_below HB.out h1
        replace h2 := pw_cell_below HB.out h2
        replace h3 := pw_cell_below HB.out h3
        have hc := HF.out wr (i : Int) (by omega) (by omega) HB.out
        rw [Int.toNat_natCast] at hc h1 h2 h3
        have hc := Aside0.mk hc
        generalize (rd_T35 l (i : Int)).f0 = y0 at h1 hc
        generalize (rd_T35 l (i : Int)).f1 = y1 at h2 hc
        generalize (rd_T35 l (i : Int)).f2 = y2 at h3 hc
        clear hx hlt hn
        go_wp2_with (refine hc.out.mono ?_; rintro e w' ⟨rfl, hb2⟩)
        have HB2 := Aside0.mk (below_then HB.out HB.out.size hb2)
        go_ret2
        exact ⟨by rw [n2]; rfl, HB2.out⟩
      · have n1 : decide ((i : Int) < (l.length : Int)) = false := decide_eq_false (by omega)
        have n2 : decide (i < l.length) = false := decide_eq_false hn
        clear hx hlt hn
        go_wp2
        go_ret2
        exact ⟨by rw [n2]; rfl, HB.out⟩

/-! ### bond_place: function 45 -/
-- MAKING
-- behind 12 and 54
def plc (h : List S35) (m : Int) : Nat := (h.takeWhile (fun y => decide (y.f1 < m))).length
theorem plc_le (h : List S35) (m : Int) : plc h m ≤ h.length := by
  unfold plc
  exact List.Sublist.length_le (List.takeWhile_sublist _)
def insH (h : List S35) (x : S35) : List S35 := h.take (plc h x.f1) ++ x :: h.drop (plc h x.f1)
def setH (h : List S35) (m a : Int) : List S35 := h.map (fun y => if y.f1 = m then ⟨y.f0, y.f1, a⟩ else y)
def delH (h : List S35) (m : Int) : List S35 := h.filter (fun y => y.f1 != m)
def has (h : List S35) (m : Int) : Bool := h.any (fun y => y.f1 == m)
def SortH (h : List S35) : Prop := h.Pairwise (fun a b => a.f1 < b.f1)
theorem plc_spec {h : List S35} (hs : SortH h) (m : Int) : (∀ j (hj : j < h.length), j < plc h m → h[j].f1 < m) ∧ ∀ j (hj : j < h.length), plc h m ≤ j → m ≤ h[j].f1 := by
  induction h with
  | nil => exact ⟨fun j hj => absurd hj (Nat.not_lt_zero _), fun j hj => absurd hj (Nat.not_lt_zero _)⟩
  | cons y h ih =>
    unfold SortH at hs
    rw [List.pairwise_cons] at hs
    obtain ⟨i1, i2⟩ := ih hs.2
    by_cases hy : y.f1 < m
    · have hp : plc (y :: h) m = plc h m + 1 := by
        unfold plc
        rw [List.takeWhile_cons_of_pos (by simpa using hy), List.length_cons]
      rw [hp]
      refine ⟨fun j hj hlt => ?_, fun j hj hle => ?_⟩
      · cases j with
        | zero => exact hy
        | succ j => exact i1 j (Nat.lt_of_succ_lt_succ hj) (by omega)
      · cases j with
        | zero => omega
        | succ j => exact i2 j (Nat.lt_of_succ_lt_succ hj) (by omega)
    · have hp : plc (y :: h) m = 0 := by
        unfold plc
        rw [List.takeWhile_cons_of_neg (by simpa using hy)]
        rfl
      rw [hp]
      refine ⟨fun j _ hlt => absurd hlt (Nat.not_lt_zero _), fun j hj _ => ?_⟩
      cases j with
      | zero => show m ≤ y.f1; omega
      | succ j =>
        have hj' : j < h.length := Nat.lt_of_succ_lt_succ hj
        have := hs.1 h[j] (List.getElem_mem hj')
        show m ≤ h[j].f1
        omega
theorem plc_unique {h : List S35} (hs : SortH h) (m : Int) {p : Nat} (hp : p ≤ h.length) (h1 : ∀ j (hj : j < h.length), j < p → h[j].f1 < m) (h2 : ∀ j (hj : j < h.length), p ≤ j → m ≤ h[j].f1) : p = plc h m := by
  obtain ⟨s1, s2⟩ := plc_spec hs m
  have hl := plc_le h m
  rcases Nat.lt_trichotomy p (plc h m) with c | c | c
  · have a := s1 p (by omega) c
    have b := h2 p (by omega) (Nat.le_refl _)
    omega
  · exact c
  · have a := s2 (plc h m) (by omega) (Nat.le_refl _)
    have b := h1 (plc h m) (by omega) c
    omega
theorem bsF_mono (q : Nat → Bool) (n : Nat) (hm : ∀ a b, a ≤ b → b < n → q b = true → q a = true) : ∀ k i j : Nat, j - i ≤ k → i ≤ j → j ≤ n → (∀ t, t < i → q t = true) → (∀ t, j ≤ t → t < n → q t = false) →
    (∀ t, t < bsF q k i j → q t = true) ∧ ∀ t, bsF q k i j ≤ t → t < n → q t = false := by
  intro k
  induction k with
  | zero =>
    intro i j h1 h2 h3 h4 h5
    obtain rfl : i = j := by omega
    exact ⟨h4, h5⟩
  | succ k ih =>
    intro i j h1 h2 h3 h4 h5
    simp only [bsF]
    by_cases hlt : i < j
    · rw [if_pos hlt]
      cases hq : q ((i + j) / 2)
      · rw [if_neg (by decide)]
        refine ih i _ (by omega) (by omega) (by omega) h4 (fun t ht htn => ?_)
        cases hqt : q t
        · rfl
        · have := hm _ t ht htn hqt
          rw [hq] at this
          cases this
      · rw [if_pos rfl]
        exact ih _ j (by omega) (by omega) h3 (fun t ht => hm t _ (by omega) (by omega) hq) h5
    · rw [if_neg hlt]
      exact ⟨h4, fun t ht htn => h5 t (by omega) htn⟩
def mvC (h : List S35) (m : Int) (j : Nat) : Int := wrap64 ((rd_T35 h (j : Int)).f1 - m)
theorem rdH {h : List S35} {j : Nat} (hj : j < h.length) : rd_T35 h (j : Int) = h[j] := by
  unfold rd_T35
  rw [Int.toNat_natCast, List.getD_eq_getElem?_getD, List.getElem?_eq_getElem hj]
  rfl
theorem place_in {h : List S35} (hs : SortH h) (hk : ∀ x ∈ h, okH x) {m : Int} (h0 : 1 ≤ m) (h1 : m ≤ 1073741824) : (bsR (mvC h m) h.length).1 = plc h m := by
  have hc : ∀ j (hj : j < h.length), mvC h m j = h[j].f1 - m := fun j hj => by
    have := hk _ (List.getElem_mem hj)
    unfold okH at this
    unfold mvC
    rw [rdH hj, w64_ (by omega) (by omega)]
  have hmono : ∀ a b, a ≤ b → b < h.length → decide (mvC h m b < 0) = true → decide (mvC h m a < 0) = true := fun a b hab hb hq => by
    rcases Nat.eq_or_lt_of_le hab with rfl | hlt
    · exact hq
    · have := List.pairwise_iff_getElem.1 hs a b (by omega) hb hlt
      rw [hc b hb, decide_eq_true_eq] at hq
      rw [hc a (by omega), decide_eq_true_eq]
      omega
  obtain ⟨r1, r2⟩ := bsF_mono (fun j => decide (mvC h m j < 0)) h.length hmono h.length 0 h.length (by omega) (Nat.zero_le _) (Nat.le_refl _) (fun t ht => absurd ht (Nat.not_lt_zero _)) (fun t h1 h2 => by omega)
  refine plc_unique hs m (bsF_le _ _ _ _ (Nat.zero_le _)).1 (fun j hj hlt => ?_) (fun j hj hle => ?_)
  · have := r1 j hlt
    simp only [decide_eq_true_eq] at this
    rw [hc j hj] at this
    omega
  · have := r2 j hle hj
    simp only [decide_eq_false_iff_not] at this
    rw [hc j hj] at this
    omega
theorem wrap_zero {a m : Int} (ha : 1 ≤ a ∧ a ≤ 1073741824) (hm : -9223372036854775808 ≤ m ∧ m ≤ 9223372036854775807) (h : wrap64 (a - m) = 0) : a = m := by
  unfold wrap64 at h
  omega
theorem has_iff {h : List S35} {m : Int} : has h m = true ↔ ∃ x ∈ h, x.f1 = m := by
  unfold has
  rw [List.any_eq_true]
  constructor
  · rintro ⟨x, hx, e⟩; exact ⟨x, hx, by simpa using e⟩
  · rintro ⟨x, hx, e⟩; exact ⟨x, hx, by simpa using e⟩
theorem place_has {h : List S35} (hs : SortH h) (hk : ∀ x ∈ h, okH x) {m : Int} (hm : -9223372036854775808 ≤ m ∧ m ≤ 9223372036854775807) : (bsR (mvC h m) h.length).2 = has h m := by
  rw [Bool.eq_iff_iff, has_iff]
  constructor
  · intro hb
    unfold bsR at hb
    simp only [Bool.and_eq_true, decide_eq_true_eq, beq_iff_eq] at hb
    obtain ⟨h1, h2⟩ := hb
    generalize bsF _ _ _ _ = i at h1 h2
    have hi := hk _ (List.getElem_mem h1)
    unfold okH at hi
    unfold mvC at h2
    rw [rdH h1] at h2
    exact ⟨h[i], List.getElem_mem h1, wrap_zero ⟨hi.1, hi.2.1⟩ hm h2⟩
  · rintro ⟨x, hx, e⟩
    have hxk := hk x hx
    unfold okH at hxk
    have hp := place_in hs hk (m := m) (by omega) (by omega)
    obtain ⟨j, hj, rfl⟩ := List.mem_iff_getElem.1 hx
    obtain ⟨s1, s2⟩ := plc_spec hs m
    have hpl : plc h m = j := by
      rcases Nat.lt_trichotomy (plc h m) j with c | c | c
      · have := s2 (plc h m) (by omega) (Nat.le_refl _)
        have := List.pairwise_iff_getElem.1 hs (plc h m) j (by omega) hj c
        omega
      · exact c
      · have := s1 j hj c
        omega
    have hp' : bsF (fun j => decide (mvC h m j < 0)) h.length 0 h.length = j := by
      have : bsF (fun j => decide (mvC h m j < 0)) h.length 0 h.length = plc h m := hp
      rw [this, hpl]
    unfold bsR
    rw [hp']
    simp only [Bool.and_eq_true, decide_eq_true_eq, beq_iff_eq]
    refine ⟨hj, ?_⟩
    unfold mvC
    rw [rdH hj, e, Int.sub_self]
    exact w64_ (by omega) (by omega)
theorem place_at {h : List S35} (hs : SortH h) (hk : ∀ x ∈ h, okH x) {m : Int} (hh : has h m = true) : ∃ hj : (bsR (mvC h m) h.length).1 < h.length, h[(bsR (mvC h m) h.length).1].f1 = m := by
  obtain ⟨x, hx, e⟩ := has_iff.1 hh
  have hxk := hk x hx
  unfold okH at hxk
  have hm : -9223372036854775808 ≤ m ∧ m ≤ 9223372036854775807 := by omega
  have hb := place_has hs hk hm
  rw [hh] at hb
  unfold bsR at hb ⊢
  simp only [Bool.and_eq_true, decide_eq_true_eq, beq_iff_eq] at hb
  obtain ⟨h1, h2⟩ := hb
  refine ⟨h1, ?_⟩
  simp only
  generalize bsF _ _ _ _ = i at h1 h2 ⊢
  have hi := hk _ (List.getElem_mem h1)
  unfold okH at hi
  unfold mvC at h2
  rw [rdH h1] at h2
  exact wrap_zero ⟨hi.1, hi.2.1⟩ hm h2
/-- The one hold for a movement is changed. -/
theorem set_at {h : List S35} (hs : SortH h) {i : Nat} (hi : i < h.length) (a : Int) : h.set i ⟨h[i].f0, h[i].f1, a⟩ = setH h h[i].f1 a := by
  unfold setH
  apply List.ext_getElem
  · rw [List.length_set, List.length_map]
  · intro j h1 h2
    rw [List.length_set] at h1
    rw [List.getElem_set, List.getElem_map]
    by_cases e : i = j
    · subst e
      rw [if_pos rfl, if_pos rfl]
    · rw [if_neg e, if_neg]
      intro hf
      rcases Nat.lt_or_gt_of_ne e with c | c
      · have := List.pairwise_iff_getElem.1 hs i j hi h1 c; omega
      · have := List.pairwise_iff_getElem.1 hs j i h1 hi c; omega
theorem erase_at {h : List S35} (hs : SortH h) {i : Nat} (hi : i < h.length) : h.eraseIdx i = delH h h[i].f1 := by
  induction h generalizing i with
  | nil => exact absurd hi (Nat.not_lt_zero _)
  | cons y h ih =>
    unfold SortH at hs
    rw [List.pairwise_cons] at hs
    unfold delH
    cases i with
    | zero =>
      rw [List.eraseIdx_cons_zero]
      show h = List.filter (fun z => z.f1 != y.f1) (y :: h)
      rw [List.filter_cons_of_neg (by simp)]
      symm
      rw [List.filter_eq_self]
      intro z hz
      have := hs.1 z hz
      simp only [bne_iff_ne, ne_eq]
      omega
    | succ i =>
      have hi' : i < h.length := Nat.lt_of_succ_lt_succ hi
      rw [List.eraseIdx_cons_succ, ih hs.2 hi']
      show y :: delH h h[i].f1 = List.filter (fun z => z.f1 != h[i].f1) (y :: h)
      have := hs.1 h[i] (List.getElem_mem hi')
      rw [List.filter_cons_of_pos (by simp only [bne_iff_ne, ne_eq]; omega)]
      rfl
theorem bond_place.clo (x0 x1 x2 m : Int) (W : World) :
    Calls Try.prog 55 #[.agg #[.int .i64 x0, .int .i64 x1, .int .i64 x2], .int .i64 m] W fun e w' => e = .returned (.int .i64 (wrap64 (x1 - m))) ∧ Below W.heap.size W w' := by
  have hu := Try.underlying35
  go_enter Try.func55, Try.ntmps55
  go_wp2_with ((with_reducible refine gate_dst (N := 2) rfl ?_); refine box_event ?hg (N := 2) ?hd (cs := #[.int .i64 x0, .int .i64 x1, .int .i64 x2]) (t := 35) ?hr ?_; (case hd => rfl); (case hg => rfl); (case hr => first | (go_simp; done) | (go_simp; rfl)); intro g2 hg w2 hbox hb; have c1 : w2.cell? ⟨g2, 1, none⟩ = some (.int .i64 x1) := blk_cell hbox 1; have HB := Aside0.mk hb; clear hb hg hbox)
  go_ret
  exact ⟨by first | rfl | (rw [i64_w]), HB.out⟩
def bond_place.f (l0 : List S35) (a1 : Int) : Option (Int × Bool) := if l0.length ≤ 1000 then some (((bsR (mvC l0 a1) l0.length).1 : Nat), (bsR (mvC l0 a1) l0.length).2) else none
theorem bond_place.calls (A0 : Option Addr) (c0 : Nat) (l0 : List S35) (a1 : Int) (r1 : Int) (r2 : Bool) (w : World) (hr0 : Kd.C k35 w A0 l0.length l0) (hc0 : l0.length ≤ c0) (h : bond_place.f l0 a1 = some (r1, r2)) :
    Calls Try.prog 45 #[.slice A0 l0.length c0, .int .i64 a1] w fun e w' => e = .returned (.tuple #[.int .i64 r1, .bool r2]) ∧ Below w.heap.size w w' := by
  unfold bond_place.f at h
  by_cases hl : l0.length ≤ 1000
  case neg => rw [if_neg hl] at h; cases h
  rw [if_pos hl] at h
  have h := Option.some.inj h
  simp only [Prod.mk.injEq] at h
  obtain ⟨h1, h2⟩ := h
  have eg : ∀ args w, (callFunc 55 args).run Try.prog w = .ok (.enter 55 args) w := enters_of Try.func55 (by kernel_rfl) rfl
  have HB := api_Hold_int.below 55 #[] A0 c0 l0 a1 (mvC l0 a1) w eg hl hr0 (fun W i h0 h1 hb => by
    unfold mvC
    rw [show ((i.toNat : Nat) : Int) = i by omega]
    exact bond_place.clo _ _ _ a1 W)
  rw [h1, h2] at HB
  have HB := Aside0.mk HB
  clear eg h1 h2 hl hr0 hc0
  go_enter Try.func45, Try.ntmps45
  go_wp2_with fail
  refine HB.out.mono ?_
  rintro e w' ⟨rfl, hb⟩
  go_wp2
  go_ret2
  exact ⟨rfl, hb⟩

-- NOT PRINTED: function 56 (api_Hold_56)

/-! ### api_Hold_59: function 59 -/
-- HELPER

-- NOT PRINTED: function 58 (api_Hold_58)

-- NOT PRINTED: function 57 (api_Hold_57)

end Go.Proofs.Ytdolabpkgienkaa.PF
