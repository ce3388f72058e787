-- Written by a program of this session (wip/pr.py) out of Lean's print of the translation; Lean checks it.
import Derived.Test.YtcdkbciagchlgaaDoorPF0
import Derived.Test.YtcdkbciagchlgaaDoorPF1
import Derived.Test.YtcdkbciagchlgaaDoorPF3
import Derived.Test.YtcdkbciagchlgaaDoorPF4
import Derived.Test.YtcdkbciagchlgaaDoorPF10
import Derived.Test.YtcdkbciagchlgaaDoorPF11
namespace Go.Proofs.YtcdkbciagchlgaaDoor.PF
open Go.RowKit Go.Proofs.YtcdkbciagchlgaaDoorW.PrintWords Go.Proofs.YtcdkbciagchlgaaDoorW.PrintLast Go.Proofs.YtcdkbciagchlgaaDoorW.PrintMore
attribute [local go_sem] max2_int min2_int max_two min_two max_three min_three max_four min_four   -- for this text's walks alone
set_option linter.unusedVariables false
set_option linter.unusedSimpArgs false

/-! ### spileref20_Check: function 60 -/
def spileref20_Check.j0 : Nat → List (S82) → Bool → Int → Int → Option (Int)
 | 0, _, _, _, _ => none
 | k + 1, x0, x25, x236000, x236001 => if x25 = true then (some 2) else ((spileref18_At_s.f x0 10000).bind fun t237 => (if (wrap64 (x236000 * t237)) > (wrap64 (x236001 * 10000)) then (some 10) else (some 0)))
def spileref20_Check.f (k : Nat) (l0 : List (S82)) (a1_0 : Int) (a1_1 : Int) : Option (Int) := (spileref16_Right.f l0).bind fun t236 => (if t236 = true then (if a1_0 < 0 then (spileref20_Check.j0 k l0 true a1_0 a1_1) else (if a1_0 > 10737418240000 then (spileref20_Check.j0 k l0 true a1_0 a1_1) else (if a1_1 < 0 then (spileref20_Check.j0 k l0 true a1_0 a1_1) else (spileref20_Check.j0 k l0 (decide (a1_1 > 128849018880000)) a1_0 a1_1)))) else (some 1))
theorem spileref20_Check.mono_l : ∀ k, (∀ y0 y1 y2 y3, LeO (spileref20_Check.j0 k y0 y1 y2 y3) (spileref20_Check.j0 (k + 1) y0 y1 y2 y3))
 | 0 => fun _ _ _ _ r h => by simp [spileref20_Check.j0] at h
 | k + 1 => by
  have ih0 := spileref20_Check.mono_l k
  ·intro y0 y1 y2 y3
   unfold spileref20_Check.j0
   repeat' first
   | (with_reducible exact ih0 _ _ _ _)
   | (with_reducible exact LeO.refl _)
   | (with_reducible exact LeO.none _)
   | (with_reducible refine LeO.ite ?_ ?_)
   | (with_reducible refine LeO.bind ?_ (fun _ => ?_))
   | exact ih0 _ _ _ _
   | exact LeO.none _
   | refine LeO.ite ?_ ?_
   | refine LeO.bind ?_ (fun _ => ?_)
theorem spileref20_Check.mono : ∀ a0 a1 a2 k, LeO (spileref20_Check.f k a0 a1 a2) (spileref20_Check.f (k + 1) a0 a1 a2) := by
 intro a0 a1 a2 k
 have ih0 := spileref20_Check.mono_l k
 unfold spileref20_Check.f
 repeat' first
   | (with_reducible exact ih0 _ _ _ _)
   | (with_reducible exact LeO.refl _)
   | (with_reducible exact LeO.none _)
   | (with_reducible refine LeO.ite ?_ ?_)
   | (with_reducible refine LeO.bind ?_ (fun _ => ?_))
   | exact ih0 _ _ _ _
   | exact LeO.none _
   | refine LeO.ite ?_ ?_
   | refine LeO.bind ?_ (fun _ => ?_)
def spileref20_Check.T5 : Bool × List (List Nat × List Nat) := (true, [([], []), ([0], [0]), ([], []), ([2], [2]), ([1, 3], [1, 3]), ([], []), ([5], [5]), ([6], [6]), ([4, 7], [4, 7])])
def spileref20_Check.B5 : List Nat := [0, 1, 0, 4, 15, 0, 32, 96, 255]
theorem spileref20_Check.tab5 : rtab .any (opsOf Tryd.f60 5) = spileref20_Check.T5 := by kernel_rfl
theorem spileref20_Check.bits5 : waitsOk spileref20_Check.T5.2 spileref20_Check.B5 = true := by kernel_rfl
set_option maxHeartbeats 8000000 in
set_option maxRecDepth 100000 in
theorem spileref20_Check.calls (k : Nat) (A0 : Option Addr) (c0 : Nat) (l0 : List (S82)) (a1_0 : Int) (a1_1 : Int) (r : Int) (w : World) (hr0 : Kd.C k82 w A0 l0.length l0) (hc0 : l0.length ≤ c0) (h : spileref20_Check.f k l0 a1_0 a1_1 = some r) :
  Calls Tryd.prog 60 #[.slice A0 l0.length c0, .agg #[.int .i64 a1_0, .int .i64 a1_1]] w fun e w' => e = .returned (.int .i64 r) ∧ Below w.heap.size w w' := by
 have hu45 := Tryd.underlying45
 have HR0 := Aside0.mk hr0
 have HC0 := Aside0.mk hc0
 clear hr0 hc0
 have HB := Aside0.mk (Below.refl w.heap.size w)
 have H : ((spileref16_Right.f l0).bind fun t236 => (if t236 = true then (if a1_0 < 0 then (spileref20_Check.j0 k l0 true a1_0 a1_1) else (if a1_0 > 10737418240000 then (spileref20_Check.j0 k l0 true a1_0 a1_1) else (if a1_1 < 0 then (spileref20_Check.j0 k l0 true a1_0 a1_1) else (spileref20_Check.j0 k l0 (decide (a1_1 > 128849018880000)) a1_0 a1_1)))) else (some 1))) = some r := h
 clear h
 replace H := Option.bind_eq_some_iff.mp H
 obtain ⟨t236, A30, H⟩ := H
 replace H : (if t236 = true then (if a1_0 < 0 then (spileref20_Check.j0 k l0 true a1_0 a1_1) else (if a1_0 > 10737418240000 then (spileref20_Check.j0 k l0 true a1_0 a1_1) else (if a1_1 < 0 then (spileref20_Check.j0 k l0 true a1_0 a1_1) else (spileref20_Check.j0 k l0 (decide (a1_1 > 128849018880000)) a1_0 a1_1)))) else (some 1)) = some r := H
 have A3 := Aside0.mk A30
 clear A30
 by_cases c4 : t236 = true
 ·subst c4
  have H1 : (if a1_0 < 0 then (spileref20_Check.j0 k l0 true a1_0 a1_1) else (if a1_0 > 10737418240000 then (spileref20_Check.j0 k l0 true a1_0 a1_1) else (if a1_1 < 0 then (spileref20_Check.j0 k l0 true a1_0 a1_1) else (spileref20_Check.j0 k l0 (decide (a1_1 > 128849018880000)) a1_0 a1_1)))) = some r := by rw [if_pos rfl] at H; exact H
  clear H
  have H := H1
  clear H1
  have HC5 := Aside0.mk H
  clear H
  go_enter Tryd.func60, Tryd.ntmps60
  go_upto_region 3 with (first | ((with_reducible refine gate_dst (N := 3) rfl ?_); refine be_ (N := 3) (cs := #[.int .i64 a1_0, .int .i64 a1_1]) (t := 45) ?_; intro gb235 hg w6 hbox hb; have n0_ := Aside0.mk (below_step bl_ hb); have n1_ := Aside0.mk (hbox); have n2_ := Aside0.mk ((by rw [hg]; exact (below_size bl_) : w.heap.size ≤ gb235)); have n3_ := Aside0.mk ((by rw [hg]; exact (below_size bl_) : w.heap.size ≤ gb235)); clear HB; have HB := n0_; have BK235 := n1_; have GW235 := n2_; have GE235 := n3_; clear n0_ n1_ n2_ n3_; clear hb hbox hg) | ((with_reducible refine gate_callee (f := 58) rfl ?_); refine gl_ (some 6) Tryd.func58 #[.slice A0 l0.length c0] ?_; (with_reducible refine (spileref16_Right.calls _ _ l0 true _ ?side1 ?side2 A3.out).mono ?_); (case side1 => exact kc_ HR0); (case side2 => exact HC0.out); rintro e w7 ⟨rfl, hb⟩; refine ⟨_, rfl, ?_⟩; have n0_ := Aside0.mk (blk_below (bkt_ BK235) hb); have n1_ := Aside0.mk (below_step bls_ hb); clear BK235; clear HB; have BK235 := n0_; have HB := n1_; clear n0_ n1_; (try clear hb); (try clear hb2); (try clear hk); (try clear hi)))
  (try simp only [Act.put, List.setIfInBounds_toArray, List.set_cons_zero, List.set_cons_succ])
  go_cut [25] (fun v25 wc => ∃ (kq : Nat) (x25_4 : Bool), v25 = .bool x25_4 ∧ Aside0 (spileref20_Check.j0 kq l0 x25_4 a1_0 a1_1 = some r) ∧ Aside0 (kq ≤ k) ∧ Aside0 (wc.heap[gb235]? = some (.cells #[.int .i64 a1_0, .int .i64 a1_1] 45 (0, 0))) ∧ Aside0 (Below w.heap.size w wc))
  case first =>
   have H := HC5.out
   clear HC5
   by_cases c8 : a1_0 < 0
   ·rw [if_pos c8] at H
    have c8b0 : decide (a1_0 < 0) = true := decide_eq_true c8
    clear c8
    (first | rw [c8b0] | (simp only [i64_w, i32_w]; rw [c8b0]) | skip)
    have H' := Aside0.mk H
    clear H
    obtain ⟨hcz9_0, hcz9_1⟩ := bc2_ BK235
    obtain ⟨hfz9_0, hfz9_1⟩ := bf2_ BK235
    go_wp2
    go_meet
    case rel => exact ⟨_, (true), sm_, H', ⟨by first | omega | exact Nat.le_refl _⟩, ⟨bkt_ BK235⟩, ⟨bls_⟩⟩
   ·rw [if_neg c8] at H
    have c8b0 : decide (a1_0 < 0) = false := decide_eq_false c8
    clear c8
    (first | rw [c8b0] | (simp only [i64_w, i32_w]; rw [c8b0]) | skip)
    by_cases c10 : a1_0 > 10737418240000
    ·rw [if_pos c10] at H
     have c10b0 : decide (10737418240000 < a1_0) = true := decide_eq_true c10
     clear c10
     have H' := Aside0.mk H
     clear H
     obtain ⟨hcz11_0, hcz11_1⟩ := bc2_ BK235
     obtain ⟨hfz11_0, hfz11_1⟩ := bf2_ BK235
     go_wp2
     go_meet
     case rel => exact ⟨_, (true), sm_, H', ⟨by first | omega | exact Nat.le_refl _⟩, ⟨bkt_ BK235⟩, ⟨bls_⟩⟩
    ·rw [if_neg c10] at H
     have c10b0 : decide (10737418240000 < a1_0) = false := decide_eq_false c10
     clear c10
     by_cases c12 : a1_1 < 0
     ·rw [if_pos c12] at H
      have c12b0 : decide (a1_1 < 0) = true := decide_eq_true c12
      clear c12
      have H' := Aside0.mk H
      clear H
      obtain ⟨hcz13_0, hcz13_1⟩ := bc2_ BK235
      obtain ⟨hfz13_0, hfz13_1⟩ := bf2_ BK235
      go_wp2
      go_meet
      case rel => exact ⟨_, (true), sm_, H', ⟨by first | omega | exact Nat.le_refl _⟩, ⟨bkt_ BK235⟩, ⟨bls_⟩⟩
     ·rw [if_neg c12] at H
      have c12b0 : decide (a1_1 < 0) = false := decide_eq_false c12
      clear c12
      have H' := Aside0.mk H
      clear H
      obtain ⟨hcz14_0, hcz14_1⟩ := bc2_ BK235
      obtain ⟨hfz14_0, hfz14_1⟩ := bf2_ BK235
      go_wp2
      go_meet
      case rel => exact ⟨_, (decide (a1_1 > 128849018880000)), sm_, H', ⟨by first | omega | exact Nat.le_refl _⟩, ⟨bkt_ BK235⟩, ⟨bls_⟩⟩
  case rest =>
   clear HC5
   try clear c1
   try clear p2
   try clear c4
   try clear c5
   try clear c6
   try clear c8
   try clear c8b0
   try clear c10
   try clear c10b0
   try clear c12
   try clear c12b0
   try clear hcz11_0
   try clear hcz11_1
   try clear hcz13_0
   try clear hcz13_1
   try clear hcz14_0
   try clear hcz14_1
   try clear hcz9_0
   try clear hcz9_1
   try clear hfz11_0
   try clear hfz11_1
   try clear hfz13_0
   try clear hfz13_1
   try clear hfz14_0
   try clear hfz14_1
   try clear hfz9_0
   try clear hfz9_1
   obtain ⟨kq, x25_4, rfl, HA, HJ4, BK235, HB⟩ := hcut
   cases kq with
   | zero => exact absurd HA.out (by simp [spileref20_Check.j0])
   | succ kj4 =>
    have H := HA.out
    clear HA
    simp only [spileref20_Check.j0] at H
    by_cases c15 : x25_4 = true
    ·subst c15
     have H1 : (some 2) = some r := by rw [if_pos rfl] at H; exact H
     clear H
     have H := H1
     clear H1
     obtain rfl := Option.some.inj H
     go_wp2
     go_ret
     exact ⟨fin_, bls_⟩
    ·replace c15 := Bool.eq_false_iff.mpr c15
     subst c15
     have H1 : ((spileref18_At_s.f l0 10000).bind fun t237 => (if (wrap64 (a1_0 * t237)) > (wrap64 (a1_1 * 10000)) then (some 10) else (some 0))) = some r := by rw [if_neg (show ¬ (false = true) by decide)] at H; exact H
     clear H
     have H := H1
     clear H1
     replace H := Option.bind_eq_some_iff.mp H
     obtain ⟨t237, A160, H⟩ := H
     replace H : (if (wrap64 (a1_0 * t237)) > (wrap64 (a1_1 * 10000)) then (some 10) else (some 0)) = some r := H
     have A16 := Aside0.mk A160
     clear A160
     by_cases c17 : (wrap64 (a1_0 * t237)) > (wrap64 (a1_1 * 10000))
     ·rw [if_pos c17] at H
      have c17b0 : decide ((wrap64 (a1_1 * 10000)) < (wrap64 (a1_0 * t237))) = true := decide_eq_true c17
      clear c17
      obtain rfl := Option.some.inj H
      try go_wp2
      have n0_ := Aside0.mk (blk_drew BK235.out)
      have n1_ := Aside0.mk (below_drew1 HB.out)
      clear BK235
      clear HB
      have BK235 := n0_
      have HB := n1_
      clear n0_ n1_
      refine start_ (n := 9) (S := fun w' => w'.cell? ⟨gb235, 0, none⟩ = some (.int .i64 a1_0) ∧ w'.cell? ⟨gb235, 1, none⟩ = some (.int .i64 a1_1)) (ds := []) #[false, false, false, false, false, false, false, false, false] (by kernel_rfl) rfl rfl ⟨(blk_cell BK235.out 0).trans rfl, (blk_cell BK235.out 1).trans rfl⟩ (fun hHeld => ?_); refine with_tabW spileref20_Check.tab5 spileref20_Check.bits5 (fun HT_ HW_ => ?_)
      generalize wc.drew = w18 at BK235 HB hHeld ⊢
      refine pure_ (i := 0) (N := some 26) (v := ?_) (a' := ?_) #[true, false, false, false, false, false, false, false, false] rfl rfl (any_of HT_.out (by kernel_rfl)) (fun _ _ _ h => h) (Or.inl ⟨by rfl, ?_⟩) ?_ ?_
      rotate_left
      ·intro w'
       go_simp
       with_reducible rfl
      rotate_left
      ·simp only [Act.put, List.setIfInBounds_toArray, List.set_cons_zero, List.set_cons_succ, i64_w, i32_w]
       rfl
      refine pure_ (i := 2) (N := some 28) (v := ?_) (a' := ?_) #[true, false, true, false, false, false, false, false, false] rfl rfl (any_of HT_.out (by kernel_rfl)) (fun _ _ _ h => h) (Or.inl ⟨by rfl, ?_⟩) ?_ ?_
      rotate_left
      ·intro w'
       go_simp
       with_reducible rfl
      rotate_left
      ·simp only [Act.put, List.setIfInBounds_toArray, List.set_cons_zero, List.set_cons_succ, i64_w, i32_w]
       rfl
      refine pure_ (i := 5) (N := some 31) (v := ?_) (a' := ?_) #[true, false, true, false, false, true, false, false, false] rfl rfl (any_of HT_.out (by kernel_rfl)) (fun _ _ _ h => h) (Or.inl ⟨by rfl, ?_⟩) ?_ ?_
      rotate_left
      ·intro w'
       go_simp
       with_reducible rfl
      rotate_left
      ·simp only [Act.put, List.setIfInBounds_toArray, List.set_cons_zero, List.set_cons_succ, i64_w, i32_w]
       rfl
      refine take_ (i := 1) (N := some 27) (v := ?_) (a' := ?_) #[true, true, true, false, false, true, false, false, false] rfl rfl (take_ofW HT_.out HW_.out (by kernel_rfl)) (fun _ _ _ h => h) (Or.inl ⟨by rfl, ?_⟩) hHeld ?_ ?_
      rotate_left
      ·rintro w' ⟨s0, s1⟩
       go_simp
       with_reducible rfl
      rotate_left
      ·simp only [Act.put, List.setIfInBounds_toArray, List.set_cons_zero, List.set_cons_succ, i64_w, i32_w]
       rfl
      refine take_ (i := 6) (N := some 32) (v := ?_) (a' := ?_) #[true, true, true, false, false, true, true, false, false] rfl rfl (take_ofW HT_.out HW_.out (by kernel_rfl)) (fun _ _ _ h => h) (Or.inl ⟨by rfl, ?_⟩) hHeld ?_ ?_
      rotate_left
      ·rintro w' ⟨s0, s1⟩
       go_simp
       with_reducible rfl
      rotate_left
      ·simp only [Act.put, List.setIfInBounds_toArray, List.set_cons_zero, List.set_cons_succ, i64_w, i32_w]
       rfl
      refine pure_ (i := 7) (N := some 33) (v := ?_) (a' := ?_) #[true, true, true, false, false, true, true, true, false] rfl rfl (any_of HT_.out (by kernel_rfl)) (fun _ _ _ h => h) (Or.inl ⟨by rfl, ?_⟩) ?_ ?_
      rotate_left
      ·intro w'
       go_simp
       with_reducible rfl
      rotate_left
      ·simp only [Act.put, List.setIfInBounds_toArray, List.set_cons_zero, List.set_cons_succ, i64_w, i32_w]
       rfl
      refine one_ (i := 3) (N := some 29) #[true, true, true, true, false, true, true, true, false] rfl rfl (one_of HT_.out (by kernel_rfl)) (by decide) (fun K hK => ?_)
      refine goes_ Tryd.func77 (by kernel_rfl) rfl #[.slice A0 l0.length c0, .int .i64 10000] (by rfl) rfl rfl (by (try simp only [List.map_toArray, List.map_cons, List.map_nil]); first | done | rfl | (simp only [List.length_drop, List.length_take]; rfl)) ?_
      with_reducible refine (spileref18_At_s.calls _ _ l0 10000 t237 _ ?side1 ?side2 A16.out).mono ?_
      (case side1 => exact kc_ HR0)
      (case side2 => exact HC0.out)
      rintro e w19 ⟨rfl, hb⟩
      refine ⟨_, rfl, ?_⟩
      have n0_ := Aside0.mk (blk_below (bkt_ BK235) hb)
      have n1_ := Aside0.mk (below_step bls_ hb)
      clear BK235
      clear HB
      have BK235 := n0_
      have HB := n1_
      clear n0_ n1_
      (try clear hb)
      (try clear hb2)
      (try clear hk)
      (try clear hi)
      refine hK.out _ _ ⟨(blk_cell BK235.out 0).trans rfl, (blk_cell BK235.out 1).trans rfl⟩ (fun hHeld => ?_)
      clear hK K
      refine norm_ (a' := ?_) ?_ ?_
      rotate_left
      ·show Act.put _ (some 29) _ = _
       simp only [Act.put, List.setIfInBounds_toArray, List.set_cons_zero, List.set_cons_succ, i64_w, i32_w]
       rfl
      refine pure_ (i := 4) (N := some 30) (v := ?_) (a' := ?_) #[true, true, true, true, true, true, true, true, false] rfl rfl (any_of HT_.out (by kernel_rfl)) (fun _ _ _ h => h) (Or.inl ⟨by rfl, ?_⟩) ?_ ?_
      rotate_left
      ·intro w'
       go_simp
       with_reducible rfl
      rotate_left
      ·simp only [Act.put, List.setIfInBounds_toArray, List.set_cons_zero, List.set_cons_succ, i64_w, i32_w]
       rfl
      refine pure_ (i := 8) (N := some 34) (v := ?_) (a' := ?_) #[true, true, true, true, true, true, true, true, true] rfl rfl (any_of HT_.out (by kernel_rfl)) (fun _ _ _ h => h) (Or.inl ⟨by rfl, ?_⟩) ?_ ?_
      rotate_left
      ·intro w'
       go_simp
       with_reducible rfl
      rotate_left
      ·simp only [Act.put, List.setIfInBounds_toArray, List.set_cons_zero, List.set_cons_succ, i64_w, i32_w]
       rfl
      refine done_ (done_of HT_.out (by kernel_rfl)) ?_
      try go_wp2
      go_ret
      exact ⟨fin_, bls_⟩
     ·rw [if_neg c17] at H
      have c17b0 : decide ((wrap64 (a1_1 * 10000)) < (wrap64 (a1_0 * t237))) = false := decide_eq_false c17
      clear c17
      obtain rfl := Option.some.inj H
      try go_wp2
      have n0_ := Aside0.mk (blk_drew BK235.out)
      have n1_ := Aside0.mk (below_drew1 HB.out)
      clear BK235
      clear HB
      have BK235 := n0_
      have HB := n1_
      clear n0_ n1_
      refine start_ (n := 9) (S := fun w' => w'.cell? ⟨gb235, 0, none⟩ = some (.int .i64 a1_0) ∧ w'.cell? ⟨gb235, 1, none⟩ = some (.int .i64 a1_1)) (ds := []) #[false, false, false, false, false, false, false, false, false] (by kernel_rfl) rfl rfl ⟨(blk_cell BK235.out 0).trans rfl, (blk_cell BK235.out 1).trans rfl⟩ (fun hHeld => ?_); refine with_tabW spileref20_Check.tab5 spileref20_Check.bits5 (fun HT_ HW_ => ?_)
      generalize wc.drew = w20 at BK235 HB hHeld ⊢
      refine pure_ (i := 0) (N := some 26) (v := ?_) (a' := ?_) #[true, false, false, false, false, false, false, false, false] rfl rfl (any_of HT_.out (by kernel_rfl)) (fun _ _ _ h => h) (Or.inl ⟨by rfl, ?_⟩) ?_ ?_
      rotate_left
      ·intro w'
       go_simp
       with_reducible rfl
      rotate_left
      ·simp only [Act.put, List.setIfInBounds_toArray, List.set_cons_zero, List.set_cons_succ, i64_w, i32_w]
       rfl
      refine pure_ (i := 2) (N := some 28) (v := ?_) (a' := ?_) #[true, false, true, false, false, false, false, false, false] rfl rfl (any_of HT_.out (by kernel_rfl)) (fun _ _ _ h => h) (Or.inl ⟨by rfl, ?_⟩) ?_ ?_
      rotate_left
      ·intro w'
       go_simp
       with_reducible rfl
      rotate_left
      ·simp only [Act.put, List.setIfInBounds_toArray, List.set_cons_zero, List.set_cons_succ, i64_w, i32_w]
       rfl
      refine pure_ (i := 5) (N := some 31) (v := ?_) (a' := ?_) #[true, false, true, false, false, true, false, false, false] rfl rfl (any_of HT_.out (by kernel_rfl)) (fun _ _ _ h => h) (Or.inl ⟨by rfl, ?_⟩) ?_ ?_
      rotate_left
      ·intro w'
       go_simp
       with_reducible rfl
      rotate_left
      ·simp only [Act.put, List.setIfInBounds_toArray, List.set_cons_zero, List.set_cons_succ, i64_w, i32_w]
       rfl
      refine take_ (i := 1) (N := some 27) (v := ?_) (a' := ?_) #[true, true, true, false, false, true, false, false, false] rfl rfl (take_ofW HT_.out HW_.out (by kernel_rfl)) (fun _ _ _ h => h) (Or.inl ⟨by rfl, ?_⟩) hHeld ?_ ?_
      rotate_left
      ·rintro w' ⟨s0, s1⟩
       go_simp
       with_reducible rfl
      rotate_left
      ·simp only [Act.put, List.setIfInBounds_toArray, List.set_cons_zero, List.set_cons_succ, i64_w, i32_w]
       rfl
      refine take_ (i := 6) (N := some 32) (v := ?_) (a' := ?_) #[true, true, true, false, false, true, true, false, false] rfl rfl (take_ofW HT_.out HW_.out (by kernel_rfl)) (fun _ _ _ h => h) (Or.inl ⟨by rfl, ?_⟩) hHeld ?_ ?_
      rotate_left
      ·rintro w' ⟨s0, s1⟩
       go_simp
       with_reducible rfl
      rotate_left
      ·simp only [Act.put, List.setIfInBounds_toArray, List.set_cons_zero, List.set_cons_succ, i64_w, i32_w]
       rfl
      refine pure_ (i := 7) (N := some 33) (v := ?_) (a' := ?_) #[true, true, true, false, false, true, true, true, false] rfl rfl (any_of HT_.out (by kernel_rfl)) (fun _ _ _ h => h) (Or.inl ⟨by rfl, ?_⟩) ?_ ?_
      rotate_left
      ·intro w'
       go_simp
       with_reducible rfl
      rotate_left
      ·simp only [Act.put, List.setIfInBounds_toArray, List.set_cons_zero, List.set_cons_succ, i64_w, i32_w]
       rfl
      refine one_ (i := 3) (N := some 29) #[true, true, true, true, false, true, true, true, false] rfl rfl (one_of HT_.out (by kernel_rfl)) (by decide) (fun K hK => ?_)
      refine goes_ Tryd.func77 (by kernel_rfl) rfl #[.slice A0 l0.length c0, .int .i64 10000] (by rfl) rfl rfl (by (try simp only [List.map_toArray, List.map_cons, List.map_nil]); first | done | rfl | (simp only [List.length_drop, List.length_take]; rfl)) ?_
      with_reducible refine (spileref18_At_s.calls _ _ l0 10000 t237 _ ?side1 ?side2 A16.out).mono ?_
      (case side1 => exact kc_ HR0)
      (case side2 => exact HC0.out)
      rintro e w21 ⟨rfl, hb⟩
      refine ⟨_, rfl, ?_⟩
      have n0_ := Aside0.mk (blk_below (bkt_ BK235) hb)
      have n1_ := Aside0.mk (below_step bls_ hb)
      clear BK235
      clear HB
      have BK235 := n0_
      have HB := n1_
      clear n0_ n1_
      (try clear hb)
      (try clear hb2)
      (try clear hk)
      (try clear hi)
      refine hK.out _ _ ⟨(blk_cell BK235.out 0).trans rfl, (blk_cell BK235.out 1).trans rfl⟩ (fun hHeld => ?_)
      clear hK K
      refine norm_ (a' := ?_) ?_ ?_
      rotate_left
      ·show Act.put _ (some 29) _ = _
       simp only [Act.put, List.setIfInBounds_toArray, List.set_cons_zero, List.set_cons_succ, i64_w, i32_w]
       rfl
      refine pure_ (i := 4) (N := some 30) (v := ?_) (a' := ?_) #[true, true, true, true, true, true, true, true, false] rfl rfl (any_of HT_.out (by kernel_rfl)) (fun _ _ _ h => h) (Or.inl ⟨by rfl, ?_⟩) ?_ ?_
      rotate_left
      ·intro w'
       go_simp
       with_reducible rfl
      rotate_left
      ·simp only [Act.put, List.setIfInBounds_toArray, List.set_cons_zero, List.set_cons_succ, i64_w, i32_w]
       rfl
      refine pure_ (i := 8) (N := some 34) (v := ?_) (a' := ?_) #[true, true, true, true, true, true, true, true, true] rfl rfl (any_of HT_.out (by kernel_rfl)) (fun _ _ _ h => h) (Or.inl ⟨by rfl, ?_⟩) ?_ ?_
      rotate_left
      ·intro w'
       go_simp
       with_reducible rfl
      rotate_left
      ·simp only [Act.put, List.setIfInBounds_toArray, List.set_cons_zero, List.set_cons_succ, i64_w, i32_w]
       rfl
      refine done_ (done_of HT_.out (by kernel_rfl)) ?_
      try go_wp2
      go_ret
      exact ⟨fin_, bls_⟩
 ·replace c4 := Bool.eq_false_iff.mpr c4
  subst c4
  have H1 : (some 1) = some r := by rw [if_neg (show ¬ (false = true) by decide)] at H; exact H
  clear H
  have H := H1
  clear H1
  obtain rfl := Option.some.inj H
  go_enter Tryd.func60, Tryd.ntmps60
  go_wp2_with (first | ((with_reducible refine gate_dst (N := 3) rfl ?_); refine be_ (N := 3) (cs := #[.int .i64 a1_0, .int .i64 a1_1]) (t := 45) ?_; intro gb235 hg w22 hbox hb; have n0_ := Aside0.mk (below_step bl_ hb); have n1_ := Aside0.mk (hbox); have n2_ := Aside0.mk ((by rw [hg]; exact (below_size bl_) : w.heap.size ≤ gb235)); have n3_ := Aside0.mk ((by rw [hg]; exact (below_size bl_) : w.heap.size ≤ gb235)); clear HB; have HB := n0_; have BK235 := n1_; have GW235 := n2_; have GE235 := n3_; clear n0_ n1_ n2_ n3_; clear hb hbox hg) | ((with_reducible refine gate_callee (f := 58) rfl ?_); refine gl_ (some 6) Tryd.func58 #[.slice A0 l0.length c0] ?_; (with_reducible refine (spileref16_Right.calls _ _ l0 false _ ?side1 ?side2 A3.out).mono ?_); (case side1 => exact kc_ HR0); (case side2 => exact HC0.out); rintro e w23 ⟨rfl, hb⟩; refine ⟨_, rfl, ?_⟩; have n0_ := Aside0.mk (blk_below (bkt_ BK235) hb); have n1_ := Aside0.mk (below_step bls_ hb); clear BK235; clear HB; have BK235 := n0_; have HB := n1_; clear n0_ n1_; (try clear hb); (try clear hb2); (try clear hk); (try clear hi)))
  go_ret
  exact ⟨fin_, bls_⟩
theorem spileref20_Check.plain (l : List S82) (a m : Int) : spileref20_Check.f 1 l a m = some (lchk l a m) := by
  unfold spileref20_Check.f lchk spileref16_Right.f spileref16_Check_s.f
  simp only [Option.bind_some]
  by_cases hr : (dchk l).2 = 0
  · have h := (right_iff l).1 hr
    simp only [if_pos hr, hr, beq_self_eq_true, spileref20_Check.j0, h.at18s (show (0 : Int) ≤ 10000 by decide) (show (10000 : Int) ≤ 10000 by decide), Option.bind_some, if_true]
    by_cases h0 : a < 0
    · simp [h0]
    by_cases h1 : a > 10737418240000
    · simp [h0, h1]
    by_cases h2 : m < 0
    · simp [h0, h1, h2]
    by_cases h3 : m > 128849018880000
    · simp [h0, h1, h2, h3]
    have hd := h.dens_rng (show (0 : Int) ≤ 10000 by decide) (show (10000 : Int) ≤ 10000 by decide)
    have w1 : wrap64 (a * dens l 10000) = a * dens l 10000 := wmul (by omega) (show a ≤ 10737418240000 by omega) (by omega) hd.2 (by decide)
    have w2 : wrap64 (m * 10000) = m * 10000 := w64_ (by omega) (by omega)
    rw [w1, w2]
    generalize a * dens l 10000 = x
    by_cases h4 : x > m * 10000
    · simp [h0, h1, h2, h3, h4]
    · simp [h0, h1, h2, h3, h4]
  · have e : ((dchk l).2 == 0) = false := beq_eq_false_iff_ne.mpr hr
    simp only [if_neg hr, e, Bool.false_eq_true, if_false]
def spileref20_Check_s.f (l0 : List S82) (a1_0 a1_1 : Int) : Option Int := some (lchk l0 a1_0 a1_1)
theorem spileref20_Check_s.calls (A0 : Option Addr) (c0 : Nat) (l0 : List S82) (a1_0 a1_1 : Int) (r : Int) (w : World) (hr0 : Kd.C k82 w A0 l0.length l0) (hc0 : l0.length ≤ c0) (h : spileref20_Check_s.f l0 a1_0 a1_1 = some r) :
    Calls Tryd.prog 60 #[.slice A0 l0.length c0, .agg #[.int .i64 a1_0, .int .i64 a1_1]] w fun e w' => e = .returned (.int .i64 r) ∧ Below w.heap.size w w' :=
  spileref20_Check.calls 1 A0 c0 l0 a1_0 a1_1 r w hr0 hc0 ((spileref20_Check.plain l0 a1_0 a1_1).trans h)

end Go.Proofs.YtcdkbciagchlgaaDoor.PF
