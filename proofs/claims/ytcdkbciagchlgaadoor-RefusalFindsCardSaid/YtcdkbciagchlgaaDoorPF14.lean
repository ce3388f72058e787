-- Written by a program of this session (wip/pr.py) out of Lean's print of the translation; Lean checks it.
import Derived.Test.YtcdkbciagchlgaaDoorPF0
import Derived.Test.YtcdkbciagchlgaaDoorPF1
import Derived.Test.YtcdkbciagchlgaaDoorPF11
import Derived.Test.YtcdkbciagchlgaaDoorPF13
namespace Go.Proofs.YtcdkbciagchlgaaDoor.PF
open Go.RowKit Go.Proofs.YtcdkbciagchlgaaDoorW.PrintWords Go.Proofs.YtcdkbciagchlgaaDoorW.PrintLast Go.Proofs.YtcdkbciagchlgaaDoorW.PrintMore
attribute [local go_sem] max2_int min2_int max_two min_two max_three min_three max_four min_four   -- for this text's walks alone
set_option linter.unusedVariables false
set_option linter.unusedSimpArgs false

/-! ### spileref30_over: function 61 -/
def spileref30_over.l0 : Nat → List (S82) → List (S45) → Int → List Int → Int → Option (List Int)
 | 0, _, _, _, _, _ => none
 | k + 1, x0, x1, x2, x7, x8 => if x8 < (x1.length : Int) then (if 0 ≤ x8 then ((spileref18_At_s.f x0 x2).bind fun t254 => (if x7.length < 17592186044416 then (spileref30_over.l0 k x0 x1 x2 (x7 ++ [wrap64 ((wrap64 (((rd_T45 x1 x8).f0) * t254)) - (wrap64 (((rd_T45 x1 x8).f1) * x2)))]) (wrap64 (x8 + 1))) else (none))) else (none)) else (some x7)
def spileref30_over.f (k : Nat) (l0 : List (S82)) (l1 : List (S45)) (a2 : Int) : Option (List Int) := spileref30_over.l0 k l0 l1 a2 (([] : List Int)) 0
theorem spileref30_over.mono_l : ∀ k, (∀ y0 y1 y2 y3 y4, LeO (spileref30_over.l0 k y0 y1 y2 y3 y4) (spileref30_over.l0 (k + 1) y0 y1 y2 y3 y4))
 | 0 => fun _ _ _ _ _ r h => by simp [spileref30_over.l0] at h
 | k + 1 => by
  have ih0 := spileref30_over.mono_l k
  ·intro y0 y1 y2 y3 y4
   unfold spileref30_over.l0
   repeat' first
   | (with_reducible exact ih0 _ _ _ _ _)
   | (with_reducible exact LeO.refl _)
   | (with_reducible exact LeO.none _)
   | (with_reducible refine LeO.ite ?_ ?_)
   | (with_reducible refine LeO.bind ?_ (fun _ => ?_))
   | exact ih0 _ _ _ _ _
   | exact LeO.none _
   | refine LeO.ite ?_ ?_
   | refine LeO.bind ?_ (fun _ => ?_)
theorem spileref30_over.mono : ∀ a0 a1 a2 k, LeO (spileref30_over.f k a0 a1 a2) (spileref30_over.f (k + 1) a0 a1 a2) := by
 intro a0 a1 a2 k
 have ih0 := spileref30_over.mono_l k
 unfold spileref30_over.f
 repeat' first
   | (with_reducible exact ih0 _ _ _ _ _)
   | (with_reducible exact LeO.refl _)
   | (with_reducible exact LeO.none _)
   | (with_reducible refine LeO.ite ?_ ?_)
   | (with_reducible refine LeO.bind ?_ (fun _ => ?_))
   | exact ih0 _ _ _ _ _
   | exact LeO.none _
   | refine LeO.ite ?_ ?_
   | refine LeO.bind ?_ (fun _ => ?_)
def spileref30_over.T5 : Bool × List (List Nat × List Nat) := (true, [([], []), ([], []), ([], []), ([1, 2], [1, 2]), ([3], [3]), ([4], [4]), ([], []), ([], []), ([6, 7], [6, 7]), ([5, 8], [5, 8]), ([], []), ([], []), ([10, 11], [10, 11]), ([12], [12]), ([13], [13]), ([], []), ([14, 15], [14, 15]), ([9, 16], [9, 16]), ([17], [17]), ([0, 18, 8], [0, 18]), ([19, 19, 0, 1, 2, 3, 4, 5, 6, 7, 8, 9, 10, 11, 12, 13, 14, 15, 16, 17, 18, 19], [0, 19])])
def spileref30_over.B5 : List Nat := [0, 0, 0, 6, 14, 30, 0, 0, 192, 510, 0, 0, 3072, 7168, 15360, 0, 64512, 131070, 262142, 524287, 1048575]
theorem spileref30_over.tab5 : rtab .any (opsOf Tryd.f61 5) = spileref30_over.T5 := by kernel_rfl
theorem spileref30_over.bits5 : waitsOk spileref30_over.T5.2 spileref30_over.B5 = true := by kernel_rfl
set_option maxHeartbeats 8000000 in
set_option maxRecDepth 100000 in
theorem spileref30_over.calls (k : Nat) (A0 : Option Addr) (c0 : Nat) (l0 : List (S82)) (A1 : Option Addr) (c1 : Nat) (l1 : List (S45)) (a2 : Int) (r : List Int) (w : World) (hr0 : Kd.C k82 w A0 l0.length l0) (hc0 : l0.length ≤ c0) (hr1 : Kd.C k45 w A1 l1.length l1) (hc1 : l1.length ≤ c1) (h : spileref30_over.f k l0 l1 a2 = some r) :
  Calls Tryd.prog 61 #[.slice A0 l0.length c0, .slice A1 l1.length c1, .int .i64 a2] w fun e w' => ∃ v0_ : Value, e = .returned (v0_) ∧ Kd.R (Kd.int .i64) 3 w' w.heap.size (fun _ => True) v0_ r ∧ Below w.heap.size w w' := by
 have HR0 := Aside0.mk hr0
 have HC0 := Aside0.mk hc0
 clear hr0 hc0
 have HR1 := Aside0.mk hr1
 have HC1 := Aside0.mk hc1
 clear hr1 hc1
 have HB := Aside0.mk (Below.refl w.heap.size w)
 have H : (spileref30_over.l0 k l0 l1 a2 (([] : List Int)) 0) = some r := h
 clear h
 obtain ⟨y250, hy250⟩ : ∃ y_ : List Int, y_ = (([] : List Int)) := ⟨_, rfl⟩
 replace H : (spileref30_over.l0 k l0 l1 a2 y250 0) = some r := by first | (rw [hy250]; with_reducible exact H) | (have H2_ := (Option.bind_some _ _).symm.trans H; rw [hy250]; with_reducible exact H2_) | (have H2_ := (Option.bind_some _ _).symm.trans H; with_reducible exact H2_) | with_reducible exact H | (rw [hy250]; exact H) | exact H
 have Ny250 := Aside0.mk hy250
 clear hy250
 have H' := Aside0.mk H
 clear H
 go_enter Tryd.func61, Tryd.ntmps61
 go_wp2_with (first | ((with_reducible refine gate_dst (N := 9) rfl ?_); refine Kd.R_lit (Kd.int .i64) _ 3 ?hg (N := 9) ?hd (xs := ([] : List Int)) (inner := []) (ok := fun _ => True) (okp := fun _ => True) ?hr ?hp (fun _ hk => hk) trivial (Below.refl _ _) (Nat.le_refl _) (by simp) ?_; (case hd => rfl); (case hg => rfl); (case hr => first | (go_simp; done) | (go_simp; rfl)); (case hp => exact (Reps.none _ _)); intro v251 w4 ho5 hb hg_ hnew_; clear hg_ hnew_; (first | rw [← Ny250.out] at ho5 | (simp only [Int.reduceToNat] at ho5; rw [← Ny250.out] at ho5)); have n0_ := Aside0.mk (Kd.R_lower ho5 (below_size bl_)); have n1_ := Aside0.mk (below_step bl_ hb); clear HB; have HO252 := n0_; have HB := n1_; clear n0_ n1_; clear hb ho5))
 go_loopg [7, 8] k (fun kq v7 v8 w' => ∃ (x7_1 : List Int) (x8_1 : Int), v8 = .int .i64 x8_1 ∧ Aside0 (spileref30_over.l0 kq l0 l1 a2 x7_1 x8_1 = some r) ∧ Aside0 (kq ≤ k) ∧ Aside0 (Kd.R (Kd.int .i64) 3 w' w.heap.size (fun _ => True) v7 x7_1) ∧ Aside0 (Below w.heap.size w w'))
 case atStart => exact ⟨(y250), (0), sm_, H', ⟨Nat.le_refl _⟩, ⟨by (with_reducible repeat (first | apply Kd.R_alloc | apply Kd.R_drewN | apply Kd.R_drew)); exact HO252.out⟩, ⟨bl_⟩⟩
 case round =>
  clear H'
  try clear c1
  try clear p2
  obtain ⟨x7_1, x8_1, rfl, HA, HK1, HO_7, HB⟩ := hrel
  cases gk with
  | zero => exact absurd HA.out (by simp [spileref30_over.l0])
  | succ k1 =>
   have H := HA.out
   clear HA
   simp only [spileref30_over.l0] at H
   by_cases c6 : x8_1 < (l1.length : Int)
   ·rw [if_pos c6] at H
    have c6b0 : decide (x8_1 < (l1.length : Int)) = true := decide_eq_true c6
    clear c6
    by_cases c7 : 0 ≤ x8_1
    ·rw [if_pos c7] at H
     have c7b0 : decide (0 ≤ x8_1) = true := decide_eq_true c7
     clear c7
     replace H := Option.bind_eq_some_iff.mp H
     obtain ⟨t254, A80, H⟩ := H
     replace H : (if x7_1.length < 17592186044416 then (spileref30_over.l0 k1 l0 l1 a2 (x7_1 ++ [wrap64 ((wrap64 (((rd_T45 l1 x8_1).f0) * t254)) - (wrap64 (((rd_T45 l1 x8_1).f1) * a2)))]) (wrap64 (x8_1 + 1))) else (none)) = some r := H
     have A8 := Aside0.mk A80
     clear A80
     by_cases c9 : x7_1.length < 17592186044416
     ·rw [if_pos c9] at H
      have LMc9 := Aside0.mk c9
      clear c9
      obtain ⟨y256, hy256⟩ : ∃ y_ : List Int, y_ = (x7_1 ++ [wrap64 ((wrap64 (((rd_T45 l1 x8_1).f0) * t254)) - (wrap64 (((rd_T45 l1 x8_1).f1) * a2)))]) := ⟨_, rfl⟩
      replace H : (spileref30_over.l0 k1 l0 l1 a2 y256 (wrap64 (x8_1 + 1))) = some r := by first | (rw [hy256]; with_reducible exact H) | (have H2_ := (Option.bind_some _ _).symm.trans H; rw [hy256]; with_reducible exact H2_) | (have H2_ := (Option.bind_some _ _).symm.trans H; with_reducible exact H2_) | with_reducible exact H | (rw [hy256]; exact H) | exact H
      have Ny256 := Aside0.mk hy256
      clear hy256
      have H' := Aside0.mk H
      clear H
      try go_wp2
      have n0_ := Aside0.mk (Kd.R_drew HO_7.out)
      have n1_ := Aside0.mk (below_drew1 HB.out)
      clear HO_7
      clear HB
      have HO_7 := n0_
      have HB := n1_
      clear n0_ n1_
      have p253 : 0 ≤ (x8_1 : Int) := of_decide_eq_true as_
      have q253 : x8_1 < (l1.length : Int) := of_decide_eq_true as_
      obtain ⟨ad253, e253, hx253_0, hx253_1⟩ := at_T45 HR1.out x8_1 p253 q253
      have hw253_1 := hx253_1
      have hw253_0 := hx253_0
      cases e253
      replace hx253_0 := (HB.out.cell (World.block_lt_of_cell? w _ hx253_0)).trans hx253_0
      replace hx253_1 := (HB.out.cell (World.block_lt_of_cell? w _ hx253_1)).trans hx253_1
      replace p253 := eq_true p253
      replace q253 := eq_true q253
      have p255 : 0 ≤ (x8_1 : Int) := of_decide_eq_true as_
      have q255 : x8_1 < (l1.length : Int) := of_decide_eq_true as_
      obtain ⟨ad255, e255, hx255_0, hx255_1⟩ := at_T45 HR1.out x8_1 p255 q255
      have hw255_1 := hx255_1
      have hw255_0 := hx255_0
      obtain rfl : ad253 = ad255 := (by injection e255)
      replace hx255_0 := (HB.out.cell (World.block_lt_of_cell? w _ hx255_0)).trans hx255_0
      replace hx255_1 := (HB.out.cell (World.block_lt_of_cell? w _ hx255_1)).trans hx255_1
      replace p255 := eq_true p255
      replace q255 := eq_true q255
      refine start_ (n := 21) (S := fun w' => w'.cell? (ad253.add ((x8_1).toNat * 2)) = some (.int .i64 ((rd_T45 l1 x8_1).f0)) ∧ w'.cell? ⟨(ad253.add ((x8_1).toNat * 2)).block, (ad253.add ((x8_1).toNat * 2)).off + 1, none⟩ = some (.int .i64 ((rd_T45 l1 x8_1).f1)) ∧ w'.cell? (ad253.add ((x8_1).toNat * 2)) = some (.int .i64 ((rd_T45 l1 x8_1).f0)) ∧ w'.cell? ⟨(ad253.add ((x8_1).toNat * 2)).block, (ad253.add ((x8_1).toNat * 2)).off + 1, none⟩ = some (.int .i64 ((rd_T45 l1 x8_1).f1))) (ds := []) #[false, false, false, false, false, false, false, false, false, false, false, false, false, false, false, false, false, false, false, false, false] (by kernel_rfl) rfl rfl ⟨((HB.out.cell (World.block_lt_of_cell? w _ hw253_0)).trans hw253_0), ((HB.out.cell (World.block_lt_of_cell? w _ hw253_1)).trans hw253_1), ((HB.out.cell (World.block_lt_of_cell? w _ hw255_0)).trans hw255_0), ((HB.out.cell (World.block_lt_of_cell? w _ hw255_1)).trans hw255_1)⟩ (fun hHeld => ?_); refine with_tabW spileref30_over.tab5 spileref30_over.bits5 (fun HT_ HW_ => ?_)
      generalize wr.drew = w10 at HO_7 HB hx253_0 hx253_1 hx255_0 hx255_1 hHeld ⊢
      refine pure_ (i := 0) (N := some 16) (v := ?_) (a' := ?_) #[true, false, false, false, false, false, false, false, false, false, false, false, false, false, false, false, false, false, false, false, false] rfl rfl (any_of HT_.out (by kernel_rfl)) (fun _ _ _ h => h) (Or.inl ⟨by rfl, ?_⟩) ?_ ?_
      rotate_left
      ·intro w'
       go_simp
       with_reducible rfl
      rotate_left
      ·simp only [Act.put, List.setIfInBounds_toArray, List.set_cons_zero, List.set_cons_succ, i64_w, i32_w]
       rfl
      refine pure_ (i := 1) (N := some 17) (v := ?_) (a' := ?_) #[true, true, false, false, false, false, false, false, false, false, false, false, false, false, false, false, false, false, false, false, false] rfl rfl (any_of HT_.out (by kernel_rfl)) (fun _ _ _ h => h) (Or.inl ⟨by rfl, ?_⟩) ?_ ?_
      rotate_left
      ·intro w'
       go_simp
       with_reducible rfl
      rotate_left
      ·simp only [Act.put, List.setIfInBounds_toArray, List.set_cons_zero, List.set_cons_succ, i64_w, i32_w]
       rfl
      refine pure_ (i := 2) (N := some 18) (v := ?_) (a' := ?_) #[true, true, true, false, false, false, false, false, false, false, false, false, false, false, false, false, false, false, false, false, false] rfl rfl (any_of HT_.out (by kernel_rfl)) (fun _ _ _ h => h) (Or.inl ⟨by rfl, ?_⟩) ?_ ?_
      rotate_left
      ·intro w'
       go_simp
       with_reducible rfl
      rotate_left
      ·simp only [Act.put, List.setIfInBounds_toArray, List.set_cons_zero, List.set_cons_succ, i64_w, i32_w]
       rfl
      refine pure_ (i := 3) (N := some 19) (v := ?_) (a' := ?_) #[true, true, true, true, false, false, false, false, false, false, false, false, false, false, false, false, false, false, false, false, false] rfl rfl (any_of HT_.out (by kernel_rfl)) (fun _ _ _ h => h) (Or.inl ⟨by rfl, ?_⟩) ?_ ?_
      rotate_left
      ·intro w'
       go_simp
       with_reducible rfl
      rotate_left
      ·simp only [Act.put, List.setIfInBounds_toArray, List.set_cons_zero, List.set_cons_succ, i64_w, i32_w]
       rfl
      refine pure_ (i := 4) (N := some 20) (v := ?_) (a' := ?_) #[true, true, true, true, true, false, false, false, false, false, false, false, false, false, false, false, false, false, false, false, false] rfl rfl (any_of HT_.out (by kernel_rfl)) (fun _ _ _ h => h) (Or.inl ⟨by rfl, ?_⟩) ?_ ?_
      rotate_left
      ·intro w'
       go_simp
       with_reducible rfl
      rotate_left
      ·simp only [Act.put, List.setIfInBounds_toArray, List.set_cons_zero, List.set_cons_succ, i64_w, i32_w]
       rfl
      refine pure_ (i := 6) (N := some 22) (v := ?_) (a' := ?_) #[true, true, true, true, true, false, true, false, false, false, false, false, false, false, false, false, false, false, false, false, false] rfl rfl (any_of HT_.out (by kernel_rfl)) (fun _ _ _ h => h) (Or.inl ⟨by rfl, ?_⟩) ?_ ?_
      rotate_left
      ·intro w'
       go_simp
       with_reducible rfl
      rotate_left
      ·simp only [Act.put, List.setIfInBounds_toArray, List.set_cons_zero, List.set_cons_succ, i64_w, i32_w]
       rfl
      refine pure_ (i := 7) (N := some 23) (v := ?_) (a' := ?_) #[true, true, true, true, true, false, true, true, false, false, false, false, false, false, false, false, false, false, false, false, false] rfl rfl (any_of HT_.out (by kernel_rfl)) (fun _ _ _ h => h) (Or.inl ⟨by rfl, ?_⟩) ?_ ?_
      rotate_left
      ·intro w'
       go_simp
       with_reducible rfl
      rotate_left
      ·simp only [Act.put, List.setIfInBounds_toArray, List.set_cons_zero, List.set_cons_succ, i64_w, i32_w]
       rfl
      refine pure_ (i := 10) (N := some 26) (v := ?_) (a' := ?_) #[true, true, true, true, true, false, true, true, false, false, true, false, false, false, false, false, false, false, false, false, false] rfl rfl (any_of HT_.out (by kernel_rfl)) (fun _ _ _ h => h) (Or.inl ⟨by rfl, ?_⟩) ?_ ?_
      rotate_left
      ·intro w'
       go_simp
       with_reducible rfl
      rotate_left
      ·simp only [Act.put, List.setIfInBounds_toArray, List.set_cons_zero, List.set_cons_succ, i64_w, i32_w]
       rfl
      refine pure_ (i := 11) (N := some 27) (v := ?_) (a' := ?_) #[true, true, true, true, true, false, true, true, false, false, true, true, false, false, false, false, false, false, false, false, false] rfl rfl (any_of HT_.out (by kernel_rfl)) (fun _ _ _ h => h) (Or.inl ⟨by rfl, ?_⟩) ?_ ?_
      rotate_left
      ·intro w'
       go_simp
       with_reducible rfl
      rotate_left
      ·simp only [Act.put, List.setIfInBounds_toArray, List.set_cons_zero, List.set_cons_succ, i64_w, i32_w]
       rfl
      refine pure_ (i := 12) (N := some 28) (v := ?_) (a' := ?_) #[true, true, true, true, true, false, true, true, false, false, true, true, true, false, false, false, false, false, false, false, false] rfl rfl (any_of HT_.out (by kernel_rfl)) (fun _ _ _ h => h) (Or.inl ⟨by rfl, ?_⟩) ?_ ?_
      rotate_left
      ·intro w'
       go_simp
       with_reducible rfl
      rotate_left
      ·simp only [Act.put, List.setIfInBounds_toArray, List.set_cons_zero, List.set_cons_succ, i64_w, i32_w]
       rfl
      refine pure_ (i := 13) (N := some 29) (v := ?_) (a' := ?_) #[true, true, true, true, true, false, true, true, false, false, true, true, true, true, false, false, false, false, false, false, false] rfl rfl (any_of HT_.out (by kernel_rfl)) (fun _ _ _ h => h) (Or.inl ⟨by rfl, ?_⟩) ?_ ?_
      rotate_left
      ·intro w'
       go_simp
       with_reducible rfl
      rotate_left
      ·simp only [Act.put, List.setIfInBounds_toArray, List.set_cons_zero, List.set_cons_succ, i64_w, i32_w]
       rfl
      refine pure_ (i := 15) (N := some 31) (v := ?_) (a' := ?_) #[true, true, true, true, true, false, true, true, false, false, true, true, true, true, false, true, false, false, false, false, false] rfl rfl (any_of HT_.out (by kernel_rfl)) (fun _ _ _ h => h) (Or.inl ⟨by rfl, ?_⟩) ?_ ?_
      rotate_left
      ·intro w'
       go_simp
       with_reducible rfl
      rotate_left
      ·simp only [Act.put, List.setIfInBounds_toArray, List.set_cons_zero, List.set_cons_succ, i64_w, i32_w]
       rfl
      refine take_ (i := 5) (N := some 21) (v := ?_) (a' := ?_) #[true, true, true, true, true, true, true, true, false, false, true, true, true, true, false, true, false, false, false, false, false] rfl rfl (take_ofW HT_.out HW_.out (by kernel_rfl)) (fun _ _ _ h => h) (Or.inl ⟨by rfl, ?_⟩) hHeld ?_ ?_
      rotate_left
      ·rintro w' ⟨s0, s1, s2, s3⟩
       go_simp
       with_reducible rfl
      rotate_left
      ·simp only [Act.put, List.setIfInBounds_toArray, List.set_cons_zero, List.set_cons_succ, i64_w, i32_w]
       rfl
      refine take_ (i := 14) (N := some 30) (v := ?_) (a' := ?_) #[true, true, true, true, true, true, true, true, false, false, true, true, true, true, true, true, false, false, false, false, false] rfl rfl (take_ofW HT_.out HW_.out (by kernel_rfl)) (fun _ _ _ h => h) (Or.inl ⟨by rfl, ?_⟩) hHeld ?_ ?_
      rotate_left
      ·rintro w' ⟨s0, s1, s2, s3⟩
       go_simp
       with_reducible rfl
      rotate_left
      ·simp only [Act.put, List.setIfInBounds_toArray, List.set_cons_zero, List.set_cons_succ, i64_w, i32_w]
       rfl
      refine pure_ (i := 16) (N := some 32) (v := ?_) (a' := ?_) #[true, true, true, true, true, true, true, true, false, false, true, true, true, true, true, true, true, false, false, false, false] rfl rfl (any_of HT_.out (by kernel_rfl)) (fun _ _ _ h => h) (Or.inl ⟨by rfl, ?_⟩) ?_ ?_
      rotate_left
      ·intro w'
       go_simp
       with_reducible rfl
      rotate_left
      ·simp only [Act.put, List.setIfInBounds_toArray, List.set_cons_zero, List.set_cons_succ, i64_w, i32_w]
       rfl
      refine one_ (i := 8) (N := some 24) #[true, true, true, true, true, true, true, true, true, false, true, true, true, true, true, true, true, false, false, false, false] rfl rfl (one_of HT_.out (by kernel_rfl)) (by decide) (fun K hK => ?_)
      refine goes_ Tryd.func77 (by kernel_rfl) rfl #[.slice A0 l0.length c0, .int .i64 a2] (by rfl) rfl rfl (by (try simp only [List.map_toArray, List.map_cons, List.map_nil]); first | done | rfl | (simp only [List.length_drop, List.length_take]; rfl)) ?_
      with_reducible refine (spileref18_At_s.calls _ _ l0 a2 t254 _ ?side1 ?side2 A8.out).mono ?_
      (case side1 => exact kc_ HR0)
      (case side2 => exact HC0.out)
      rintro e w11 ⟨rfl, hb⟩
      refine ⟨_, rfl, ?_⟩
      have n0_ := Aside0.mk (Kd.R_below (kr_ HO_7) hb)
      have n1_ := Aside0.mk (below_step bl_ hb)
      clear HO_7
      clear HB
      have HO_7 := n0_
      have HB := n1_
      clear n0_ n1_
      (try clear hb)
      (try clear hb2)
      (try clear hk)
      (try clear hi)
      refine hK.out _ _ ⟨((HB.out.cell (World.block_lt_of_cell? w _ hw253_0)).trans hw253_0), ((HB.out.cell (World.block_lt_of_cell? w _ hw253_1)).trans hw253_1), ((HB.out.cell (World.block_lt_of_cell? w _ hw255_0)).trans hw255_0), ((HB.out.cell (World.block_lt_of_cell? w _ hw255_1)).trans hw255_1)⟩ (fun hHeld => ?_)
      clear hK K
      refine norm_ (a' := ?_) ?_ ?_
      rotate_left
      ·show Act.put _ (some 24) _ = _
       simp only [Act.put, List.setIfInBounds_toArray, List.set_cons_zero, List.set_cons_succ, i64_w, i32_w]
       rfl
      refine pure_ (i := 9) (N := some 25) (v := ?_) (a' := ?_) #[true, true, true, true, true, true, true, true, true, true, true, true, true, true, true, true, true, false, false, false, false] rfl rfl (any_of HT_.out (by kernel_rfl)) (fun _ _ _ h => h) (Or.inl ⟨by rfl, ?_⟩) ?_ ?_
      rotate_left
      ·intro w'
       go_simp
       with_reducible rfl
      rotate_left
      ·simp only [Act.put, List.setIfInBounds_toArray, List.set_cons_zero, List.set_cons_succ, i64_w, i32_w]
       rfl
      refine pure_ (i := 17) (N := some 33) (v := ?_) (a' := ?_) #[true, true, true, true, true, true, true, true, true, true, true, true, true, true, true, true, true, true, false, false, false] rfl rfl (any_of HT_.out (by kernel_rfl)) (fun _ _ _ h => h) (Or.inl ⟨by rfl, ?_⟩) ?_ ?_
      rotate_left
      ·intro w'
       go_simp
       with_reducible rfl
      rotate_left
      ·simp only [Act.put, List.setIfInBounds_toArray, List.set_cons_zero, List.set_cons_succ, i64_w, i32_w]
       rfl
      refine one_ (i := 18) (N := some 34) #[true, true, true, true, true, true, true, true, true, true, true, true, true, true, true, true, true, true, true, false, false] rfl rfl (one_of HT_.out (by kernel_rfl)) (by decide) (fun K hK => ?_)
      refine value_ (w1 := ?_) (v := ?_) (by rfl) rfl ?_ ?_
      rotate_left 2
      ·go_simp
       constructor
       ·rfl
       ·rfl
      refine hK.out _ _ ⟨(World.cell?_alloc_lt _ _ _ (World.block_lt_of_cell? _ _ (((HB.out.cell (World.block_lt_of_cell? w _ hw253_0)).trans hw253_0)))).trans (((HB.out.cell (World.block_lt_of_cell? w _ hw253_0)).trans hw253_0)), (World.cell?_alloc_lt _ _ _ (World.block_lt_of_cell? _ _ (((HB.out.cell (World.block_lt_of_cell? w _ hw253_1)).trans hw253_1)))).trans (((HB.out.cell (World.block_lt_of_cell? w _ hw253_1)).trans hw253_1)), (World.cell?_alloc_lt _ _ _ (World.block_lt_of_cell? _ _ (((HB.out.cell (World.block_lt_of_cell? w _ hw255_0)).trans hw255_0)))).trans (((HB.out.cell (World.block_lt_of_cell? w _ hw255_0)).trans hw255_0)), (World.cell?_alloc_lt _ _ _ (World.block_lt_of_cell? _ _ (((HB.out.cell (World.block_lt_of_cell? w _ hw255_1)).trans hw255_1)))).trans (((HB.out.cell (World.block_lt_of_cell? w _ hw255_1)).trans hw255_1))⟩ (fun hHeld => ?_)
      clear hK K
      refine norm_ (a' := ?_) ?_ ?_
      rotate_left
      ·show Act.put _ (some 34) _ = _
       simp only [Act.put, List.setIfInBounds_toArray, List.set_cons_zero, List.set_cons_succ, i64_w, i32_w]
       rfl
      refine one_ (i := 19) (N := some 35) #[true, true, true, true, true, true, true, true, true, true, true, true, true, true, true, true, true, true, true, true, false] rfl rfl (one_of HT_.out (by kernel_rfl)) (by decide) (fun K hK => ?_)
      refine Kd.R_append_step (Kd.int .i64) (w0 := w) w.heap.size (by rfl) (.tmp 16) (.tmp 34) 24 3 (.int .i64 0) 8 rfl Tryd.underlying24 info3 rfl (by decide) (by omega) u7 x7_1 (wrap64 ((wrap64 (((rd_T45 l1 x8_1).f0) * t254)) - (wrap64 (((rd_T45 l1 x8_1).f1) * a2)))) [.int .i64 (wrap64 ((wrap64 (((rd_T45 l1 x8_1).f0) * t254)) - (wrap64 (((rd_T45 l1 x8_1).f1) * a2))))] (fun _ => True) (fun _ => False) rfl rfl ?aP (fun _ hk => hk.elim) ?aF ?aO ?aB ?aS ?aL ?_
      (case aP => exact rfl)
      (case aB => exact bl_)
      (case aF => exact (fun _ _ => trivial))
      (case aO => exact (kr_ HO_7))
      (case aS => exact (below_size bl_))
      (case aL => have := LMc9.out; omega)
      intro v257 w12 ho hb hg hat
      rw [← Ny256.out] at ho
      have n0_ := Aside0.mk (hb)
      have n1_ := Aside0.mk (ho)
      clear HB
      clear HO_7
      have HB := n0_
      have HO258 := n1_
      clear n0_ n1_
      clear ho hb hg hat
      refine hK.out _ _ ⟨((HB.out.cell (World.block_lt_of_cell? w _ hw253_0)).trans hw253_0), ((HB.out.cell (World.block_lt_of_cell? w _ hw253_1)).trans hw253_1), ((HB.out.cell (World.block_lt_of_cell? w _ hw255_0)).trans hw255_0), ((HB.out.cell (World.block_lt_of_cell? w _ hw255_1)).trans hw255_1)⟩ (fun hHeld => ?_)
      clear hK K
      refine norm_ (a' := ?_) ?_ ?_
      rotate_left
      ·show Act.put _ (some 35) _ = _
       simp only [Act.put, List.setIfInBounds_toArray, List.set_cons_zero, List.set_cons_succ, i64_w, i32_w]
       rfl
      refine pure_ (i := 20) (N := some 7) (v := ?_) (a' := ?_) #[true, true, true, true, true, true, true, true, true, true, true, true, true, true, true, true, true, true, true, true, true] rfl rfl (any_of HT_.out (by kernel_rfl)) (fun _ _ _ h => h) (Or.inl ⟨by rfl, ?_⟩) ?_ ?_
      rotate_left
      ·intro w'
       go_simp
       with_reducible rfl
      rotate_left
      ·simp only [Act.put, List.setIfInBounds_toArray, List.set_cons_zero, List.set_cons_succ, i64_w, i32_w]
       rfl
      refine done_ (done_of HT_.out (by kernel_rfl)) ?_
      try go_wp2
      go_roundg k1
      case measure => have := HK1.out; omega
      case rel => exact ⟨(y256), (wrap64 (x8_1 + 1)), sm_, H', ⟨by have := HK1.out; omega⟩, ⟨by (with_reducible repeat (first | apply Kd.R_alloc | apply Kd.R_drewN | apply Kd.R_drew)); exact HO258.out⟩, ⟨bl_⟩⟩
     ·rw [if_neg c9] at H
      exact absurd H (by simp)
    ·rw [if_neg c7] at H
     exact absurd H (by simp)
   ·rw [if_neg c6] at H
    have c6b0 : decide (x8_1 < (l1.length : Int)) = false := decide_eq_false c6
    clear c6
    obtain rfl := Option.some.inj H
    go_wp2
    go_ret
    exact ⟨_, fin_, by (with_reducible repeat (first | apply Kd.R_alloc | apply Kd.R_drewN | apply Kd.R_drew)); exact HO_7.out, bl_⟩

/-! ### spileref30_excess: function 31 -/
def spileref30_excess.f (k : Nat) (l0 : List (S82)) (l1_0 : List (S45)) (l1_1 : List Int) (l1_2 : List Int) (a1_3 : Int) (a1_4 : Int) (a1_5 : Int) : Option (List Int × List Int) := (spileref30_over.f k l0 l1_0 a1_3).bind fun t260 => (if a1_4 < 10000 then ((spileref30_over.f k l0 l1_0 (wrap64 (a1_4 + 1))).bind fun t266 => (some (t260, t266))) else (some (t260, (([] : List Int)))))
theorem spileref30_excess.mono : ∀ a0 a1 a2 a3 a4 a5 a6 k, LeO (spileref30_excess.f k a0 a1 a2 a3 a4 a5 a6) (spileref30_excess.f (k + 1) a0 a1 a2 a3 a4 a5 a6) := by
 intro a0 a1 a2 a3 a4 a5 a6 k
 unfold spileref30_excess.f
 repeat' first
   | (with_reducible exact spileref30_over.mono _ _ _ _)
   | (with_reducible exact LeO.refl _)
   | (with_reducible exact LeO.none _)
   | (with_reducible refine LeO.ite ?_ ?_)
   | (with_reducible refine LeO.bind ?_ (fun _ => ?_))
   | exact spileref30_over.mono _ _ _ _
   | exact LeO.none _
   | refine LeO.ite ?_ ?_
   | refine LeO.bind ?_ (fun _ => ?_)
set_option maxHeartbeats 8000000 in
set_option maxRecDepth 100000 in
theorem spileref30_excess.calls (k : Nat) (A0 : Option Addr) (c0 : Nat) (l0 : List (S82)) (A1_0 : Option Addr) (c1_0 : Nat) (l1_0 : List (S45)) (A1_1 : Option Addr) (c1_1 : Nat) (l1_1 : List Int) (A1_2 : Option Addr) (c1_2 : Nat) (l1_2 : List Int) (a1_3 : Int) (a1_4 : Int) (a1_5 : Int) (r1 : List Int) (r2 : List Int) (w : World) (hr0 : Kd.C k82 w A0 l0.length l0) (hc0 : l0.length ≤ c0) (hr1_0 : Kd.C k45 w A1_0 l1_0.length l1_0) (hc1_0 : l1_0.length ≤ c1_0) (hr1_1 : Kd.C (Kd.int .i64) w A1_1 l1_1.length l1_1) (hc1_1 : l1_1.length ≤ c1_1) (hr1_2 : Kd.C (Kd.int .i64) w A1_2 l1_2.length l1_2) (hc1_2 : l1_2.length ≤ c1_2) (h : spileref30_excess.f k l0 l1_0 l1_1 l1_2 a1_3 a1_4 a1_5 = some (r1, r2)) :
  Calls Tryd.prog 31 #[.slice A0 l0.length c0, .agg #[.slice A1_0 l1_0.length c1_0, .slice A1_1 l1_1.length c1_1, .slice A1_2 l1_2.length c1_2, .int .i64 a1_3, .int .i64 a1_4, .int .i64 a1_5]] w fun e w' => ∃ v0_ v1_ : Value, e = .returned (.tuple #[v0_, v1_]) ∧ Kd.R (Kd.int .i64) 3 w' w.heap.size (fun k_ => some k_ ≠ (v1_ : Value).ownBlock) v0_ r1 ∧ Kd.R (Kd.int .i64) 3 w' w.heap.size (fun k_ => some k_ ≠ (v0_ : Value).ownBlock) v1_ r2 ∧ Below w.heap.size w w' := by
 have hu26 := Tryd.underlying26
 have HR0 := Aside0.mk hr0
 have HC0 := Aside0.mk hc0
 clear hr0 hc0
 have HR1_0 := Aside0.mk hr1_0
 have HC1_0 := Aside0.mk hc1_0
 clear hr1_0 hc1_0
 have HR1_1 := Aside0.mk hr1_1
 have HC1_1 := Aside0.mk hc1_1
 clear hr1_1 hc1_1
 have HR1_2 := Aside0.mk hr1_2
 have HC1_2 := Aside0.mk hc1_2
 clear hr1_2 hc1_2
 have HB := Aside0.mk (Below.refl w.heap.size w)
 have H : ((spileref30_over.f k l0 l1_0 a1_3).bind fun t260 => (if a1_4 < 10000 then ((spileref30_over.f k l0 l1_0 (wrap64 (a1_4 + 1))).bind fun t266 => (some (t260, t266))) else (some (t260, (([] : List Int)))))) = some (r1, r2) := h
 clear h
 replace H := Option.bind_eq_some_iff.mp H
 obtain ⟨t260, A30, H⟩ := H
 replace H : (if a1_4 < 10000 then ((spileref30_over.f k l0 l1_0 (wrap64 (a1_4 + 1))).bind fun t266 => (some (t260, t266))) else (some (t260, (([] : List Int))))) = some (r1, r2) := H
 have A3 := Aside0.mk A30
 clear A30
 obtain ⟨y263, hy263⟩ : ∃ y_ : List Int, y_ = (([] : List Int)) := ⟨_, rfl⟩
 replace H : (if a1_4 < 10000 then ((spileref30_over.f k l0 l1_0 (wrap64 (a1_4 + 1))).bind fun t266 => (some (t260, t266))) else (some (t260, y263))) = some (r1, r2) := by first | (rw [hy263]; with_reducible exact H) | (have H2_ := (Option.bind_some _ _).symm.trans H; rw [hy263]; with_reducible exact H2_) | (have H2_ := (Option.bind_some _ _).symm.trans H; with_reducible exact H2_) | with_reducible exact H | (rw [hy263]; exact H) | exact H
 have Ny263 := Aside0.mk hy263
 clear hy263
 by_cases c4 : a1_4 < 10000
 ·rw [if_pos c4] at H
  have c4b0 : decide (a1_4 < 10000) = true := decide_eq_true c4
  clear c4
  replace H := Option.bind_eq_some_iff.mp H
  obtain ⟨t266, A50, H⟩ := H
  replace H : (some (t260, t266)) = some (r1, r2) := H
  have A5 := Aside0.mk A50
  clear A50
  simp only [Option.some.injEq, Prod.mk.injEq] at H
  obtain ⟨rfl, rfl⟩ := H
  go_enter Tryd.func31, Tryd.ntmps31
  go_wp2_with (first | ((with_reducible refine gate_dst (N := 3) rfl ?_); refine be_ (N := 3) (cs := #[.slice A1_0 l1_0.length c1_0, .slice A1_1 l1_1.length c1_1, .slice A1_2 l1_2.length c1_2, .int .i64 a1_3, .int .i64 a1_4, .int .i64 a1_5]) (t := 26) ?_; intro gb259 hg w6 hbox hb; have n0_ := Aside0.mk (below_step bl_ hb); have n1_ := Aside0.mk (hbox); have n2_ := Aside0.mk ((by rw [hg]; exact (below_size bl_) : w.heap.size ≤ gb259)); have n3_ := Aside0.mk ((by rw [hg]; exact (below_size bl_) : w.heap.size ≤ gb259)); clear HB; have HB := n0_; have BK259 := n1_; have GW259 := n2_; have GE259 := n3_; clear n0_ n1_ n2_ n3_; clear hb hbox hg; obtain ⟨hcz7_0, hcz7_1, hcz7_2, hcz7_3, hcz7_4, hcz7_5⟩ := bc6_ BK259; obtain ⟨hfz7_0, hfz7_1, hfz7_2, hfz7_3, hfz7_4⟩ := bf5_ BK259; have hfz7_5 := blk_frozen BK259.out 5) | ((with_reducible refine gate_callee (f := 61) rfl ?_); refine gl_ (some 13) Tryd.func61 #[.slice A0 l0.length c0, .slice A1_0 l1_0.length c1_0, .int .i64 a1_3] ?_; (with_reducible refine (spileref30_over.calls k _ _ l0 _ _ l1_0 a1_3 t260 _ ?side1 ?side2 ?side3 ?side4 A3.out).mono ?_); (case side1 => exact kc_ HR0); (case side2 => exact HC0.out); (case side3 => exact kc_ HR1_0); (case side4 => exact HC1_0.out); rintro e w8 ⟨v261, rfl, ho0, hb⟩; refine ⟨_, rfl, ?_⟩; have n0_ := Aside0.mk (Kd.R_lower ho0 (below_size bls_)); have n1_ := Aside0.mk (blk_below (bkt_ BK259) hb); have n2_ := Aside0.mk (below_step bls_ hb); clear BK259; clear HB; have HO262 := n0_; have BK259 := n1_; have HB := n2_; clear n0_ n1_ n2_; (try clear hb); (try clear hb2); (try clear hk); (try clear hi); (try clear ho0)) | ((with_reducible refine gate_dst (N := 14) rfl ?_); refine Kd.R_lit (Kd.int .i64) _ 3 ?hg (N := 14) ?hd (xs := ([] : List Int)) (inner := []) (ok := fun _ => True) (okp := fun _ => True) ?hr ?hp (fun _ hk => hk) trivial (Below.refl _ _) (Nat.le_refl _) (by simp) ?_; (case hd => rfl); (case hg => rfl); (case hr => first | (go_simp; done) | (go_simp; rfl)); (case hp => exact (Reps.none _ _)); intro v264 w9 ho10 hb hg_ hnew_; clear hg_ hnew_; (first | rw [← Ny263.out] at ho10 | (simp only [Int.reduceToNat] at ho10; rw [← Ny263.out] at ho10)); have n0_ := Aside0.mk (Kd.R_elder' (kr_ HO262) (Kd.R_base ho10) hb); have n1_ := Aside0.mk (Kd.R_lower (Kd.R_new' ho10 (Kd.R_lt (kr_ HO262))) (below_size bls_)); have n2_ := Aside0.mk (blk_below (bkt_ BK259) hb); have n3_ := Aside0.mk (below_step bls_ hb); clear HO262; clear BK259; clear HB; have HO262 := n0_; have HO265 := n1_; have BK259 := n2_; have HB := n3_; clear n0_ n1_ n2_ n3_; clear hb ho10; obtain ⟨hcz11_0, hcz11_1, hcz11_2, hcz11_3, hcz11_4, hcz11_5⟩ := bc6_ BK259; obtain ⟨hfz11_0, hfz11_1, hfz11_2, hfz11_3, hfz11_4⟩ := bf5_ BK259; have hfz11_5 := blk_frozen BK259.out 5) | ((with_reducible refine gate_callee (f := 61) rfl ?_); refine gl_ (some 24) Tryd.func61 #[.slice A0 l0.length c0, .slice A1_0 l1_0.length c1_0, .int .i64 (wrap64 (a1_4 + 1))] ?_; (with_reducible refine (spileref30_over.calls k _ _ l0 _ _ l1_0 (wrap64 (a1_4 + 1)) t266 _ ?side1 ?side2 ?side3 ?side4 A5.out).mono ?_); (case side1 => exact kc_ HR0); (case side2 => exact HC0.out); (case side3 => exact kc_ HR1_0); (case side4 => exact HC1_0.out); rintro e w12 ⟨v267, rfl, ho0, hb⟩; refine ⟨_, rfl, ?_⟩; have n0_ := Aside0.mk (Kd.R_elder' (kr_ HO262) (Kd.R_base ho0) hb); have n1_ := Aside0.mk (Kd.R_elder' (kr_ HO265) (Kd.R_base ho0) hb); have n2_ := Aside0.mk (Kd.R_lower (Kd.R_new' (Kd.R_new' ho0 (Kd.R_lt (kr_ HO262))) (Kd.R_lt (kr_ HO265))) (below_size bls_)); have n3_ := Aside0.mk (blk_below (bkt_ BK259) hb); have n4_ := Aside0.mk (below_step bls_ hb); clear HO262; clear HO265; clear BK259; clear HB; have HO262 := n0_; have HO265 := n1_; have HO268 := n2_; have BK259 := n3_; have HB := n4_; clear n0_ n1_ n2_ n3_ n4_; (try clear hb); (try clear hb2); (try clear hk); (try clear hi); (try clear ho0)))
  go_ret2
  exact ⟨_, _, fin_, by (with_reducible repeat (first | apply Kd.R_alloc | apply Kd.R_drewN | apply Kd.R_drew)); exact Kd.R_mono HO262.out (fun _ hk => hk.2), by (with_reducible repeat (first | apply Kd.R_alloc | apply Kd.R_drewN | apply Kd.R_drew)); exact Kd.R_mono HO268.out (fun _ hk => hk.1.2), bls_⟩
 ·rw [if_neg c4] at H
  have c4b0 : decide (a1_4 < 10000) = false := decide_eq_false c4
  clear c4
  simp only [Option.some.injEq, Prod.mk.injEq] at H
  obtain ⟨rfl, rfl⟩ := H
  go_enter Tryd.func31, Tryd.ntmps31
  go_wp2_with (first | ((with_reducible refine gate_dst (N := 3) rfl ?_); refine be_ (N := 3) (cs := #[.slice A1_0 l1_0.length c1_0, .slice A1_1 l1_1.length c1_1, .slice A1_2 l1_2.length c1_2, .int .i64 a1_3, .int .i64 a1_4, .int .i64 a1_5]) (t := 26) ?_; intro gb259 hg w13 hbox hb; have n0_ := Aside0.mk (below_step bl_ hb); have n1_ := Aside0.mk (hbox); have n2_ := Aside0.mk ((by rw [hg]; exact (below_size bl_) : w.heap.size ≤ gb259)); have n3_ := Aside0.mk ((by rw [hg]; exact (below_size bl_) : w.heap.size ≤ gb259)); clear HB; have HB := n0_; have BK259 := n1_; have GW259 := n2_; have GE259 := n3_; clear n0_ n1_ n2_ n3_; clear hb hbox hg; obtain ⟨hcz14_0, hcz14_1, hcz14_2, hcz14_3, hcz14_4, hcz14_5⟩ := bc6_ BK259; obtain ⟨hfz14_0, hfz14_1, hfz14_2, hfz14_3, hfz14_4⟩ := bf5_ BK259; have hfz14_5 := blk_frozen BK259.out 5) | ((with_reducible refine gate_callee (f := 61) rfl ?_); refine gl_ (some 13) Tryd.func61 #[.slice A0 l0.length c0, .slice A1_0 l1_0.length c1_0, .int .i64 a1_3] ?_; (with_reducible refine (spileref30_over.calls k _ _ l0 _ _ l1_0 a1_3 t260 _ ?side1 ?side2 ?side3 ?side4 A3.out).mono ?_); (case side1 => exact kc_ HR0); (case side2 => exact HC0.out); (case side3 => exact kc_ HR1_0); (case side4 => exact HC1_0.out); rintro e w15 ⟨v261, rfl, ho0, hb⟩; refine ⟨_, rfl, ?_⟩; have n0_ := Aside0.mk (Kd.R_lower ho0 (below_size bls_)); have n1_ := Aside0.mk (blk_below (bkt_ BK259) hb); have n2_ := Aside0.mk (below_step bls_ hb); clear BK259; clear HB; have HO262 := n0_; have BK259 := n1_; have HB := n2_; clear n0_ n1_ n2_; (try clear hb); (try clear hb2); (try clear hk); (try clear hi); (try clear ho0)) | ((with_reducible refine gate_dst (N := 14) rfl ?_); refine Kd.R_lit (Kd.int .i64) _ 3 ?hg (N := 14) ?hd (xs := ([] : List Int)) (inner := []) (ok := fun _ => True) (okp := fun _ => True) ?hr ?hp (fun _ hk => hk) trivial (Below.refl _ _) (Nat.le_refl _) (by simp) ?_; (case hd => rfl); (case hg => rfl); (case hr => first | (go_simp; done) | (go_simp; rfl)); (case hp => exact (Reps.none _ _)); intro v264 w16 ho17 hb hg_ hnew_; clear hg_ hnew_; (first | rw [← Ny263.out] at ho17 | (simp only [Int.reduceToNat] at ho17; rw [← Ny263.out] at ho17)); have n0_ := Aside0.mk (Kd.R_elder' (kr_ HO262) (Kd.R_base ho17) hb); have n1_ := Aside0.mk (Kd.R_lower (Kd.R_new' ho17 (Kd.R_lt (kr_ HO262))) (below_size bls_)); have n2_ := Aside0.mk (blk_below (bkt_ BK259) hb); have n3_ := Aside0.mk (below_step bls_ hb); clear HO262; clear BK259; clear HB; have HO262 := n0_; have HO265 := n1_; have BK259 := n2_; have HB := n3_; clear n0_ n1_ n2_ n3_; clear hb ho17; obtain ⟨hcz18_0, hcz18_1, hcz18_2, hcz18_3, hcz18_4, hcz18_5⟩ := bc6_ BK259; obtain ⟨hfz18_0, hfz18_1, hfz18_2, hfz18_3, hfz18_4⟩ := bf5_ BK259; have hfz18_5 := blk_frozen BK259.out 5))
  go_ret2
  exact ⟨_, _, fin_, by (with_reducible repeat (first | apply Kd.R_alloc | apply Kd.R_drewN | apply Kd.R_drew)); exact Kd.R_mono HO262.out (fun _ hk => hk.2), by (with_reducible repeat (first | apply Kd.R_alloc | apply Kd.R_drewN | apply Kd.R_drew)); exact Kd.R_mono HO265.out (fun _ hk => hk.2), bls_⟩

/-! ### spileref30_Excess: function 12 -/
def spileref30_Excess.f (k : Nat) (l0 : List (S82)) (l1_0 : List (S45)) (l1_1 : List Int) (l1_2 : List Int) (a1_3 : Int) (a1_4 : Int) (a1_5 : Int) : Option (List Int × List Int × Int) := (spileref29_Check.f k l0 l1_0 l1_1 l1_2 a1_3 a1_4 a1_5).bind fun t270 => (if t270 = 0 then ((spileref30_excess.f k l0 l1_0 l1_1 l1_2 a1_3 a1_4 a1_5).bind fun bt271 => (some (bt271.1, bt271.2, 0))) else (some (([] : List Int), ([] : List Int), 1)))
theorem spileref30_Excess.mono : ∀ a0 a1 a2 a3 a4 a5 a6 k, LeO (spileref30_Excess.f k a0 a1 a2 a3 a4 a5 a6) (spileref30_Excess.f (k + 1) a0 a1 a2 a3 a4 a5 a6) := by
 intro a0 a1 a2 a3 a4 a5 a6 k
 unfold spileref30_Excess.f
 repeat' first
   | (with_reducible exact spileref29_Check.mono _ _ _ _ _ _ _ _)
   | (with_reducible exact spileref30_excess.mono _ _ _ _ _ _ _ _)
   | (with_reducible exact LeO.refl _)
   | (with_reducible exact LeO.none _)
   | (with_reducible refine LeO.ite ?_ ?_)
   | (with_reducible refine LeO.bind ?_ (fun _ => ?_))
   | exact spileref29_Check.mono _ _ _ _ _ _ _ _
   | exact spileref30_excess.mono _ _ _ _ _ _ _ _
   | exact LeO.none _
   | refine LeO.ite ?_ ?_
   | refine LeO.bind ?_ (fun _ => ?_)
set_option maxHeartbeats 8000000 in
set_option maxRecDepth 100000 in
theorem spileref30_Excess.calls (k : Nat) (A0 : Option Addr) (c0 : Nat) (l0 : List (S82)) (A1_0 : Option Addr) (c1_0 : Nat) (l1_0 : List (S45)) (A1_1 : Option Addr) (c1_1 : Nat) (l1_1 : List Int) (A1_2 : Option Addr) (c1_2 : Nat) (l1_2 : List Int) (a1_3 : Int) (a1_4 : Int) (a1_5 : Int) (r1 : List Int) (r2 : List Int) (r3 : Int) (w : World) (hr0 : Kd.C k82 w A0 l0.length l0) (hc0 : l0.length ≤ c0) (hr1_0 : Kd.C k45 w A1_0 l1_0.length l1_0) (hc1_0 : l1_0.length ≤ c1_0) (hr1_1 : Kd.C (Kd.int .i64) w A1_1 l1_1.length l1_1) (hc1_1 : l1_1.length ≤ c1_1) (hr1_2 : Kd.C (Kd.int .i64) w A1_2 l1_2.length l1_2) (hc1_2 : l1_2.length ≤ c1_2) (h : spileref30_Excess.f k l0 l1_0 l1_1 l1_2 a1_3 a1_4 a1_5 = some (r1, r2, r3)) :
  Calls Tryd.prog 12 #[.slice A0 l0.length c0, .agg #[.slice A1_0 l1_0.length c1_0, .slice A1_1 l1_1.length c1_1, .slice A1_2 l1_2.length c1_2, .int .i64 a1_3, .int .i64 a1_4, .int .i64 a1_5]] w fun e w' => ∃ v0_ v1_ : Value, e = .returned (.tuple #[v0_, v1_, .int .i64 r3]) ∧ Kd.R (Kd.int .i64) 3 w' w.heap.size (fun k_ => some k_ ≠ (v1_ : Value).ownBlock) v0_ r1 ∧ Kd.R (Kd.int .i64) 3 w' w.heap.size (fun k_ => some k_ ≠ (v0_ : Value).ownBlock) v1_ r2 ∧ Below w.heap.size w w' := by
 have hu26 := Tryd.underlying26
 have HR0 := Aside0.mk hr0
 have HC0 := Aside0.mk hc0
 clear hr0 hc0
 have HR1_0 := Aside0.mk hr1_0
 have HC1_0 := Aside0.mk hc1_0
 clear hr1_0 hc1_0
 have HR1_1 := Aside0.mk hr1_1
 have HC1_1 := Aside0.mk hc1_1
 clear hr1_1 hc1_1
 have HR1_2 := Aside0.mk hr1_2
 have HC1_2 := Aside0.mk hc1_2
 clear hr1_2 hc1_2
 have HB := Aside0.mk (Below.refl w.heap.size w)
 have H : ((spileref29_Check.f k l0 l1_0 l1_1 l1_2 a1_3 a1_4 a1_5).bind fun t270 => (if t270 = 0 then ((spileref30_excess.f k l0 l1_0 l1_1 l1_2 a1_3 a1_4 a1_5).bind fun bt271 => (some (bt271.1, bt271.2, 0))) else (some (([] : List Int), ([] : List Int), 1)))) = some (r1, r2, r3) := h
 clear h
 replace H := Option.bind_eq_some_iff.mp H
 obtain ⟨t270, A30, H⟩ := H
 replace H : (if t270 = 0 then ((spileref30_excess.f k l0 l1_0 l1_1 l1_2 a1_3 a1_4 a1_5).bind fun bt271 => (some (bt271.1, bt271.2, 0))) else (some (([] : List Int), ([] : List Int), 1))) = some (r1, r2, r3) := H
 have A3 := Aside0.mk A30
 clear A30
 by_cases c4 : t270 = 0
 ·rw [if_pos c4] at H
  have c4b0 : (t270 == 0) = true := beq_iff_eq.mpr c4
  have c4b1 : (t270 != 0) = false := bne_eq_false_iff_eq.mpr c4
  clear c4
  replace H := Option.bind_eq_some_iff.mp H
  obtain ⟨⟨t271, t274⟩, A50, H⟩ := H
  replace H : (some (t271, t274, 0)) = some (r1, r2, r3) := H
  have A5 := Aside0.mk A50
  clear A50
  simp only [Option.some.injEq, Prod.mk.injEq] at H
  obtain ⟨rfl, rfl, rfl⟩ := H
  go_enter Tryd.func12, Tryd.ntmps12
  go_wp2_with (first | ((with_reducible refine gate_dst (N := 3) rfl ?_); refine be_ (N := 3) (cs := #[.slice A1_0 l1_0.length c1_0, .slice A1_1 l1_1.length c1_1, .slice A1_2 l1_2.length c1_2, .int .i64 a1_3, .int .i64 a1_4, .int .i64 a1_5]) (t := 26) ?_; intro gb269 hg w6 hbox hb; have n0_ := Aside0.mk (below_step bl_ hb); have n1_ := Aside0.mk (hbox); have n2_ := Aside0.mk ((by rw [hg]; exact (below_size bl_) : w.heap.size ≤ gb269)); have n3_ := Aside0.mk ((by rw [hg]; exact (below_size bl_) : w.heap.size ≤ gb269)); clear HB; have HB := n0_; have BK269 := n1_; have GW269 := n2_; have GE269 := n3_; clear n0_ n1_ n2_ n3_; clear hb hbox hg; obtain ⟨hcz7_0, hcz7_1, hcz7_2, hcz7_3, hcz7_4, hcz7_5⟩ := bc6_ BK269; obtain ⟨hfz7_0, hfz7_1, hfz7_2, hfz7_3, hfz7_4⟩ := bf5_ BK269; have hfz7_5 := blk_frozen BK269.out 5) | ((with_reducible refine gate_callee (f := 30) rfl ?_); refine gl_ (some 11) Tryd.func30 #[.slice A0 l0.length c0, .agg #[.slice A1_0 l1_0.length c1_0, .slice A1_1 l1_1.length c1_1, .slice A1_2 l1_2.length c1_2, .int .i64 a1_3, .int .i64 a1_4, .int .i64 a1_5]] ?_; (with_reducible refine (spileref29_Check.calls k _ _ l0 _ _ l1_0 _ _ l1_1 _ _ l1_2 a1_3 a1_4 a1_5 t270 _ ?side1 ?side2 ?side3 ?side4 ?side5 ?side6 ?side7 ?side8 A3.out).mono ?_); (case side1 => exact kc_ HR0); (case side2 => exact HC0.out); (case side3 => exact kc_ HR1_0); (case side4 => exact HC1_0.out); (case side5 => exact kc_ HR1_1); (case side6 => exact HC1_1.out); (case side7 => exact kc_ HR1_2); (case side8 => exact HC1_2.out); rintro e w8 ⟨rfl, hb⟩; refine ⟨_, rfl, ?_⟩; have n0_ := Aside0.mk (blk_below (bkt_ BK269) hb); have n1_ := Aside0.mk (below_step bls_ hb); clear BK269; clear HB; have BK269 := n0_; have HB := n1_; clear n0_ n1_; (try clear hb); (try clear hb2); (try clear hk); (try clear hi); obtain ⟨hcz9_0, hcz9_1, hcz9_2, hcz9_3, hcz9_4, hcz9_5⟩ := bc6_ BK269; obtain ⟨hfz9_0, hfz9_1, hfz9_2, hfz9_3, hfz9_4⟩ := bf5_ BK269; have hfz9_5 := blk_frozen BK269.out 5) | ((with_reducible refine gate_callee (f := 31) rfl ?_); refine gl_ (some 16) Tryd.func31 #[.slice A0 l0.length c0, .agg #[.slice A1_0 l1_0.length c1_0, .slice A1_1 l1_1.length c1_1, .slice A1_2 l1_2.length c1_2, .int .i64 a1_3, .int .i64 a1_4, .int .i64 a1_5]] ?_; (with_reducible refine (spileref30_excess.calls k _ _ l0 _ _ l1_0 _ _ l1_1 _ _ l1_2 a1_3 a1_4 a1_5 t271 t274 _ ?side1 ?side2 ?side3 ?side4 ?side5 ?side6 ?side7 ?side8 A5.out).mono ?_); (case side1 => exact kc_ HR0); (case side2 => exact HC0.out); (case side3 => exact kc_ HR1_0); (case side4 => exact HC1_0.out); (case side5 => exact kc_ HR1_1); (case side6 => exact HC1_1.out); (case side7 => exact kc_ HR1_2); (case side8 => exact HC1_2.out); rintro e w10 ⟨v272, v275, rfl, ho0, ho1, hb⟩; refine ⟨_, rfl, ?_⟩; have n0_ := Aside0.mk (Kd.R_lower ho0 (below_size bls_)); have n1_ := Aside0.mk (Kd.R_lower ho1 (below_size bls_)); have n2_ := Aside0.mk (blk_below (bkt_ BK269) hb); have n3_ := Aside0.mk (below_step bls_ hb); clear BK269; clear HB; have HO273 := n0_; have HO276 := n1_; have BK269 := n2_; have HB := n3_; clear n0_ n1_ n2_ n3_; (try clear hb); (try clear hb2); (try clear hk); (try clear hi); (try clear ho0); (try clear ho1)))
  go_ret3
  exact ⟨_, _, fin_, by (with_reducible repeat (first | apply Kd.R_alloc | apply Kd.R_drewN | apply Kd.R_drew)); exact HO273.out, by (with_reducible repeat (first | apply Kd.R_alloc | apply Kd.R_drewN | apply Kd.R_drew)); exact HO276.out, bls_⟩
 ·rw [if_neg c4] at H
  have c4b0 : (t270 == 0) = false := beq_eq_false_iff_ne.mpr c4
  have c4b1 : (t270 != 0) = true := bne_iff_ne.mpr c4
  simp only [Option.some.injEq, Prod.mk.injEq] at H
  obtain ⟨rfl, rfl, rfl⟩ := H
  go_enter Tryd.func12, Tryd.ntmps12
  go_wp2_with (first | ((with_reducible refine gate_dst (N := 3) rfl ?_); refine be_ (N := 3) (cs := #[.slice A1_0 l1_0.length c1_0, .slice A1_1 l1_1.length c1_1, .slice A1_2 l1_2.length c1_2, .int .i64 a1_3, .int .i64 a1_4, .int .i64 a1_5]) (t := 26) ?_; intro gb269 hg w11 hbox hb; have n0_ := Aside0.mk (below_step bl_ hb); have n1_ := Aside0.mk (hbox); have n2_ := Aside0.mk ((by rw [hg]; exact (below_size bl_) : w.heap.size ≤ gb269)); have n3_ := Aside0.mk ((by rw [hg]; exact (below_size bl_) : w.heap.size ≤ gb269)); clear HB; have HB := n0_; have BK269 := n1_; have GW269 := n2_; have GE269 := n3_; clear n0_ n1_ n2_ n3_; clear hb hbox hg; obtain ⟨hcz12_0, hcz12_1, hcz12_2, hcz12_3, hcz12_4, hcz12_5⟩ := bc6_ BK269; obtain ⟨hfz12_0, hfz12_1, hfz12_2, hfz12_3, hfz12_4⟩ := bf5_ BK269; have hfz12_5 := blk_frozen BK269.out 5) | ((with_reducible refine gate_callee (f := 30) rfl ?_); refine gl_ (some 11) Tryd.func30 #[.slice A0 l0.length c0, .agg #[.slice A1_0 l1_0.length c1_0, .slice A1_1 l1_1.length c1_1, .slice A1_2 l1_2.length c1_2, .int .i64 a1_3, .int .i64 a1_4, .int .i64 a1_5]] ?_; (with_reducible refine (spileref29_Check.calls k _ _ l0 _ _ l1_0 _ _ l1_1 _ _ l1_2 a1_3 a1_4 a1_5 t270 _ ?side1 ?side2 ?side3 ?side4 ?side5 ?side6 ?side7 ?side8 A3.out).mono ?_); (case side1 => exact kc_ HR0); (case side2 => exact HC0.out); (case side3 => exact kc_ HR1_0); (case side4 => exact HC1_0.out); (case side5 => exact kc_ HR1_1); (case side6 => exact HC1_1.out); (case side7 => exact kc_ HR1_2); (case side8 => exact HC1_2.out); rintro e w13 ⟨rfl, hb⟩; refine ⟨_, rfl, ?_⟩; have n0_ := Aside0.mk (blk_below (bkt_ BK269) hb); have n1_ := Aside0.mk (below_step bls_ hb); clear BK269; clear HB; have BK269 := n0_; have HB := n1_; clear n0_ n1_; (try clear hb); (try clear hb2); (try clear hk); (try clear hi)))
  go_ret3
  exact ⟨_, _, fin_, by first | exact Kd.R_nil _ _ _ _ _ | exact Kd.N_nil _ _ _ _ _ | exact Kd.V_nil _ _ _ _ _ | exact Kd.Q_nil _ _ _ _ _ | exact Kd.S_nil _ _ _ _ _, by first | exact Kd.R_nil _ _ _ _ _ | exact Kd.N_nil _ _ _ _ _ | exact Kd.V_nil _ _ _ _ _ | exact Kd.Q_nil _ _ _ _ _ | exact Kd.S_nil _ _ _ _ _, bls_⟩

/-! ### spileref30_need: function 36 -/
def spileref30_need.l0 : Nat → List Int → List Int → List Int → Int → List Int → Int → Int → Int → Option (List Int)
 | 0, _, _, _, _, _, _, _, _ => none
 | k + 1, x0, x1, x7, x8, x278000, x278001, x278002, x278003 => if x8 < (x0.length : Int) then (if 0 ≤ x8 then (if (x1.length : Int) > 0 then (if x8 < (x1.length : Int) then (if x7.length < 17592186044416 then (spileref30_need.l0 k x0 x1 (x7 ++ [wrap64 ((wrap64 ((wrap64 (x278001 * (rd x0 x8))) + x278003)) - (wrap64 (x278002 * (rd x1 x8))))]) (wrap64 (x8 + 1)) x278000 x278001 x278002 x278003) else (none)) else (none)) else (if x7.length < 17592186044416 then (spileref30_need.l0 k x0 x1 (x7 ++ [wrap64 ((wrap64 (x278001 * (rd x0 x8))) + x278003)]) (wrap64 (x8 + 1)) x278000 x278001 x278002 x278003) else (none))) else (none)) else (some x7)
def spileref30_need.f (k : Nat) (l0 : List Int) (l1 : List Int) (l2_0 : List Int) (a2_1 : Int) (a2_2 : Int) (a2_3 : Int) : Option (List Int) := spileref30_need.l0 k l0 l1 (([] : List Int)) 0 l2_0 a2_1 a2_2 a2_3
theorem spileref30_need.mono_l : ∀ k, (∀ y0 y1 y2 y3 y4 y5 y6 y7, LeO (spileref30_need.l0 k y0 y1 y2 y3 y4 y5 y6 y7) (spileref30_need.l0 (k + 1) y0 y1 y2 y3 y4 y5 y6 y7))
 | 0 => fun _ _ _ _ _ _ _ _ r h => by simp [spileref30_need.l0] at h
 | k + 1 => by
  have ih0 := spileref30_need.mono_l k
  ·intro y0 y1 y2 y3 y4 y5 y6 y7
   unfold spileref30_need.l0
   repeat' first
   | (with_reducible exact ih0 _ _ _ _ _ _ _ _)
   | (with_reducible exact LeO.refl _)
   | (with_reducible exact LeO.none _)
   | (with_reducible refine LeO.ite ?_ ?_)
   | (with_reducible refine LeO.bind ?_ (fun _ => ?_))
   | exact ih0 _ _ _ _ _ _ _ _
   | exact LeO.none _
   | refine LeO.ite ?_ ?_
   | refine LeO.bind ?_ (fun _ => ?_)
theorem spileref30_need.mono : ∀ a0 a1 a2 a3 a4 a5 k, LeO (spileref30_need.f k a0 a1 a2 a3 a4 a5) (spileref30_need.f (k + 1) a0 a1 a2 a3 a4 a5) := by
 intro a0 a1 a2 a3 a4 a5 k
 have ih0 := spileref30_need.mono_l k
 unfold spileref30_need.f
 repeat' first
   | (with_reducible exact ih0 _ _ _ _ _ _ _ _)
   | (with_reducible exact LeO.refl _)
   | (with_reducible exact LeO.none _)
   | (with_reducible refine LeO.ite ?_ ?_)
   | (with_reducible refine LeO.bind ?_ (fun _ => ?_))
   | exact ih0 _ _ _ _ _ _ _ _
   | exact LeO.none _
   | refine LeO.ite ?_ ?_
   | refine LeO.bind ?_ (fun _ => ?_)
set_option maxHeartbeats 8000000 in
set_option maxRecDepth 100000 in
theorem spileref30_need.calls (k : Nat) (A0 : Option Addr) (c0 : Nat) (l0 : List Int) (A1 : Option Addr) (c1 : Nat) (l1 : List Int) (A2_0 : Option Addr) (c2_0 : Nat) (l2_0 : List Int) (a2_1 : Int) (a2_2 : Int) (a2_3 : Int) (r : List Int) (w : World) (hr0 : Kd.C (Kd.int .i64) w A0 l0.length l0) (hc0 : l0.length ≤ c0) (hr1 : Kd.C (Kd.int .i64) w A1 l1.length l1) (hc1 : l1.length ≤ c1) (hr2_0 : Kd.C (Kd.int .i64) w A2_0 l2_0.length l2_0) (hc2_0 : l2_0.length ≤ c2_0) (h : spileref30_need.f k l0 l1 l2_0 a2_1 a2_2 a2_3 = some r) :
  Calls Tryd.prog 36 #[.slice A0 l0.length c0, .slice A1 l1.length c1, .agg #[.slice A2_0 l2_0.length c2_0, .int .i64 a2_1, .int .i64 a2_2, .int .i64 a2_3]] w fun e w' => ∃ v0_ : Value, e = .returned (v0_) ∧ Kd.R (Kd.int .i64) 3 w' w.heap.size (fun _ => True) v0_ r ∧ Below w.heap.size w w' := by
 have hu30 := Tryd.underlying30
 have HR0 := Aside0.mk hr0
 have HC0 := Aside0.mk hc0
 clear hr0 hc0
 have HR1 := Aside0.mk hr1
 have HC1 := Aside0.mk hc1
 clear hr1 hc1
 have HR2_0 := Aside0.mk hr2_0
 have HC2_0 := Aside0.mk hc2_0
 clear hr2_0 hc2_0
 have HB := Aside0.mk (Below.refl w.heap.size w)
 have H : (spileref30_need.l0 k l0 l1 (([] : List Int)) 0 l2_0 a2_1 a2_2 a2_3) = some r := h
 clear h
 obtain ⟨y278, hy278⟩ : ∃ y_ : List Int, y_ = (([] : List Int)) := ⟨_, rfl⟩
 replace H : (spileref30_need.l0 k l0 l1 y278 0 l2_0 a2_1 a2_2 a2_3) = some r := by first | (rw [hy278]; with_reducible exact H) | (have H2_ := (Option.bind_some _ _).symm.trans H; rw [hy278]; with_reducible exact H2_) | (have H2_ := (Option.bind_some _ _).symm.trans H; with_reducible exact H2_) | with_reducible exact H | (rw [hy278]; exact H) | exact H
 have Ny278 := Aside0.mk hy278
 clear hy278
 have H' := Aside0.mk H
 clear H
 go_enter Tryd.func36, Tryd.ntmps36
 go_wp2_with (first | ((with_reducible refine gate_dst (N := 5) rfl ?_); refine be_ (N := 5) (cs := #[.slice A2_0 l2_0.length c2_0, .int .i64 a2_1, .int .i64 a2_2, .int .i64 a2_3]) (t := 30) ?_; intro gb277 hg w4 hbox hb; have n0_ := Aside0.mk (below_step bl_ hb); have n1_ := Aside0.mk (hbox); have n2_ := Aside0.mk ((by rw [hg]; exact (below_size bl_) : w.heap.size ≤ gb277)); have n3_ := Aside0.mk ((by rw [hg]; exact (below_size bl_) : w.heap.size ≤ gb277)); clear HB; have HB := n0_; have BK277 := n1_; have GW277 := n2_; have GE277 := n3_; clear n0_ n1_ n2_ n3_; clear hb hbox hg) | ((with_reducible refine gate_dst (N := 10) rfl ?_); refine Kd.R_lit (Kd.int .i64) _ 3 ?hg (N := 10) ?hd (xs := ([] : List Int)) (inner := []) (ok := fun _ => True) (okp := fun _ => True) ?hr ?hp (fun _ hk => hk) trivial (Below.refl _ _) (Nat.le_refl _) (by simp) ?_; (case hd => rfl); (case hg => rfl); (case hr => first | (go_simp; done) | (go_simp; rfl)); (case hp => exact (Reps.none _ _)); intro v279 w5 ho6 hb hg_ hnew_; clear hg_ hnew_; (first | rw [← Ny278.out] at ho6 | (simp only [Int.reduceToNat] at ho6; rw [← Ny278.out] at ho6)); have n0_ := Aside0.mk (Kd.R_lower ho6 (below_size bls_)); have n1_ := Aside0.mk (blk_below (bkt_ BK277) hb); have n2_ := Aside0.mk (below_step bls_ hb); clear BK277; clear HB; have HO280 := n0_; have BK277 := n1_; have HB := n2_; clear n0_ n1_ n2_; clear hb ho6))
 repeat (go_quiet (first | ((with_reducible refine gate_dst (N := 5) rfl ?_); refine be_ (N := 5) (cs := #[.slice A2_0 l2_0.length c2_0, .int .i64 a2_1, .int .i64 a2_2, .int .i64 a2_3]) (t := 30) ?_; intro gb277 hg w4 hbox hb; have n0_ := Aside0.mk (below_step bl_ hb); have n1_ := Aside0.mk (hbox); have n2_ := Aside0.mk ((by rw [hg]; exact (below_size bl_) : w.heap.size ≤ gb277)); have n3_ := Aside0.mk ((by rw [hg]; exact (below_size bl_) : w.heap.size ≤ gb277)); clear HB; have HB := n0_; have BK277 := n1_; have GW277 := n2_; have GE277 := n3_; clear n0_ n1_ n2_ n3_; clear hb hbox hg) | ((with_reducible refine gate_dst (N := 10) rfl ?_); refine Kd.R_lit (Kd.int .i64) _ 3 ?hg (N := 10) ?hd (xs := ([] : List Int)) (inner := []) (ok := fun _ => True) (okp := fun _ => True) ?hr ?hp (fun _ hk => hk) trivial (Below.refl _ _) (Nat.le_refl _) (by simp) ?_; (case hd => rfl); (case hg => rfl); (case hr => first | (go_simp; done) | (go_simp; rfl)); (case hp => exact (Reps.none _ _)); intro v279 w5 ho6 hb hg_ hnew_; clear hg_ hnew_; (first | rw [← Ny278.out] at ho6 | (simp only [Int.reduceToNat] at ho6; rw [← Ny278.out] at ho6)); have n0_ := Aside0.mk (Kd.R_lower ho6 (below_size bls_)); have n1_ := Aside0.mk (blk_below (bkt_ BK277) hb); have n2_ := Aside0.mk (below_step bls_ hb); clear BK277; clear HB; have HO280 := n0_; have BK277 := n1_; have HB := n2_; clear n0_ n1_ n2_; clear hb ho6)); try go_wp2_with (first | ((with_reducible refine gate_dst (N := 5) rfl ?_); refine be_ (N := 5) (cs := #[.slice A2_0 l2_0.length c2_0, .int .i64 a2_1, .int .i64 a2_2, .int .i64 a2_3]) (t := 30) ?_; intro gb277 hg w4 hbox hb; have n0_ := Aside0.mk (below_step bl_ hb); have n1_ := Aside0.mk (hbox); have n2_ := Aside0.mk ((by rw [hg]; exact (below_size bl_) : w.heap.size ≤ gb277)); have n3_ := Aside0.mk ((by rw [hg]; exact (below_size bl_) : w.heap.size ≤ gb277)); clear HB; have HB := n0_; have BK277 := n1_; have GW277 := n2_; have GE277 := n3_; clear n0_ n1_ n2_ n3_; clear hb hbox hg) | ((with_reducible refine gate_dst (N := 10) rfl ?_); refine Kd.R_lit (Kd.int .i64) _ 3 ?hg (N := 10) ?hd (xs := ([] : List Int)) (inner := []) (ok := fun _ => True) (okp := fun _ => True) ?hr ?hp (fun _ hk => hk) trivial (Below.refl _ _) (Nat.le_refl _) (by simp) ?_; (case hd => rfl); (case hg => rfl); (case hr => first | (go_simp; done) | (go_simp; rfl)); (case hp => exact (Reps.none _ _)); intro v279 w5 ho6 hb hg_ hnew_; clear hg_ hnew_; (first | rw [← Ny278.out] at ho6 | (simp only [Int.reduceToNat] at ho6; rw [← Ny278.out] at ho6)); have n0_ := Aside0.mk (Kd.R_lower ho6 (below_size bls_)); have n1_ := Aside0.mk (blk_below (bkt_ BK277) hb); have n2_ := Aside0.mk (below_step bls_ hb); clear BK277; clear HB; have HO280 := n0_; have BK277 := n1_; have HB := n2_; clear n0_ n1_ n2_; clear hb ho6)))
 go_loopg [7, 8] k (fun kq v7 v8 w' => ∃ (x7_1 : List Int) (x8_1 : Int), v8 = .int .i64 x8_1 ∧ Aside0 (spileref30_need.l0 kq l0 l1 x7_1 x8_1 l2_0 a2_1 a2_2 a2_3 = some r) ∧ Aside0 (kq ≤ k) ∧ Aside0 (Kd.R (Kd.int .i64) 3 w' w.heap.size (fun _ => True) v7 x7_1) ∧ Aside0 (w'.heap[gb277]? = some (.cells #[(.slice A2_0 l2_0.length c2_0), .int .i64 a2_1, .int .i64 a2_2, .int .i64 a2_3] 30 (0, 0))) ∧ Aside0 (Below w.heap.size w w'))
 case atStart => exact ⟨(y278), (0), sm_, H', ⟨Nat.le_refl _⟩, ⟨by (with_reducible repeat (first | apply Kd.R_alloc | apply Kd.R_drewN | apply Kd.R_drew)); exact HO280.out⟩, ⟨bkt_ BK277⟩, ⟨bls_⟩⟩
 case round =>
  clear H'
  try clear c1
  try clear c2
  try clear p2
  try clear c3
  obtain ⟨x7_1, x8_1, rfl, HA, HK1, HO_7, BK277, HB⟩ := hrel
  cases gk with
  | zero => exact absurd HA.out (by simp [spileref30_need.l0])
  | succ k1 =>
   have H := HA.out
   clear HA
   simp only [spileref30_need.l0] at H
   by_cases c7 : x8_1 < (l0.length : Int)
   ·rw [if_pos c7] at H
    have c7b0 : decide (x8_1 < (l0.length : Int)) = true := decide_eq_true c7
    clear c7
    by_cases c8 : 0 ≤ x8_1
    ·rw [if_pos c8] at H
     have c8b0 : decide (0 ≤ x8_1) = true := decide_eq_true c8
     clear c8
     by_cases c9 : (l1.length : Int) > 0
     ·rw [if_pos c9] at H
      have c9b0 : decide (0 < (l1.length : Int)) = true := decide_eq_true c9
      have c9b1 : decide (0 < l1.length) = true := decide_eq_true (by omega)
      clear c9
      by_cases c10 : x8_1 < (l1.length : Int)
      ·rw [if_pos c10] at H
       have c10b0 : decide (x8_1 < (l1.length : Int)) = true := decide_eq_true c10
       clear c10
       by_cases c11 : x7_1.length < 17592186044416
       ·rw [if_pos c11] at H
        have LMc11 := Aside0.mk c11
        clear c11
        obtain ⟨y283, hy283⟩ : ∃ y_ : List Int, y_ = (x7_1 ++ [wrap64 ((wrap64 ((wrap64 (a2_1 * (rd l0 x8_1))) + a2_3)) - (wrap64 (a2_2 * (rd l1 x8_1))))]) := ⟨_, rfl⟩
        replace H : (spileref30_need.l0 k1 l0 l1 y283 (wrap64 (x8_1 + 1)) l2_0 a2_1 a2_2 a2_3) = some r := by first | (rw [hy283]; with_reducible exact H) | (have H2_ := (Option.bind_some _ _).symm.trans H; rw [hy283]; with_reducible exact H2_) | (have H2_ := (Option.bind_some _ _).symm.trans H; with_reducible exact H2_) | with_reducible exact H | (rw [hy283]; exact H) | exact H
        have Ny283 := Aside0.mk hy283
        clear hy283
        have H' := Aside0.mk H
        clear H
        obtain ⟨hcz12_0, hcz12_1, hcz12_2, hcz12_3⟩ := bc4_ BK277
        obtain ⟨hfz12_0, hfz12_1, hfz12_2, hfz12_3⟩ := bf4_ BK277
        have p281 : 0 ≤ (x8_1 : Int) := of_decide_eq_true as_
        have q281 : x8_1 < (l0.length : Int) := of_decide_eq_true as_
        obtain ⟨ad281, e281, hx281_0⟩ := Kd.at_int HR0.out x8_1 p281 q281
        cases e281
        replace hx281_0 := (HB.out.cell (World.block_lt_of_cell? w _ hx281_0)).trans hx281_0
        replace p281 := eq_true p281
        replace q281 := eq_true q281
        have p282 : 0 ≤ (x8_1 : Int) := of_decide_eq_true as_
        have q282 : x8_1 < (l1.length : Int) := of_decide_eq_true as_
        obtain ⟨ad282, e282, hx282_0⟩ := Kd.at_int HR1.out x8_1 p282 q282
        cases e282
        replace hx282_0 := (HB.out.cell (World.block_lt_of_cell? w _ hx282_0)).trans hx282_0
        replace p282 := eq_true p282
        replace q282 := eq_true q282
        go_wp2_with (first | ((with_reducible refine gate_builtin (b := .append) (xs := #[.tmp 39, .tmp 41]) rfl ?_); at_builtin; refine Kd.R_append (Kd.int .i64) (w0 := w) w.heap.size rfl (.tmp 39) (.tmp 41) 24 3 (.int .i64 0) 8 rfl Tryd.underlying24 info3 rfl (by decide) (by omega) u7 x7_1 (wrap64 ((wrap64 ((wrap64 (a2_1 * (rd l0 x8_1))) + a2_3)) - (wrap64 (a2_2 * (rd l1 x8_1))))) [.int .i64 (wrap64 ((wrap64 ((wrap64 (a2_1 * (rd l0 x8_1))) + a2_3)) - (wrap64 (a2_2 * (rd l1 x8_1)))))] (fun _ => True) (fun _ => False) rfl rfl ?aP (fun _ hk => hk.elim) ?aF ?aO ?aB ?aS ?aL ?_; (case aP => exact rfl); (case aB => exact bls_); (case aF => exact (fun _ _ => trivial)); (case aO => exact (kr_ HO_7)); (case aS => exact (below_size bls_)); (case aL => have := LMc11.out; omega); intro v284 w13 ho hb hg hat; rw [← Ny283.out] at ho; have n0_ := Aside0.mk (blk_grown (bkt_ BK277) hg (Kd.R_ne HO_7.out BK277.out (by decide))); have n1_ := Aside0.mk (hb); have n2_ := Aside0.mk (ho); clear BK277; clear HB; clear HO_7; have BK277 := n0_; have HB := n1_; have HO285 := n2_; clear n0_ n1_ n2_; clear ho hb hg hat))
        repeat (go_quiet (first | ((with_reducible refine gate_builtin (b := .append) (xs := #[.tmp 39, .tmp 41]) rfl ?_); at_builtin; refine Kd.R_append (Kd.int .i64) (w0 := w) w.heap.size rfl (.tmp 39) (.tmp 41) 24 3 (.int .i64 0) 8 rfl Tryd.underlying24 info3 rfl (by decide) (by omega) u7 x7_1 (wrap64 ((wrap64 ((wrap64 (a2_1 * (rd l0 x8_1))) + a2_3)) - (wrap64 (a2_2 * (rd l1 x8_1))))) [.int .i64 (wrap64 ((wrap64 ((wrap64 (a2_1 * (rd l0 x8_1))) + a2_3)) - (wrap64 (a2_2 * (rd l1 x8_1)))))] (fun _ => True) (fun _ => False) rfl rfl ?aP (fun _ hk => hk.elim) ?aF ?aO ?aB ?aS ?aL ?_; (case aP => exact rfl); (case aB => exact bls_); (case aF => exact (fun _ _ => trivial)); (case aO => exact (kr_ HO_7)); (case aS => exact (below_size bls_)); (case aL => have := LMc11.out; omega); intro v284 w13 ho hb hg hat; rw [← Ny283.out] at ho; have n0_ := Aside0.mk (blk_grown (bkt_ BK277) hg (Kd.R_ne HO_7.out BK277.out (by decide))); have n1_ := Aside0.mk (hb); have n2_ := Aside0.mk (ho); clear BK277; clear HB; clear HO_7; have BK277 := n0_; have HB := n1_; have HO285 := n2_; clear n0_ n1_ n2_; clear ho hb hg hat)); try go_wp2_with (first | ((with_reducible refine gate_builtin (b := .append) (xs := #[.tmp 39, .tmp 41]) rfl ?_); at_builtin; refine Kd.R_append (Kd.int .i64) (w0 := w) w.heap.size rfl (.tmp 39) (.tmp 41) 24 3 (.int .i64 0) 8 rfl Tryd.underlying24 info3 rfl (by decide) (by omega) u7 x7_1 (wrap64 ((wrap64 ((wrap64 (a2_1 * (rd l0 x8_1))) + a2_3)) - (wrap64 (a2_2 * (rd l1 x8_1))))) [.int .i64 (wrap64 ((wrap64 ((wrap64 (a2_1 * (rd l0 x8_1))) + a2_3)) - (wrap64 (a2_2 * (rd l1 x8_1)))))] (fun _ => True) (fun _ => False) rfl rfl ?aP (fun _ hk => hk.elim) ?aF ?aO ?aB ?aS ?aL ?_; (case aP => exact rfl); (case aB => exact bls_); (case aF => exact (fun _ _ => trivial)); (case aO => exact (kr_ HO_7)); (case aS => exact (below_size bls_)); (case aL => have := LMc11.out; omega); intro v284 w13 ho hb hg hat; rw [← Ny283.out] at ho; have n0_ := Aside0.mk (blk_grown (bkt_ BK277) hg (Kd.R_ne HO_7.out BK277.out (by decide))); have n1_ := Aside0.mk (hb); have n2_ := Aside0.mk (ho); clear BK277; clear HB; clear HO_7; have BK277 := n0_; have HB := n1_; have HO285 := n2_; clear n0_ n1_ n2_; clear ho hb hg hat)))
        go_roundg k1
        case measure => have := HK1.out; omega
        case rel => exact ⟨(y283), (wrap64 (x8_1 + 1)), sm_, H', ⟨by have := HK1.out; omega⟩, ⟨by (with_reducible repeat (first | apply Kd.R_alloc | apply Kd.R_drewN | apply Kd.R_drew)); exact HO285.out⟩, ⟨bkt_ BK277⟩, ⟨bls_⟩⟩
       ·rw [if_neg c11] at H
        exact absurd H (by simp)
      ·rw [if_neg c10] at H
       exact absurd H (by simp)
     ·rw [if_neg c9] at H
      have c9b0 : decide (0 < (l1.length : Int)) = false := decide_eq_false c9
      have c9b1 : decide (0 < l1.length) = false := decide_eq_false (by omega)
      clear c9
      by_cases c14 : x7_1.length < 17592186044416
      ·rw [if_pos c14] at H
       have LMc14 := Aside0.mk c14
       clear c14
       obtain ⟨y286, hy286⟩ : ∃ y_ : List Int, y_ = (x7_1 ++ [wrap64 ((wrap64 (a2_1 * (rd l0 x8_1))) + a2_3)]) := ⟨_, rfl⟩
       replace H : (spileref30_need.l0 k1 l0 l1 y286 (wrap64 (x8_1 + 1)) l2_0 a2_1 a2_2 a2_3) = some r := by first | (rw [hy286]; with_reducible exact H) | (have H2_ := (Option.bind_some _ _).symm.trans H; rw [hy286]; with_reducible exact H2_) | (have H2_ := (Option.bind_some _ _).symm.trans H; with_reducible exact H2_) | with_reducible exact H | (rw [hy286]; exact H) | exact H
       have Ny286 := Aside0.mk hy286
       clear hy286
       have H' := Aside0.mk H
       clear H
       obtain ⟨hcz15_0, hcz15_1, hcz15_2, hcz15_3⟩ := bc4_ BK277
       obtain ⟨hfz15_0, hfz15_1, hfz15_2, hfz15_3⟩ := bf4_ BK277
       have p281 : 0 ≤ (x8_1 : Int) := of_decide_eq_true as_
       have q281 : x8_1 < (l0.length : Int) := of_decide_eq_true as_
       obtain ⟨ad281, e281, hx281_0⟩ := Kd.at_int HR0.out x8_1 p281 q281
       cases e281
       replace hx281_0 := (HB.out.cell (World.block_lt_of_cell? w _ hx281_0)).trans hx281_0
       replace p281 := eq_true p281
       replace q281 := eq_true q281
       go_wp2_with (first | ((with_reducible refine gate_builtin (b := .append) (xs := #[.tmp 39, .tmp 41]) rfl ?_); at_builtin; refine Kd.R_append (Kd.int .i64) (w0 := w) w.heap.size rfl (.tmp 39) (.tmp 41) 24 3 (.int .i64 0) 8 rfl Tryd.underlying24 info3 rfl (by decide) (by omega) u7 x7_1 (wrap64 ((wrap64 (a2_1 * (rd l0 x8_1))) + a2_3)) [.int .i64 (wrap64 ((wrap64 (a2_1 * (rd l0 x8_1))) + a2_3))] (fun _ => True) (fun _ => False) rfl rfl ?aP (fun _ hk => hk.elim) ?aF ?aO ?aB ?aS ?aL ?_; (case aP => exact rfl); (case aB => exact bls_); (case aF => exact (fun _ _ => trivial)); (case aO => exact (kr_ HO_7)); (case aS => exact (below_size bls_)); (case aL => have := LMc14.out; omega); intro v287 w16 ho hb hg hat; rw [← Ny286.out] at ho; have n0_ := Aside0.mk (blk_grown (bkt_ BK277) hg (Kd.R_ne HO_7.out BK277.out (by decide))); have n1_ := Aside0.mk (hb); have n2_ := Aside0.mk (ho); clear BK277; clear HB; clear HO_7; have BK277 := n0_; have HB := n1_; have HO288 := n2_; clear n0_ n1_ n2_; clear ho hb hg hat))
       repeat (go_quiet (first | ((with_reducible refine gate_builtin (b := .append) (xs := #[.tmp 39, .tmp 41]) rfl ?_); at_builtin; refine Kd.R_append (Kd.int .i64) (w0 := w) w.heap.size rfl (.tmp 39) (.tmp 41) 24 3 (.int .i64 0) 8 rfl Tryd.underlying24 info3 rfl (by decide) (by omega) u7 x7_1 (wrap64 ((wrap64 (a2_1 * (rd l0 x8_1))) + a2_3)) [.int .i64 (wrap64 ((wrap64 (a2_1 * (rd l0 x8_1))) + a2_3))] (fun _ => True) (fun _ => False) rfl rfl ?aP (fun _ hk => hk.elim) ?aF ?aO ?aB ?aS ?aL ?_; (case aP => exact rfl); (case aB => exact bls_); (case aF => exact (fun _ _ => trivial)); (case aO => exact (kr_ HO_7)); (case aS => exact (below_size bls_)); (case aL => have := LMc14.out; omega); intro v287 w16 ho hb hg hat; rw [← Ny286.out] at ho; have n0_ := Aside0.mk (blk_grown (bkt_ BK277) hg (Kd.R_ne HO_7.out BK277.out (by decide))); have n1_ := Aside0.mk (hb); have n2_ := Aside0.mk (ho); clear BK277; clear HB; clear HO_7; have BK277 := n0_; have HB := n1_; have HO288 := n2_; clear n0_ n1_ n2_; clear ho hb hg hat)); try go_wp2_with (first | ((with_reducible refine gate_builtin (b := .append) (xs := #[.tmp 39, .tmp 41]) rfl ?_); at_builtin; refine Kd.R_append (Kd.int .i64) (w0 := w) w.heap.size rfl (.tmp 39) (.tmp 41) 24 3 (.int .i64 0) 8 rfl Tryd.underlying24 info3 rfl (by decide) (by omega) u7 x7_1 (wrap64 ((wrap64 (a2_1 * (rd l0 x8_1))) + a2_3)) [.int .i64 (wrap64 ((wrap64 (a2_1 * (rd l0 x8_1))) + a2_3))] (fun _ => True) (fun _ => False) rfl rfl ?aP (fun _ hk => hk.elim) ?aF ?aO ?aB ?aS ?aL ?_; (case aP => exact rfl); (case aB => exact bls_); (case aF => exact (fun _ _ => trivial)); (case aO => exact (kr_ HO_7)); (case aS => exact (below_size bls_)); (case aL => have := LMc14.out; omega); intro v287 w16 ho hb hg hat; rw [← Ny286.out] at ho; have n0_ := Aside0.mk (blk_grown (bkt_ BK277) hg (Kd.R_ne HO_7.out BK277.out (by decide))); have n1_ := Aside0.mk (hb); have n2_ := Aside0.mk (ho); clear BK277; clear HB; clear HO_7; have BK277 := n0_; have HB := n1_; have HO288 := n2_; clear n0_ n1_ n2_; clear ho hb hg hat)))
       go_roundg k1
       case measure => have := HK1.out; omega
       case rel => exact ⟨(y286), (wrap64 (x8_1 + 1)), sm_, H', ⟨by have := HK1.out; omega⟩, ⟨by (with_reducible repeat (first | apply Kd.R_alloc | apply Kd.R_drewN | apply Kd.R_drew)); exact HO288.out⟩, ⟨bkt_ BK277⟩, ⟨bls_⟩⟩
      ·rw [if_neg c14] at H
       exact absurd H (by simp)
    ·rw [if_neg c8] at H
     exact absurd H (by simp)
   ·rw [if_neg c7] at H
    have c7b0 : decide (x8_1 < (l0.length : Int)) = false := decide_eq_false c7
    clear c7
    obtain rfl := Option.some.inj H
    go_wp2
    repeat (go_quiet (fail); try go_wp2)
    go_ret
    exact ⟨_, fin_, by (with_reducible repeat (first | apply Kd.R_alloc | apply Kd.R_drewN | apply Kd.R_drew)); exact HO_7.out, bls_⟩

end Go.Proofs.YtcdkbciagchlgaaDoor.PF
