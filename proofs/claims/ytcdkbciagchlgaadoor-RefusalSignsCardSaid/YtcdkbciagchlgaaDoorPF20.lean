-- Written by a program of this session (wip/pr.py) out of Lean's print of the translation; Lean checks it.
import Derived.BigRegion
import Derived.Test.YtcdkbciagchlgaaDoorPF0
import Derived.Test.YtcdkbciagchlgaaDoorPF1
import Derived.Test.YtcdkbciagchlgaaDoorPF4
import Derived.Test.YtcdkbciagchlgaaDoorPF5
import Derived.Test.YtcdkbciagchlgaaDoorPF19
namespace Go.Proofs.YtcdkbciagchlgaaDoor.PF
open Go.RowKit Go.Proofs.YtcdkbciagchlgaaDoorW.PrintWords Go.Proofs.YtcdkbciagchlgaaDoorW.PrintLast Go.Proofs.YtcdkbciagchlgaaDoorW.PrintMore
attribute [local go_sem] max2_int min2_int max_two min_two max_three min_three max_four min_four   -- for this text's walks alone
set_option linter.unusedVariables false
set_option linter.unusedSimpArgs false

/-! ### mix_Sum: function 68 -/
-- MAKING
def plainB (a m : Int) : Bool := decide (0 ≤ a ∧ a ≤ 10737418240000 ∧ 0 ≤ m ∧ m ≤ 128849018880000 ∧ (0 < m ∨ a = 0))
theorem mix_plain.plain (a m : Int) : mix_plain.f a m = some (plainB a m) := by
  unfold mix_plain.f plainB
  by_cases h0 : a ≥ 0
  case neg => rw [if_neg h0, decide_eq_false (by omega)]
  by_cases h1 : a ≤ 10737418240000
  case neg => rw [if_pos h0, if_neg h1, decide_eq_false (by omega)]
  by_cases h2 : m ≥ 0
  case neg => rw [if_pos h0, if_pos h1, if_neg h2, decide_eq_false (by omega)]
  by_cases h3 : m ≤ 128849018880000
  case neg => rw [if_pos h0, if_pos h1, if_pos h2, if_neg h3, decide_eq_false (by omega)]
  rw [if_pos h0, if_pos h1, if_pos h2, if_pos h3]
  by_cases h4 : m > 0
  · rw [if_pos h4, decide_eq_true (by omega)]
  · rw [if_neg h4]
    by_cases h5 : a = 0
    · rw [decide_eq_true (by omega), h5]; rfl
    · rw [decide_eq_false (by omega), beq_eq_false_iff_ne.mpr h5]
set_option maxHeartbeats 2000000 in
set_option maxRecDepth 100000 in
theorem mix_Sum.clo (a m : Int) (w : World) : Calls Tryd.prog 81 (#[.agg #[.int .i64 a, .int .i64 m]] ++ #[]) w fun e w' => e = .returned (.bool (!plainB a m)) ∧ Below w.heap.size w w' := by
  have hc := Aside0.mk (fun W => mix_plain.calls a m (plainB a m) W (mix_plain.plain a m))
  generalize plainB a m = b at hc ⊢
  have hu := Tryd.underlying45
  go_enter Tryd.func81, Tryd.ntmps81
  go_wp2_with (refine (hc.out _).mono ?_; rintro e w' ⟨rfl, hb⟩)
  go_ret
  exact ⟨rfl, below_step (below_alloc (Below.refl _ _) _) hb⟩
def strayL (l : List S45) (j : Nat) : Bool := !plainB (rd_T45 l (j : Int)).f0 (rd_T45 l (j : Int)).f1
def mix_Sum.f (l0 : List S45) : Option (Int × Int × Int) :=
  if (l0.length : Int) > 8 then some (0, 0, 8)
  else if 0 ≤ idxP (strayL l0) l0.length 0 then some (0, 0, 1)
  else if plainB (sumsL l0 l0.length).1 (sumsL l0 l0.length).2 = true then some ((sumsL l0 l0.length).1, (sumsL l0 l0.length).2, 0) else some (0, 0, 15)
set_option maxHeartbeats 4000000 in
set_option maxRecDepth 100000 in
theorem mix_Sum.calls (A0 : Option Addr) (c0 : Nat) (l0 : List S45) (r1 r2 r3 : Int) (w : World) (hr0 : Kd.C k45 w A0 l0.length l0) (hc0 : l0.length ≤ c0) (h : mix_Sum.f l0 = some (r1, r2, r3)) :
    Calls Tryd.prog 68 #[.slice A0 l0.length c0] w fun e w' => e = .returned (.tuple #[.agg #[.int .i64 r1, .int .i64 r2], .int .i64 r3]) ∧ Below w.heap.size w w' := by
  have hu := Tryd.underlying45
  unfold mix_Sum.f at h
  obtain ⟨W0, hW0⟩ : ∃ W0, W0 = w.alloc (.cells #[.int .i64 0, .int .i64 0] 45) := ⟨_, rfl⟩
  have HB0 := Aside0.mk (show Below w.heap.size w W0 by rw [hW0]; exact below_alloc (Below.refl _ _) _)
  have HK := Aside0.mk (show W0.heap[w.heap.size]? = some (.cells #[.int .i64 0, .int .i64 0] 45 (0, 0)) by rw [hW0]; exact blk_new w _)
  have HW0 := Aside0.mk hW0
  have HR := Aside0.mk (Kd.C_below hr0 HB0.out)
  clear hW0 hr0
  by_cases h8 : (l0.length : Int) > 8
  · rw [if_pos h8] at h
    simp only [Option.some.injEq, Prod.mk.injEq] at h
    obtain ⟨rfl, rfl, rfl⟩ := h
    have hb0 : decide (8 < (l0.length : Int)) = true := decide_eq_true h8
    have hb1 : decide (8 < l0.length) = true := decide_eq_true (by omega)
    have d0 : W0.cell? ⟨w.heap.size, 0, none⟩ = some (.int .i64 0) := (blk_cell HK.out 0).trans rfl
    have d1 : W0.cell? ⟨w.heap.size, 1, none⟩ = some (.int .i64 0) := (blk_cell HK.out 1).trans rfl
    clear h8
    go_enter Tryd.func68, Tryd.ntmps68
    go_wp2
    rw [← HW0.out]
    refine bodyPost_ret (results_ct rfl _ _ w.heap.size 45 #[.int .i64 0, .int .i64 0] (0, 0) _ rfl HK.out Tryd.underlying45 rfl (by kernel_rfl)) rfl ?_
    exact ⟨rfl, HB0.out⟩
  rw [if_neg h8] at h
  have hb0 : decide (8 < (l0.length : Int)) = false := decide_eq_false h8
  have hb1 : decide (8 < l0.length) = false := decide_eq_false (by omega)
  have eg : ∀ args w, (callFunc 81 args).run Tryd.prog w = .ok (.enter 81 args) w := enters_of Tryd.func81 (by kernel_rfl) rfl
  have hC := Aside0.mk (api_Liquid_45.below 81 #[] A0 c0 l0 (strayL l0) W0 eg (by omega) HR.out
    (fun W i h0 h1 hb => by
      have := mix_Sum.clo (rd_T45 l0 i).f0 (rd_T45 l0 i).f1 W
      unfold strayL
      rw [show ((i.toNat : Nat) : Int) = i by omega]
      exact this))
  clear eg
  by_cases hi : 0 ≤ idxP (strayL l0) l0.length 0
  · rw [if_pos hi] at h
    simp only [Option.some.injEq, Prod.mk.injEq] at h
    obtain ⟨rfl, rfl, rfl⟩ := h
    rw [decide_eq_true hi] at hC
    clear hi h8
    go_enter Tryd.func68, Tryd.ntmps68
    go_wp2_with fail
    rw [← HW0.out]
    refine hC.out.mono ?_
    rintro e w' ⟨rfl, hb⟩
    have HK2 := Aside0.mk (blk_below HK.out hb)
    have HB2 := Aside0.mk (below_step HB0.out hb)
    have d0 : w'.cell? ⟨w.heap.size, 0, none⟩ = some (.int .i64 0) := (blk_cell HK2.out 0).trans rfl
    have d1 : w'.cell? ⟨w.heap.size, 1, none⟩ = some (.int .i64 0) := (blk_cell HK2.out 1).trans rfl
    have f0 : w'.frozen? ⟨w.heap.size, 0, none⟩ = false := blk_frozen HK2.out 0
    have f1 : w'.frozen? ⟨w.heap.size, 1, none⟩ = false := blk_frozen HK2.out 1
    clear hb
    go_wp2
    refine bodyPost_ret (results_ct rfl _ _ w.heap.size 45 #[.int .i64 0, .int .i64 0] (0, 0) _ rfl (by refine blk_put (cs := #[.int .i64 0, .int .i64 0]) ?_ 1 _ rfl; refine blk_put (cs := #[.int .i64 0, .int .i64 0]) ?_ 0 _ rfl; exact HK2.out) Tryd.underlying45 rfl (by kernel_rfl)) rfl ?_
    exact ⟨rfl, below_set (below_set HB2.out (Nat.le_refl _)) (Nat.le_refl _)⟩
  rw [if_neg hi] at h
  rw [decide_eq_false hi] at hC
  obtain ⟨a, m, hs⟩ : ∃ a m, sumsL l0 l0.length = (a, m) := ⟨_, _, rfl⟩
  rw [hs] at h
  have hT := Aside0.mk (fun W hb => mix_total.calls A0 c0 l0 a m W (Kd.C_below HR.out hb) hc0 (by unfold mix_total.f; rw [if_pos (by omega), hs]))
  have hP := Aside0.mk (fun W => mix_plain.calls a m (plainB a m) W (mix_plain.plain a m))
  clear hs hi h8
  dsimp only at h
  cases hp : plainB a m
  · rw [hp] at h hP
    rw [if_neg (by decide)] at h
    simp only [Option.some.injEq, Prod.mk.injEq] at h
    obtain ⟨rfl, rfl, rfl⟩ := h
    clear hp
    go_enter Tryd.func68, Tryd.ntmps68
    go_wp2_with fail
    rw [← HW0.out]
    refine hC.out.mono ?_
    rintro e w' ⟨rfl, hb⟩
    have HK2 := Aside0.mk (blk_below HK.out hb)
    have HB2 := Aside0.mk (below_step HB0.out hb)
    have hT2 := Aside0.mk (hT.out w' hb)
    clear hb hT
    go_wp2_with fail
    refine hT2.out.mono ?_
    rintro e w2 ⟨rfl, hb⟩
    have HK3 := Aside0.mk (blk_below HK2.out hb)
    have HB3 := Aside0.mk (below_step HB2.out hb)
    clear hb HK2 HB2
    go_wp2_with fail
    refine (hP.out _).mono ?_
    rintro e w3 ⟨rfl, hb⟩
    have HK4 := Aside0.mk (blk_below (blk_alloc HK3.out _) hb)
    have HB4 := Aside0.mk (below_step (below_alloc HB3.out _) hb)
    have d0 : w3.cell? ⟨w.heap.size, 0, none⟩ = some (.int .i64 0) := (blk_cell HK4.out 0).trans rfl
    have d1 : w3.cell? ⟨w.heap.size, 1, none⟩ = some (.int .i64 0) := (blk_cell HK4.out 1).trans rfl
    have f0 : w3.frozen? ⟨w.heap.size, 0, none⟩ = false := blk_frozen HK4.out 0
    have f1 : w3.frozen? ⟨w.heap.size, 1, none⟩ = false := blk_frozen HK4.out 1
    clear hb HK3 HB3
    go_wp2
    refine bodyPost_ret (results_ct rfl _ _ w.heap.size 45 #[.int .i64 0, .int .i64 0] (0, 0) _ rfl (by refine blk_put (cs := #[.int .i64 0, .int .i64 0]) ?_ 1 _ rfl; refine blk_put (cs := #[.int .i64 0, .int .i64 0]) ?_ 0 _ rfl; exact HK4.out) Tryd.underlying45 rfl (by kernel_rfl)) rfl ?_
    exact ⟨rfl, below_set (below_set HB4.out (Nat.le_refl _)) (Nat.le_refl _)⟩
  · rw [hp] at h hP
    rw [if_pos rfl] at h
    simp only [Option.some.injEq, Prod.mk.injEq] at h
    obtain ⟨rfl, rfl, rfl⟩ := h
    clear hp
    go_enter Tryd.func68, Tryd.ntmps68
    go_wp2_with fail
    rw [← HW0.out]
    refine hC.out.mono ?_
    rintro e w' ⟨rfl, hb⟩
    have HK2 := Aside0.mk (blk_below HK.out hb)
    have HB2 := Aside0.mk (below_step HB0.out hb)
    have hT2 := Aside0.mk (hT.out w' hb)
    clear hb hT
    go_wp2_with fail
    refine hT2.out.mono ?_
    rintro e w2 ⟨rfl, hb⟩
    have HK3 := Aside0.mk (blk_below HK2.out hb)
    have HB3 := Aside0.mk (below_step HB2.out hb)
    clear hb HK2 HB2
    go_wp2_with fail
    refine (hP.out _).mono ?_
    rintro e w3 ⟨rfl, hb⟩
    have HK4 := Aside0.mk (blk_below (blk_alloc HK3.out _) hb)
    have HX4 := Aside0.mk (blk_below (blk_new w2 (.cells #[.int .i64 a, .int .i64 m] 45)) hb)
    have HB4 := Aside0.mk (below_step (below_alloc HB3.out _) hb)
    have d0 : w3.cell? ⟨w.heap.size, 0, none⟩ = some (.int .i64 0) := (blk_cell HK4.out 0).trans rfl
    have d1 : w3.cell? ⟨w.heap.size, 1, none⟩ = some (.int .i64 0) := (blk_cell HK4.out 1).trans rfl
    have f0 : w3.frozen? ⟨w.heap.size, 0, none⟩ = false := blk_frozen HK4.out 0
    have f1 : w3.frozen? ⟨w.heap.size, 1, none⟩ = false := blk_frozen HK4.out 1
    have x0 : w3.cell? ⟨w2.heap.size, 0, none⟩ = some (.int .i64 a) := (blk_cell HX4.out 0).trans rfl
    have x1 : w3.cell? ⟨w2.heap.size, 1, none⟩ = some (.int .i64 m) := (blk_cell HX4.out 1).trans rfl
    clear hb HK3 HB3
    go_wp2
    refine bodyPost_ret (results_ct rfl _ _ w.heap.size 45 #[.int .i64 a, .int .i64 m] (0, 0) _ rfl (by refine blk_put (cs := #[.int .i64 a, .int .i64 0]) ?_ 1 _ rfl; refine blk_put (cs := #[.int .i64 0, .int .i64 0]) ?_ 0 _ rfl; exact HK4.out) Tryd.underlying45 rfl (by kernel_rfl)) rfl ?_
    exact ⟨rfl, below_set (below_set HB4.out (Nat.le_refl _)) (Nat.le_refl _)⟩

/-! ### blend_plain: function 47 -/
def blend_plain.f (a0_0 : Int) (a0_1 : Int) : Option (Bool) := (mix_Sum.f (([(⟨a0_0, a0_1⟩ : S45)] : List (S45)))).bind fun bt349 => (some (bt349.2.2 == 0))
set_option maxHeartbeats 8000000 in
set_option maxRecDepth 100000 in
theorem blend_plain.calls (a0_0 : Int) (a0_1 : Int) (r : Bool) (w : World) (h : blend_plain.f a0_0 a0_1 = some r) :
  Calls Tryd.prog 47 #[.agg #[.int .i64 a0_0, .int .i64 a0_1]] w fun e w' => e = .returned (.bool r) ∧ Below w.heap.size w w' := by
 have hu45 := Tryd.underlying45
 have HB := Aside0.mk (Below.refl w.heap.size w)
 have H : ((mix_Sum.f (([(⟨a0_0, a0_1⟩ : S45)] : List (S45)))).bind fun bt349 => (some (bt349.2.2 == 0))) = some r := h
 clear h
 obtain ⟨y346, hy346⟩ : ∃ y_ : List (S45), y_ = (([(⟨a0_0, a0_1⟩ : S45)] : List (S45))) := ⟨_, rfl⟩
 replace H : ((mix_Sum.f y346).bind fun bt349 => (some (bt349.2.2 == 0))) = some r := by first | (rw [hy346]; with_reducible exact H) | (have H2_ := (Option.bind_some _ _).symm.trans H; rw [hy346]; with_reducible exact H2_) | (have H2_ := (Option.bind_some _ _).symm.trans H; with_reducible exact H2_) | with_reducible exact H | (rw [hy346]; exact H) | exact H
 have Ny346 := Aside0.mk hy346
 clear hy346
 replace H := Option.bind_eq_some_iff.mp H
 obtain ⟨⟨t349, t350, t351⟩, A20, H⟩ := H
 replace H : (some (t351 == 0)) = some r := H
 have A2 := Aside0.mk A20
 clear A20
 obtain rfl := Option.some.inj H
 go_enter Tryd.func47, Tryd.ntmps47
 go_wp2_with (first | ((with_reducible refine gate_dst (N := 1) rfl ?_); refine be_ (N := 1) (cs := #[.int .i64 a0_0, .int .i64 a0_1]) (t := 45) ?_; intro gb345 hg w3 hbox hb; have n0_ := Aside0.mk (below_step bl_ hb); have n1_ := Aside0.mk (hbox); have n2_ := Aside0.mk ((by rw [hg]; exact (below_size bl_) : w.heap.size ≤ gb345)); have n3_ := Aside0.mk ((by rw [hg]; exact (below_size bl_) : w.heap.size ≤ gb345)); clear HB; have HB := n0_; have BK345 := n1_; have GW345 := n2_; have GE345 := n3_; clear n0_ n1_ n2_ n3_; clear hb hbox hg; obtain ⟨hcz4_0, hcz4_1⟩ := bc2_ BK345; have hfz4_0 := blk_frozen BK345.out 0; have hfz4_1 := blk_frozen BK345.out 1) | ((with_reducible refine gate_dst (N := 7) rfl ?_); refine Kd.R_lit k45 _ 45 ?hg (N := 7) ?hd (xs := ([(⟨a0_0, a0_1⟩ : S45)] : List (S45))) (inner := [.int .i64 a0_0, .int .i64 a0_1]) (ok := fun _ => True) (okp := fun _ => True) ?hr ?hp (fun _ hk => hk) trivial (Below.refl _ _) (Nat.le_refl _) (by simp) ?_; (case hd => rfl); (case hg => rfl); (case hr => first | (go_simp; done) | (go_simp; rfl)); (case hp => exact (Reps.c2 (show Kd.M k45 _ _ _ (⟨a0_0, a0_1⟩ : S45) [.int .i64 a0_0, .int .i64 a0_1] from (k45_mkM _ _ _ (⟨a0_0, a0_1⟩ : S45) )) (Reps.none _ _))); intro v347 w5 ho6 hb hg_ hnew_; clear hg_ hnew_; (first | rw [← Ny346.out] at ho6 | (simp only [Int.reduceToNat] at ho6; rw [← Ny346.out] at ho6)); have n0_ := Aside0.mk (Kd.R_lower (Kd.R_newB ho6 (bkt_ BK345)) (below_size bls_)); have n1_ := Aside0.mk (blk_below (bkt_ BK345) hb); have n2_ := Aside0.mk (below_step bls_ hb); clear BK345; clear HB; have HO348 := n0_; have BK345 := n1_; have HB := n2_; clear n0_ n1_ n2_; clear hb ho6; obtain ⟨Ao7, co7, eo7⟩ := Kd.R_slice HO348.out; subst eo7) | ((with_reducible refine gate_callee (f := 68) rfl ?_); refine gl_ (some 8) Tryd.func68 #[.slice Ao7 y346.length co7] ?_; (with_reducible refine (mix_Sum.calls _ _ y346 t349 t350 t351 _ ?side1 ?side2 A2.out).mono ?_); (case side1 => repeat (first | exact (Kd.R_reads' HO348.out).2.2 | (with_reducible refine Kd.C_alloc ?_ _) | (with_reducible refine Kd.C_drewN ?_ _) | (with_reducible refine Kd.C_drew ?_))); (case side2 => exact (Kd.R_reads' HO348.out).2.1); rintro e w8 ⟨rfl, hb⟩; refine ⟨_, rfl, ?_⟩; have n0_ := Aside0.mk (Kd.R_below (kr_ HO348) hb); have n1_ := Aside0.mk (blk_below (bkt_ BK345) hb); have n2_ := Aside0.mk (below_step bls_ hb); clear HO348; clear BK345; clear HB; have HO348 := n0_; have BK345 := n1_; have HB := n2_; clear n0_ n1_ n2_; (try clear hb); (try clear hb2); (try clear hk); (try clear hi)) | ((with_reducible refine gate_dst (N := 3) rfl ?_); refine be_ (N := 3) (cs := #[.int .i64 0, .int .i64 0]) (t := 45) ?_; intro gb352 hg w9 hbox hb; have n0_ := Aside0.mk (Kd.R_below (Kd.R_elderB (kr_ HO348) gb352 (Nat.le_of_eq hg.symm)) hb); have n1_ := Aside0.mk (blk_below (bkt_ BK345) hb); have n2_ := Aside0.mk (below_step bls_ hb); have n3_ := Aside0.mk (hbox); have n4_ := Aside0.mk ((by rw [hg]; exact (below_size bls_) : w.heap.size ≤ gb352)); have n5_ := Aside0.mk ((by rw [hg]; exact (below_size bls_) : w.heap.size ≤ gb352)); have n6_ := Aside0.mk ((by rw [hg]; exact Nat.ne_of_lt (blk_lt (bkt_ BK345)) : gb345 ≠ gb352)); have n7_ := Aside0.mk ((by rw [hg]; exact Nat.ne_of_gt (blk_lt (bkt_ BK345)) : gb352 ≠ gb345)); clear HO348; clear BK345; clear HB; have HO348 := n0_; have BK345 := n1_; have HB := n2_; have BK352 := n3_; have GW352 := n4_; have GE352 := n5_; have NB345_352 := n6_; have NB352_345 := n7_; clear n0_ n1_ n2_ n3_ n4_ n5_ n6_ n7_; clear hb hbox hg; have hnb10 := NB352_345.out; have hnc10 := NB345_352.out; obtain ⟨hcz11_0, hcz11_1⟩ := bc2_ BK352; have hfz11_0 := blk_frozen BK352.out 0; have hfz11_1 := blk_frozen BK352.out 1))
 go_ret
 exact ⟨fin_, bls_⟩

/-! ### blend_few: function 48 -/
def blend_few.l0 : Nat → List Int → Int → Int → List (S45) → List Int → List Int → Int → Int → Int → Option (Bool)
 | 0, _, _, _, _, _, _, _, _, _ => none
 | k + 1, x7, x8, x9, x354000, x354001, x354002, x354003, x354004, x354005 => if x9 < x8 then (if 0 ≤ x9 then (if x9 < (x7.length : Int) then (if (rd x7 x9) < 0 then (some false) else (if x9 < (x354001.length : Int) then (if (rd x7 x9) > (rd x354001 x9) then (some false) else (blend_few.l0 k x7 x8 (wrap64 (x9 + 1)) x354000 x354001 x354002 x354003 x354004 x354005)) else (none))) else (none)) else (none)) else (some true)
def blend_few.f (k : Nat) (l0_0 : List (S45)) (l0_1 : List Int) (l0_2 : List Int) (a0_3 : Int) (a0_4 : Int) (a0_5 : Int) (l1 : List Int) : Option (Bool) := blend_few.l0 k l1 (l1.length : Int) 0 l0_0 l0_1 l0_2 a0_3 a0_4 a0_5
theorem blend_few.mono_l : ∀ k, (∀ y0 y1 y2 y3 y4 y5 y6 y7 y8, LeO (blend_few.l0 k y0 y1 y2 y3 y4 y5 y6 y7 y8) (blend_few.l0 (k + 1) y0 y1 y2 y3 y4 y5 y6 y7 y8))
 | 0 => fun _ _ _ _ _ _ _ _ _ r h => by simp [blend_few.l0] at h
 | k + 1 => by
  have ih0 := blend_few.mono_l k
  ·intro y0 y1 y2 y3 y4 y5 y6 y7 y8
   unfold blend_few.l0
   repeat' first
   | (with_reducible exact ih0 _ _ _ _ _ _ _ _ _)
   | (with_reducible exact LeO.refl _)
   | (with_reducible exact LeO.none _)
   | (with_reducible refine LeO.ite ?_ ?_)
   | (with_reducible refine LeO.bind ?_ (fun _ => ?_))
   | exact ih0 _ _ _ _ _ _ _ _ _
   | exact LeO.none _
   | refine LeO.ite ?_ ?_
   | refine LeO.bind ?_ (fun _ => ?_)
theorem blend_few.mono : ∀ a0 a1 a2 a3 a4 a5 a6 k, LeO (blend_few.f k a0 a1 a2 a3 a4 a5 a6) (blend_few.f (k + 1) a0 a1 a2 a3 a4 a5 a6) := by
 intro a0 a1 a2 a3 a4 a5 a6 k
 have ih0 := blend_few.mono_l k
 unfold blend_few.f
 repeat' first
   | (with_reducible exact ih0 _ _ _ _ _ _ _ _ _)
   | (with_reducible exact LeO.refl _)
   | (with_reducible exact LeO.none _)
   | (with_reducible refine LeO.ite ?_ ?_)
   | (with_reducible refine LeO.bind ?_ (fun _ => ?_))
   | exact ih0 _ _ _ _ _ _ _ _ _
   | exact LeO.none _
   | refine LeO.ite ?_ ?_
   | refine LeO.bind ?_ (fun _ => ?_)
set_option maxHeartbeats 8000000 in
set_option maxRecDepth 100000 in
theorem blend_few.calls (k : Nat) (A0_0 : Option Addr) (c0_0 : Nat) (l0_0 : List (S45)) (A0_1 : Option Addr) (c0_1 : Nat) (l0_1 : List Int) (A0_2 : Option Addr) (c0_2 : Nat) (l0_2 : List Int) (a0_3 : Int) (a0_4 : Int) (a0_5 : Int) (A1 : Option Addr) (c1 : Nat) (l1 : List Int) (r : Bool) (w : World) (hr0_0 : Kd.C k45 w A0_0 l0_0.length l0_0) (hc0_0 : l0_0.length ≤ c0_0) (hr0_1 : Kd.C (Kd.int .i64) w A0_1 l0_1.length l0_1) (hc0_1 : l0_1.length ≤ c0_1) (hr0_2 : Kd.C (Kd.int .i64) w A0_2 l0_2.length l0_2) (hc0_2 : l0_2.length ≤ c0_2) (hr1 : Kd.C (Kd.int .i64) w A1 l1.length l1) (hc1 : l1.length ≤ c1) (h : blend_few.f k l0_0 l0_1 l0_2 a0_3 a0_4 a0_5 l1 = some r) :
  Calls Tryd.prog 48 #[.agg #[.slice A0_0 l0_0.length c0_0, .slice A0_1 l0_1.length c0_1, .slice A0_2 l0_2.length c0_2, .int .i64 a0_3, .int .i64 a0_4, .int .i64 a0_5], .slice A1 l1.length c1] w fun e w' => e = .returned (.bool r) ∧ Below w.heap.size w w' := by
 have hu26 := Tryd.underlying26
 have HR0_0 := Aside0.mk hr0_0
 have HC0_0 := Aside0.mk hc0_0
 clear hr0_0 hc0_0
 have HR0_1 := Aside0.mk hr0_1
 have HC0_1 := Aside0.mk hc0_1
 clear hr0_1 hc0_1
 have HR0_2 := Aside0.mk hr0_2
 have HC0_2 := Aside0.mk hc0_2
 clear hr0_2 hc0_2
 have HR1 := Aside0.mk hr1
 have HC1 := Aside0.mk hc1
 clear hr1 hc1
 have HB := Aside0.mk (Below.refl w.heap.size w)
 have H : (blend_few.l0 k l1 (l1.length : Int) 0 l0_0 l0_1 l0_2 a0_3 a0_4 a0_5) = some r := h
 clear h
 have H' := Aside0.mk H
 clear H
 go_enter Tryd.func48, Tryd.ntmps48
 go_wp2_with (first | ((with_reducible refine gate_dst (N := 2) rfl ?_); refine be_ (N := 2) (cs := #[.slice A0_0 l0_0.length c0_0, .slice A0_1 l0_1.length c0_1, .slice A0_2 l0_2.length c0_2, .int .i64 a0_3, .int .i64 a0_4, .int .i64 a0_5]) (t := 26) ?_; intro gb353 hg w3 hbox hb; have n0_ := Aside0.mk (below_step bl_ hb); have n1_ := Aside0.mk (hbox); have n2_ := Aside0.mk ((by rw [hg]; exact (below_size bl_) : w.heap.size ≤ gb353)); have n3_ := Aside0.mk ((by rw [hg]; exact (below_size bl_) : w.heap.size ≤ gb353)); clear HB; have HB := n0_; have BK353 := n1_; have GW353 := n2_; have GE353 := n3_; clear n0_ n1_ n2_ n3_; clear hb hbox hg))
 go_loopg [9] k (fun kq v9 w' => ∃ (x9_1 : Int), v9 = .int .i64 x9_1 ∧ Aside0 (blend_few.l0 kq l1 (l1.length : Int) x9_1 l0_0 l0_1 l0_2 a0_3 a0_4 a0_5 = some r) ∧ Aside0 (kq ≤ k) ∧ Aside0 (w'.heap[gb353]? = some (.cells #[(.slice A0_0 l0_0.length c0_0), (.slice A0_1 l0_1.length c0_1), (.slice A0_2 l0_2.length c0_2), .int .i64 a0_3, .int .i64 a0_4, .int .i64 a0_5] 26 (0, 0))) ∧ Aside0 (Below w.heap.size w w'))
 case atStart => exact ⟨(0), sm_, H', ⟨Nat.le_refl _⟩, ⟨bkt_ BK353⟩, ⟨bls_⟩⟩
 case round =>
  clear H'
  try clear c1
  try clear p2
  obtain ⟨x9_1, rfl, HA, HK1, BK353, HB⟩ := hrel
  cases gk with
  | zero => exact absurd HA.out (by simp [blend_few.l0])
  | succ k1 =>
   have H := HA.out
   clear HA
   simp only [blend_few.l0] at H
   by_cases c4 : x9_1 < (l1.length : Int)
   ·rw [if_pos c4] at H
    have c4b0 : decide (x9_1 < (l1.length : Int)) = true := decide_eq_true c4
    clear c4
    by_cases c5 : 0 ≤ x9_1
    ·rw [if_pos c5] at H
     have c5b0 : decide (0 ≤ x9_1) = true := decide_eq_true c5
     clear c5
     by_cases c6 : x9_1 < (l1.length : Int)
     ·rw [if_pos c6] at H
      have c6b0 : decide (x9_1 < (l1.length : Int)) = true := decide_eq_true c6
      clear c6
      by_cases c7 : (rd l1 x9_1) < 0
      ·rw [if_pos c7] at H
       have c7b0 : decide ((rd l1 x9_1) < 0) = true := decide_eq_true c7
       clear c7
       obtain rfl := Option.some.inj H
       have p354 : 0 ≤ (x9_1 : Int) := of_decide_eq_true as_
       have q354 : x9_1 < (l1.length : Int) := of_decide_eq_true as_
       obtain ⟨ad354, e354, hx354_0⟩ := Kd.at_int HR1.out x9_1 p354 q354
       cases e354
       replace hx354_0 := (HB.out.cell (World.block_lt_of_cell? w _ hx354_0)).trans hx354_0
       replace p354 := eq_true p354
       replace q354 := eq_true q354
       go_wp2
       go_ret
       exact ⟨fin_, bls_⟩
      ·rw [if_neg c7] at H
       have c7b0 : decide ((rd l1 x9_1) < 0) = false := decide_eq_false c7
       clear c7
       by_cases c8 : x9_1 < (l0_1.length : Int)
       ·rw [if_pos c8] at H
        have c8b0 : decide (x9_1 < (l0_1.length : Int)) = true := decide_eq_true c8
        clear c8
        by_cases c9 : (rd l1 x9_1) > (rd l0_1 x9_1)
        ·rw [if_pos c9] at H
         have c9b0 : decide ((rd l0_1 x9_1) < (rd l1 x9_1)) = true := decide_eq_true c9
         clear c9
         obtain rfl := Option.some.inj H
         have p354 : 0 ≤ (x9_1 : Int) := of_decide_eq_true as_
         have q354 : x9_1 < (l1.length : Int) := of_decide_eq_true as_
         obtain ⟨ad354, e354, hx354_0⟩ := Kd.at_int HR1.out x9_1 p354 q354
         cases e354
         replace hx354_0 := (HB.out.cell (World.block_lt_of_cell? w _ hx354_0)).trans hx354_0
         replace p354 := eq_true p354
         replace q354 := eq_true q354
         obtain ⟨hcz10_0, hcz10_1, hcz10_2, hcz10_3, hcz10_4, hcz10_5⟩ := bc6_ BK353
         obtain ⟨hfz10_0, hfz10_1, hfz10_2, hfz10_3, hfz10_4, hfz10_5⟩ := bf6_ BK353
         have p355 : 0 ≤ (x9_1 : Int) := of_decide_eq_true as_
         have q355 : x9_1 < (l0_1.length : Int) := of_decide_eq_true as_
         obtain ⟨ad355, e355, hx355_0⟩ := Kd.at_int HR0_1.out x9_1 p355 q355
         cases e355
         replace hx355_0 := (HB.out.cell (World.block_lt_of_cell? w _ hx355_0)).trans hx355_0
         replace p355 := eq_true p355
         replace q355 := eq_true q355
         go_wp2
         go_ret
         exact ⟨fin_, bls_⟩
        ·rw [if_neg c9] at H
         have c9b0 : decide ((rd l0_1 x9_1) < (rd l1 x9_1)) = false := decide_eq_false c9
         clear c9
         have H' := Aside0.mk H
         clear H
         have p354 : 0 ≤ (x9_1 : Int) := of_decide_eq_true as_
         have q354 : x9_1 < (l1.length : Int) := of_decide_eq_true as_
         obtain ⟨ad354, e354, hx354_0⟩ := Kd.at_int HR1.out x9_1 p354 q354
         cases e354
         replace hx354_0 := (HB.out.cell (World.block_lt_of_cell? w _ hx354_0)).trans hx354_0
         replace p354 := eq_true p354
         replace q354 := eq_true q354
         obtain ⟨hcz11_0, hcz11_1, hcz11_2, hcz11_3, hcz11_4, hcz11_5⟩ := bc6_ BK353
         obtain ⟨hfz11_0, hfz11_1, hfz11_2, hfz11_3, hfz11_4, hfz11_5⟩ := bf6_ BK353
         have p355 : 0 ≤ (x9_1 : Int) := of_decide_eq_true as_
         have q355 : x9_1 < (l0_1.length : Int) := of_decide_eq_true as_
         obtain ⟨ad355, e355, hx355_0⟩ := Kd.at_int HR0_1.out x9_1 p355 q355
         cases e355
         replace hx355_0 := (HB.out.cell (World.block_lt_of_cell? w _ hx355_0)).trans hx355_0
         replace p355 := eq_true p355
         replace q355 := eq_true q355
         go_wp2
         go_roundg k1
         case measure => have := HK1.out; omega
         case rel => exact ⟨(wrap64 (x9_1 + 1)), sm_, H', ⟨by have := HK1.out; omega⟩, ⟨bkt_ BK353⟩, ⟨bls_⟩⟩
       ·rw [if_neg c8] at H
        exact absurd H (by simp)
     ·rw [if_neg c6] at H
      exact absurd H (by simp)
    ·rw [if_neg c5] at H
     exact absurd H (by simp)
   ·rw [if_neg c4] at H
    have c4b0 : decide (x9_1 < (l1.length : Int)) = false := decide_eq_false c4
    clear c4
    obtain rfl := Option.some.inj H
    go_wp2
    go_ret
    exact ⟨fin_, bls_⟩

/-! ### blend_mixed: function 51 -/
-- MAKING
-- IMPORT: Derived.BigRegion
/-- The sums of units, one after the other. -/
def mixW (L : List S45) (u : List Int) : Nat → Int × Int
  | 0 => (0, 0)
  | i + 1 => (wrap64 ((mixW L u i).1 + wrap64 (rd u (i : Int) * (rd_T45 L (i : Int)).f0)), wrap64 ((mixW L u i).2 + wrap64 (rd u (i : Int) * (rd_T45 L (i : Int)).f1)))
def blend_mixed.f (l0_0 : List S45) (l0_1 l0_2 : List Int) (a0_3 a0_4 a0_5 : Int) (l1 : List Int) : Option (Int × Int) := if l0_0.length ≤ l1.length ∧ l0_0.length ≤ 1000 then some (mixW l0_0 l1 l0_0.length) else none
set_option maxHeartbeats 8000000 in
set_option maxRecDepth 100000 in
theorem blend_mixed.calls (A0_0 : Option Addr) (c0_0 : Nat) (l0_0 : List S45) (A0_1 : Option Addr) (c0_1 : Nat) (l0_1 : List Int) (A0_2 : Option Addr) (c0_2 : Nat) (l0_2 : List Int) (a0_3 a0_4 a0_5 : Int) (A1 : Option Addr) (c1 : Nat) (l1 : List Int) (r1 r2 : Int) (w : World)
    (hr0_0 : Kd.C k45 w A0_0 l0_0.length l0_0) (hc0_0 : l0_0.length ≤ c0_0) (hr0_1 : Kd.C (Kd.int .i64) w A0_1 l0_1.length l0_1) (hc0_1 : l0_1.length ≤ c0_1) (hr0_2 : Kd.C (Kd.int .i64) w A0_2 l0_2.length l0_2) (hc0_2 : l0_2.length ≤ c0_2) (hr1 : Kd.C (Kd.int .i64) w A1 l1.length l1) (hc1 : l1.length ≤ c1)
    (h : blend_mixed.f l0_0 l0_1 l0_2 a0_3 a0_4 a0_5 l1 = some (r1, r2)) :
    Calls Tryd.prog 51 #[.agg #[.slice A0_0 l0_0.length c0_0, .slice A0_1 l0_1.length c0_1, .slice A0_2 l0_2.length c0_2, .int .i64 a0_3, .int .i64 a0_4, .int .i64 a0_5], .slice A1 l1.length c1] w fun e w' => e = .returned (.agg #[.int .i64 r1, .int .i64 r2]) ∧ Below w.heap.size w w' := by
  have hu := Tryd.underlying45
  have hu2 := Tryd.underlying26
  unfold blend_mixed.f at h
  by_cases hl : l0_0.length ≤ l1.length ∧ l0_0.length ≤ 1000
  case neg => rw [if_neg hl] at h; cases h
  rw [if_pos hl] at h
  obtain ⟨e1, e2⟩ := Prod.mk.inj (Option.some.inj h)
  subst e1 e2
  have HL := Aside0.mk hl
  have HR := Aside0.mk (⟨hr0_0, hr1⟩ : _ ∧ _)
  clear hr0_0 hr1 hr0_1 hr0_2 h hl
  go_enter Tryd.func51, Tryd.ntmps51
  go_wp2_with fail
  obtain ⟨w1, hw1⟩ : ∃ x, x = ((w.alloc (.cells #[.slice A0_0 l0_0.length c0_0, .slice A0_1 l0_1.length c0_1, .slice A0_2 l0_2.length c0_2, .int .i64 a0_3, .int .i64 a0_4, .int .i64 a0_5] 26)).alloc (.cells #[.int .i64 0, .int .i64 0] 45)).alloc (.cells #[.int .i64 0, .int .i64 0] 45) := ⟨_, rfl⟩
  have HB := Aside0.mk (show Below w.heap.size w w1 by rw [hw1]; exact below_alloc (below_alloc (below_alloc (Below.refl _ _) _) _) _)
  have BP := Aside0.mk (show w1.heap[w.heap.size + 1]? = some (.cells #[.int .i64 0, .int .i64 0] 45 (0, 0)) by
    have h1 := blk_new (w.alloc (.cells #[.slice A0_0 l0_0.length c0_0, .slice A0_1 l0_1.length c0_1, .slice A0_2 l0_2.length c0_2, .int .i64 a0_3, .int .i64 a0_4, .int .i64 a0_5] 26)) (.cells #[.int .i64 0, .int .i64 0] 45)
    rw [World.size_alloc] at h1
    rw [hw1]; exact blk_alloc h1 _)
  have BQ := Aside0.mk (show w1.heap[w.heap.size + 1 + 1]? = some (.cells #[.int .i64 0, .int .i64 0] 45 (0, 0)) by
    have h1 := blk_new ((w.alloc (.cells #[.slice A0_0 l0_0.length c0_0, .slice A0_1 l0_1.length c0_1, .slice A0_2 l0_2.length c0_2, .int .i64 a0_3, .int .i64 a0_4, .int .i64 a0_5] 26)).alloc (.cells #[.int .i64 0, .int .i64 0] 45)) (.cells #[.int .i64 0, .int .i64 0] 45)
    rw [World.size_alloc, World.size_alloc] at h1
    rw [hw1]; exact h1)
  rw [← hw1]
  clear hw1
  obtain ⟨bp, hbp⟩ : ∃ b, b = w.heap.size + 1 := ⟨_, rfl⟩
  obtain ⟨bq, hbq⟩ : ∃ b, b = w.heap.size + 1 + 1 := ⟨_, rfl⟩
  have HBB := Aside0.mk (show w.heap.size ≤ bp ∧ w.heap.size ≤ bq ∧ bp ≠ bq by omega)
  try rw [← hbq]
  try rw [← hbp]
  rw [← hbq] at BQ
  rw [← hbp] at BP
  clear hbp hbq
  go_loopg [12] (l0_0.length + 1) (fun g s12 wr => ∃ x : Int, s12 = .int .i64 x ∧ Aside0 (∃ i : Nat, x = (i : Int) ∧ i ≤ l0_0.length ∧ l0_0.length + 1 - i ≤ g ∧ wr.heap[bq]? = some (.cells #[.int .i64 (mixW l0_0 l1 i).1, .int .i64 (mixW l0_0 l1 i).2] 45 (0, 0))) ∧ Aside0 (Below w.heap.size w wr ∧ wr.heap[bp]? = some (.cells #[.int .i64 0, .int .i64 0] 45 (0, 0))))
  case atStart => exact ⟨0, rfl, ⟨0, rfl, Nat.zero_le _, by omega, BQ.out⟩, ⟨HB.out, BP.out⟩⟩
  case round =>
    clear HB BP BQ
    obtain ⟨x, rfl, HI0, HBP⟩ := hrel
    obtain ⟨i, hxi, hil, hig, hq⟩ := HI0.out
    have HI := Aside0.mk (⟨hxi, hil, hig⟩ : _ ∧ _ ∧ _)
    clear HI0 hig
    by_cases hlt : i < l0_0.length
    case neg =>
      have q1 : decide (x < (l0_0.length : Int)) = false := decide_eq_false (by omega)
      obtain rfl : i = l0_0.length := by omega
      have HQ := Aside0.mk hq
      have s0 : wr.cell? ⟨bq, 0, none⟩ = some (.int .i64 (mixW l0_0 l1 l0_0.length).1) := blk_cell hq 0
      have s1 : wr.cell? ⟨bq, 1, none⟩ = some (.int .i64 (mixW l0_0 l1 l0_0.length).2) := blk_cell hq 1
      have z0 : wr.cell? ⟨bp, 0, none⟩ = some (.int .i64 0) := blk_cell HBP.out.2 0
      have z1 : wr.cell? ⟨bp, 1, none⟩ = some (.int .i64 0) := blk_cell HBP.out.2 1
      have f0 : wr.frozen? ⟨bp, 0, none⟩ = false := blk_frozen HBP.out.2 0
      have f1 : wr.frozen? ⟨bp, 1, none⟩ = false := blk_frozen HBP.out.2 1
      have HP := Aside0.mk (blk_put (blk_put HBP.out.2 0 (.int .i64 (mixW l0_0 l1 l0_0.length).1) rfl) 1 (.int .i64 (mixW l0_0 l1 l0_0.length).2) rfl)
      clear hq hlt hil hxi
      obtain ⟨m, hm⟩ : ∃ m, mixW l0_0 l1 l0_0.length = m := ⟨_, rfl⟩
      rw [hm] at s0 s1 HP HQ
      have HM := Aside0.mk hm
      clear hm
      go_wp2
      refine bodyPost_ret (results_cell_row rfl _ _ bp 45 #[.int .i64 m.1, .int .i64 m.2] (0, 0) _ rfl HP.out hu rfl (by kernel_rfl)) rfl ?_
      exact ⟨by rw [HM.out], below_set (below_set HBP.out.1 HBB.out.1) HBB.out.1⟩
    have q1 : decide (x < (l0_0.length : Int)) = true := decide_eq_true (by omega)
    have p0 : (0 ≤ x) = True := eq_true (by omega)
    have p1 : (x < (l0_0.length : Int)) = True := eq_true (by omega)
    have p2 : (x < (l1.length : Int)) = True := eq_true (by have := HL.out; omega)
    obtain ⟨ad, e, t0, t1⟩ := at_T45 (Kd.C_below HR.out.1 HBP.out.1) x (by omega) (by omega)
    cases e
    obtain ⟨au, e, t2⟩ := Kd.at_int (Kd.C_below HR.out.2 HBP.out.1) x (by omega) (by have := HL.out; omega)
    cases e
    obtain ⟨au', e, t3⟩ := Kd.at_int HR.out.2 x (by omega) (by have := HL.out; omega)
    cases e
    have HAU := Aside0.mk t3
    clear t3
    have HNQ := Aside0.mk (show wr.heap.size ≠ bq by have := blk_lt hq; omega)
    have wx : wrap64 (x + 1) = x + 1 := w64_ (by omega) (by have := HL.out; omega)
    have HST := Aside0.mk (show mixW l0_0 l1 (i + 1) = (wrap64 ((mixW l0_0 l1 i).1 + wrap64 (rd l1 x * (rd_T45 l0_0 x).f0)), wrap64 ((mixW l0_0 l1 i).2 + wrap64 (rd l1 x * (rd_T45 l0_0 x).f1))) by rw [hxi]; rfl)
    have HLT := Aside0.mk hlt
    clear hlt hil hxi
    generalize rd l1 x = y at t2 HST
    generalize rd_T45 l0_0 x = z at t0 t1 HST
    generalize mixW l0_0 l1 i = m at hq HST
    have BQ := Aside0.mk hq
    clear hq
    go_upto_region 5 with fail
    obtain ⟨w4, hw4⟩ : ∃ q, q = wr.alloc (.cells #[.int .i64 z.f0, .int .i64 z.f1] 45) := ⟨_, rfl⟩
    have hb : Below wr.heap.size wr w4 := by rw [hw4]; exact below_alloc (Below.refl _ _) _
    have BN := Aside0.mk (show w4.heap[wr.heap.size]? = some (.cells #[.int .i64 z.f0, .int .i64 z.f1] 45 (0, 0)) by rw [hw4]; exact blk_new _ _)
    rw [← hw4]
    replace BQ := Aside0.mk (blk_below BQ.out hb)
    replace HBP := Aside0.mk (⟨below_step HBP.out.1 hb, blk_below HBP.out.2 hb⟩ : _ ∧ _)
    replace t2 := pw_cell_below hb t2
    clear hw4 hb t0 t1
    have n0 : w4.cell? ⟨wr.heap.size, 0, none⟩ = some (.int .i64 z.f0) := blk_cell BN.out 0
    have n1 : w4.cell? ⟨wr.heap.size, 1, none⟩ = some (.int .i64 z.f1) := blk_cell BN.out 1
    have s0 : w4.cell? ⟨bq, 0, none⟩ = some (.int .i64 m.1) := blk_cell BQ.out 0
    have s1 : w4.cell? ⟨bq, 1, none⟩ = some (.int .i64 m.2) := blk_cell BQ.out 1
    have f0 : w4.frozen? ⟨bq, 0, none⟩ = false := blk_frozen BQ.out 0
    have f1 : w4.frozen? ⟨bq, 1, none⟩ = false := blk_frozen BQ.out 1
    have hau : (au.add x.toNat).block ≠ bq := by
      have := World.block_lt_of_cell? w _ HAU.out
      have := HBB.out
      omega
    have hbn : wr.heap.size ≠ bq := HNQ.out
    have t2b : ∀ v, (w4.setCell ⟨bq, 0, none⟩ v).cell? (au.add x.toNat) = some (.int .i64 y) := fun v => by have h := t2; unfold World.cell? at h ⊢; rw [Below.heap_setCell w4 ⟨bq, 0, none⟩ v _ hau]; exact h
    have n0b : ∀ v, (w4.setCell ⟨bq, 0, none⟩ v).cell? ⟨wr.heap.size, 0, none⟩ = some (.int .i64 z.f0) := fun v => blk_cell (blk_far (p := ⟨bq, 0, none⟩) BN.out hbn v) 0
    have n1b : ∀ v, (w4.setCell ⟨bq, 0, none⟩ v).cell? ⟨wr.heap.size, 1, none⟩ = some (.int .i64 z.f1) := fun v => blk_cell (blk_far (p := ⟨bq, 0, none⟩) BN.out hbn v) 1
    have s1b : ∀ v, (w4.setCell ⟨bq, 0, none⟩ v).cell? ⟨bq, 1, none⟩ = some (.int .i64 m.2) := fun v => blk_cell (blk_put BQ.out 0 v rfl) 1
    have f1b : ∀ v, (w4.setCell ⟨bq, 0, none⟩ v).frozen? ⟨bq, 1, none⟩ = false := fun v => blk_frozen (blk_put BQ.out 0 v rfl) 1
    go_region
    go_wp2
    go_roundg (l0_0.length + 1 - (i + 1))
    case measure => have := HI.out; have := HLT.out; omega
    case rel =>
      refine ⟨x + 1, by first | rfl | (rw [wx]), ⟨i + 1, by rw [HI.out.1]; rfl, HLT.out, Nat.le_refl _, ?_⟩, ⟨?_, ?_⟩⟩
      · rw [HST.out]
        exact blk_put (blk_put BQ.out 0 _ rfl) 1 _ rfl
      · exact below_set (below_set (below_drew HBP.out.1) HBB.out.2.1) HBB.out.2.1
      · exact blk_far (p := ⟨bq, 1, none⟩) (blk_far (p := ⟨bq, 0, none⟩) HBP.out.2 HBB.out.2.2 _) HBB.out.2.2 _

/-! ### blend_Of: function 23 -/
-- MAKING
-- ROUNDS
-- behind 51 48 47 56 45 49
def badB (a m : Int) : Bool := !plainB a m || decide (m > 1000000000)
def badL (L : List S45) (j : Nat) : Bool := badB (rd_T45 L (j : Int)).f0 (rd_T45 L (j : Int)).f1
theorem blend_plain.plain (a m : Int) : blend_plain.f a m = some (plainB a m) := by
  unfold blend_plain.f mix_Sum.f
  rw [if_neg (by show ¬ ((1 : Nat) : Int) > 8; decide)]
  have es : strayL [⟨a, m⟩] 0 = !plainB a m := rfl
  by_cases hp : plainB a m = true
  · rw [if_neg (by rw [idxP_any]; rintro ⟨j, -, h2, h3⟩; obtain rfl : j = 0 := (by have : j < 0 + 1 := h2; omega); rw [es, hp] at h3; cases h3)]
    have h := hp
    unfold plainB at h
    have hb := of_decide_eq_true h
    have e : sumsL [⟨a, m⟩] 1 = (a, m) := by
      show (wrap64 (0 + a), wrap64 (0 + m)) = (a, m)
      rw [Int.zero_add, Int.zero_add, w64_ (by omega) (by omega), w64_ (by omega) (by omega)]
    show (if plainB (sumsL [⟨a, m⟩] 1).1 (sumsL [⟨a, m⟩] 1).2 = true then _ else _ : Option (Int × Int × Int)).bind _ = _
    rw [e, if_pos hp, Option.bind_some, hp]
    rfl
  · have hq : plainB a m = false := by cases h : plainB a m; rfl; exact absurd h hp
    rw [if_pos (by rw [idxP_any]; exact ⟨0, Nat.le_refl _, by show 0 < 0 + 1; decide, by rw [es, hq]; rfl⟩), Option.bind_some, hq]
    rfl
set_option maxHeartbeats 4000000 in
set_option maxRecDepth 100000 in
theorem blend_Of.clo (a m : Int) (W : World) : Calls Tryd.prog 46 (#[.agg #[.int .i64 a, .int .i64 m]] ++ #[]) W fun e w' => e = .returned (.bool (badB a m)) ∧ Below W.heap.size W w' := by
  have HP := Aside0.mk (fun w => blend_plain.calls a m (plainB a m) w (blend_plain.plain a m))
  have hu := Tryd.underlying45
  have HB := Aside0.mk (Below.refl W.heap.size W)
  have HE := Aside0.mk (show badB a m = (!plainB a m || decide (m > 1000000000)) from rfl)
  generalize plainB a m = b at HP HE
  generalize badB a m = r at HE ⊢
  go_enter Tryd.func46, Tryd.ntmps46
  go_wp2_with fail
  obtain ⟨w1, hw1⟩ : ∃ x, x = W.alloc (.cells #[.int .i64 a, .int .i64 m] 45) := ⟨_, rfl⟩
  have hb : Below W.heap.size W w1 := by rw [hw1]; exact below_alloc (Below.refl _ _) _
  have BN := Aside0.mk (show w1.heap[W.heap.size]? = some (.cells #[.int .i64 a, .int .i64 m] 45 (0, 0)) by rw [hw1]; exact blk_new _ _)
  rw [← hw1]
  clear hw1
  refine (HP.out _).mono ?_
  rintro e w2 ⟨rfl, hb2⟩
  replace HB := Aside0.mk (below_step hb hb2)
  have n1 : w2.cell? ⟨W.heap.size, 1, none⟩ = some (.int .i64 m) := blk_cell (blk_below BN.out hb2) 1
  clear hb hb2
  have hr := HE.out
  cases b
  · obtain rfl : r = true := hr
    go_wp2_with fail
    go_ret
    exact ⟨rfl, HB.out⟩
  · obtain rfl : r = decide (m > 1000000000) := hr
    go_wp2_with fail
    go_ret
    exact ⟨rfl, HB.out⟩
def blend_Of.f (k : Nat) (l0_0 : List S45) (l0_1 l0_2 : List Int) (a0_3 a0_4 a0_5 : Int) (l1 : List Int) : Option (Int × Int × Int) :=
  if 4 < l0_0.length then some (0, 0, 8) else if l0_1.length ≠ l0_0.length ∨ l1.length ≠ l0_0.length then some (0, 0, 10) else if 0 ≤ idxP (badL l0_0) l0_0.length 0 then some (0, 0, 1)
  else (blend_few.f k l0_0 l0_1 l0_2 a0_3 a0_4 a0_5 l1).bind fun b => if b = false ∨ 0 ≤ idxP (fun j => outB 64 (rd l1 (j : Int))) l1.length 0 then some (0, 0, 2)
  else if plainB (mixW l0_0 l1 l0_0.length).1 (mixW l0_0 l1 l0_0.length).2 = true then some ((mixW l0_0 l1 l0_0.length).1, (mixW l0_0 l1 l0_0.length).2, 0) else some (0, 0, 15)
theorem blend_Of.mono : ∀ a0 a1 a2 a3 a4 a5 a6 k, LeO (blend_Of.f k a0 a1 a2 a3 a4 a5 a6) (blend_Of.f (k + 1) a0 a1 a2 a3 a4 a5 a6) := by
  intro a0 a1 a2 a3 a4 a5 a6 k
  unfold blend_Of.f
  split
  · exact LeO.refl _
  split
  · exact LeO.refl _
  split
  · exact LeO.refl _
  exact LeO.bind (blend_few.mono _ _ _ _ _ _ _ _) (fun b => LeO.refl _)
set_option maxHeartbeats 8000000 in
set_option maxRecDepth 100000 in
theorem blend_Of.calls (k : Nat) (A0_0 : Option Addr) (c0_0 : Nat) (l0_0 : List S45) (A0_1 : Option Addr) (c0_1 : Nat) (l0_1 : List Int) (A0_2 : Option Addr) (c0_2 : Nat) (l0_2 : List Int) (a0_3 a0_4 a0_5 : Int) (A1 : Option Addr) (c1 : Nat) (l1 : List Int) (r1 r2 r3 : Int) (w : World)
    (hr0_0 : Kd.C k45 w A0_0 l0_0.length l0_0) (hc0_0 : l0_0.length ≤ c0_0) (hr0_1 : Kd.C (Kd.int .i64) w A0_1 l0_1.length l0_1) (hc0_1 : l0_1.length ≤ c0_1) (hr0_2 : Kd.C (Kd.int .i64) w A0_2 l0_2.length l0_2) (hc0_2 : l0_2.length ≤ c0_2) (hr1 : Kd.C (Kd.int .i64) w A1 l1.length l1) (hc1 : l1.length ≤ c1)
    (h : blend_Of.f k l0_0 l0_1 l0_2 a0_3 a0_4 a0_5 l1 = some (r1, r2, r3)) :
    Calls Tryd.prog 23 #[.agg #[.slice A0_0 l0_0.length c0_0, .slice A0_1 l0_1.length c0_1, .slice A0_2 l0_2.length c0_2, .int .i64 a0_3, .int .i64 a0_4, .int .i64 a0_5], .slice A1 l1.length c1] w fun e w' => e = .returned (.tuple #[.agg #[.int .i64 r1, .int .i64 r2], .int .i64 r3]) ∧ Below w.heap.size w w' := by
  have hu := Tryd.underlying45
  have hu2 := Tryd.underlying26
  have e46 : ∀ args w, (callFunc 46 args).run Tryd.prog w = .ok (.enter 46 args) w := enters_of Tryd.func46 (by kernel_rfl) rfl
  have e70 : ∀ args w, (callFunc 70 args).run Tryd.prog w = .ok (.enter 70 args) w := enters_of Tryd.func70 (by kernel_rfl) rfl
  unfold blend_Of.f at h
  have HH := Aside0.mk h
  clear h
  have HLQ : Aside0 (l0_0.length ≤ 4 → ∀ W, Below w.heap.size w W → Calls Tryd.prog 45 #[.slice A0_0 l0_0.length c0_0, .func (.func 46) #[] #[]] W fun e w' => e = .returned (.bool (decide (0 ≤ idxP (badL l0_0) l0_0.length 0))) ∧ Below W.heap.size W w') := ⟨fun h4 W hb =>
    api_Liquid_45.below 46 #[] A0_0 c0_0 l0_0 (badL l0_0) W e46 (by omega) (Kd.C_below hr0_0 hb) (fun W' i h0 h1 hb' => by
      have := blend_Of.clo (rd_T45 l0_0 i).f0 (rd_T45 l0_0 i).f1 W'
      rwa [show badB (rd_T45 l0_0 i).f0 (rd_T45 l0_0 i).f1 = badL l0_0 i.toNat by show _ = badB (rd_T45 l0_0 ((i.toNat : Nat) : Int)).f0 (rd_T45 l0_0 ((i.toNat : Nat) : Int)).f1; rw [Int.toNat_of_nonneg h0]] at this)⟩
  have HUN : Aside0 (l1.length ≤ 4 → ∀ bm W, W.cell? ⟨bm, 0, none⟩ = some (.int .i64 64) → Below w.heap.size w W → Calls Tryd.prog 49 #[.slice A1 l1.length c1, .func (.func 70) #[] #[.pointer (some ⟨bm, 0, none⟩)]] W fun e w' => e = .returned (.bool (decide (0 ≤ idxP (fun j => outB 64 (rd l1 (j : Int))) l1.length 0))) ∧ Below W.heap.size W w') := ⟨fun h4 bm W hm hb =>
    slices_ContainsFunc_int_int.below 70 #[.pointer (some ⟨bm, 0, none⟩)] A1 c1 l1 (fun j => outB 64 (rd l1 (j : Int))) W e70 (by omega) (Kd.C_below hr1 hb) (fun W' i h0 h1 hb' => by
      have := blend_outside.clo 64 (rd l1 i) bm W' (pw_cell_below hb' hm)
      rwa [show outB 64 (rd l1 i) = (fun j : Nat => outB 64 (rd l1 (j : Int))) i.toNat by show _ = outB 64 (rd l1 ((i.toNat : Nat) : Int)); rw [Int.toNat_of_nonneg h0]] at this)⟩
  have HFW := Aside0.mk (fun (b : Bool) (hx : blend_few.f k l0_0 l0_1 l0_2 a0_3 a0_4 a0_5 l1 = some b) (W : World) (hw : Below w.heap.size w W) => blend_few.calls k A0_0 c0_0 l0_0 A0_1 c0_1 l0_1 A0_2 c0_2 l0_2 a0_3 a0_4 a0_5 A1 c1 l1 b W (Kd.C_below hr0_0 hw) hc0_0 (Kd.C_below hr0_1 hw) hc0_1 (Kd.C_below hr0_2 hw) hc0_2 (Kd.C_below hr1 hw) hc1 hx)
  have HMX := Aside0.mk (fun (hl : l0_0.length ≤ l1.length ∧ l0_0.length ≤ 1000) (W : World) (hw : Below w.heap.size w W) => blend_mixed.calls A0_0 c0_0 l0_0 A0_1 c0_1 l0_1 A0_2 c0_2 l0_2 a0_3 a0_4 a0_5 A1 c1 l1 (mixW l0_0 l1 l0_0.length).1 (mixW l0_0 l1 l0_0.length).2 W (Kd.C_below hr0_0 hw) hc0_0 (Kd.C_below hr0_1 hw) hc0_1 (Kd.C_below hr0_2 hw) hc0_2 (Kd.C_below hr1 hw) hc1 (by unfold blend_mixed.f; rw [if_pos hl]))
  have HPL := Aside0.mk (fun (a m : Int) (W : World) => blend_plain.calls a m (plainB a m) W (blend_plain.plain a m))
  have HOU := Aside0.mk (fun (W : World) => blend_outside.calls 64 W)
  clear hr0_0 hr0_1 hr0_2 hr1 hc0_0 hc0_1 hc0_2 hc1
  have HB := Aside0.mk (Below.refl w.heap.size w)
  go_enter Tryd.func23, Tryd.ntmps23
  go_upto_region 1 with fail
  obtain ⟨w1, hw1⟩ : ∃ x, x = (w.alloc (.cells #[.slice A0_0 l0_0.length c0_0, .slice A0_1 l0_1.length c0_1, .slice A0_2 l0_2.length c0_2, .int .i64 a0_3, .int .i64 a0_4, .int .i64 a0_5] 26)).alloc (.cells #[.int .i64 0, .int .i64 0] 45) := ⟨_, rfl⟩
  have HB1 := Aside0.mk (show Below w.heap.size w w1 by rw [hw1]; exact below_alloc (below_alloc (Below.refl _ _) _) _)
  have BO := Aside0.mk (show w1.heap[w.heap.size]? = some (.cells #[.slice A0_0 l0_0.length c0_0, .slice A0_1 l0_1.length c0_1, .slice A0_2 l0_2.length c0_2, .int .i64 a0_3, .int .i64 a0_4, .int .i64 a0_5] 26 (0, 0)) by rw [hw1]; exact blk_alloc (blk_new w _) _)
  have BR := Aside0.mk (show w1.heap[w.heap.size + 1]? = some (.cells #[.int .i64 0, .int .i64 0] 45 (0, 0)) by
    have h1 := blk_new (w.alloc (.cells #[.slice A0_0 l0_0.length c0_0, .slice A0_1 l0_1.length c0_1, .slice A0_2 l0_2.length c0_2, .int .i64 a0_3, .int .i64 a0_4, .int .i64 a0_5] 26)) (.cells #[.int .i64 0, .int .i64 0] 45)
    rw [World.size_alloc] at h1
    rw [hw1]; exact h1)
  rw [← hw1]
  replace HB := HB1
  clear hw1 HB1
  obtain ⟨bo, hbo⟩ : ∃ b, b = w.heap.size := ⟨_, rfl⟩
  obtain ⟨br, hbr⟩ : ∃ b, b = w.heap.size + 1 := ⟨_, rfl⟩
  rw [← hbr] at BR
  rw [← hbo] at BO
  try rw [← hbr]
  try rw [← hbo]
  have HBB := Aside0.mk (show w.heap.size ≤ br by omega)
  clear hbo hbr
  have d0 : w1.cell? ⟨bo, 0, none⟩ = some (.slice A0_0 l0_0.length c0_0) := blk_cell BO.out 0
  have d1 : w1.cell? ⟨bo, 1, none⟩ = some (.slice A0_1 l0_1.length c0_1) := blk_cell BO.out 1
  have d2 : w1.cell? ⟨bo, 2, none⟩ = some (.slice A0_2 l0_2.length c0_2) := blk_cell BO.out 2
  have d3 : w1.cell? ⟨bo, 3, none⟩ = some (.int .i64 a0_3) := blk_cell BO.out 3
  have d4 : w1.cell? ⟨bo, 4, none⟩ = some (.int .i64 a0_4) := blk_cell BO.out 4
  have d5 : w1.cell? ⟨bo, 5, none⟩ = some (.int .i64 a0_5) := blk_cell BO.out 5
  have r0 : w1.cell? ⟨br, 0, none⟩ = some (.int .i64 0) := blk_cell BR.out 0
  have f0 : w1.frozen? ⟨br, 0, none⟩ = false := blk_frozen BR.out 0
  have r1 : w1.cell? ⟨br, 1, none⟩ = some (.int .i64 0) := blk_cell BR.out 1
  have f1 : w1.frozen? ⟨br, 1, none⟩ = false := blk_frozen BR.out 1
  have hh := HH.out
  by_cases c1 : 4 < l0_0.length
  case pos =>
    have q1 : decide ((l0_0.length : Int) > 4) = true := decide_eq_true (by omega)
    rw [if_pos c1] at hh
    cases hh
    clear c1
    go_wp2
    have HP := blk_put (blk_put BR.out 0 (.int .i64 0) rfl) 1 (.int .i64 0) rfl
    refine bodyPost_ret (results_ct rfl _ _ br 45 #[.int .i64 0, .int .i64 0] (0, 0) _ rfl HP hu rfl (by kernel_rfl)) rfl ?_
    exact ⟨rfl, below_set (below_set HB.out HBB.out) HBB.out⟩
  rw [if_neg c1] at hh
  have q1 : decide ((l0_0.length : Int) > 4) = false := decide_eq_false (by omega)
  by_cases c2 : l0_1.length ≠ l0_0.length
  case pos =>
    have q2 : ((l0_1.length : Int) != (l0_0.length : Int)) = true := bne_iff_ne.2 (by omega)
    rw [if_pos (.inl c2)] at hh
    cases hh
    clear c1 c2
    go_wp2
    have HP := blk_put (blk_put BR.out 0 (.int .i64 0) rfl) 1 (.int .i64 0) rfl
    refine bodyPost_ret (results_ct rfl _ _ br 45 #[.int .i64 0, .int .i64 0] (0, 0) _ rfl HP hu rfl (by kernel_rfl)) rfl ?_
    exact ⟨rfl, below_set (below_set HB.out HBB.out) HBB.out⟩
  have q2 : ((l0_1.length : Int) != (l0_0.length : Int)) = false := bne_eq_false_iff_eq.2 (by omega)
  by_cases c3 : l1.length ≠ l0_0.length
  case pos =>
    have q3 : ((l1.length : Int) != (l0_0.length : Int)) = true := bne_iff_ne.2 (by omega)
    rw [if_pos (.inr c3)] at hh
    cases hh
    clear c1 c2 c3
    go_wp2
    have HP := blk_put (blk_put BR.out 0 (.int .i64 0) rfl) 1 (.int .i64 0) rfl
    refine bodyPost_ret (results_ct rfl _ _ br 45 #[.int .i64 0, .int .i64 0] (0, 0) _ rfl HP hu rfl (by kernel_rfl)) rfl ?_
    exact ⟨rfl, below_set (below_set HB.out HBB.out) HBB.out⟩
  have q3 : ((l1.length : Int) != (l0_0.length : Int)) = false := bne_eq_false_iff_eq.2 (by omega)
  rw [if_neg (by rw [not_or]; exact ⟨c2, c3⟩)] at hh
  have h4 : l0_0.length ≤ 4 := by omega
  have h14 : l1.length ≤ 4 := by omega
  have hll : l0_0.length ≤ l1.length ∧ l0_0.length ≤ 1000 := by omega
  replace HLQ := Aside0.mk (HLQ.out h4)
  replace HUN := Aside0.mk (HUN.out h14)
  replace HMX := Aside0.mk (HMX.out hll)
  clear c1 c2 c3 h4 h14 hll
  obtain ⟨bL, hbL⟩ : ∃ b, decide (0 ≤ idxP (badL l0_0) l0_0.length 0) = b := ⟨_, rfl⟩
  rw [hbL] at HLQ
  obtain ⟨bU, hbU⟩ : ∃ b, decide (0 ≤ idxP (fun j => outB 64 (rd l1 (j : Int))) l1.length 0) = b := ⟨_, rfl⟩
  rw [hbU] at HUN
  go_wp2_with fail
  refine (HLQ.out _ HB.out).mono ?_
  rintro e w2 ⟨rfl, hb⟩
  replace HB := Aside0.mk (below_step HB.out hb)
  replace BO := Aside0.mk (blk_below BO.out hb)
  replace BR := Aside0.mk (blk_below BR.out hb)
  clear hb
  clear d0 d1 d2 d3 d4 d5 r0 r1 f0 f1
  have d0 : w2.cell? ⟨bo, 0, none⟩ = some (.slice A0_0 l0_0.length c0_0) := blk_cell BO.out 0
  have d1 : w2.cell? ⟨bo, 1, none⟩ = some (.slice A0_1 l0_1.length c0_1) := blk_cell BO.out 1
  have d2 : w2.cell? ⟨bo, 2, none⟩ = some (.slice A0_2 l0_2.length c0_2) := blk_cell BO.out 2
  have d3 : w2.cell? ⟨bo, 3, none⟩ = some (.int .i64 a0_3) := blk_cell BO.out 3
  have d4 : w2.cell? ⟨bo, 4, none⟩ = some (.int .i64 a0_4) := blk_cell BO.out 4
  have d5 : w2.cell? ⟨bo, 5, none⟩ = some (.int .i64 a0_5) := blk_cell BO.out 5
  have r0 : w2.cell? ⟨br, 0, none⟩ = some (.int .i64 0) := blk_cell BR.out 0
  have f0 : w2.frozen? ⟨br, 0, none⟩ = false := blk_frozen BR.out 0
  have r1 : w2.cell? ⟨br, 1, none⟩ = some (.int .i64 0) := blk_cell BR.out 1
  have f1 : w2.frozen? ⟨br, 1, none⟩ = false := blk_frozen BR.out 1
  cases bL
  case true =>
    rw [if_pos (of_decide_eq_true hbL)] at hh
    cases hh
    clear hbL hbU
    go_wp2
    have HP := blk_put (blk_put BR.out 0 (.int .i64 0) rfl) 1 (.int .i64 0) rfl
    refine bodyPost_ret (results_ct rfl _ _ br 45 #[.int .i64 0, .int .i64 0] (0, 0) _ rfl HP hu rfl (by kernel_rfl)) rfl ?_
    exact ⟨rfl, below_set (below_set HB.out HBB.out) HBB.out⟩
  rw [if_neg (of_decide_eq_false hbL)] at hh
  obtain ⟨bF, hbF, hh⟩ := Option.bind_eq_some_iff.1 hh
  have HFB := Aside0.mk (HFW.out bF hbF)
  clear hbL hbF HFW
  go_wp2_with fail
  refine (HFB.out _ HB.out).mono ?_
  rintro e w3 ⟨rfl, hb⟩
  replace HB := Aside0.mk (below_step HB.out hb)
  replace BO := Aside0.mk (blk_below BO.out hb)
  replace BR := Aside0.mk (blk_below BR.out hb)
  clear hb
  clear d0 d1 d2 d3 d4 d5 r0 r1 f0 f1
  have d0 : w3.cell? ⟨bo, 0, none⟩ = some (.slice A0_0 l0_0.length c0_0) := blk_cell BO.out 0
  have d1 : w3.cell? ⟨bo, 1, none⟩ = some (.slice A0_1 l0_1.length c0_1) := blk_cell BO.out 1
  have d2 : w3.cell? ⟨bo, 2, none⟩ = some (.slice A0_2 l0_2.length c0_2) := blk_cell BO.out 2
  have d3 : w3.cell? ⟨bo, 3, none⟩ = some (.int .i64 a0_3) := blk_cell BO.out 3
  have d4 : w3.cell? ⟨bo, 4, none⟩ = some (.int .i64 a0_4) := blk_cell BO.out 4
  have d5 : w3.cell? ⟨bo, 5, none⟩ = some (.int .i64 a0_5) := blk_cell BO.out 5
  have r0 : w3.cell? ⟨br, 0, none⟩ = some (.int .i64 0) := blk_cell BR.out 0
  have f0 : w3.frozen? ⟨br, 0, none⟩ = false := blk_frozen BR.out 0
  have r1 : w3.cell? ⟨br, 1, none⟩ = some (.int .i64 0) := blk_cell BR.out 1
  have f1 : w3.frozen? ⟨br, 1, none⟩ = false := blk_frozen BR.out 1
  cases bF
  case false =>
    rw [if_pos (.inl rfl)] at hh
    cases hh
    clear hbU
    go_wp2
    have HP := blk_put (blk_put BR.out 0 (.int .i64 0) rfl) 1 (.int .i64 0) rfl
    refine bodyPost_ret (results_ct rfl _ _ br 45 #[.int .i64 0, .int .i64 0] (0, 0) _ rfl HP hu rfl (by kernel_rfl)) rfl ?_
    exact ⟨rfl, below_set (below_set HB.out HBB.out) HBB.out⟩
  go_wp2_with fail
  refine (HOU.out _).mono ?_
  rintro e wo ⟨bm, rfl, hm, hb⟩
  replace HB := Aside0.mk (below_step HB.out hb)
  replace BO := Aside0.mk (blk_below BO.out hb)
  replace BR := Aside0.mk (blk_below BR.out hb)
  have HM := Aside0.mk hm
  clear hb hm
  clear d0 d1 d2 d3 d4 d5 r0 r1 f0 f1
  have d0 : wo.cell? ⟨bo, 0, none⟩ = some (.slice A0_0 l0_0.length c0_0) := blk_cell BO.out 0
  have d1 : wo.cell? ⟨bo, 1, none⟩ = some (.slice A0_1 l0_1.length c0_1) := blk_cell BO.out 1
  have d2 : wo.cell? ⟨bo, 2, none⟩ = some (.slice A0_2 l0_2.length c0_2) := blk_cell BO.out 2
  have d3 : wo.cell? ⟨bo, 3, none⟩ = some (.int .i64 a0_3) := blk_cell BO.out 3
  have d4 : wo.cell? ⟨bo, 4, none⟩ = some (.int .i64 a0_4) := blk_cell BO.out 4
  have d5 : wo.cell? ⟨bo, 5, none⟩ = some (.int .i64 a0_5) := blk_cell BO.out 5
  have r0 : wo.cell? ⟨br, 0, none⟩ = some (.int .i64 0) := blk_cell BR.out 0
  have f0 : wo.frozen? ⟨br, 0, none⟩ = false := blk_frozen BR.out 0
  have r1 : wo.cell? ⟨br, 1, none⟩ = some (.int .i64 0) := blk_cell BR.out 1
  have f1 : wo.frozen? ⟨br, 1, none⟩ = false := blk_frozen BR.out 1
  go_wp2_with fail
  refine (HUN.out bm _ HM.out HB.out).mono ?_
  rintro e w4 ⟨rfl, hb⟩
  replace HB := Aside0.mk (below_step HB.out hb)
  replace BO := Aside0.mk (blk_below BO.out hb)
  replace BR := Aside0.mk (blk_below BR.out hb)
  clear hb
  clear d0 d1 d2 d3 d4 d5 r0 r1 f0 f1
  have d0 : w4.cell? ⟨bo, 0, none⟩ = some (.slice A0_0 l0_0.length c0_0) := blk_cell BO.out 0
  have d1 : w4.cell? ⟨bo, 1, none⟩ = some (.slice A0_1 l0_1.length c0_1) := blk_cell BO.out 1
  have d2 : w4.cell? ⟨bo, 2, none⟩ = some (.slice A0_2 l0_2.length c0_2) := blk_cell BO.out 2
  have d3 : w4.cell? ⟨bo, 3, none⟩ = some (.int .i64 a0_3) := blk_cell BO.out 3
  have d4 : w4.cell? ⟨bo, 4, none⟩ = some (.int .i64 a0_4) := blk_cell BO.out 4
  have d5 : w4.cell? ⟨bo, 5, none⟩ = some (.int .i64 a0_5) := blk_cell BO.out 5
  have r0 : w4.cell? ⟨br, 0, none⟩ = some (.int .i64 0) := blk_cell BR.out 0
  have f0 : w4.frozen? ⟨br, 0, none⟩ = false := blk_frozen BR.out 0
  have r1 : w4.cell? ⟨br, 1, none⟩ = some (.int .i64 0) := blk_cell BR.out 1
  have f1 : w4.frozen? ⟨br, 1, none⟩ = false := blk_frozen BR.out 1
  cases bU
  case true =>
    rw [if_pos (.inr (of_decide_eq_true hbU))] at hh
    cases hh
    clear hbU
    go_wp2
    have HP := blk_put (blk_put BR.out 0 (.int .i64 0) rfl) 1 (.int .i64 0) rfl
    refine bodyPost_ret (results_ct rfl _ _ br 45 #[.int .i64 0, .int .i64 0] (0, 0) _ rfl HP hu rfl (by kernel_rfl)) rfl ?_
    exact ⟨rfl, below_set (below_set HB.out HBB.out) HBB.out⟩
  rw [if_neg (by rw [not_or]; exact ⟨by decide, of_decide_eq_false hbU⟩)] at hh
  clear hbU
  obtain ⟨m, hm⟩ : ∃ m, mixW l0_0 l1 l0_0.length = m := ⟨_, rfl⟩
  rw [hm] at hh HMX
  obtain ⟨m0, m1⟩ := m
  obtain ⟨bP, hbP⟩ : ∃ b, plainB m0 m1 = b := ⟨_, rfl⟩
  have HPB := Aside0.mk (HPL.out m0 m1)
  rw [hbP] at HPB
  change (if plainB m0 m1 = true then some (m0, m1, 0) else some (0, 0, 15)) = _ at hh
  rw [hbP] at hh
  clear hm hbP
  go_wp2_with fail
  refine (HMX.out _ HB.out).mono ?_
  rintro e w5 ⟨rfl, hb⟩
  replace HB := Aside0.mk (below_step HB.out hb)
  replace BO := Aside0.mk (blk_below BO.out hb)
  replace BR := Aside0.mk (blk_below BR.out hb)
  clear hb
  clear d0 d1 d2 d3 d4 d5 r0 r1 f0 f1
  have d0 : w5.cell? ⟨bo, 0, none⟩ = some (.slice A0_0 l0_0.length c0_0) := blk_cell BO.out 0
  have d1 : w5.cell? ⟨bo, 1, none⟩ = some (.slice A0_1 l0_1.length c0_1) := blk_cell BO.out 1
  have d2 : w5.cell? ⟨bo, 2, none⟩ = some (.slice A0_2 l0_2.length c0_2) := blk_cell BO.out 2
  have d3 : w5.cell? ⟨bo, 3, none⟩ = some (.int .i64 a0_3) := blk_cell BO.out 3
  have d4 : w5.cell? ⟨bo, 4, none⟩ = some (.int .i64 a0_4) := blk_cell BO.out 4
  have d5 : w5.cell? ⟨bo, 5, none⟩ = some (.int .i64 a0_5) := blk_cell BO.out 5
  have r0 : w5.cell? ⟨br, 0, none⟩ = some (.int .i64 0) := blk_cell BR.out 0
  have f0 : w5.frozen? ⟨br, 0, none⟩ = false := blk_frozen BR.out 0
  have r1 : w5.cell? ⟨br, 1, none⟩ = some (.int .i64 0) := blk_cell BR.out 1
  have f1 : w5.frozen? ⟨br, 1, none⟩ = false := blk_frozen BR.out 1
  go_upto_region 10 with fail
  obtain ⟨w6, hw_⟩ : ∃ x, x = w5.alloc (.cells #[.int .i64 m0, .int .i64 m1] 45) := ⟨_, rfl⟩
  rw [← hw_]
  have hb : Below w5.heap.size w5 w6 := by rw [hw_]; exact below_alloc (Below.refl _ _) _
  have BM := Aside0.mk (show w6.heap[w5.heap.size]? = some (.cells #[.int .i64 m0, .int .i64 m1] 45 (0, 0)) by rw [hw_]; exact blk_new _ _)
  replace HB := Aside0.mk (below_step HB.out hb)
  replace BO := Aside0.mk (blk_below BO.out hb)
  replace BR := Aside0.mk (blk_below BR.out hb)
  clear hw_ hb
  obtain ⟨gm, hg_⟩ : ∃ g, g = w5.heap.size := ⟨_, rfl⟩
  rw [← hg_] at BM
  try rw [← hg_]
  clear hg_
  clear d0 d1 d2 d3 d4 d5 r0 r1 f0 f1
  have d0 : w6.cell? ⟨bo, 0, none⟩ = some (.slice A0_0 l0_0.length c0_0) := blk_cell BO.out 0
  have d1 : w6.cell? ⟨bo, 1, none⟩ = some (.slice A0_1 l0_1.length c0_1) := blk_cell BO.out 1
  have d2 : w6.cell? ⟨bo, 2, none⟩ = some (.slice A0_2 l0_2.length c0_2) := blk_cell BO.out 2
  have d3 : w6.cell? ⟨bo, 3, none⟩ = some (.int .i64 a0_3) := blk_cell BO.out 3
  have d4 : w6.cell? ⟨bo, 4, none⟩ = some (.int .i64 a0_4) := blk_cell BO.out 4
  have d5 : w6.cell? ⟨bo, 5, none⟩ = some (.int .i64 a0_5) := blk_cell BO.out 5
  have r0 : w6.cell? ⟨br, 0, none⟩ = some (.int .i64 0) := blk_cell BR.out 0
  have f0 : w6.frozen? ⟨br, 0, none⟩ = false := blk_frozen BR.out 0
  have r1 : w6.cell? ⟨br, 1, none⟩ = some (.int .i64 0) := blk_cell BR.out 1
  have f1 : w6.frozen? ⟨br, 1, none⟩ = false := blk_frozen BR.out 1
  have m0c : w6.cell? ⟨gm, 0, none⟩ = some (.int .i64 m0) := blk_cell BM.out 0
  have m1c : w6.cell? ⟨gm, 1, none⟩ = some (.int .i64 m1) := blk_cell BM.out 1
  go_wp2_with fail
  refine (HPB.out _).mono ?_
  rintro e w7 ⟨rfl, hb⟩
  replace HB := Aside0.mk (below_step HB.out hb)
  replace BO := Aside0.mk (blk_below BO.out hb)
  replace BR := Aside0.mk (blk_below BR.out hb)
  replace BM := Aside0.mk (blk_below BM.out hb)
  clear m0c m1c
  clear hb
  clear d0 d1 d2 d3 d4 d5 r0 r1 f0 f1
  have d0 : w7.cell? ⟨bo, 0, none⟩ = some (.slice A0_0 l0_0.length c0_0) := blk_cell BO.out 0
  have d1 : w7.cell? ⟨bo, 1, none⟩ = some (.slice A0_1 l0_1.length c0_1) := blk_cell BO.out 1
  have d2 : w7.cell? ⟨bo, 2, none⟩ = some (.slice A0_2 l0_2.length c0_2) := blk_cell BO.out 2
  have d3 : w7.cell? ⟨bo, 3, none⟩ = some (.int .i64 a0_3) := blk_cell BO.out 3
  have d4 : w7.cell? ⟨bo, 4, none⟩ = some (.int .i64 a0_4) := blk_cell BO.out 4
  have d5 : w7.cell? ⟨bo, 5, none⟩ = some (.int .i64 a0_5) := blk_cell BO.out 5
  have r0 : w7.cell? ⟨br, 0, none⟩ = some (.int .i64 0) := blk_cell BR.out 0
  have f0 : w7.frozen? ⟨br, 0, none⟩ = false := blk_frozen BR.out 0
  have r1 : w7.cell? ⟨br, 1, none⟩ = some (.int .i64 0) := blk_cell BR.out 1
  have f1 : w7.frozen? ⟨br, 1, none⟩ = false := blk_frozen BR.out 1
  have m0c : w7.cell? ⟨gm, 0, none⟩ = some (.int .i64 m0) := blk_cell BM.out 0
  have m1c : w7.cell? ⟨gm, 1, none⟩ = some (.int .i64 m1) := blk_cell BM.out 1
  cases bP
  case false =>
    rw [if_neg (by decide)] at hh
    cases hh
    go_wp2
    have HP := blk_put (blk_put BR.out 0 (.int .i64 0) rfl) 1 (.int .i64 0) rfl
    refine bodyPost_ret (results_ct rfl _ _ br 45 #[.int .i64 0, .int .i64 0] (0, 0) _ rfl HP hu rfl (by kernel_rfl)) rfl ?_
    exact ⟨rfl, below_set (below_set HB.out HBB.out) HBB.out⟩
  rw [if_pos rfl] at hh
  simp only [Option.some.injEq, Prod.mk.injEq] at hh
  obtain ⟨rfl, rfl, rfl⟩ := hh
  go_wp2
  have HP := blk_put (blk_put BR.out 0 (.int .i64 m0) rfl) 1 (.int .i64 m1) rfl
  refine bodyPost_ret (results_ct rfl _ _ br 45 #[.int .i64 m0, .int .i64 m1] (0, 0) _ rfl HP hu rfl (by kernel_rfl)) rfl ?_
  exact ⟨rfl, below_set (below_set HB.out HBB.out) HBB.out⟩

end Go.Proofs.YtcdkbciagchlgaaDoor.PF
