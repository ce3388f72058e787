-- Written by a program of this session (wip/pr.py) out of Lean's print of the translation; Lean checks it.
import Derived.Test.YtcdkbciagchlgaaDoorPF0
import Derived.Test.YtcdkbciagchlgaaDoorPF1
import Derived.Test.YtcdkbciagchlgaaDoorPF4
namespace Go.Proofs.YtcdkbciagchlgaaDoor.PF
open Go.RowKit Go.Proofs.YtcdkbciagchlgaaDoorW.PrintWords Go.Proofs.YtcdkbciagchlgaaDoorW.PrintLast Go.Proofs.YtcdkbciagchlgaaDoorW.PrintMore
attribute [local go_sem] max2_int min2_int max_two min_two max_three min_three max_four min_four   
set_option linter.unusedVariables false
set_option linter.unusedSimpArgs false
mutual
def spileref29_Few.j0 : Nat → Bool → List (S45) → List Int → List Int → Int → Int → Int → Option (Bool)
 | 0, _, _, _, _, _, _, _ => none
 | k + 1, x20, x376000, x376001, x376002, x376003, x376004, x376005 => if x20 = true then (some false) else (spileref29_Few.l0 k 1 0 x376000 x376001 x376002 x376003 x376004 x376005)
def spileref29_Few.l0 : Nat → Int → Int → List (S45) → List Int → List Int → Int → Int → Int → Option (Bool)
 | 0, _, _, _, _, _, _, _, _ => none
 | k + 1, x3, x4, x376000, x376001, x376002, x376003, x376004, x376005 => if x4 < (x376001.length : Int) then (if 0 ≤ x4 then (if (rd x376001 x4) < 0 then (spileref29_Few.j2 k x3 x4 true x376000 x376001 x376002 x376003 x376004 x376005) else (spileref29_Few.j2 k x3 x4 (decide ((rd x376001 x4) > 64)) x376000 x376001 x376002 x376003 x376004 x376005)) else (none)) else (some (decide (x3 ≤ 400)))
def spileref29_Few.j2 : Nat → Int → Int → Bool → List (S45) → List Int → List Int → Int → Int → Int → Option (Bool)
 | 0, _, _, _, _, _, _, _, _, _ => none
 | k + 1, x3, x4, x41, x376000, x376001, x376002, x376003, x376004, x376005 => if x41 = true then (some true) else (if 0 ≤ x4 then (if x4 < (x376001.length : Int) then (if (wrap64 (x3 * (wrap64 ((rd x376001 x4) + 1)))) > 4096 then (some true) else (spileref29_Few.l0 k (wrap64 (x3 * (wrap64 ((rd x376001 x4) + 1)))) (wrap64 (x4 + 1)) x376000 x376001 x376002 x376003 x376004 x376005)) else (none)) else (none))
end
def spileref29_Few.f (k : Nat) (l0_0 : List (S45)) (l0_1 : List Int) (l0_2 : List Int) (a0_3 : Int) (a0_4 : Int) (a0_5 : Int) : Option (Bool) := if (l0_0.length : Int) > 8 then (spileref29_Few.j0 k true l0_0 l0_1 l0_2 a0_3 a0_4 a0_5) else (if (l0_1.length : Int) > 8 then (spileref29_Few.j0 k true l0_0 l0_1 l0_2 a0_3 a0_4 a0_5) else (spileref29_Few.j0 k (decide ((l0_2.length : Int) > 8)) l0_0 l0_1 l0_2 a0_3 a0_4 a0_5))
theorem spileref29_Few.mono_l : ∀ k, (∀ y0 y1 y2 y3 y4 y5 y6, LeO (spileref29_Few.j0 k y0 y1 y2 y3 y4 y5 y6) (spileref29_Few.j0 (k + 1) y0 y1 y2 y3 y4 y5 y6)) ∧ (∀ y0 y1 y2 y3 y4 y5 y6 y7, LeO (spileref29_Few.l0 k y0 y1 y2 y3 y4 y5 y6 y7) (spileref29_Few.l0 (k + 1) y0 y1 y2 y3 y4 y5 y6 y7)) ∧ (∀ y0 y1 y2 y3 y4 y5 y6 y7 y8, LeO (spileref29_Few.j2 k y0 y1 y2 y3 y4 y5 y6 y7 y8) (spileref29_Few.j2 (k + 1) y0 y1 y2 y3 y4 y5 y6 y7 y8))
 | 0 => ⟨fun _ _ _ _ _ _ _ r h => by simp [spileref29_Few.j0] at h, fun _ _ _ _ _ _ _ _ r h => by simp [spileref29_Few.l0] at h, fun _ _ _ _ _ _ _ _ _ r h => by simp [spileref29_Few.j2] at h⟩
 | k + 1 => by
  obtain ⟨ih0, ih1, ih2⟩ := spileref29_Few.mono_l k
  refine ⟨?_, ?_, ?_⟩
  ·intro y0 y1 y2 y3 y4 y5 y6
   unfold spileref29_Few.j0
   repeat' first
   | (with_reducible exact ih0 _ _ _ _ _ _ _)
   | (with_reducible exact ih1 _ _ _ _ _ _ _ _)
   | (with_reducible exact ih2 _ _ _ _ _ _ _ _ _)
   | (with_reducible exact LeO.refl _)
   | (with_reducible exact LeO.none _)
   | (with_reducible refine LeO.ite ?_ ?_)
   | (with_reducible refine LeO.bind ?_ (fun _ => ?_))
   | exact ih0 _ _ _ _ _ _ _
   | exact ih1 _ _ _ _ _ _ _ _
   | exact ih2 _ _ _ _ _ _ _ _ _
   | exact LeO.none _
   | refine LeO.ite ?_ ?_
   | refine LeO.bind ?_ (fun _ => ?_)
  ·intro y0 y1 y2 y3 y4 y5 y6 y7
   unfold spileref29_Few.l0
   repeat' first
   | (with_reducible exact ih0 _ _ _ _ _ _ _)
   | (with_reducible exact ih1 _ _ _ _ _ _ _ _)
   | (with_reducible exact ih2 _ _ _ _ _ _ _ _ _)
   | (with_reducible exact LeO.refl _)
   | (with_reducible exact LeO.none _)
   | (with_reducible refine LeO.ite ?_ ?_)
   | (with_reducible refine LeO.bind ?_ (fun _ => ?_))
   | exact ih0 _ _ _ _ _ _ _
   | exact ih1 _ _ _ _ _ _ _ _
   | exact ih2 _ _ _ _ _ _ _ _ _
   | exact LeO.none _
   | refine LeO.ite ?_ ?_
   | refine LeO.bind ?_ (fun _ => ?_)
  ·intro y0 y1 y2 y3 y4 y5 y6 y7 y8
   unfold spileref29_Few.j2
   repeat' first
   | (with_reducible exact ih0 _ _ _ _ _ _ _)
   | (with_reducible exact ih1 _ _ _ _ _ _ _ _)
   | (with_reducible exact ih2 _ _ _ _ _ _ _ _ _)
   | (with_reducible exact LeO.refl _)
   | (with_reducible exact LeO.none _)
   | (with_reducible refine LeO.ite ?_ ?_)
   | (with_reducible refine LeO.bind ?_ (fun _ => ?_))
   | exact ih0 _ _ _ _ _ _ _
   | exact ih1 _ _ _ _ _ _ _ _
   | exact ih2 _ _ _ _ _ _ _ _ _
   | exact LeO.none _
   | refine LeO.ite ?_ ?_
   | refine LeO.bind ?_ (fun _ => ?_)
theorem spileref29_Few.mono : ∀ a0 a1 a2 a3 a4 a5 k, LeO (spileref29_Few.f k a0 a1 a2 a3 a4 a5) (spileref29_Few.f (k + 1) a0 a1 a2 a3 a4 a5) := by
 intro a0 a1 a2 a3 a4 a5 k
 obtain ⟨ih0, ih1, ih2⟩ := spileref29_Few.mono_l k
 unfold spileref29_Few.f
 repeat' first
   | (with_reducible exact ih0 _ _ _ _ _ _ _)
   | (with_reducible exact ih1 _ _ _ _ _ _ _ _)
   | (with_reducible exact ih2 _ _ _ _ _ _ _ _ _)
   | (with_reducible exact LeO.refl _)
   | (with_reducible exact LeO.none _)
   | (with_reducible refine LeO.ite ?_ ?_)
   | (with_reducible refine LeO.bind ?_ (fun _ => ?_))
   | exact ih0 _ _ _ _ _ _ _
   | exact ih1 _ _ _ _ _ _ _ _
   | exact ih2 _ _ _ _ _ _ _ _ _
   | exact LeO.none _
   | refine LeO.ite ?_ ?_
   | refine LeO.bind ?_ (fun _ => ?_)
set_option maxHeartbeats 8000000 in
set_option maxRecDepth 100000 in
theorem spileref29_Few.calls (k : Nat) (A0_0 : Option Addr) (c0_0 : Nat) (l0_0 : List (S45)) (A0_1 : Option Addr) (c0_1 : Nat) (l0_1 : List Int) (A0_2 : Option Addr) (c0_2 : Nat) (l0_2 : List Int) (a0_3 : Int) (a0_4 : Int) (a0_5 : Int) (r : Bool) (w : World) (hr0_0 : Kd.C k45 w A0_0 l0_0.length l0_0) (hc0_0 : l0_0.length ≤ c0_0) (hr0_1 : Kd.C (Kd.int .i64) w A0_1 l0_1.length l0_1) (hc0_1 : l0_1.length ≤ c0_1) (hr0_2 : Kd.C (Kd.int .i64) w A0_2 l0_2.length l0_2) (hc0_2 : l0_2.length ≤ c0_2) (h : spileref29_Few.f k l0_0 l0_1 l0_2 a0_3 a0_4 a0_5 = some r) :
  Calls Tryd.prog 24 #[.agg #[.slice A0_0 l0_0.length c0_0, .slice A0_1 l0_1.length c0_1, .slice A0_2 l0_2.length c0_2, .int .i64 a0_3, .int .i64 a0_4, .int .i64 a0_5]] w fun e w' => e = .returned (.bool r) ∧ Below w.heap.size w w' := by
 have hu26 := Tryd.underlying26
 have HR0_0 := Aside0.mk hr0_0
 have HC0_0 := Aside0.mk hc0_0
 clear hr0_0 hc0_0
 have HR0_1 := Aside0.mk hr0_1
 have HC0_1 := Aside0.mk hc0_1
 clear hr0_1 hc0_1
 have HR0_2 := Aside0.mk hr0_2
 have HC0_2 := Aside0.mk hc0_2
 clear hr0_2 hc0_2
 have HB := Aside0.mk (Below.refl w.heap.size w)
 have H : (if (l0_0.length : Int) > 8 then (spileref29_Few.j0 k true l0_0 l0_1 l0_2 a0_3 a0_4 a0_5) else (if (l0_1.length : Int) > 8 then (spileref29_Few.j0 k true l0_0 l0_1 l0_2 a0_3 a0_4 a0_5) else (spileref29_Few.j0 k (decide ((l0_2.length : Int) > 8)) l0_0 l0_1 l0_2 a0_3 a0_4 a0_5))) = some r := h
 clear h
 have HC2 := Aside0.mk H
 clear H
 go_enter Tryd.func24, Tryd.ntmps24
 go_upto_region 1 with (first | ((with_reducible refine gate_dst (N := 1) rfl ?_); (try (refine gate_guard (by rfl) ?_; dsimp only)); refine be_ (N := 1) (cs := #[.slice A0_0 l0_0.length c0_0, .slice A0_1 l0_1.length c0_1, .slice A0_2 l0_2.length c0_2, .int .i64 a0_3, .int .i64 a0_4, .int .i64 a0_5]) (t := 26) ?_; intro gb375 hg w3 hbox hb; have n0_ := Aside0.mk (below_step bl_ hb); have n1_ := Aside0.mk (hbox); have n2_ := Aside0.mk ((by rw [hg]; exact (below_size bl_) : w.heap.size ≤ gb375)); have n3_ := Aside0.mk ((by rw [hg]; exact (below_size bl_) : w.heap.size ≤ gb375)); clear HB; have HB := n0_; have BK375 := n1_; have GW375 := n2_; have GE375 := n3_; clear n0_ n1_ n2_ n3_; clear hb hbox hg))
 (try simp only [Act.put, List.setIfInBounds_toArray, List.set_cons_zero, List.set_cons_succ])
 go_cut [20] (fun v20 wc => ∃ (kq : Nat) (x20_1 : Bool), v20 = .bool x20_1 ∧ Aside0 (spileref29_Few.j0 kq x20_1 l0_0 l0_1 l0_2 a0_3 a0_4 a0_5 = some r) ∧ Aside0 (kq ≤ k) ∧ Aside0 (wc.heap[gb375]? = some (.cells #[(.slice A0_0 l0_0.length c0_0), (.slice A0_1 l0_1.length c0_1), (.slice A0_2 l0_2.length c0_2), .int .i64 a0_3, .int .i64 a0_4, .int .i64 a0_5] 26 (0, 0))) ∧ Aside0 (Below w.heap.size w wc))
 case first =>
  have H := HC2.out
  clear HC2
  by_cases c4 : (l0_0.length : Int) > 8
  ·rw [if_pos c4] at H
   have c4b0 : decide (8 < (l0_0.length : Int)) = true := decide_eq_true c4
   have c4b1 : decide (8 < l0_0.length) = true := decide_eq_true (by omega)
   clear c4
   (first | rw [c4b0] | (simp only [i64_w, i32_w]; rw [c4b0]) | skip)
   have H' := Aside0.mk H
   clear H
   obtain ⟨hcz5_0, hcz5_1, hcz5_2, hcz5_3, hcz5_4, hcz5_5⟩ := bc6_ BK375
   obtain ⟨hfz5_0, hfz5_1, hfz5_2, hfz5_3, hfz5_4, hfz5_5⟩ := bf6_ BK375
   go_wp2
   go_meet
   case rel => exact ⟨_, (true), sm_, H', ⟨by first | omega | exact Nat.le_refl _⟩, ⟨bkt_ BK375⟩, ⟨bls_⟩⟩
  ·rw [if_neg c4] at H
   have c4b0 : decide (8 < (l0_0.length : Int)) = false := decide_eq_false c4
   have c4b1 : decide (8 < l0_0.length) = false := decide_eq_false (by omega)
   clear c4
   (first | rw [c4b0] | (simp only [i64_w, i32_w]; rw [c4b0]) | skip)
   by_cases c6 : (l0_1.length : Int) > 8
   ·rw [if_pos c6] at H
    have c6b0 : decide (8 < (l0_1.length : Int)) = true := decide_eq_true c6
    have c6b1 : decide (8 < l0_1.length) = true := decide_eq_true (by omega)
    clear c6
    have H' := Aside0.mk H
    clear H
    obtain ⟨hcz7_0, hcz7_1, hcz7_2, hcz7_3, hcz7_4, hcz7_5⟩ := bc6_ BK375
    obtain ⟨hfz7_0, hfz7_1, hfz7_2, hfz7_3, hfz7_4, hfz7_5⟩ := bf6_ BK375
    go_wp2
    go_meet
    case rel => exact ⟨_, (true), sm_, H', ⟨by first | omega | exact Nat.le_refl _⟩, ⟨bkt_ BK375⟩, ⟨bls_⟩⟩
   ·rw [if_neg c6] at H
    have c6b0 : decide (8 < (l0_1.length : Int)) = false := decide_eq_false c6
    have c6b1 : decide (8 < l0_1.length) = false := decide_eq_false (by omega)
    clear c6
    have H' := Aside0.mk H
    clear H
    obtain ⟨hcz8_0, hcz8_1, hcz8_2, hcz8_3, hcz8_4, hcz8_5⟩ := bc6_ BK375
    obtain ⟨hfz8_0, hfz8_1, hfz8_2, hfz8_3, hfz8_4, hfz8_5⟩ := bf6_ BK375
    go_wp2
    go_meet
    case rel => exact ⟨_, (decide ((l0_2.length : Int) > 8)), sm_, H', ⟨by first | omega | exact Nat.le_refl _⟩, ⟨bkt_ BK375⟩, ⟨bls_⟩⟩
 case rest =>
  clear HC2
  try clear c2
  try clear p2
  try clear c4
  try clear c4b0
  try clear c4b1
  try clear c6
  try clear c6b0
  try clear c6b1
  try clear hcz5_0
  try clear hcz5_1
  try clear hcz5_2
  try clear hcz5_3
  try clear hcz5_4
  try clear hcz5_5
  try clear hcz7_0
  try clear hcz7_1
  try clear hcz7_2
  try clear hcz7_3
  try clear hcz7_4
  try clear hcz7_5
  try clear hcz8_0
  try clear hcz8_1
  try clear hcz8_2
  try clear hcz8_3
  try clear hcz8_4
  try clear hcz8_5
  try clear hfz5_0
  try clear hfz5_1
  try clear hfz5_2
  try clear hfz5_3
  try clear hfz5_4
  try clear hfz5_5
  try clear hfz7_0
  try clear hfz7_1
  try clear hfz7_2
  try clear hfz7_3
  try clear hfz7_4
  try clear hfz7_5
  try clear hfz8_0
  try clear hfz8_1
  try clear hfz8_2
  try clear hfz8_3
  try clear hfz8_4
  try clear hfz8_5
  obtain ⟨kq, x20_1, rfl, HA, HJ1, BK375, HB⟩ := hcut
  cases kq with
  | zero => exact absurd HA.out (by simp [spileref29_Few.j0])
  | succ kj1 =>
   have H := HA.out
   clear HA
   simp only [spileref29_Few.j0] at H
   by_cases c9 : x20_1 = true
   ·subst c9
    have H1 : (some false) = some r := by rw [if_pos rfl] at H; exact H
    clear H
    have H := H1
    clear H1
    obtain rfl := Option.some.inj H
    go_wp2
    go_ret
    exact ⟨fin_, bls_⟩
   ·replace c9 := Bool.eq_false_iff.mpr c9
    subst c9
    have H1 : (spileref29_Few.l0 kj1 1 0 l0_0 l0_1 l0_2 a0_3 a0_4 a0_5) = some r := by rw [if_neg (show ¬ (false = true) by decide)] at H; exact H
    clear H
    have H := H1
    clear H1
    have H' := Aside0.mk H
    clear H
    go_wp2
    go_loopg [3, 4] kj1 (fun kq v3 v4 w' => ∃ (x3_2 : Int) (x4_2 : Int), v3 = .int .i64 x3_2 ∧ v4 = .int .i64 x4_2 ∧ Aside0 (spileref29_Few.l0 kq x3_2 x4_2 l0_0 l0_1 l0_2 a0_3 a0_4 a0_5 = some r) ∧ Aside0 (kq ≤ kj1) ∧ Aside0 (w'.heap[gb375]? = some (.cells #[(.slice A0_0 l0_0.length c0_0), (.slice A0_1 l0_1.length c0_1), (.slice A0_2 l0_2.length c0_2), .int .i64 a0_3, .int .i64 a0_4, .int .i64 a0_5] 26 (0, 0))) ∧ Aside0 (Below w.heap.size w w'))
    case atStart => exact ⟨(1), (0), sm_, sm_, H', ⟨Nat.le_refl _⟩, ⟨bkt_ BK375⟩, ⟨bls_⟩⟩
    case round =>
     clear H'
     try clear c2
     try clear p2
     try clear c4
     try clear c4b0
     try clear c4b1
     try clear c6
     try clear c6b0
     try clear c6b1
     try clear c9
     try clear hcz5_0
     try clear hcz5_1
     try clear hcz5_2
     try clear hcz5_3
     try clear hcz5_4
     try clear hcz5_5
     try clear hcz7_0
     try clear hcz7_1
     try clear hcz7_2
     try clear hcz7_3
     try clear hcz7_4
     try clear hcz7_5
     try clear hcz8_0
     try clear hcz8_1
     try clear hcz8_2
     try clear hcz8_3
     try clear hcz8_4
     try clear hcz8_5
     try clear hfz5_0
     try clear hfz5_1
     try clear hfz5_2
     try clear hfz5_3
     try clear hfz5_4
     try clear hfz5_5
     try clear hfz7_0
     try clear hfz7_1
     try clear hfz7_2
     try clear hfz7_3
     try clear hfz7_4
     try clear hfz7_5
     try clear hfz8_0
     try clear hfz8_1
     try clear hfz8_2
     try clear hfz8_3
     try clear hfz8_4
     try clear hfz8_5
     try clear p2
     obtain ⟨x3_2, x4_2, rfl, rfl, HA, HK2, BK375, HB⟩ := hrel
     cases gk with
     | zero => exact absurd HA.out (by simp [spileref29_Few.l0])
     | succ k2 =>
      have H := HA.out
      clear HA
      simp only [spileref29_Few.l0] at H
      by_cases c10 : x4_2 < (l0_1.length : Int)
      ·rw [if_pos c10] at H
       have c10b0 : decide (x4_2 < (l0_1.length : Int)) = true := decide_eq_true c10
       clear c10
       have HC11 := Aside0.mk H
       clear H
       obtain ⟨hcz12_0, hcz12_1, hcz12_2, hcz12_3, hcz12_4, hcz12_5⟩ := bc6_ BK375
       obtain ⟨hfz12_0, hfz12_1, hfz12_2, hfz12_3, hfz12_4, hfz12_5⟩ := bf6_ BK375
       go_upto_region 7 with (fail)
       go_cut [41] (fun v41 wc => ∃ (kq : Nat) (x41_10 : Bool), v41 = .bool x41_10 ∧ Aside0 (spileref29_Few.j2 kq x3_2 x4_2 x41_10 l0_0 l0_1 l0_2 a0_3 a0_4 a0_5 = some r) ∧ Aside0 (kq ≤ k2) ∧ Aside0 (wc.heap[gb375]? = some (.cells #[(.slice A0_0 l0_0.length c0_0), (.slice A0_1 l0_1.length c0_1), (.slice A0_2 l0_2.length c0_2), .int .i64 a0_3, .int .i64 a0_4, .int .i64 a0_5] 26 (0, 0))) ∧ Aside0 (Below w.heap.size w wc))
       case first =>
        have H := HC11.out
        clear HC11
        by_cases c13 : 0 ≤ x4_2
        ·rw [if_pos c13] at H
         have c13b0 : decide (0 ≤ x4_2) = true := decide_eq_true c13
         clear c13
         (first | rw [c13b0] | (simp only [i64_w, i32_w]; rw [c13b0]) | skip)
         by_cases c14 : (rd l0_1 x4_2) < 0
         ·rw [if_pos c14] at H
          have c14b0 : decide ((rd l0_1 x4_2) < 0) = true := decide_eq_true c14
          clear c14
          have H' := Aside0.mk H
          clear H
          obtain ⟨hcz15_0, hcz15_1, hcz15_2, hcz15_3, hcz15_4, hcz15_5⟩ := bc6_ BK375
          obtain ⟨hfz15_0, hfz15_1, hfz15_2, hfz15_3, hfz15_4, hfz15_5⟩ := bf6_ BK375
          have p376 : 0 ≤ (x4_2 : Int) := of_decide_eq_true as_
          have q376 : x4_2 < (l0_1.length : Int) := of_decide_eq_true as_
          obtain ⟨ad376, e376, hx376_0⟩ := Kd.at_int HR0_1.out x4_2 p376 q376
          cases e376
          replace hx376_0 := (HB.out.cell (World.block_lt_of_cell? w _ hx376_0)).trans hx376_0
          replace p376 := eq_true p376
          replace q376 := eq_true q376
          go_wp2
          go_meet
          case rel => exact ⟨_, (true), sm_, H', ⟨by have := HJ1.out; have := HK2.out; first | omega | exact Nat.le_refl _⟩, ⟨bkt_ BK375⟩, ⟨bls_⟩⟩
         ·rw [if_neg c14] at H
          have c14b0 : decide ((rd l0_1 x4_2) < 0) = false := decide_eq_false c14
          clear c14
          have H' := Aside0.mk H
          clear H
          obtain ⟨hcz16_0, hcz16_1, hcz16_2, hcz16_3, hcz16_4, hcz16_5⟩ := bc6_ BK375
          obtain ⟨hfz16_0, hfz16_1, hfz16_2, hfz16_3, hfz16_4, hfz16_5⟩ := bf6_ BK375
          have p376 : 0 ≤ (x4_2 : Int) := of_decide_eq_true as_
          have q376 : x4_2 < (l0_1.length : Int) := of_decide_eq_true as_
          obtain ⟨ad376, e376, hx376_0⟩ := Kd.at_int HR0_1.out x4_2 p376 q376
          cases e376
          replace hx376_0 := (HB.out.cell (World.block_lt_of_cell? w _ hx376_0)).trans hx376_0
          replace p376 := eq_true p376
          replace q376 := eq_true q376
          have p377 : 0 ≤ (x4_2 : Int) := of_decide_eq_true as_
          have q377 : x4_2 < (l0_1.length : Int) := of_decide_eq_true as_
          obtain ⟨ad377, e377, hx377_0⟩ := Kd.at_int HR0_1.out x4_2 p377 q377
          obtain rfl : ad376 = ad377 := (by injection e377)
          replace hx377_0 := (HB.out.cell (World.block_lt_of_cell? w _ hx377_0)).trans hx377_0
          replace p377 := eq_true p377
          replace q377 := eq_true q377
          go_wp2
          go_meet
          case rel => exact ⟨_, (decide ((rd l0_1 x4_2) > 64)), sm_, H', ⟨by have := HJ1.out; have := HK2.out; first | omega | exact Nat.le_refl _⟩, ⟨bkt_ BK375⟩, ⟨bls_⟩⟩
        ·rw [if_neg c13] at H
         exact absurd H (by simp)
       case rest =>
        clear HC11
        try clear c1
        try clear c2
        try clear p2
        try clear p3
        try clear q3
        try clear hx3
        try clear c4
        try clear c4b0
        try clear c4b1
        try clear c6
        try clear c6b0
        try clear c6b1
        try clear c9
        try clear c10
        try clear c10b0
        try clear c13
        try clear c13b0
        try clear c14
        try clear c14b0
        try clear hcz12_0
        try clear hcz12_1
        try clear hcz12_2
        try clear hcz12_3
        try clear hcz12_4
        try clear hcz12_5
        try clear hcz15_0
        try clear hcz15_1
        try clear hcz15_2
        try clear hcz15_3
        try clear hcz15_4
        try clear hcz15_5
        try clear hcz16_0
        try clear hcz16_1
        try clear hcz16_2
        try clear hcz16_3
        try clear hcz16_4
        try clear hcz16_5
        try clear hcz5_0
        try clear hcz5_1
        try clear hcz5_2
        try clear hcz5_3
        try clear hcz5_4
        try clear hcz5_5
        try clear hcz7_0
        try clear hcz7_1
        try clear hcz7_2
        try clear hcz7_3
        try clear hcz7_4
        try clear hcz7_5
        try clear hcz8_0
        try clear hcz8_1
        try clear hcz8_2
        try clear hcz8_3
        try clear hcz8_4
        try clear hcz8_5
        try clear hfz12_0
        try clear hfz12_1
        try clear hfz12_2
        try clear hfz12_3
        try clear hfz12_4
        try clear hfz12_5
        try clear hfz15_0
        try clear hfz15_1
        try clear hfz15_2
        try clear hfz15_3
        try clear hfz15_4
        try clear hfz15_5
        try clear hfz16_0
        try clear hfz16_1
        try clear hfz16_2
        try clear hfz16_3
        try clear hfz16_4
        try clear hfz16_5
        try clear hfz5_0
        try clear hfz5_1
        try clear hfz5_2
        try clear hfz5_3
        try clear hfz5_4
        try clear hfz5_5
        try clear hfz7_0
        try clear hfz7_1
        try clear hfz7_2
        try clear hfz7_3
        try clear hfz7_4
        try clear hfz7_5
        try clear hfz8_0
        try clear hfz8_1
        try clear hfz8_2
        try clear hfz8_3
        try clear hfz8_4
        try clear hfz8_5
        try clear hx376_0
        try clear hx377_0
        try clear p2
        try clear p376
        try clear p377
        try clear q376
        try clear q377
        obtain ⟨kq, x41_10, rfl, HA, HJ10, BK375, HB⟩ := hcut
        cases kq with
        | zero => exact absurd HA.out (by simp [spileref29_Few.j2])
        | succ kj10 =>
         have H := HA.out
         clear HA
         simp only [spileref29_Few.j2] at H
         by_cases c17 : x41_10 = true
         ·subst c17
          have H1 : (some true) = some r := by rw [if_pos rfl] at H; exact H
          clear H
          have H := H1
          clear H1
          obtain rfl := Option.some.inj H
          go_wp2
          go_ret
          exact ⟨fin_, bls_⟩
         ·replace c17 := Bool.eq_false_iff.mpr c17
          subst c17
          have H1 : (if 0 ≤ x4_2 then (if x4_2 < (l0_1.length : Int) then (if (wrap64 (x3_2 * (wrap64 ((rd l0_1 x4_2) + 1)))) > 4096 then (some true) else (spileref29_Few.l0 kj10 (wrap64 (x3_2 * (wrap64 ((rd l0_1 x4_2) + 1)))) (wrap64 (x4_2 + 1)) l0_0 l0_1 l0_2 a0_3 a0_4 a0_5)) else (none)) else (none)) = some r := by rw [if_neg (show ¬ (false = true) by decide)] at H; exact H
          clear H
          have H := H1
          clear H1
          by_cases c18 : 0 ≤ x4_2
          ·rw [if_pos c18] at H
           have c18b0 : decide (0 ≤ x4_2) = true := decide_eq_true c18
           clear c18
           by_cases c19 : x4_2 < (l0_1.length : Int)
           ·rw [if_pos c19] at H
            have c19b0 : decide (x4_2 < (l0_1.length : Int)) = true := decide_eq_true c19
            clear c19
            by_cases c20 : (wrap64 (x3_2 * (wrap64 ((rd l0_1 x4_2) + 1)))) > 4096
            ·rw [if_pos c20] at H
             have c20b0 : decide (4096 < (wrap64 (x3_2 * (wrap64 ((rd l0_1 x4_2) + 1))))) = true := decide_eq_true c20
             clear c20
             obtain rfl := Option.some.inj H
             obtain ⟨hcz21_0, hcz21_1, hcz21_2, hcz21_3, hcz21_4, hcz21_5⟩ := bc6_ BK375
             obtain ⟨hfz21_0, hfz21_1, hfz21_2, hfz21_3, hfz21_4, hfz21_5⟩ := bf6_ BK375
             have p378 : 0 ≤ (x4_2 : Int) := of_decide_eq_true as_
             have q378 : x4_2 < (l0_1.length : Int) := of_decide_eq_true as_
             obtain ⟨ad378, e378, hx378_0⟩ := Kd.at_int HR0_1.out x4_2 p378 q378
             cases e378
             replace hx378_0 := (HB.out.cell (World.block_lt_of_cell? w _ hx378_0)).trans hx378_0
             replace p378 := eq_true p378
             replace q378 := eq_true q378
             go_wp2
             go_ret
             exact ⟨fin_, bls_⟩
            ·rw [if_neg c20] at H
             have c20b0 : decide (4096 < (wrap64 (x3_2 * (wrap64 ((rd l0_1 x4_2) + 1))))) = false := decide_eq_false c20
             clear c20
             have H' := Aside0.mk H
             clear H
             obtain ⟨hcz22_0, hcz22_1, hcz22_2, hcz22_3, hcz22_4, hcz22_5⟩ := bc6_ BK375
             obtain ⟨hfz22_0, hfz22_1, hfz22_2, hfz22_3, hfz22_4, hfz22_5⟩ := bf6_ BK375
             have p378 : 0 ≤ (x4_2 : Int) := of_decide_eq_true as_
             have q378 : x4_2 < (l0_1.length : Int) := of_decide_eq_true as_
             obtain ⟨ad378, e378, hx378_0⟩ := Kd.at_int HR0_1.out x4_2 p378 q378
             cases e378
             replace hx378_0 := (HB.out.cell (World.block_lt_of_cell? w _ hx378_0)).trans hx378_0
             replace p378 := eq_true p378
             replace q378 := eq_true q378
             go_wp2
             go_roundg kj10
             case measure => have := HJ1.out; have := HK2.out; have := HJ10.out; omega
             case rel => exact ⟨(wrap64 (x3_2 * (wrap64 ((rd l0_1 x4_2) + 1)))), (wrap64 (x4_2 + 1)), sm_, sm_, H', ⟨by have := HJ1.out; have := HK2.out; have := HJ10.out; omega⟩, ⟨bkt_ BK375⟩, ⟨bls_⟩⟩
           ·rw [if_neg c19] at H
            exact absurd H (by simp)
          ·rw [if_neg c18] at H
           exact absurd H (by simp)
      ·rw [if_neg c10] at H
       have c10b0 : decide (x4_2 < (l0_1.length : Int)) = false := decide_eq_false c10
       clear c10
       obtain rfl := Option.some.inj H
       obtain ⟨hcz23_0, hcz23_1, hcz23_2, hcz23_3, hcz23_4, hcz23_5⟩ := bc6_ BK375
       obtain ⟨hfz23_0, hfz23_1, hfz23_2, hfz23_3, hfz23_4, hfz23_5⟩ := bf6_ BK375
       go_wp2
       go_ret
       exact ⟨fin_, bls_⟩
def blend_edge.f (l0 : List (S82)) (l1_0 : List (S45)) (l1_1 : List Int) (l1_2 : List Int) (a1_3 : Int) (a1_4 : Int) (a1_5 : Int) : Option (Int × Int) := (interpolate_Density.f l0 a1_3).bind fun bt382 => ((interpolate_Density.f l0 (wrap64 (a1_4 + 1))).bind fun bt384 => (some (bt382.1, bt384.1)))
set_option maxHeartbeats 8000000 in
set_option maxRecDepth 100000 in
theorem blend_edge.calls (A0 : Option Addr) (c0 : Nat) (l0 : List (S82)) (A1_0 : Option Addr) (c1_0 : Nat) (l1_0 : List (S45)) (A1_1 : Option Addr) (c1_1 : Nat) (l1_1 : List Int) (A1_2 : Option Addr) (c1_2 : Nat) (l1_2 : List Int) (a1_3 : Int) (a1_4 : Int) (a1_5 : Int) (r1 : Int) (r2 : Int) (w : World) (hr0 : Kd.C k82 w A0 l0.length l0) (hc0 : l0.length ≤ c0) (hr1_0 : Kd.C k45 w A1_0 l1_0.length l1_0) (hc1_0 : l1_0.length ≤ c1_0) (hr1_1 : Kd.C (Kd.int .i64) w A1_1 l1_1.length l1_1) (hc1_1 : l1_1.length ≤ c1_1) (hr1_2 : Kd.C (Kd.int .i64) w A1_2 l1_2.length l1_2) (hc1_2 : l1_2.length ≤ c1_2) (h : blend_edge.f l0 l1_0 l1_1 l1_2 a1_3 a1_4 a1_5 = some (r1, r2)) :
  Calls Tryd.prog 71 #[.slice A0 l0.length c0, .agg #[.slice A1_0 l1_0.length c1_0, .slice A1_1 l1_1.length c1_1, .slice A1_2 l1_2.length c1_2, .int .i64 a1_3, .int .i64 a1_4, .int .i64 a1_5]] w fun e w' => e = .returned (.agg #[.int .i64 r1, .int .i64 r2]) ∧ Below w.heap.size w w' := by
 have hu26 := Tryd.underlying26
 have hu93 := Tryd.underlying93
 have HR0 := Aside0.mk hr0
 have HC0 := Aside0.mk hc0
 clear hr0 hc0
 have HR1_0 := Aside0.mk hr1_0
 have HC1_0 := Aside0.mk hc1_0
 clear hr1_0 hc1_0
 have HR1_1 := Aside0.mk hr1_1
 have HC1_1 := Aside0.mk hc1_1
 clear hr1_1 hc1_1
 have HR1_2 := Aside0.mk hr1_2
 have HC1_2 := Aside0.mk hc1_2
 clear hr1_2 hc1_2
 have HB := Aside0.mk (Below.refl w.heap.size w)
 have H : ((interpolate_Density.f l0 a1_3).bind fun bt382 => ((interpolate_Density.f l0 (wrap64 (a1_4 + 1))).bind fun bt384 => (some (bt382.1, bt384.1)))) = some (r1, r2) := h
 clear h
 replace H := Option.bind_eq_some_iff.mp H
 obtain ⟨⟨t382, t383⟩, A30, H⟩ := H
 replace H : ((interpolate_Density.f l0 (wrap64 (a1_4 + 1))).bind fun bt384 => (some (t382, bt384.1))) = some (r1, r2) := H
 have A3 := Aside0.mk A30
 clear A30
 replace H := Option.bind_eq_some_iff.mp H
 obtain ⟨⟨t384, t385⟩, A40, H⟩ := H
 replace H : (some (t382, t384)) = some (r1, r2) := H
 have A4 := Aside0.mk A40
 clear A40
 simp only [Option.some.injEq, Prod.mk.injEq] at H
 obtain ⟨rfl, rfl⟩ := H
 go_enter Tryd.func71, Tryd.ntmps71
 go_wp2_with (first | ((with_reducible refine gate_dst (N := 3) rfl ?_); refine be_ (N := 3) (cs := #[.slice A1_0 l1_0.length c1_0, .slice A1_1 l1_1.length c1_1, .slice A1_2 l1_2.length c1_2, .int .i64 a1_3, .int .i64 a1_4, .int .i64 a1_5]) (t := 26) ?_; intro gb379 hg w5 hbox hb; have n0_ := Aside0.mk (below_step bl_ hb); have n1_ := Aside0.mk (hbox); have n2_ := Aside0.mk ((by rw [hg]; exact (below_size bl_) : w.heap.size ≤ gb379)); have n3_ := Aside0.mk ((by rw [hg]; exact (below_size bl_) : w.heap.size ≤ gb379)); clear HB; have HB := n0_; have BK379 := n1_; have GW379 := n2_; have GE379 := n3_; clear n0_ n1_ n2_ n3_; clear hb hbox hg) | ((with_reducible refine gate_dst (N := 4) rfl ?_); refine be_ (N := 4) (cs := #[.int .i64 0, .int .i64 0]) (t := 93) ?_; intro gb380 hg w6 hbox hb; have n0_ := Aside0.mk (blk_below (bkt_ BK379) hb); have n1_ := Aside0.mk (below_step bls_ hb); have n2_ := Aside0.mk (hbox); have n3_ := Aside0.mk ((by rw [hg]; exact (below_size bls_) : w.heap.size ≤ gb380)); have n4_ := Aside0.mk ((by rw [hg]; exact (below_size bls_) : w.heap.size ≤ gb380)); have n5_ := Aside0.mk ((by rw [hg]; exact Nat.ne_of_lt (blk_lt (bkt_ BK379)) : gb379 ≠ gb380)); have n6_ := Aside0.mk ((by rw [hg]; exact Nat.ne_of_gt (blk_lt (bkt_ BK379)) : gb380 ≠ gb379)); clear BK379; clear HB; have BK379 := n0_; have HB := n1_; have BK380 := n2_; have GW380 := n3_; have GE380 := n4_; have NB379_380 := n5_; have NB380_379 := n6_; clear n0_ n1_ n2_ n3_ n4_ n5_ n6_; clear hb hbox hg) | ((with_reducible refine gate_dst (N := 5) rfl ?_); refine be_ (N := 5) (cs := #[.int .i64 0, .int .i64 0]) (t := 93) ?_; intro gb381 hg w7 hbox hb; have n0_ := Aside0.mk (blk_below (bkt_ BK379) hb); have n1_ := Aside0.mk (blk_below (bkt_ BK380) hb); have n2_ := Aside0.mk (below_step bls_ hb); have n3_ := Aside0.mk (hbox); have n4_ := Aside0.mk ((by rw [hg]; exact (below_size bls_) : w.heap.size ≤ gb381)); have n5_ := Aside0.mk ((by rw [hg]; exact (below_size bls_) : w.heap.size ≤ gb381)); have n6_ := Aside0.mk ((by rw [hg]; exact Nat.ne_of_lt (blk_lt (bkt_ BK379)) : gb379 ≠ gb381)); have n7_ := Aside0.mk ((by rw [hg]; exact Nat.ne_of_gt (blk_lt (bkt_ BK379)) : gb381 ≠ gb379)); have n8_ := Aside0.mk ((by rw [hg]; exact Nat.ne_of_lt (blk_lt (bkt_ BK380)) : gb380 ≠ gb381)); have n9_ := Aside0.mk ((by rw [hg]; exact Nat.ne_of_gt (blk_lt (bkt_ BK380)) : gb381 ≠ gb380)); clear BK379; clear BK380; clear HB; have BK379 := n0_; have BK380 := n1_; have HB := n2_; have BK381 := n3_; have GW381 := n4_; have GE381 := n5_; have NB379_381 := n6_; have NB381_379 := n7_; have NB380_381 := n8_; have NB381_380 := n9_; clear n0_ n1_ n2_ n3_ n4_ n5_ n6_ n7_ n8_ n9_; clear hb hbox hg; have hnb8 := NB379_380.out; have hnc8 := NB380_379.out; have hnb9 := NB379_381.out; have hnc9 := NB381_379.out; obtain ⟨hcz10_0, hcz10_1, hcz10_2, hcz10_3, hcz10_4, hcz10_5⟩ := bc6_ BK379; obtain ⟨hfz10_0, hfz10_1, hfz10_2, hfz10_3, hfz10_4⟩ := bf5_ BK379; have hfz10_5 := blk_frozen BK379.out 5) | ((with_reducible refine gate_callee (f := 66) rfl ?_); refine gl_ (some 10) Tryd.func66 #[.slice A0 l0.length c0, .int .i64 a1_3] ?_; (with_reducible refine (interpolate_Density.calls _ _ l0 a1_3 t382 t383 _ ?side1 ?side2 A3.out).mono ?_); (case side1 => exact kc_ HR0); (case side2 => exact HC0.out); rintro e w11 ⟨rfl, hb⟩; refine ⟨_, rfl, ?_⟩; have n0_ := Aside0.mk (blk_below (bkt_ BK379) hb); have n1_ := Aside0.mk (blk_below (bkt_ BK380) hb); have n2_ := Aside0.mk (blk_below (bkt_ BK381) hb); have n3_ := Aside0.mk (below_step bls_ hb); clear BK379; clear BK380; clear BK381; clear HB; have BK379 := n0_; have BK380 := n1_; have BK381 := n2_; have HB := n3_; clear n0_ n1_ n2_ n3_; (try clear hb); (try clear hb2); (try clear hk); (try clear hi); have hnb12 := NB381_380.out; have hnc12 := NB380_381.out; obtain ⟨hcz13_0, hcz13_1⟩ := bc2_ BK381; obtain ⟨hfz13_0, hfz13_1⟩ := bf2_ BK381; obtain ⟨hcz14_0, hcz14_1, hcz14_2, hcz14_3, hcz14_4, hcz14_5⟩ := bc6_ BK379; obtain ⟨hfz14_0, hfz14_1, hfz14_2, hfz14_3, hfz14_4⟩ := bf5_ BK379; have hfz14_5 := blk_frozen BK379.out 5) | ((with_reducible refine gate_callee (f := 66) rfl ?_); refine gl_ (some 19) Tryd.func66 #[.slice A0 l0.length c0, .int .i64 (wrap64 (a1_4 + 1))] ?_; (with_reducible refine (interpolate_Density.calls _ _ l0 (wrap64 (a1_4 + 1)) t384 t385 _ ?side1 ?side2 A4.out).mono ?_); (case side1 => exact Kd.C_below HR0.out bls_); (case side2 => exact HC0.out); rintro e w15 ⟨rfl, hb⟩; refine ⟨_, rfl, ?_⟩; have n0_ := Aside0.mk (blk_below (g := gb379) (o := .cells #[.slice A1_0 l1_0.length c1_0, .slice A1_1 l1_1.length c1_1, .slice A1_2 l1_2.length c1_2, .int .i64 a1_3, .int .i64 a1_4, .int .i64 a1_5] 26 (0, 0)) (by (with_reducible repeat (first | refine blk_drewN ?_ _ | refine blk_drew ?_ | refine blk_alloc ?_ _)); refine blk_far ?_ NB379_381.out _; (with_reducible repeat (first | refine blk_drewN ?_ _ | refine blk_drew ?_ | refine blk_alloc ?_ _)); exact BK379.out) hb); have n1_ := Aside0.mk (blk_below (g := gb380) (o := .cells #[.int .i64 0, .int .i64 0] 93 (0, 0)) (by (with_reducible repeat (first | refine blk_drewN ?_ _ | refine blk_drew ?_ | refine blk_alloc ?_ _)); refine blk_far ?_ NB380_381.out _; (with_reducible repeat (first | refine blk_drewN ?_ _ | refine blk_drew ?_ | refine blk_alloc ?_ _)); exact BK380.out) hb); have n2_ := Aside0.mk (blk_below (g := gb381) (o := .cells #[.int .i64 t382, .int .i64 0] 93 (0, 0)) (by (with_reducible repeat (first | refine blk_drewN ?_ _ | refine blk_drew ?_ | refine blk_alloc ?_ _)); refine blk_put (cs := #[.int .i64 0, .int .i64 0]) ?_ 0 _ rfl; (with_reducible repeat (first | refine blk_drewN ?_ _ | refine blk_drew ?_ | refine blk_alloc ?_ _)); exact BK381.out) hb); have n3_ := Aside0.mk (below_step bls_ hb); clear BK379; clear BK380; clear BK381; clear HB; have BK379 := n0_; have BK380 := n1_; have BK381 := n2_; have HB := n3_; clear n0_ n1_ n2_ n3_; (try clear hb); (try clear hb2); (try clear hk); (try clear hi); obtain ⟨hcz16_0, hcz16_1⟩ := bc2_ BK381; obtain ⟨hfz16_0, hfz16_1⟩ := bf2_ BK381; obtain ⟨hcz17_0, hcz17_1⟩ := bc2_ BK380; have hfz17_0 := blk_frozen BK380.out 0; have hfz17_1 := blk_frozen BK380.out 1))
 refine bodyPost_ret (results_cell_row rfl _ _ gb380 93 #[.int .i64 t382, .int .i64 t384] (0, 0) _ rfl (by (with_reducible repeat (first | refine blk_drewN ?_ _ | refine blk_drew ?_ | refine blk_alloc ?_ _)); refine blk_put (cs := #[.int .i64 t382, .int .i64 0]) ?_ 1 _ rfl; (with_reducible repeat (first | refine blk_drewN ?_ _ | refine blk_drew ?_ | refine blk_alloc ?_ _)); refine blk_put (cs := #[.int .i64 0, .int .i64 0]) ?_ 0 _ rfl; (with_reducible repeat (first | refine blk_drewN ?_ _ | refine blk_drew ?_ | refine blk_alloc ?_ _)); refine blk_far ?_ NB380_381.out _; (with_reducible repeat (first | refine blk_drewN ?_ _ | refine blk_drew ?_ | refine blk_alloc ?_ _)); exact BK380.out) Tryd.underlying93 rfl (by kernel_rfl)) rfl ?_
 exact ⟨fin_, bls_⟩
def blend_sum.l0 : Nat → Int → List Int → Int → Int → Option (Int)
 | 0, _, _, _, _ => none
 | k + 1, x3, x6, x7, x8 => if x8 < x7 then (if 0 ≤ x8 then (if x8 < (x6.length : Int) then (blend_sum.l0 k (wrap64 (x3 + (rd x6 x8))) x6 x7 (wrap64 (x8 + 1))) else (none)) else (none)) else (some x3)
def blend_sum.f (k : Nat) (l0 : List Int) : Option (Int) := blend_sum.l0 k 0 l0 (l0.length : Int) 0
theorem blend_sum.mono_l : ∀ k, (∀ y0 y1 y2 y3, LeO (blend_sum.l0 k y0 y1 y2 y3) (blend_sum.l0 (k + 1) y0 y1 y2 y3))
 | 0 => fun _ _ _ _ r h => by simp [blend_sum.l0] at h
 | k + 1 => by
  have ih0 := blend_sum.mono_l k
  ·intro y0 y1 y2 y3
   unfold blend_sum.l0
   repeat' first
   | (with_reducible exact ih0 _ _ _ _)
   | (with_reducible exact LeO.refl _)
   | (with_reducible exact LeO.none _)
   | (with_reducible refine LeO.ite ?_ ?_)
   | (with_reducible refine LeO.bind ?_ (fun _ => ?_))
   | exact ih0 _ _ _ _
   | exact LeO.none _
   | refine LeO.ite ?_ ?_
   | refine LeO.bind ?_ (fun _ => ?_)
theorem blend_sum.mono : ∀ a0 k, LeO (blend_sum.f k a0) (blend_sum.f (k + 1) a0) := by
 intro a0 k
 have ih0 := blend_sum.mono_l k
 unfold blend_sum.f
 repeat' first
   | (with_reducible exact ih0 _ _ _ _)
   | (with_reducible exact LeO.refl _)
   | (with_reducible exact LeO.none _)
   | (with_reducible refine LeO.ite ?_ ?_)
   | (with_reducible refine LeO.bind ?_ (fun _ => ?_))
   | exact ih0 _ _ _ _
   | exact LeO.none _
   | refine LeO.ite ?_ ?_
   | refine LeO.bind ?_ (fun _ => ?_)
set_option maxHeartbeats 8000000 in
set_option maxRecDepth 100000 in
theorem blend_sum.calls (k : Nat) (A0 : Option Addr) (c0 : Nat) (l0 : List Int) (r : Int) (w : World) (hr0 : Kd.C (Kd.int .i64) w A0 l0.length l0) (hc0 : l0.length ≤ c0) (h : blend_sum.f k l0 = some r) :
  Calls Tryd.prog 54 #[.slice A0 l0.length c0] w fun e w' => e = .returned (.int .i64 r) ∧ Drawn0 w w' := by
 have HR0 := Aside0.mk hr0
 have HC0 := Aside0.mk hc0
 clear hr0 hc0
 have H : (blend_sum.l0 k 0 l0 (l0.length : Int) 0) = some r := h
 clear h
 have H' := Aside0.mk H
 clear H
 go_enter Tryd.func54, Tryd.ntmps54
 go_wp2
 go_loopg [3, 8] k (fun kq v3 v8 w' => ∃ (x3_1 : Int) (x8_1 : Int), v3 = .int .i64 x3_1 ∧ v8 = .int .i64 x8_1 ∧ Aside0 (blend_sum.l0 kq x3_1 l0 (l0.length : Int) x8_1 = some r) ∧ Aside0 (kq ≤ k) ∧ Drawn0 w w')
 case atStart => exact ⟨(0), (0), sm_, sm_, H', ⟨Nat.le_refl _⟩, by repeat (first | exact Drawn0.refl _ | apply Drawn0.step)⟩
 case round =>
  clear H'
  obtain ⟨x3_1, x8_1, rfl, rfl, HA, HK1, ⟨m1, rfl⟩⟩ := hrel
  cases gk with
  | zero => exact absurd HA.out (by simp [blend_sum.l0])
  | succ k1 =>
   have H := HA.out
   clear HA
   simp only [blend_sum.l0] at H
   by_cases c2 : x8_1 < (l0.length : Int)
   ·rw [if_pos c2] at H
    have c2b0 : decide (x8_1 < (l0.length : Int)) = true := decide_eq_true c2
    clear c2
    by_cases c3 : 0 ≤ x8_1
    ·rw [if_pos c3] at H
     have c3b0 : decide (0 ≤ x8_1) = true := decide_eq_true c3
     clear c3
     by_cases c4 : x8_1 < (l0.length : Int)
     ·rw [if_pos c4] at H
      have c4b0 : decide (x8_1 < (l0.length : Int)) = true := decide_eq_true c4
      clear c4
      have H' := Aside0.mk H
      clear H
      have p386 : 0 ≤ (x8_1 : Int) := of_decide_eq_true as_
      have q386 : x8_1 < (l0.length : Int) := of_decide_eq_true as_
      obtain ⟨ad386, e386, hx386_0⟩ := Kd.at_int HR0.out x8_1 p386 q386
      cases e386
      replace p386 := eq_true p386
      replace q386 := eq_true q386
      go_wp2
      go_roundg k1
      case measure => have := HK1.out; omega
      case rel => exact ⟨(wrap64 (x3_1 + (rd l0 x8_1))), (wrap64 (x8_1 + 1)), sm_, sm_, H', ⟨by have := HK1.out; omega⟩, by repeat (first | exact Drawn0.refl _ | apply Drawn0.step)⟩
     ·rw [if_neg c4] at H
      exact absurd H (by simp)
    ·rw [if_neg c3] at H
     exact absurd H (by simp)
   ·rw [if_neg c2] at H
    have c2b0 : decide (x8_1 < (l0.length : Int)) = false := decide_eq_false c2
    clear c2
    obtain rfl := Option.some.inj H
    go_wp2
    go_ret
    exact ⟨by first | rfl | (simp; done) | (simp [*]; done), by repeat (first | exact Drawn0.refl _ | apply Drawn0.step)⟩
end Go.Proofs.YtcdkbciagchlgaaDoor.PF
