-- Written by a program of this session (wip/pr.py) out of Lean's print of the translation; Lean checks it.
import Derived.Test.YtcdkbciagchlgaaDoorPF0
import Derived.Test.YtcdkbciagchlgaaDoorPF1
import Derived.Test.YtcdkbciagchlgaaDoorPF4
import Derived.Test.YtcdkbciagchlgaaDoorPF7
namespace Go.Proofs.YtcdkbciagchlgaaDoor.PF
open Go.RowKit Go.Proofs.YtcdkbciagchlgaaDoorW.PrintWords Go.Proofs.YtcdkbciagchlgaaDoorW.PrintLast Go.Proofs.YtcdkbciagchlgaaDoorW.PrintMore
attribute [local go_sem] max2_int min2_int max_two min_two max_three min_three max_four min_four   
set_option linter.unusedVariables false
set_option linter.unusedSimpArgs false
def strgB (n : Int) : Bool := decide (n < 0 ∨ n > 1125899906842624)
theorem strange_at (n : Int) : refusal_strange.f n = some (strgB n) := by
  unfold refusal_strange.f strgB
  by_cases h : n < 0
  · rw [if_pos h, decide_eq_true (Or.inl h)]
  · rw [if_neg h]; congr 1; rw [decide_eq_decide]; omega
def formB (U : List Int) (lo hi al : Int) : Bool := !(decide (0 ≤ idxP (fun j => strgB (rd U (j : Int))) U.length 0)) && !(strgB al) && decide (¬ (lo < 0 ∨ lo > 1 ∨ hi < 0 ∨ hi > 1)) && decide (lo + hi < 2)
def refusal_formed.f (l0_0 : List Int) (a0_1 a0_2 a0_3 : Int) : Option Bool := if l0_0.length < 4611686018427387904 then some (formB l0_0 a0_1 a0_2 a0_3) else none
set_option maxHeartbeats 4000000 in
set_option maxRecDepth 100000 in
theorem refusal_formed.calls (A0_0 : Option Addr) (c0_0 : Nat) (l0_0 : List Int) (a0_1 a0_2 a0_3 : Int) (r : Bool) (w : World) (hr0_0 : Kd.C (Kd.int .i64) w A0_0 l0_0.length l0_0) (hc0_0 : l0_0.length ≤ c0_0) (h : refusal_formed.f l0_0 a0_1 a0_2 a0_3 = some r) :
    Calls Tryd.prog 33 #[.agg #[.slice A0_0 l0_0.length c0_0, .int .i64 a0_1, .int .i64 a0_2, .int .i64 a0_3]] w fun e w' => e = .returned (.bool r) ∧ Below w.heap.size w w' := by
  unfold refusal_formed.f at h
  split at h
  case isFalse => cases h
  rename_i hlen
  have HF := Aside0.mk (Option.some.inj h)
  clear h
  have HB := Aside0.mk (Below.refl w.heap.size w)
  have e64 : ∀ args w, (callFunc 64 args).run Tryd.prog w = .ok (.enter 64 args) w := enters_of Tryd.func64 (by kernel_rfl) rfl
  have hu := Tryd.underlying30
  have HST := Aside0.mk (fun W => refusal_strange.calls a0_3 (strgB a0_3) W (strange_at a0_3))
  have HU : Aside0 (∀ W, Below w.heap.size w W → Calls Tryd.prog 49 #[.slice A0_0 l0_0.length c0_0, .func (.func 64) #[] #[]] W fun e w' => e = .returned (.bool (decide (0 ≤ idxP (fun j => strgB (rd l0_0 (j : Int))) l0_0.length 0))) ∧ Below W.heap.size W w') := ⟨fun W hb =>
    slices_ContainsFunc_int_int.below 64 #[] A0_0 c0_0 l0_0 (fun j => strgB (rd l0_0 (j : Int))) W e64 hlen (Kd.C_below hr0_0 hb) (fun W' i h0 h1 hb' => by
      have := (refusal_strange.calls (rd l0_0 i) (strgB (rd l0_0 i)) W' (strange_at _)).mono (fun e w'' hq => (⟨hq.1, hq.2.below⟩ : e = .returned (.bool (strgB (rd l0_0 i))) ∧ Below W'.heap.size W' w''))
      rwa [show strgB (rd l0_0 i) = (fun j : Nat => strgB (rd l0_0 (j : Int))) i.toNat by show _ = strgB (rd l0_0 ((i.toNat : Nat) : Int)); rw [Int.toNat_of_nonneg h0]] at this)⟩
  clear hr0_0 hlen
  unfold formB at HF
  generalize decide (0 ≤ idxP (fun j => strgB (rd l0_0 (j : Int))) l0_0.length 0) = b1 at HF HU
  generalize strgB a0_3 = b2 at HF HST
  go_enter Tryd.func33, Tryd.ntmps33
  go_upto_region 1 with fail
  have hn := blk_new w (Obj.cells #[Value.slice A0_0 l0_0.length c0_0, Value.int IntKind.i64 a0_1, Value.int IntKind.i64 a0_2, Value.int IntKind.i64 a0_3] 30)
  replace HB := Aside0.mk (below_alloc HB.out (Obj.cells #[Value.slice A0_0 l0_0.length c0_0, Value.int IntKind.i64 a0_1, Value.int IntKind.i64 a0_2, Value.int IntKind.i64 a0_3] 30))
  generalize w.alloc (Obj.cells #[Value.slice A0_0 l0_0.length c0_0, Value.int IntKind.i64 a0_1, Value.int IntKind.i64 a0_2, Value.int IntKind.i64 a0_3] 30) = W at hn HB ⊢
  have d0 : W.cell? ⟨w.heap.size, 0, none⟩ = some (.slice A0_0 l0_0.length c0_0) := (blk_cell hn 0).trans rfl
  have d1 : W.cell? ⟨w.heap.size, 1, none⟩ = some (.int .i64 a0_1) := (blk_cell hn 1).trans rfl
  have d2 : W.cell? ⟨w.heap.size, 2, none⟩ = some (.int .i64 a0_2) := (blk_cell hn 2).trans rfl
  have d3 : W.cell? ⟨w.heap.size, 3, none⟩ = some (.int .i64 a0_3) := (blk_cell hn 3).trans rfl
  clear hn
  cases b1
  case true =>
    obtain rfl : false = r := HF.out
    go_wp2_with (go_at_call 49; refine (HU.out _ HB.out).mono ?_; rintro e w2 ⟨rfl, hb⟩)
    go_ret
    exact ⟨rfl, below_step HB.out hb⟩
  cases b2
  case true =>
    obtain rfl : false = r := HF.out
    go_wp2_with (first
      | (go_at_call 49; refine (HU.out _ HB.out).mono ?_; rintro e w2 ⟨rfl, hb⟩; replace HB := Aside0.mk (below_step HB.out hb); replace d3 := pw_cell_below hb d3; clear hb)
      | (go_at_call 64; refine (HST.out _).mono ?_; rintro e w3 ⟨rfl, hd⟩; replace HB := Aside0.mk (below_step HB.out hd.below)))
    go_ret
    exact ⟨rfl, HB.out⟩
  have HF2 : Aside0 ((decide (¬ (a0_1 < 0 ∨ a0_1 > 1 ∨ a0_2 < 0 ∨ a0_2 > 1)) && decide (a0_1 + a0_2 < 2)) = r) := ⟨by rw [← HF.out]; rfl⟩
  clear HF
  by_cases y1 : a0_1 < 0
  · have z1 : decide (a0_1 < 0) = true := decide_eq_true y1
    obtain rfl : false = r := by rw [← HF2.out, decide_eq_false (by omega)]; rfl
    clear y1
    go_wp2_with (first
      | (go_at_call 49; refine (HU.out _ HB.out).mono ?_; rintro e w2 ⟨rfl, hb⟩; replace HB := Aside0.mk (below_step HB.out hb); replace d1 := pw_cell_below hb d1; replace d2 := pw_cell_below hb d2; replace d3 := pw_cell_below hb d3; clear hb)
      | (go_at_call 64; refine (HST.out _).mono ?_; rintro e w3 ⟨rfl, hd⟩; replace HB := Aside0.mk (below_step HB.out hd.below); replace d1 := pw_cell_below hd.below d1; replace d2 := pw_cell_below hd.below d2))
    go_ret
    exact ⟨rfl, HB.out⟩
  have z1 : decide (a0_1 < 0) = false := decide_eq_false y1
  by_cases y2 : a0_1 > 1
  · have z2 : decide (1 < a0_1) = true := decide_eq_true y2
    obtain rfl : false = r := by rw [← HF2.out, decide_eq_false (by omega)]; rfl
    clear y1 y2
    go_wp2_with (first
      | (go_at_call 49; refine (HU.out _ HB.out).mono ?_; rintro e w2 ⟨rfl, hb⟩; replace HB := Aside0.mk (below_step HB.out hb); replace d1 := pw_cell_below hb d1; replace d2 := pw_cell_below hb d2; replace d3 := pw_cell_below hb d3; clear hb)
      | (go_at_call 64; refine (HST.out _).mono ?_; rintro e w3 ⟨rfl, hd⟩; replace HB := Aside0.mk (below_step HB.out hd.below); replace d1 := pw_cell_below hd.below d1; replace d2 := pw_cell_below hd.below d2))
    go_ret
    exact ⟨rfl, HB.out⟩
  have z2 : decide (1 < a0_1) = false := decide_eq_false y2
  by_cases y3 : a0_2 < 0
  · have z3 : decide (a0_2 < 0) = true := decide_eq_true y3
    obtain rfl : false = r := by rw [← HF2.out, decide_eq_false (by omega)]; rfl
    clear y1 y2 y3
    go_wp2_with (first
      | (go_at_call 49; refine (HU.out _ HB.out).mono ?_; rintro e w2 ⟨rfl, hb⟩; replace HB := Aside0.mk (below_step HB.out hb); replace d1 := pw_cell_below hb d1; replace d2 := pw_cell_below hb d2; replace d3 := pw_cell_below hb d3; clear hb)
      | (go_at_call 64; refine (HST.out _).mono ?_; rintro e w3 ⟨rfl, hd⟩; replace HB := Aside0.mk (below_step HB.out hd.below); replace d1 := pw_cell_below hd.below d1; replace d2 := pw_cell_below hd.below d2))
    go_ret
    exact ⟨rfl, HB.out⟩
  have z3 : decide (a0_2 < 0) = false := decide_eq_false y3
  by_cases y4 : a0_2 > 1
  · have z4 : decide (1 < a0_2) = true := decide_eq_true y4
    obtain rfl : false = r := by rw [← HF2.out, decide_eq_false (by omega)]; rfl
    clear y1 y2 y3 y4
    go_wp2_with (first
      | (go_at_call 49; refine (HU.out _ HB.out).mono ?_; rintro e w2 ⟨rfl, hb⟩; replace HB := Aside0.mk (below_step HB.out hb); replace d1 := pw_cell_below hb d1; replace d2 := pw_cell_below hb d2; replace d3 := pw_cell_below hb d3; clear hb)
      | (go_at_call 64; refine (HST.out _).mono ?_; rintro e w3 ⟨rfl, hd⟩; replace HB := Aside0.mk (below_step HB.out hd.below); replace d1 := pw_cell_below hd.below d1; replace d2 := pw_cell_below hd.below d2))
    go_ret
    exact ⟨rfl, HB.out⟩
  have z4 : decide (1 < a0_2) = false := decide_eq_false y4
  have w1 : wrap64 (a0_1 + a0_2) = a0_1 + a0_2 := w64_ (by omega) (by omega)
  obtain rfl : decide (a0_1 + a0_2 < 2) = r := by rw [← HF2.out, show decide (¬ (a0_1 < 0 ∨ a0_1 > 1 ∨ a0_2 < 0 ∨ a0_2 > 1)) = true from decide_eq_true (by omega), Bool.true_and]
  clear y1 y2 y3 y4 HF2
  go_wp2_with (first
      | (go_at_call 49; refine (HU.out _ HB.out).mono ?_; rintro e w2 ⟨rfl, hb⟩; replace HB := Aside0.mk (below_step HB.out hb); replace d1 := pw_cell_below hb d1; replace d2 := pw_cell_below hb d2; replace d3 := pw_cell_below hb d3; clear hb)
      | (go_at_call 64; refine (HST.out _).mono ?_; rintro e w3 ⟨rfl, hd⟩; replace HB := Aside0.mk (below_step HB.out hd.below); replace d1 := pw_cell_below hd.below d1; replace d2 := pw_cell_below hd.below d2))
  go_ret
  exact ⟨rfl, HB.out⟩
mutual
def refusal_right.j0 : Nat → List Int → List Int → Bool → List (S45) → List Int → List Int → Int → Int → Int → List Int → Int → Int → Int → Option (Bool)
 | 0, _, _, _, _, _, _, _, _, _, _, _, _, _ => none
 | k + 1, x1, x2, x19, x176000, x176001, x176002, x176003, x176004, x176005, x177000, x177001, x177002, x177003 => if x19 = true then (some false) else ((refusal_leasts.f k x1 x2 x177000 x177001 x177002 x177003).bind fun t177 => (refusal_right.l0 k 0 t177 (t177.length : Int) 0 x176000 x176001 x176002 x176003 x176004 x176005 x177000 x177001 x177002 x177003))
def refusal_right.l0 : Nat → Int → List Int → Int → Int → List (S45) → List Int → List Int → Int → Int → Int → List Int → Int → Int → Int → Option (Bool)
 | 0, _, _, _, _, _, _, _, _, _, _, _, _, _, _ => none
 | k + 1, x9, x23, x24, x25, x176000, x176001, x176002, x176003, x176004, x176005, x177000, x177001, x177002, x177003 => if x25 < x24 then (if 0 ≤ x25 then (if x25 < (x23.length : Int) then (if x25 < (x177000.length : Int) then (if (rd x177000 x25) < (rd x23 x25) then (some false) else (if x25 < (x176001.length : Int) then (refusal_right.l0 k (wrap64 (x9 + (wrap64 ((rd x177000 x25) * (rd x176001 x25))))) x23 x24 (wrap64 (x25 + 1)) x176000 x176001 x176002 x176003 x176004 x176005 x177000 x177001 x177002 x177003) else (none))) else (none)) else (none)) else (none)) else (some (decide (x9 < (wrap64 (x177002 + (wrap64 (x177003 * x176005)))))))
end
def refusal_right.f (k : Nat) (l0_0 : List (S45)) (l0_1 : List Int) (l0_2 : List Int) (a0_3 : Int) (a0_4 : Int) (a0_5 : Int) (l1 : List Int) (l2 : List Int) (l3_0 : List Int) (a3_1 : Int) (a3_2 : Int) (a3_3 : Int) : Option (Bool) := if a3_2 = 1 then (refusal_right.j0 k l1 l2 (a0_4 == 10000) l0_0 l0_1 l0_2 a0_3 a0_4 a0_5 l3_0 a3_1 a3_2 a3_3) else (refusal_right.j0 k l1 l2 false l0_0 l0_1 l0_2 a0_3 a0_4 a0_5 l3_0 a3_1 a3_2 a3_3)
theorem refusal_right.mono_l : ∀ k, (∀ y0 y1 y2 y3 y4 y5 y6 y7 y8 y9 y10 y11 y12, LeO (refusal_right.j0 k y0 y1 y2 y3 y4 y5 y6 y7 y8 y9 y10 y11 y12) (refusal_right.j0 (k + 1) y0 y1 y2 y3 y4 y5 y6 y7 y8 y9 y10 y11 y12)) ∧ (∀ y0 y1 y2 y3 y4 y5 y6 y7 y8 y9 y10 y11 y12 y13, LeO (refusal_right.l0 k y0 y1 y2 y3 y4 y5 y6 y7 y8 y9 y10 y11 y12 y13) (refusal_right.l0 (k + 1) y0 y1 y2 y3 y4 y5 y6 y7 y8 y9 y10 y11 y12 y13))
 | 0 => ⟨fun _ _ _ _ _ _ _ _ _ _ _ _ _ r h => by simp [refusal_right.j0] at h, fun _ _ _ _ _ _ _ _ _ _ _ _ _ _ r h => by simp [refusal_right.l0] at h⟩
 | k + 1 => by
  obtain ⟨ih0, ih1⟩ := refusal_right.mono_l k
  refine ⟨?_, ?_⟩
  ·intro y0 y1 y2 y3 y4 y5 y6 y7 y8 y9 y10 y11 y12
   unfold refusal_right.j0
   repeat' first
   | (with_reducible exact ih0 _ _ _ _ _ _ _ _ _ _ _ _ _)
   | (with_reducible exact ih1 _ _ _ _ _ _ _ _ _ _ _ _ _ _)
   | (with_reducible exact refusal_leasts.mono _ _ _ _ _ _ _)
   | (with_reducible exact LeO.refl _)
   | (with_reducible exact LeO.none _)
   | (with_reducible refine LeO.ite ?_ ?_)
   | (with_reducible refine LeO.bind ?_ (fun _ => ?_))
   | exact ih0 _ _ _ _ _ _ _ _ _ _ _ _ _
   | exact ih1 _ _ _ _ _ _ _ _ _ _ _ _ _ _
   | exact refusal_leasts.mono _ _ _ _ _ _ _
   | exact LeO.none _
   | refine LeO.ite ?_ ?_
   | refine LeO.bind ?_ (fun _ => ?_)
  ·intro y0 y1 y2 y3 y4 y5 y6 y7 y8 y9 y10 y11 y12 y13
   unfold refusal_right.l0
   repeat' first
   | (with_reducible exact ih0 _ _ _ _ _ _ _ _ _ _ _ _ _)
   | (with_reducible exact ih1 _ _ _ _ _ _ _ _ _ _ _ _ _ _)
   | (with_reducible exact refusal_leasts.mono _ _ _ _ _ _ _)
   | (with_reducible exact LeO.refl _)
   | (with_reducible exact LeO.none _)
   | (with_reducible refine LeO.ite ?_ ?_)
   | (with_reducible refine LeO.bind ?_ (fun _ => ?_))
   | exact ih0 _ _ _ _ _ _ _ _ _ _ _ _ _
   | exact ih1 _ _ _ _ _ _ _ _ _ _ _ _ _ _
   | exact refusal_leasts.mono _ _ _ _ _ _ _
   | exact LeO.none _
   | refine LeO.ite ?_ ?_
   | refine LeO.bind ?_ (fun _ => ?_)
theorem refusal_right.mono : ∀ a0 a1 a2 a3 a4 a5 a6 a7 a8 a9 a10 a11 k, LeO (refusal_right.f k a0 a1 a2 a3 a4 a5 a6 a7 a8 a9 a10 a11) (refusal_right.f (k + 1) a0 a1 a2 a3 a4 a5 a6 a7 a8 a9 a10 a11) := by
 intro a0 a1 a2 a3 a4 a5 a6 a7 a8 a9 a10 a11 k
 obtain ⟨ih0, ih1⟩ := refusal_right.mono_l k
 unfold refusal_right.f
 repeat' first
   | (with_reducible exact ih0 _ _ _ _ _ _ _ _ _ _ _ _ _)
   | (with_reducible exact ih1 _ _ _ _ _ _ _ _ _ _ _ _ _ _)
   | (with_reducible exact refusal_leasts.mono _ _ _ _ _ _ _)
   | (with_reducible exact LeO.refl _)
   | (with_reducible exact LeO.none _)
   | (with_reducible refine LeO.ite ?_ ?_)
   | (with_reducible refine LeO.bind ?_ (fun _ => ?_))
   | exact ih0 _ _ _ _ _ _ _ _ _ _ _ _ _
   | exact ih1 _ _ _ _ _ _ _ _ _ _ _ _ _ _
   | exact refusal_leasts.mono _ _ _ _ _ _ _
   | exact LeO.none _
   | refine LeO.ite ?_ ?_
   | refine LeO.bind ?_ (fun _ => ?_)
set_option maxHeartbeats 8000000 in
set_option maxRecDepth 100000 in
theorem refusal_right.calls (k : Nat) (A0_0 : Option Addr) (c0_0 : Nat) (l0_0 : List (S45)) (A0_1 : Option Addr) (c0_1 : Nat) (l0_1 : List Int) (A0_2 : Option Addr) (c0_2 : Nat) (l0_2 : List Int) (a0_3 : Int) (a0_4 : Int) (a0_5 : Int) (A1 : Option Addr) (c1 : Nat) (l1 : List Int) (A2 : Option Addr) (c2 : Nat) (l2 : List Int) (A3_0 : Option Addr) (c3_0 : Nat) (l3_0 : List Int) (a3_1 : Int) (a3_2 : Int) (a3_3 : Int) (r : Bool) (w : World) (hr0_0 : Kd.C k45 w A0_0 l0_0.length l0_0) (hc0_0 : l0_0.length ≤ c0_0) (hr0_1 : Kd.C (Kd.int .i64) w A0_1 l0_1.length l0_1) (hc0_1 : l0_1.length ≤ c0_1) (hr0_2 : Kd.C (Kd.int .i64) w A0_2 l0_2.length l0_2) (hc0_2 : l0_2.length ≤ c0_2) (hr1 : Kd.C (Kd.int .i64) w A1 l1.length l1) (hc1 : l1.length ≤ c1) (hr2 : Kd.C (Kd.int .i64) w A2 l2.length l2) (hc2 : l2.length ≤ c2) (hr3_0 : Kd.C (Kd.int .i64) w A3_0 l3_0.length l3_0) (hc3_0 : l3_0.length ≤ c3_0) (h : refusal_right.f k l0_0 l0_1 l0_2 a0_3 a0_4 a0_5 l1 l2 l3_0 a3_1 a3_2 a3_3 = some r) :
  Calls Tryd.prog 34 #[.agg #[.slice A0_0 l0_0.length c0_0, .slice A0_1 l0_1.length c0_1, .slice A0_2 l0_2.length c0_2, .int .i64 a0_3, .int .i64 a0_4, .int .i64 a0_5], .slice A1 l1.length c1, .slice A2 l2.length c2, .agg #[.slice A3_0 l3_0.length c3_0, .int .i64 a3_1, .int .i64 a3_2, .int .i64 a3_3]] w fun e w' => e = .returned (.bool r) ∧ Below w.heap.size w w' := by
 have hu26 := Tryd.underlying26
 have hu30 := Tryd.underlying30
 have HR0_0 := Aside0.mk hr0_0
 have HC0_0 := Aside0.mk hc0_0
 clear hr0_0 hc0_0
 have HR0_1 := Aside0.mk hr0_1
 have HC0_1 := Aside0.mk hc0_1
 clear hr0_1 hc0_1
 have HR0_2 := Aside0.mk hr0_2
 have HC0_2 := Aside0.mk hc0_2
 clear hr0_2 hc0_2
 have HR1 := Aside0.mk hr1
 have HC1 := Aside0.mk hc1
 clear hr1 hc1
 have HR2 := Aside0.mk hr2
 have HC2 := Aside0.mk hc2
 clear hr2 hc2
 have HR3_0 := Aside0.mk hr3_0
 have HC3_0 := Aside0.mk hc3_0
 clear hr3_0 hc3_0
 have HB := Aside0.mk (Below.refl w.heap.size w)
 have H : (if a3_2 = 1 then (refusal_right.j0 k l1 l2 (a0_4 == 10000) l0_0 l0_1 l0_2 a0_3 a0_4 a0_5 l3_0 a3_1 a3_2 a3_3) else (refusal_right.j0 k l1 l2 false l0_0 l0_1 l0_2 a0_3 a0_4 a0_5 l3_0 a3_1 a3_2 a3_3)) = some r := h
 clear h
 have HC5 := Aside0.mk H
 clear H
 go_enter Tryd.func34, Tryd.ntmps34
 go_upto_region 1 with (first | ((with_reducible refine gate_dst (N := 4) rfl ?_); refine be_ (N := 4) (cs := #[.slice A0_0 l0_0.length c0_0, .slice A0_1 l0_1.length c0_1, .slice A0_2 l0_2.length c0_2, .int .i64 a0_3, .int .i64 a0_4, .int .i64 a0_5]) (t := 26) ?_; intro gb175 hg w6 hbox hb; have n0_ := Aside0.mk (below_step bl_ hb); have n1_ := Aside0.mk (hbox); have n2_ := Aside0.mk ((by rw [hg]; exact (below_size bl_) : w.heap.size ≤ gb175)); have n3_ := Aside0.mk ((by rw [hg]; exact (below_size bl_) : w.heap.size ≤ gb175)); clear HB; have HB := n0_; have BK175 := n1_; have GW175 := n2_; have GE175 := n3_; clear n0_ n1_ n2_ n3_; clear hb hbox hg) | ((with_reducible refine gate_dst (N := 7) rfl ?_); refine be_ (N := 7) (cs := #[.slice A3_0 l3_0.length c3_0, .int .i64 a3_1, .int .i64 a3_2, .int .i64 a3_3]) (t := 30) ?_; intro gb176 hg w7 hbox hb; have n0_ := Aside0.mk (blk_below (bkt_ BK175) hb); have n1_ := Aside0.mk (below_step bls_ hb); have n2_ := Aside0.mk (hbox); have n3_ := Aside0.mk ((by rw [hg]; exact (below_size bls_) : w.heap.size ≤ gb176)); have n4_ := Aside0.mk ((by rw [hg]; exact (below_size bls_) : w.heap.size ≤ gb176)); have n5_ := Aside0.mk ((by rw [hg]; exact Nat.ne_of_lt (blk_lt (bkt_ BK175)) : gb175 ≠ gb176)); have n6_ := Aside0.mk ((by rw [hg]; exact Nat.ne_of_gt (blk_lt (bkt_ BK175)) : gb176 ≠ gb175)); clear BK175; clear HB; have BK175 := n0_; have HB := n1_; have BK176 := n2_; have GW176 := n3_; have GE176 := n4_; have NB175_176 := n5_; have NB176_175 := n6_; clear n0_ n1_ n2_ n3_ n4_ n5_ n6_; clear hb hbox hg))
 repeat (go_quiet (first | ((with_reducible refine gate_dst (N := 4) rfl ?_); refine be_ (N := 4) (cs := #[.slice A0_0 l0_0.length c0_0, .slice A0_1 l0_1.length c0_1, .slice A0_2 l0_2.length c0_2, .int .i64 a0_3, .int .i64 a0_4, .int .i64 a0_5]) (t := 26) ?_; intro gb175 hg w6 hbox hb; have n0_ := Aside0.mk (below_step bl_ hb); have n1_ := Aside0.mk (hbox); have n2_ := Aside0.mk ((by rw [hg]; exact (below_size bl_) : w.heap.size ≤ gb175)); have n3_ := Aside0.mk ((by rw [hg]; exact (below_size bl_) : w.heap.size ≤ gb175)); clear HB; have HB := n0_; have BK175 := n1_; have GW175 := n2_; have GE175 := n3_; clear n0_ n1_ n2_ n3_; clear hb hbox hg) | ((with_reducible refine gate_dst (N := 7) rfl ?_); refine be_ (N := 7) (cs := #[.slice A3_0 l3_0.length c3_0, .int .i64 a3_1, .int .i64 a3_2, .int .i64 a3_3]) (t := 30) ?_; intro gb176 hg w7 hbox hb; have n0_ := Aside0.mk (blk_below (bkt_ BK175) hb); have n1_ := Aside0.mk (below_step bls_ hb); have n2_ := Aside0.mk (hbox); have n3_ := Aside0.mk ((by rw [hg]; exact (below_size bls_) : w.heap.size ≤ gb176)); have n4_ := Aside0.mk ((by rw [hg]; exact (below_size bls_) : w.heap.size ≤ gb176)); have n5_ := Aside0.mk ((by rw [hg]; exact Nat.ne_of_lt (blk_lt (bkt_ BK175)) : gb175 ≠ gb176)); have n6_ := Aside0.mk ((by rw [hg]; exact Nat.ne_of_gt (blk_lt (bkt_ BK175)) : gb176 ≠ gb175)); clear BK175; clear HB; have BK175 := n0_; have HB := n1_; have BK176 := n2_; have GW176 := n3_; have GE176 := n4_; have NB175_176 := n5_; have NB176_175 := n6_; clear n0_ n1_ n2_ n3_ n4_ n5_ n6_; clear hb hbox hg)); go_upto_region 1 with (first | ((with_reducible refine gate_dst (N := 4) rfl ?_); refine be_ (N := 4) (cs := #[.slice A0_0 l0_0.length c0_0, .slice A0_1 l0_1.length c0_1, .slice A0_2 l0_2.length c0_2, .int .i64 a0_3, .int .i64 a0_4, .int .i64 a0_5]) (t := 26) ?_; intro gb175 hg w6 hbox hb; have n0_ := Aside0.mk (below_step bl_ hb); have n1_ := Aside0.mk (hbox); have n2_ := Aside0.mk ((by rw [hg]; exact (below_size bl_) : w.heap.size ≤ gb175)); have n3_ := Aside0.mk ((by rw [hg]; exact (below_size bl_) : w.heap.size ≤ gb175)); clear HB; have HB := n0_; have BK175 := n1_; have GW175 := n2_; have GE175 := n3_; clear n0_ n1_ n2_ n3_; clear hb hbox hg) | ((with_reducible refine gate_dst (N := 7) rfl ?_); refine be_ (N := 7) (cs := #[.slice A3_0 l3_0.length c3_0, .int .i64 a3_1, .int .i64 a3_2, .int .i64 a3_3]) (t := 30) ?_; intro gb176 hg w7 hbox hb; have n0_ := Aside0.mk (blk_below (bkt_ BK175) hb); have n1_ := Aside0.mk (below_step bls_ hb); have n2_ := Aside0.mk (hbox); have n3_ := Aside0.mk ((by rw [hg]; exact (below_size bls_) : w.heap.size ≤ gb176)); have n4_ := Aside0.mk ((by rw [hg]; exact (below_size bls_) : w.heap.size ≤ gb176)); have n5_ := Aside0.mk ((by rw [hg]; exact Nat.ne_of_lt (blk_lt (bkt_ BK175)) : gb175 ≠ gb176)); have n6_ := Aside0.mk ((by rw [hg]; exact Nat.ne_of_gt (blk_lt (bkt_ BK175)) : gb176 ≠ gb175)); clear BK175; clear HB; have BK175 := n0_; have HB := n1_; have BK176 := n2_; have GW176 := n3_; have GE176 := n4_; have NB175_176 := n5_; have NB176_175 := n6_; clear n0_ n1_ n2_ n3_ n4_ n5_ n6_; clear hb hbox hg)))
 (try simp only [Act.put, List.setIfInBounds_toArray, List.set_cons_zero, List.set_cons_succ])
 go_cut [19] (fun v19 wc => ∃ (kq : Nat) (x19_4 : Bool), v19 = .bool x19_4 ∧ Aside0 (refusal_right.j0 kq l1 l2 x19_4 l0_0 l0_1 l0_2 a0_3 a0_4 a0_5 l3_0 a3_1 a3_2 a3_3 = some r) ∧ Aside0 (kq ≤ k) ∧ Aside0 (wc.heap[gb175]? = some (.cells #[(.slice A0_0 l0_0.length c0_0), (.slice A0_1 l0_1.length c0_1), (.slice A0_2 l0_2.length c0_2), .int .i64 a0_3, .int .i64 a0_4, .int .i64 a0_5] 26 (0, 0))) ∧ Aside0 (wc.heap[gb176]? = some (.cells #[(.slice A3_0 l3_0.length c3_0), .int .i64 a3_1, .int .i64 a3_2, .int .i64 a3_3] 30 (0, 0))) ∧ Aside0 (Below w.heap.size w wc))
 case first =>
  have H := HC5.out
  clear HC5
  by_cases c8 : a3_2 = 1
  ·rw [if_pos c8] at H
   have c8b0 : (a3_2 == 1) = true := beq_iff_eq.mpr c8
   have c8b1 : (a3_2 != 1) = false := bne_eq_false_iff_eq.mpr c8
   clear c8
   (first | rw [c8b0] | (simp only [i64_w, i32_w]; rw [c8b0]) | skip)
   have H' := Aside0.mk H
   clear H
   have hnb9 := NB176_175.out
   have hnc9 := NB175_176.out
   obtain ⟨hcz10_0, hcz10_1, hcz10_2, hcz10_3⟩ := bc4_ BK176
   obtain ⟨hfz10_0, hfz10_1, hfz10_2, hfz10_3⟩ := bf4_ BK176
   obtain ⟨hcz11_0, hcz11_1, hcz11_2, hcz11_3, hcz11_4, hcz11_5⟩ := bc6_ BK175
   obtain ⟨hfz11_0, hfz11_1, hfz11_2, hfz11_3, hfz11_4, hfz11_5⟩ := bf6_ BK175
   go_wp2
   repeat (go_quiet (fail); try go_wp2)
   go_meet
   case rel => exact ⟨_, ((a0_4 == 10000)), sm_, H', ⟨by first | omega | exact Nat.le_refl _⟩, ⟨bkt_ BK175⟩, ⟨bkt_ BK176⟩, ⟨bls_⟩⟩
  ·rw [if_neg c8] at H
   have c8b0 : (a3_2 == 1) = false := beq_eq_false_iff_ne.mpr c8
   have c8b1 : (a3_2 != 1) = true := bne_iff_ne.mpr c8
   (first | rw [c8b0] | (simp only [i64_w, i32_w]; rw [c8b0]) | skip)
   have H' := Aside0.mk H
   clear H
   have hnb12 := NB176_175.out
   have hnc12 := NB175_176.out
   obtain ⟨hcz13_0, hcz13_1, hcz13_2, hcz13_3⟩ := bc4_ BK176
   obtain ⟨hfz13_0, hfz13_1, hfz13_2, hfz13_3⟩ := bf4_ BK176
   go_wp2
   repeat (go_quiet (fail); try go_wp2)
   go_meet
   case rel => exact ⟨_, (false), sm_, H', ⟨by first | omega | exact Nat.le_refl _⟩, ⟨bkt_ BK175⟩, ⟨bkt_ BK176⟩, ⟨bls_⟩⟩
 case rest =>
  clear HC5
  try clear c1
  try clear c2
  try clear p2
  try clear c3
  try clear c8
  try clear c8b0
  try clear c8b1
  try clear c9
  try clear c12
  try clear hcz10_0
  try clear hcz10_1
  try clear hcz10_2
  try clear hcz10_3
  try clear hcz11_0
  try clear hcz11_1
  try clear hcz11_2
  try clear hcz11_3
  try clear hcz11_4
  try clear hcz11_5
  try clear hcz13_0
  try clear hcz13_1
  try clear hcz13_2
  try clear hcz13_3
  try clear hfz10_0
  try clear hfz10_1
  try clear hfz10_2
  try clear hfz10_3
  try clear hfz11_0
  try clear hfz11_1
  try clear hfz11_2
  try clear hfz11_3
  try clear hfz11_4
  try clear hfz11_5
  try clear hfz13_0
  try clear hfz13_1
  try clear hfz13_2
  try clear hfz13_3
  obtain ⟨kq, x19_4, rfl, HA, HJ4, BK175, BK176, HB⟩ := hcut
  cases kq with
  | zero => exact absurd HA.out (by simp [refusal_right.j0])
  | succ kj4 =>
   have H := HA.out
   clear HA
   simp only [refusal_right.j0] at H
   by_cases c14 : x19_4 = true
   ·subst c14
    have H1 : (some false) = some r := by rw [if_pos rfl] at H; exact H
    clear H
    have H := H1
    clear H1
    obtain rfl := Option.some.inj H
    go_wp2
    repeat (go_quiet (fail); try go_wp2)
    go_ret
    exact ⟨fin_, bls_⟩
   ·replace c14 := Bool.eq_false_iff.mpr c14
    subst c14
    have H1 : ((refusal_leasts.f kj4 l1 l2 l3_0 a3_1 a3_2 a3_3).bind fun t177 => (refusal_right.l0 kj4 0 t177 (t177.length : Int) 0 l0_0 l0_1 l0_2 a0_3 a0_4 a0_5 l3_0 a3_1 a3_2 a3_3)) = some r := by rw [if_neg (show ¬ (false = true) by decide)] at H; exact H
    clear H
    have H := H1
    clear H1
    replace H := Option.bind_eq_some_iff.mp H
    obtain ⟨t177, A150, H⟩ := H
    replace H : (refusal_right.l0 kj4 0 t177 (t177.length : Int) 0 l0_0 l0_1 l0_2 a0_3 a0_4 a0_5 l3_0 a3_1 a3_2 a3_3) = some r := H
    have A15 := Aside0.mk A150
    clear A150
    have H' := Aside0.mk H
    clear H
    have hnb16 := NB176_175.out
    have hnc16 := NB175_176.out
    obtain ⟨hcz17_0, hcz17_1, hcz17_2, hcz17_3⟩ := bc4_ BK176
    obtain ⟨hfz17_0, hfz17_1, hfz17_2, hfz17_3⟩ := bf4_ BK176
    go_wp2_with (first | (go_at_call 63; (with_reducible refine (refusal_leasts.calls kj4 _ _ l1 _ _ l2 _ _ l3_0 a3_1 a3_2 a3_3 t177 _ ?side1 ?side2 ?side3 ?side4 ?side5 ?side6 A15.out).mono ?_); (case side1 => exact kc_ HR1); (case side2 => exact HC1.out); (case side3 => exact kc_ HR2); (case side4 => exact HC2.out); (case side5 => exact kc_ HR3_0); (case side6 => exact HC3_0.out); rintro e w18 ⟨v178, rfl, ho0, hb⟩; have n0_ := Aside0.mk (Kd.R_lower ho0 (below_size bls_)); have n1_ := Aside0.mk (blk_below (bkt_ BK175) hb); have n2_ := Aside0.mk (blk_below (bkt_ BK176) hb); have n3_ := Aside0.mk (below_step bls_ hb); clear BK175; clear BK176; clear HB; have HO179 := n0_; have BK175 := n1_; have BK176 := n2_; have HB := n3_; clear n0_ n1_ n2_ n3_; (try clear hb); (try clear hb2); (try clear hk); (try clear hi); (try clear ho0); obtain ⟨Ao19, co19, eo19⟩ := Kd.R_slice HO179.out; subst eo19))
    repeat (go_quiet (first | (go_at_call 63; (with_reducible refine (refusal_leasts.calls kj4 _ _ l1 _ _ l2 _ _ l3_0 a3_1 a3_2 a3_3 t177 _ ?side1 ?side2 ?side3 ?side4 ?side5 ?side6 A15.out).mono ?_); (case side1 => exact kc_ HR1); (case side2 => exact HC1.out); (case side3 => exact kc_ HR2); (case side4 => exact HC2.out); (case side5 => exact kc_ HR3_0); (case side6 => exact HC3_0.out); rintro e w18 ⟨v178, rfl, ho0, hb⟩; have n0_ := Aside0.mk (Kd.R_lower ho0 (below_size bls_)); have n1_ := Aside0.mk (blk_below (bkt_ BK175) hb); have n2_ := Aside0.mk (blk_below (bkt_ BK176) hb); have n3_ := Aside0.mk (below_step bls_ hb); clear BK175; clear BK176; clear HB; have HO179 := n0_; have BK175 := n1_; have BK176 := n2_; have HB := n3_; clear n0_ n1_ n2_ n3_; (try clear hb); (try clear hb2); (try clear hk); (try clear hi); (try clear ho0); obtain ⟨Ao19, co19, eo19⟩ := Kd.R_slice HO179.out; subst eo19)); try go_wp2_with (first | (go_at_call 63; (with_reducible refine (refusal_leasts.calls kj4 _ _ l1 _ _ l2 _ _ l3_0 a3_1 a3_2 a3_3 t177 _ ?side1 ?side2 ?side3 ?side4 ?side5 ?side6 A15.out).mono ?_); (case side1 => exact kc_ HR1); (case side2 => exact HC1.out); (case side3 => exact kc_ HR2); (case side4 => exact HC2.out); (case side5 => exact kc_ HR3_0); (case side6 => exact HC3_0.out); rintro e w18 ⟨v178, rfl, ho0, hb⟩; have n0_ := Aside0.mk (Kd.R_lower ho0 (below_size bls_)); have n1_ := Aside0.mk (blk_below (bkt_ BK175) hb); have n2_ := Aside0.mk (blk_below (bkt_ BK176) hb); have n3_ := Aside0.mk (below_step bls_ hb); clear BK175; clear BK176; clear HB; have HO179 := n0_; have BK175 := n1_; have BK176 := n2_; have HB := n3_; clear n0_ n1_ n2_ n3_; (try clear hb); (try clear hb2); (try clear hk); (try clear hi); (try clear ho0); obtain ⟨Ao19, co19, eo19⟩ := Kd.R_slice HO179.out; subst eo19)))
    go_loopg [9, 25] kj4 (fun kq v9 v25 w' => ∃ (x9_2 : Int) (x25_2 : Int), v9 = .int .i64 x9_2 ∧ v25 = .int .i64 x25_2 ∧ Aside0 (refusal_right.l0 kq x9_2 t177 (t177.length : Int) x25_2 l0_0 l0_1 l0_2 a0_3 a0_4 a0_5 l3_0 a3_1 a3_2 a3_3 = some r) ∧ Aside0 (kq ≤ kj4) ∧ Aside0 (Kd.R (Kd.int .i64) 3 w' w.heap.size (fun _ => True) (.slice Ao19 t177.length co19) t177) ∧ Aside0 (w'.heap[gb175]? = some (.cells #[(.slice A0_0 l0_0.length c0_0), (.slice A0_1 l0_1.length c0_1), (.slice A0_2 l0_2.length c0_2), .int .i64 a0_3, .int .i64 a0_4, .int .i64 a0_5] 26 (0, 0))) ∧ Aside0 (w'.heap[gb176]? = some (.cells #[(.slice A3_0 l3_0.length c3_0), .int .i64 a3_1, .int .i64 a3_2, .int .i64 a3_3] 30 (0, 0))) ∧ Aside0 (Below w.heap.size w w'))
    case atStart => exact ⟨(0), (0), sm_, sm_, H', ⟨Nat.le_refl _⟩, ⟨by (with_reducible repeat (first | apply Kd.R_alloc | apply Kd.R_drewN | apply Kd.R_drew)); exact HO179.out⟩, ⟨bkt_ BK175⟩, ⟨bkt_ BK176⟩, ⟨bls_⟩⟩
    case round =>
     clear H'
     try clear c1
     try clear c2
     try clear p2
     try clear c3
     try clear c8
     try clear c8b0
     try clear c8b1
     try clear c9
     try clear c12
     try clear c14
     try clear c16
     try clear hcz10_0
     try clear hcz10_1
     try clear hcz10_2
     try clear hcz10_3
     try clear hcz11_0
     try clear hcz11_1
     try clear hcz11_2
     try clear hcz11_3
     try clear hcz11_4
     try clear hcz11_5
     try clear hcz13_0
     try clear hcz13_1
     try clear hcz13_2
     try clear hcz13_3
     try clear hcz17_0
     try clear hcz17_1
     try clear hcz17_2
     try clear hcz17_3
     try clear hfz10_0
     try clear hfz10_1
     try clear hfz10_2
     try clear hfz10_3
     try clear hfz11_0
     try clear hfz11_1
     try clear hfz11_2
     try clear hfz11_3
     try clear hfz11_4
     try clear hfz11_5
     try clear hfz13_0
     try clear hfz13_1
     try clear hfz13_2
     try clear hfz13_3
     try clear hfz17_0
     try clear hfz17_1
     try clear hfz17_2
     try clear hfz17_3
     try clear p2
     obtain ⟨x9_2, x25_2, rfl, rfl, HA, HK2, HO_23, BK175, BK176, HB⟩ := hrel
     cases gk with
     | zero => exact absurd HA.out (by simp [refusal_right.l0])
     | succ k2 =>
      have H := HA.out
      clear HA
      simp only [refusal_right.l0] at H
      by_cases c20 : x25_2 < (t177.length : Int)
      ·rw [if_pos c20] at H
       have c20b0 : decide (x25_2 < (t177.length : Int)) = true := decide_eq_true c20
       clear c20
       by_cases c21 : 0 ≤ x25_2
       ·rw [if_pos c21] at H
        have c21b0 : decide (0 ≤ x25_2) = true := decide_eq_true c21
        clear c21
        by_cases c22 : x25_2 < (t177.length : Int)
        ·rw [if_pos c22] at H
         have c22b0 : decide (x25_2 < (t177.length : Int)) = true := decide_eq_true c22
         clear c22
         by_cases c23 : x25_2 < (l3_0.length : Int)
         ·rw [if_pos c23] at H
          have c23b0 : decide (x25_2 < (l3_0.length : Int)) = true := decide_eq_true c23
          clear c23
          by_cases c24 : (rd l3_0 x25_2) < (rd t177 x25_2)
          ·rw [if_pos c24] at H
           have c24b0 : decide ((rd l3_0 x25_2) < (rd t177 x25_2)) = true := decide_eq_true c24
           clear c24
           obtain rfl := Option.some.inj H
           have p180 : 0 ≤ (x25_2 : Int) := of_decide_eq_true as_
           have q180 : x25_2 < (t177.length : Int) := of_decide_eq_true as_
           obtain ⟨ad180, e180, hx180_0⟩ := Kd.at_int (Kd.R_reads' HO_23.out).2.2 x25_2 p180 q180
           cases e180
           replace p180 := eq_true p180
           replace q180 := eq_true q180
           have hnb25 := NB176_175.out
           have hnc25 := NB175_176.out
           obtain ⟨hcz26_0, hcz26_1, hcz26_2, hcz26_3⟩ := bc4_ BK176
           obtain ⟨hfz26_0, hfz26_1, hfz26_2, hfz26_3⟩ := bf4_ BK176
           have p181 : 0 ≤ (x25_2 : Int) := of_decide_eq_true as_
           have q181 : x25_2 < (l3_0.length : Int) := of_decide_eq_true as_
           obtain ⟨ad181, e181, hx181_0⟩ := Kd.at_int HR3_0.out x25_2 p181 q181
           cases e181
           replace hx181_0 := (HB.out.cell (World.block_lt_of_cell? w _ hx181_0)).trans hx181_0
           replace p181 := eq_true p181
           replace q181 := eq_true q181
           go_wp2
           repeat (go_quiet (fail); try go_wp2)
           go_ret
           exact ⟨fin_, bls_⟩
          ·rw [if_neg c24] at H
           have c24b0 : decide ((rd l3_0 x25_2) < (rd t177 x25_2)) = false := decide_eq_false c24
           clear c24
           by_cases c27 : x25_2 < (l0_1.length : Int)
           ·rw [if_pos c27] at H
            have c27b0 : decide (x25_2 < (l0_1.length : Int)) = true := decide_eq_true c27
            clear c27
            have H' := Aside0.mk H
            clear H
            have p180 : 0 ≤ (x25_2 : Int) := of_decide_eq_true as_
            have q180 : x25_2 < (t177.length : Int) := of_decide_eq_true as_
            obtain ⟨ad180, e180, hx180_0⟩ := Kd.at_int (Kd.R_reads' HO_23.out).2.2 x25_2 p180 q180
            cases e180
            replace p180 := eq_true p180
            replace q180 := eq_true q180
            have hnb28 := NB176_175.out
            have hnc28 := NB175_176.out
            obtain ⟨hcz29_0, hcz29_1, hcz29_2, hcz29_3⟩ := bc4_ BK176
            obtain ⟨hfz29_0, hfz29_1, hfz29_2, hfz29_3⟩ := bf4_ BK176
            have p181 : 0 ≤ (x25_2 : Int) := of_decide_eq_true as_
            have q181 : x25_2 < (l3_0.length : Int) := of_decide_eq_true as_
            obtain ⟨ad181, e181, hx181_0⟩ := Kd.at_int HR3_0.out x25_2 p181 q181
            cases e181
            replace hx181_0 := (HB.out.cell (World.block_lt_of_cell? w _ hx181_0)).trans hx181_0
            replace p181 := eq_true p181
            replace q181 := eq_true q181
            have p182 : 0 ≤ (x25_2 : Int) := of_decide_eq_true as_
            have q182 : x25_2 < (l3_0.length : Int) := of_decide_eq_true as_
            obtain ⟨ad182, e182, hx182_0⟩ := Kd.at_int HR3_0.out x25_2 p182 q182
            obtain rfl : ad181 = ad182 := (by injection e182)
            replace hx182_0 := (HB.out.cell (World.block_lt_of_cell? w _ hx182_0)).trans hx182_0
            replace p182 := eq_true p182
            replace q182 := eq_true q182
            obtain ⟨hcz30_0, hcz30_1, hcz30_2, hcz30_3, hcz30_4, hcz30_5⟩ := bc6_ BK175
            obtain ⟨hfz30_0, hfz30_1, hfz30_2, hfz30_3, hfz30_4, hfz30_5⟩ := bf6_ BK175
            have p183 : 0 ≤ (x25_2 : Int) := of_decide_eq_true as_
            have q183 : x25_2 < (l0_1.length : Int) := of_decide_eq_true as_
            obtain ⟨ad183, e183, hx183_0⟩ := Kd.at_int HR0_1.out x25_2 p183 q183
            cases e183
            replace hx183_0 := (HB.out.cell (World.block_lt_of_cell? w _ hx183_0)).trans hx183_0
            replace p183 := eq_true p183
            replace q183 := eq_true q183
            go_wp2
            repeat (go_quiet (fail); try go_wp2)
            go_roundg k2
            case measure => have := HJ4.out; have := HK2.out; omega
            case rel => exact ⟨(wrap64 (x9_2 + (wrap64 ((rd l3_0 x25_2) * (rd l0_1 x25_2))))), (wrap64 (x25_2 + 1)), sm_, sm_, H', ⟨by have := HJ4.out; have := HK2.out; omega⟩, ⟨by (with_reducible repeat (first | apply Kd.R_alloc | apply Kd.R_drewN | apply Kd.R_drew)); exact HO_23.out⟩, ⟨bkt_ BK175⟩, ⟨bkt_ BK176⟩, ⟨bls_⟩⟩
           ·rw [if_neg c27] at H
            exact absurd H (by simp)
         ·rw [if_neg c23] at H
          exact absurd H (by simp)
        ·rw [if_neg c22] at H
         exact absurd H (by simp)
       ·rw [if_neg c21] at H
        exact absurd H (by simp)
      ·rw [if_neg c20] at H
       have c20b0 : decide (x25_2 < (t177.length : Int)) = false := decide_eq_false c20
       clear c20
       obtain rfl := Option.some.inj H
       have hnb31 := NB176_175.out
       have hnc31 := NB175_176.out
       obtain ⟨hcz32_0, hcz32_1, hcz32_2, hcz32_3⟩ := bc4_ BK176
       obtain ⟨hfz32_0, hfz32_1, hfz32_2, hfz32_3⟩ := bf4_ BK176
       obtain ⟨hcz33_0, hcz33_1, hcz33_2, hcz33_3, hcz33_4, hcz33_5⟩ := bc6_ BK175
       obtain ⟨hfz33_0, hfz33_1, hfz33_2, hfz33_3, hfz33_4, hfz33_5⟩ := bf6_ BK175
       go_wp2
       repeat (go_quiet (fail); try go_wp2)
       go_ret
       exact ⟨fin_, bls_⟩
end Go.Proofs.YtcdkbciagchlgaaDoor.PF
