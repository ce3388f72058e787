-- Written by a program of this session (wip/pr.py) out of Lean's print of the translation; Lean checks it.
import Derived.Test.YtcdkbciagchlgaaDoorPF0
import Derived.Test.YtcdkbciagchlgaaDoorPF1
import Derived.Test.YtcdkbciagchlgaaDoorPF3
namespace Go.Proofs.YtcdkbciagchlgaaDoor.PF
open Go.RowKit Go.Proofs.YtcdkbciagchlgaaDoorW.PrintWords Go.Proofs.YtcdkbciagchlgaaDoorW.PrintLast Go.Proofs.YtcdkbciagchlgaaDoorW.PrintMore
attribute [local go_sem] max2_int min2_int max_two min_two max_three min_three max_four min_four   -- for this text's walks alone
set_option linter.unusedVariables false
set_option linter.unusedSimpArgs false

/-! ### spileref29_sizes: function 59 -/
def spileref29_sizes.f (l0_0 : List (S45)) (l0_1 : List Int) (l0_2 : List Int) (a0_3 : Int) (a0_4 : Int) (a0_5 : Int) : Option (Int) := if (l0_0.length : Int) = 0 then (some 9) else (if (l0_0.length : Int) > 4 then (some 8) else (if (l0_1.length : Int) = (l0_0.length : Int) then (if (l0_2.length : Int) = (l0_0.length : Int) then (some 0) else (some 10)) else (some 10)))
set_option maxHeartbeats 8000000 in
set_option maxRecDepth 100000 in
theorem spileref29_sizes.calls (A0_0 : Option Addr) (c0_0 : Nat) (l0_0 : List (S45)) (A0_1 : Option Addr) (c0_1 : Nat) (l0_1 : List Int) (A0_2 : Option Addr) (c0_2 : Nat) (l0_2 : List Int) (a0_3 : Int) (a0_4 : Int) (a0_5 : Int) (r : Int) (w : World) (hr0_0 : Kd.C k45 w A0_0 l0_0.length l0_0) (hc0_0 : l0_0.length ≤ c0_0) (hr0_1 : Kd.C (Kd.int .i64) w A0_1 l0_1.length l0_1) (hc0_1 : l0_1.length ≤ c0_1) (hr0_2 : Kd.C (Kd.int .i64) w A0_2 l0_2.length l0_2) (hc0_2 : l0_2.length ≤ c0_2) (h : spileref29_sizes.f l0_0 l0_1 l0_2 a0_3 a0_4 a0_5 = some r) :
  Calls Tryd.prog 59 #[.agg #[.slice A0_0 l0_0.length c0_0, .slice A0_1 l0_1.length c0_1, .slice A0_2 l0_2.length c0_2, .int .i64 a0_3, .int .i64 a0_4, .int .i64 a0_5]] w fun e w' => e = .returned (.int .i64 r) ∧ Below w.heap.size w w' := by
 have hu26 := Tryd.underlying26
 have HR0_0 := Aside0.mk hr0_0
 have HC0_0 := Aside0.mk hc0_0
 clear hr0_0 hc0_0
 have HR0_1 := Aside0.mk hr0_1
 have HC0_1 := Aside0.mk hc0_1
 clear hr0_1 hc0_1
 have HR0_2 := Aside0.mk hr0_2
 have HC0_2 := Aside0.mk hc0_2
 clear hr0_2 hc0_2
 have HB := Aside0.mk (Below.refl w.heap.size w)
 have H : (if (l0_0.length : Int) = 0 then (some 9) else (if (l0_0.length : Int) > 4 then (some 8) else (if (l0_1.length : Int) = (l0_0.length : Int) then (if (l0_2.length : Int) = (l0_0.length : Int) then (some 0) else (some 10)) else (some 10)))) = some r := h
 clear h
 by_cases c2 : (l0_0.length : Int) = 0
 ·rw [if_pos c2] at H
  have c2b0 : ((l0_0.length : Int) == 0) = true := beq_iff_eq.mpr c2
  have c2b1 : ((l0_0.length : Int) != 0) = false := bne_eq_false_iff_eq.mpr c2
  clear c2
  obtain rfl := Option.some.inj H
  go_enter Tryd.func59, Tryd.ntmps59
  go_wp2_with (first | ((with_reducible refine gate_dst (N := 1) rfl ?_); (try (refine gate_guard (by rfl) ?_; dsimp only)); refine be_ (N := 1) (cs := #[.slice A0_0 l0_0.length c0_0, .slice A0_1 l0_1.length c0_1, .slice A0_2 l0_2.length c0_2, .int .i64 a0_3, .int .i64 a0_4, .int .i64 a0_5]) (t := 26) ?_; intro gb225 hg w3 hbox hb; have n0_ := Aside0.mk (below_step bl_ hb); have n1_ := Aside0.mk (hbox); have n2_ := Aside0.mk ((by rw [hg]; exact (below_size bl_) : w.heap.size ≤ gb225)); have n3_ := Aside0.mk ((by rw [hg]; exact (below_size bl_) : w.heap.size ≤ gb225)); clear HB; have HB := n0_; have BK225 := n1_; have GW225 := n2_; have GE225 := n3_; clear n0_ n1_ n2_ n3_; clear hb hbox hg; obtain ⟨hcz4_0, hcz4_1, hcz4_2, hcz4_3, hcz4_4, hcz4_5⟩ := bc6_ BK225; obtain ⟨hfz4_0, hfz4_1, hfz4_2, hfz4_3, hfz4_4⟩ := bf5_ BK225; have hfz4_5 := blk_frozen BK225.out 5))
  go_ret
  exact ⟨fin_, bls_⟩
 ·rw [if_neg c2] at H
  have c2b0 : ((l0_0.length : Int) == 0) = false := beq_eq_false_iff_ne.mpr c2
  have c2b1 : ((l0_0.length : Int) != 0) = true := bne_iff_ne.mpr c2
  have c2b2 : ¬ (l0_0 = []) := fun h_ => c2 (by rw [h_]; rfl)
  by_cases c5 : (l0_0.length : Int) > 4
  ·rw [if_pos c5] at H
   have c5b0 : decide (4 < (l0_0.length : Int)) = true := decide_eq_true c5
   have c5b1 : decide (4 < l0_0.length) = true := decide_eq_true (by omega)
   clear c5
   obtain rfl := Option.some.inj H
   go_enter Tryd.func59, Tryd.ntmps59
   go_wp2_with (first | ((with_reducible refine gate_dst (N := 1) rfl ?_); (try (refine gate_guard (by rfl) ?_; dsimp only)); refine be_ (N := 1) (cs := #[.slice A0_0 l0_0.length c0_0, .slice A0_1 l0_1.length c0_1, .slice A0_2 l0_2.length c0_2, .int .i64 a0_3, .int .i64 a0_4, .int .i64 a0_5]) (t := 26) ?_; intro gb225 hg w6 hbox hb; have n0_ := Aside0.mk (below_step bl_ hb); have n1_ := Aside0.mk (hbox); have n2_ := Aside0.mk ((by rw [hg]; exact (below_size bl_) : w.heap.size ≤ gb225)); have n3_ := Aside0.mk ((by rw [hg]; exact (below_size bl_) : w.heap.size ≤ gb225)); clear HB; have HB := n0_; have BK225 := n1_; have GW225 := n2_; have GE225 := n3_; clear n0_ n1_ n2_ n3_; clear hb hbox hg; obtain ⟨hcz7_0, hcz7_1, hcz7_2, hcz7_3, hcz7_4, hcz7_5⟩ := bc6_ BK225; obtain ⟨hfz7_0, hfz7_1, hfz7_2, hfz7_3, hfz7_4⟩ := bf5_ BK225; have hfz7_5 := blk_frozen BK225.out 5))
   go_ret
   exact ⟨fin_, bls_⟩
  ·rw [if_neg c5] at H
   have c5b0 : decide (4 < (l0_0.length : Int)) = false := decide_eq_false c5
   have c5b1 : decide (4 < l0_0.length) = false := decide_eq_false (by omega)
   clear c5
   by_cases c8 : (l0_1.length : Int) = (l0_0.length : Int)
   ·rw [if_pos c8] at H
    have c8b0 : ((l0_1.length : Int) == (l0_0.length : Int)) = true := beq_iff_eq.mpr c8
    have c8b1 : ((l0_1.length : Int) != (l0_0.length : Int)) = false := bne_eq_false_iff_eq.mpr c8
    have c8b2 : (l0_1.length == l0_0.length) = true := by first | simpa using c8 | (simp at c8 ⊢; omega)
    clear c8
    by_cases c9 : (l0_2.length : Int) = (l0_0.length : Int)
    ·rw [if_pos c9] at H
     have c9b0 : ((l0_2.length : Int) == (l0_0.length : Int)) = true := beq_iff_eq.mpr c9
     have c9b1 : ((l0_2.length : Int) != (l0_0.length : Int)) = false := bne_eq_false_iff_eq.mpr c9
     have c9b2 : (l0_2.length == l0_0.length) = true := by first | simpa using c9 | (simp at c9 ⊢; omega)
     clear c9
     obtain rfl := Option.some.inj H
     go_enter Tryd.func59, Tryd.ntmps59
     go_wp2_with (first | ((with_reducible refine gate_dst (N := 1) rfl ?_); (try (refine gate_guard (by rfl) ?_; dsimp only)); refine be_ (N := 1) (cs := #[.slice A0_0 l0_0.length c0_0, .slice A0_1 l0_1.length c0_1, .slice A0_2 l0_2.length c0_2, .int .i64 a0_3, .int .i64 a0_4, .int .i64 a0_5]) (t := 26) ?_; intro gb225 hg w10 hbox hb; have n0_ := Aside0.mk (below_step bl_ hb); have n1_ := Aside0.mk (hbox); have n2_ := Aside0.mk ((by rw [hg]; exact (below_size bl_) : w.heap.size ≤ gb225)); have n3_ := Aside0.mk ((by rw [hg]; exact (below_size bl_) : w.heap.size ≤ gb225)); clear HB; have HB := n0_; have BK225 := n1_; have GW225 := n2_; have GE225 := n3_; clear n0_ n1_ n2_ n3_; clear hb hbox hg; obtain ⟨hcz11_0, hcz11_1, hcz11_2, hcz11_3, hcz11_4, hcz11_5⟩ := bc6_ BK225; obtain ⟨hfz11_0, hfz11_1, hfz11_2, hfz11_3, hfz11_4⟩ := bf5_ BK225; have hfz11_5 := blk_frozen BK225.out 5))
     go_ret
     exact ⟨fin_, bls_⟩
    ·rw [if_neg c9] at H
     have c9b0 : ((l0_2.length : Int) == (l0_0.length : Int)) = false := beq_eq_false_iff_ne.mpr c9
     have c9b1 : ((l0_2.length : Int) != (l0_0.length : Int)) = true := bne_iff_ne.mpr c9
     have c9b2 : (l0_2.length == l0_0.length) = false := by first | simpa using c9 | (simp at c9 ⊢; omega)
     obtain rfl := Option.some.inj H
     go_enter Tryd.func59, Tryd.ntmps59
     go_wp2_with (first | ((with_reducible refine gate_dst (N := 1) rfl ?_); (try (refine gate_guard (by rfl) ?_; dsimp only)); refine be_ (N := 1) (cs := #[.slice A0_0 l0_0.length c0_0, .slice A0_1 l0_1.length c0_1, .slice A0_2 l0_2.length c0_2, .int .i64 a0_3, .int .i64 a0_4, .int .i64 a0_5]) (t := 26) ?_; intro gb225 hg w12 hbox hb; have n0_ := Aside0.mk (below_step bl_ hb); have n1_ := Aside0.mk (hbox); have n2_ := Aside0.mk ((by rw [hg]; exact (below_size bl_) : w.heap.size ≤ gb225)); have n3_ := Aside0.mk ((by rw [hg]; exact (below_size bl_) : w.heap.size ≤ gb225)); clear HB; have HB := n0_; have BK225 := n1_; have GW225 := n2_; have GE225 := n3_; clear n0_ n1_ n2_ n3_; clear hb hbox hg; obtain ⟨hcz13_0, hcz13_1, hcz13_2, hcz13_3, hcz13_4, hcz13_5⟩ := bc6_ BK225; obtain ⟨hfz13_0, hfz13_1, hfz13_2, hfz13_3, hfz13_4⟩ := bf5_ BK225; have hfz13_5 := blk_frozen BK225.out 5))
     go_ret
     exact ⟨fin_, bls_⟩
   ·rw [if_neg c8] at H
    have c8b0 : ((l0_1.length : Int) == (l0_0.length : Int)) = false := beq_eq_false_iff_ne.mpr c8
    have c8b1 : ((l0_1.length : Int) != (l0_0.length : Int)) = true := bne_iff_ne.mpr c8
    have c8b2 : (l0_1.length == l0_0.length) = false := by first | simpa using c8 | (simp at c8 ⊢; omega)
    obtain rfl := Option.some.inj H
    go_enter Tryd.func59, Tryd.ntmps59
    go_wp2_with (first | ((with_reducible refine gate_dst (N := 1) rfl ?_); (try (refine gate_guard (by rfl) ?_; dsimp only)); refine be_ (N := 1) (cs := #[.slice A0_0 l0_0.length c0_0, .slice A0_1 l0_1.length c0_1, .slice A0_2 l0_2.length c0_2, .int .i64 a0_3, .int .i64 a0_4, .int .i64 a0_5]) (t := 26) ?_; intro gb225 hg w14 hbox hb; have n0_ := Aside0.mk (below_step bl_ hb); have n1_ := Aside0.mk (hbox); have n2_ := Aside0.mk ((by rw [hg]; exact (below_size bl_) : w.heap.size ≤ gb225)); have n3_ := Aside0.mk ((by rw [hg]; exact (below_size bl_) : w.heap.size ≤ gb225)); clear HB; have HB := n0_; have BK225 := n1_; have GW225 := n2_; have GE225 := n3_; clear n0_ n1_ n2_ n3_; clear hb hbox hg; obtain ⟨hcz15_0, hcz15_1, hcz15_2, hcz15_3, hcz15_4, hcz15_5⟩ := bc6_ BK225; obtain ⟨hfz15_0, hfz15_1, hfz15_2, hfz15_3, hfz15_4⟩ := bf5_ BK225; have hfz15_5 := blk_frozen BK225.out 5))
    go_ret
    exact ⟨fin_, bls_⟩

/-! ### spileref16_At: function 85 -/
def spileref16_At.l0 : Nat → List (S82) → Int → Int → Int → Option (Int)
 | 0, _, _, _, _ => none
 | k + 1, x0, x1, x5, x6 => if x6 < (x0.length : Int) then (if 0 ≤ x6 then (if ((rd_T82 x0 x6).f0) ≤ x1 then (spileref16_At.l0 k x0 x1 x6 (wrap64 (x6 + 1))) else (spileref16_At.l0 k x0 x1 x5 (wrap64 (x6 + 1)))) else (none)) else (some x5)
def spileref16_At.f (k : Nat) (l0 : List (S82)) (a1 : Int) : Option (Int) := spileref16_At.l0 k l0 a1 0 0
theorem spileref16_At.mono_l : ∀ k, (∀ y0 y1 y2 y3, LeO (spileref16_At.l0 k y0 y1 y2 y3) (spileref16_At.l0 (k + 1) y0 y1 y2 y3))
 | 0 => fun _ _ _ _ r h => by simp [spileref16_At.l0] at h
 | k + 1 => by
  have ih0 := spileref16_At.mono_l k
  ·intro y0 y1 y2 y3
   unfold spileref16_At.l0
   repeat' first
   | (with_reducible exact ih0 _ _ _ _)
   | (with_reducible exact LeO.refl _)
   | (with_reducible exact LeO.none _)
   | (with_reducible refine LeO.ite ?_ ?_)
   | (with_reducible refine LeO.bind ?_ (fun _ => ?_))
   | exact ih0 _ _ _ _
   | exact LeO.none _
   | refine LeO.ite ?_ ?_
   | refine LeO.bind ?_ (fun _ => ?_)
theorem spileref16_At.mono : ∀ a0 a1 k, LeO (spileref16_At.f k a0 a1) (spileref16_At.f (k + 1) a0 a1) := by
 intro a0 a1 k
 have ih0 := spileref16_At.mono_l k
 unfold spileref16_At.f
 repeat' first
   | (with_reducible exact ih0 _ _ _ _)
   | (with_reducible exact LeO.refl _)
   | (with_reducible exact LeO.none _)
   | (with_reducible refine LeO.ite ?_ ?_)
   | (with_reducible refine LeO.bind ?_ (fun _ => ?_))
   | exact ih0 _ _ _ _
   | exact LeO.none _
   | refine LeO.ite ?_ ?_
   | refine LeO.bind ?_ (fun _ => ?_)
set_option maxHeartbeats 8000000 in
set_option maxRecDepth 100000 in
theorem spileref16_At.calls (k : Nat) (A0 : Option Addr) (c0 : Nat) (l0 : List (S82)) (a1 : Int) (r : Int) (w : World) (hr0 : Kd.C k82 w A0 l0.length l0) (hc0 : l0.length ≤ c0) (h : spileref16_At.f k l0 a1 = some r) :
  Calls Tryd.prog 85 #[.slice A0 l0.length c0, .int .i64 a1] w fun e w' => e = .returned (.int .i64 r) ∧ Drawn0 w w' := by
 have HR0 := Aside0.mk hr0
 have HC0 := Aside0.mk hc0
 clear hr0 hc0
 have H : (spileref16_At.l0 k l0 a1 0 0) = some r := h
 clear h
 have H' := Aside0.mk H
 clear H
 go_enter Tryd.func85, Tryd.ntmps85
 go_wp2
 go_loopg [5, 6] k (fun kq v5 v6 w' => ∃ (x5_1 : Int) (x6_1 : Int), v5 = .int .i64 x5_1 ∧ v6 = .int .i64 x6_1 ∧ Aside0 (spileref16_At.l0 kq l0 a1 x5_1 x6_1 = some r) ∧ Aside0 (kq ≤ k) ∧ Drawn0 w w')
 case atStart => exact ⟨(0), (0), sm_, sm_, H', ⟨Nat.le_refl _⟩, by repeat (first | exact Drawn0.refl _ | apply Drawn0.step)⟩
 case round =>
  clear H'
  try clear p2
  obtain ⟨x5_1, x6_1, rfl, rfl, HA, HK1, ⟨m1, rfl⟩⟩ := hrel
  cases gk with
  | zero => exact absurd HA.out (by simp [spileref16_At.l0])
  | succ k1 =>
   have H := HA.out
   clear HA
   simp only [spileref16_At.l0] at H
   by_cases c3 : x6_1 < (l0.length : Int)
   ·rw [if_pos c3] at H
    have c3b0 : decide (x6_1 < (l0.length : Int)) = true := decide_eq_true c3
    clear c3
    by_cases c4 : 0 ≤ x6_1
    ·rw [if_pos c4] at H
     have c4b0 : decide (0 ≤ x6_1) = true := decide_eq_true c4
     clear c4
     by_cases c5 : ((rd_T82 l0 x6_1).f0) ≤ a1
     ·rw [if_pos c5] at H
      have c5b0 : decide (((rd_T82 l0 x6_1).f0) ≤ a1) = true := decide_eq_true c5
      clear c5
      have H' := Aside0.mk H
      clear H
      have p226 : 0 ≤ (x6_1 : Int) := of_decide_eq_true as_
      have q226 : x6_1 < (l0.length : Int) := of_decide_eq_true as_
      obtain ⟨ad226, e226, hx226_0, hx226_1⟩ := at_T82 HR0.out x6_1 p226 q226
      cases e226
      replace p226 := eq_true p226
      replace q226 := eq_true q226
      go_wp2
      go_roundg k1
      case measure => have := HK1.out; omega
      case rel => exact ⟨(x6_1), (wrap64 (x6_1 + 1)), sm_, sm_, H', ⟨by have := HK1.out; omega⟩, by repeat (first | exact Drawn0.refl _ | apply Drawn0.step)⟩
     ·rw [if_neg c5] at H
      have c5b0 : decide (((rd_T82 l0 x6_1).f0) ≤ a1) = false := decide_eq_false c5
      clear c5
      have H' := Aside0.mk H
      clear H
      have p226 : 0 ≤ (x6_1 : Int) := of_decide_eq_true as_
      have q226 : x6_1 < (l0.length : Int) := of_decide_eq_true as_
      obtain ⟨ad226, e226, hx226_0, hx226_1⟩ := at_T82 HR0.out x6_1 p226 q226
      cases e226
      replace p226 := eq_true p226
      replace q226 := eq_true q226
      go_wp2
      go_roundg k1
      case measure => have := HK1.out; omega
      case rel => exact ⟨(x5_1), (wrap64 (x6_1 + 1)), sm_, sm_, H', ⟨by have := HK1.out; omega⟩, by repeat (first | exact Drawn0.refl _ | apply Drawn0.step)⟩
    ·rw [if_neg c4] at H
     exact absurd H (by simp)
   ·rw [if_neg c3] at H
    have c3b0 : decide (x6_1 < (l0.length : Int)) = false := decide_eq_false c3
    clear c3
    obtain rfl := Option.some.inj H
    go_wp2
    go_ret
    exact ⟨by first | rfl | (simp; done) | (simp [*]; done), by repeat (first | exact Drawn0.refl _ | apply Drawn0.step)⟩
-- MAKING
/-- The index of the last row that is not stronger, or 0. -/
def lastLe (l : List S82) (s : Int) : Nat → Nat → Nat → Nat
  | 0, _, at_ => at_
  | d + 1, i, at_ => lastLe l s d (i + 1) (if (rd_T82 l i).f0 ≤ s then i else at_)
theorem spileref16_At.loop_plain (l : List S82) (s : Int) (hl : l.length ≤ 9223372036854775807) (d : Nat) : ∀ (i at_ k : Nat), i + d = l.length → d + 1 ≤ k → spileref16_At.l0 k l s at_ i = some ((lastLe l s d i at_ : Nat) : Int) := by
  induction d with
  | zero =>
    intro i at_ k hi hk
    obtain ⟨k, rfl⟩ : ∃ m, k = m + 1 := ⟨k - 1, by omega⟩
    simp only [spileref16_At.l0]
    rw [if_neg (by omega)]
    rfl
  | succ d ih =>
    intro i at_ k hi hk
    obtain ⟨k, rfl⟩ : ∃ m, k = m + 1 := ⟨k - 1, by omega⟩
    simp only [spileref16_At.l0]
    have e1 : wrap64 ((i : Int) + 1) = ((i + 1 : Nat) : Int) := by rw [w64_ (by omega) (by omega)]; omega
    rw [if_pos (by omega), if_pos (by omega), e1]
    simp only [lastLe]
    split
    · exact ih (i + 1) i k (by omega) (by omega)
    · exact ih (i + 1) at_ k (by omega) (by omega)
def spileref16_At_s.f (l0 : List S82) (a1 : Int) : Option Int := if l0.length ≤ 9223372036854775807 then some ((lastLe l0 a1 l0.length 0 0 : Nat) : Int) else none
theorem spileref16_At_s.calls (A0 : Option Addr) (c0 : Nat) (l0 : List S82) (a1 : Int) (r : Int) (w : World) (hr0 : Kd.C k82 w A0 l0.length l0) (hc0 : l0.length ≤ c0) (h : spileref16_At_s.f l0 a1 = some r) :
    Calls Tryd.prog 85 #[.slice A0 l0.length c0, .int .i64 a1] w fun e w' => e = .returned (.int .i64 r) ∧ Below w.heap.size w w' := by
  unfold spileref16_At_s.f at h
  by_cases hl : l0.length ≤ 9223372036854775807
  · rw [if_pos hl] at h
    exact (spileref16_At.calls (l0.length + 1) A0 c0 l0 a1 r w hr0 hc0 ((spileref16_At.loop_plain l0 a1 hl l0.length 0 0 (l0.length + 1) (by omega) (by omega)).trans h)).mono fun _ _ ⟨h1, h2⟩ => ⟨h1, h2.below⟩
  · rw [if_neg hl] at h; exact absurd h (by simp)
theorem lastLe_lt (l : List S82) (s : Int) (d : Nat) : ∀ (i at_ : Nat), at_ ≤ i → lastLe l s d i at_ < i + d + 1 := by
  induction d with
  | zero => intro i at_ h; simp only [lastLe]; omega
  | succ d ih =>
    intro i at_ h
    simp only [lastLe]
    split
    · have := ih (i + 1) i (by omega); omega
    · have := ih (i + 1) at_ (by omega); omega
theorem RightT.lastLe_spec {l : List S82} (h : RightT l) (s : Int) (d : Nat) : ∀ (i at_ : Nat), i + d = l.length → at_ < l.length → (rd_T82 l at_).f0 ≤ s → at_ ≤ i → (∀ j, at_ < j → j < i → s < (rd_T82 l j).f0) →
    (lastLe l s d i at_ < l.length ∧ (rd_T82 l (lastLe l s d i at_ : Nat)).f0 ≤ s ∧ ∀ j, lastLe l s d i at_ < j → j < l.length → s < (rd_T82 l j).f0) := by
  induction d with
  | zero => intro i at_ hi h1 h2 h3 h4; exact ⟨h1, h2, fun j h5 h6 => h4 j h5 (by omega)⟩
  | succ d ih =>
    intro i at_ hi h1 h2 h3 h4
    simp only [lastLe]
    by_cases hc : (rd_T82 l i).f0 ≤ s
    · rw [if_pos hc]
      exact ih (i + 1) i (by omega) (by omega) hc (by omega) (fun j h5 h6 => by omega)
    · rw [if_neg hc]
      refine ih (i + 1) at_ (by omega) h1 h2 (by omega) (fun j h5 h6 => ?_)
      rcases Nat.lt_or_ge j i with h7 | h7
      · exact h4 j h5 h7
      · obtain rfl : j = i := by omega
        omega
theorem RightT.at16 {l : List S82} (h : RightT l) {s : Int} (h0 : 0 ≤ s) : ∃ i : Nat, spileref16_At_s.f l s = some (i : Int) ∧ i < l.length ∧ (rd_T82 l i).f0 ≤ s ∧ ∀ j, i < j → j < l.length → s < (rd_T82 l j).f0 := by
  refine ⟨lastLe l s l.length 0 0, ?_, h.lastLe_spec s l.length 0 0 (by omega) (by have := h.lo; omega) (by have := h.first; simp only [Int.ofNat_zero, Int.natCast_zero] at *; omega) (Nat.le_refl _) (fun j _ h2 => by omega)⟩
  unfold spileref16_At_s.f
  rw [if_pos (by have := h.hi; omega)]

/-! ### spileref18_line: function 86 -/
def spileref18_line.f (a0_0 : Int) (a0_1 : Int) (a1_0 : Int) (a1_1 : Int) (a2 : Int) : Option (Int) := if (wrap64 (2 * (wrap64 (a1_0 - a0_0)))) = 0 then (none) else (some (wrap64 (Int.tdiv (wrap64 ((wrap64 (2 * (wrap64 ((wrap64 (a0_1 * (wrap64 (a1_0 - a0_0)))) + (wrap64 ((wrap64 (a1_1 - a0_1)) * (wrap64 (a2 - a0_0)))))))) + (wrap64 (a1_0 - a0_0)))) (wrap64 (2 * (wrap64 (a1_0 - a0_0)))))))
set_option maxHeartbeats 8000000 in
set_option maxRecDepth 100000 in
theorem spileref18_line.calls (a0_0 : Int) (a0_1 : Int) (a1_0 : Int) (a1_1 : Int) (a2 : Int) (r : Int) (w : World) (h : spileref18_line.f a0_0 a0_1 a1_0 a1_1 a2 = some r) :
  Calls Tryd.prog 86 #[.agg #[.int .i64 a0_0, .int .i64 a0_1], .agg #[.int .i64 a1_0, .int .i64 a1_1], .int .i64 a2] w fun e w' => e = .returned (.int .i64 r) ∧ Below w.heap.size w w' := by
 have hu82 := Tryd.underlying82
 have HB := Aside0.mk (Below.refl w.heap.size w)
 have H : (if (wrap64 (2 * (wrap64 (a1_0 - a0_0)))) = 0 then (none) else (some (wrap64 (Int.tdiv (wrap64 ((wrap64 (2 * (wrap64 ((wrap64 (a0_1 * (wrap64 (a1_0 - a0_0)))) + (wrap64 ((wrap64 (a1_1 - a0_1)) * (wrap64 (a2 - a0_0)))))))) + (wrap64 (a1_0 - a0_0)))) (wrap64 (2 * (wrap64 (a1_0 - a0_0)))))))) = some r := h
 clear h
 by_cases c4 : (wrap64 (2 * (wrap64 (a1_0 - a0_0)))) = 0
 ·rw [if_pos c4] at H
  exact absurd H (by simp)
 ·rw [if_neg c4] at H
  have c4b0 : ((wrap64 (2 * (wrap64 (a1_0 - a0_0)))) == 0) = false := beq_eq_false_iff_ne.mpr c4
  have c4b1 : ((wrap64 (2 * (wrap64 (a1_0 - a0_0)))) != 0) = true := bne_iff_ne.mpr c4
  obtain rfl := Option.some.inj H
  go_enter Tryd.func86, Tryd.ntmps86
  go_wp2_with (first | ((with_reducible refine gate_dst (N := 3) rfl ?_); refine be_ (N := 3) (cs := #[.int .i64 a0_0, .int .i64 a0_1]) (t := 82) ?_; intro gb227 hg w5 hbox hb; have n0_ := Aside0.mk (below_step bl_ hb); have n1_ := Aside0.mk (hbox); have n2_ := Aside0.mk ((by rw [hg]; exact (below_size bl_) : w.heap.size ≤ gb227)); have n3_ := Aside0.mk ((by rw [hg]; exact (below_size bl_) : w.heap.size ≤ gb227)); clear HB; have HB := n0_; have BK227 := n1_; have GW227 := n2_; have GE227 := n3_; clear n0_ n1_ n2_ n3_; clear hb hbox hg) | ((with_reducible refine gate_dst (N := 4) rfl ?_); refine be_ (N := 4) (cs := #[.int .i64 a1_0, .int .i64 a1_1]) (t := 82) ?_; intro gb228 hg w6 hbox hb; have n0_ := Aside0.mk (blk_below (bkt_ BK227) hb); have n1_ := Aside0.mk (below_step bls_ hb); have n2_ := Aside0.mk (hbox); have n3_ := Aside0.mk ((by rw [hg]; exact (below_size bls_) : w.heap.size ≤ gb228)); have n4_ := Aside0.mk ((by rw [hg]; exact (below_size bls_) : w.heap.size ≤ gb228)); have n5_ := Aside0.mk ((by rw [hg]; exact Nat.ne_of_lt (blk_lt (bkt_ BK227)) : gb227 ≠ gb228)); have n6_ := Aside0.mk ((by rw [hg]; exact Nat.ne_of_gt (blk_lt (bkt_ BK227)) : gb228 ≠ gb227)); clear BK227; clear HB; have BK227 := n0_; have HB := n1_; have BK228 := n2_; have GW228 := n3_; have GE228 := n4_; have NB227_228 := n5_; have NB228_227 := n6_; clear n0_ n1_ n2_ n3_ n4_ n5_ n6_; clear hb hbox hg; have hnb7 := NB228_227.out; have hnc7 := NB227_228.out; obtain ⟨hcz8_0, hcz8_1⟩ := bc2_ BK228; obtain ⟨hfz8_0, hfz8_1⟩ := bf2_ BK228; obtain ⟨hcz9_0, hcz9_1⟩ := bc2_ BK227; have hfz9_0 := blk_frozen BK227.out 0; have hfz9_1 := blk_frozen BK227.out 1))
  go_ret
  exact ⟨fin_, bls_⟩

/-! ### spileref18_At: function 77 -/
def spileref18_At.f (l0 : List (S82)) (a1 : Int) : Option (Int) := (spileref16_At_s.f l0 a1).bind fun t229 => (if 0 ≤ t229 then (if t229 < (l0.length : Int) then (if ((rd_T82 l0 t229).f0) = a1 then (some ((rd_T82 l0 t229).f1)) else (if 0 ≤ (wrap64 (t229 + 1)) then (if (wrap64 (t229 + 1)) < (l0.length : Int) then ((spileref18_line.f ((rd_T82 l0 t229).f0) ((rd_T82 l0 t229).f1) ((rd_T82 l0 (wrap64 (t229 + 1))).f0) ((rd_T82 l0 (wrap64 (t229 + 1))).f1) a1).bind fun t234 => (some t234)) else (none)) else (none))) else (none)) else (none))
def spileref18_At.T4 : Bool × List (List Nat × List Nat) := (true, [([], []), ([], []), ([0, 1], [0, 1]), ([2], [2]), ([], []), ([], []), ([5], [5]), ([4, 6], [4, 6]), ([7], [7]), ([], []), ([3, 8, 9], [3, 8, 9]), ([10, 10, 0, 1, 2, 3, 4, 5, 6, 7, 8, 9, 10], [10])])
def spileref18_At.B4 : List Nat := [0, 0, 3, 7, 0, 0, 32, 112, 240, 0, 1023, 2047]
theorem spileref18_At.tab4 : rtab .any (opsOf Tryd.f77 4) = spileref18_At.T4 := by kernel_rfl
theorem spileref18_At.bits4 : waitsOk spileref18_At.T4.2 spileref18_At.B4 = true := by kernel_rfl
set_option maxHeartbeats 8000000 in
set_option maxRecDepth 100000 in
theorem spileref18_At.calls (A0 : Option Addr) (c0 : Nat) (l0 : List (S82)) (a1 : Int) (r : Int) (w : World) (hr0 : Kd.C k82 w A0 l0.length l0) (hc0 : l0.length ≤ c0) (h : spileref18_At.f l0 a1 = some r) :
  Calls Tryd.prog 77 #[.slice A0 l0.length c0, .int .i64 a1] w fun e w' => e = .returned (.int .i64 r) ∧ Below w.heap.size w w' := by
 have hu82 := Tryd.underlying82
 have HR0 := Aside0.mk hr0
 have HC0 := Aside0.mk hc0
 clear hr0 hc0
 have HB := Aside0.mk (Below.refl w.heap.size w)
 have H : ((spileref16_At_s.f l0 a1).bind fun t229 => (if 0 ≤ t229 then (if t229 < (l0.length : Int) then (if ((rd_T82 l0 t229).f0) = a1 then (some ((rd_T82 l0 t229).f1)) else (if 0 ≤ (wrap64 (t229 + 1)) then (if (wrap64 (t229 + 1)) < (l0.length : Int) then ((spileref18_line.f ((rd_T82 l0 t229).f0) ((rd_T82 l0 t229).f1) ((rd_T82 l0 (wrap64 (t229 + 1))).f0) ((rd_T82 l0 (wrap64 (t229 + 1))).f1) a1).bind fun t234 => (some t234)) else (none)) else (none))) else (none)) else (none))) = some r := h
 clear h
 replace H := Option.bind_eq_some_iff.mp H
 obtain ⟨t229, A30, H⟩ := H
 replace H : (if 0 ≤ t229 then (if t229 < (l0.length : Int) then (if ((rd_T82 l0 t229).f0) = a1 then (some ((rd_T82 l0 t229).f1)) else (if 0 ≤ (wrap64 (t229 + 1)) then (if (wrap64 (t229 + 1)) < (l0.length : Int) then ((spileref18_line.f ((rd_T82 l0 t229).f0) ((rd_T82 l0 t229).f1) ((rd_T82 l0 (wrap64 (t229 + 1))).f0) ((rd_T82 l0 (wrap64 (t229 + 1))).f1) a1).bind fun t234 => (some t234)) else (none)) else (none))) else (none)) else (none)) = some r := H
 have A3 := Aside0.mk A30
 clear A30
 by_cases c4 : 0 ≤ t229
 ·rw [if_pos c4] at H
  have c4b0 : decide (0 ≤ t229) = true := decide_eq_true c4
  clear c4
  by_cases c5 : t229 < (l0.length : Int)
  ·rw [if_pos c5] at H
   have c5b0 : decide (t229 < (l0.length : Int)) = true := decide_eq_true c5
   clear c5
   by_cases c6 : ((rd_T82 l0 t229).f0) = a1
   ·rw [if_pos c6] at H
    have c6b0 : (((rd_T82 l0 t229).f0) == a1) = true := beq_iff_eq.mpr c6
    have c6b1 : (((rd_T82 l0 t229).f0) != a1) = false := bne_eq_false_iff_eq.mpr c6
    clear c6
    obtain rfl := Option.some.inj H
    go_enter Tryd.func77, Tryd.ntmps77
    go_wp2_with (first | ((with_reducible refine gate_callee (f := 85) rfl ?_); refine gl_ (some 8) Tryd.func85 #[.slice A0 l0.length c0, .int .i64 a1] ?_; (with_reducible refine (spileref16_At_s.calls _ _ l0 a1 t229 _ ?side1 ?side2 A3.out).mono ?_); (case side1 => repeat (first | exact HR0.out | (with_reducible refine Kd.C_alloc ?_ _) | (with_reducible refine Kd.C_drewN ?_ _) | (with_reducible refine Kd.C_drew ?_))); (case side2 => exact HC0.out); rintro e w7 ⟨rfl, hb⟩; refine ⟨_, rfl, ?_⟩; have n0_ := Aside0.mk (below_step bl_ hb); clear HB; have HB := n0_; clear n0_; (try clear hb); (try clear hb2); (try clear hk); (try clear hi); have p230 : 0 ≤ (t229 : Int) := of_decide_eq_true as_; have q230 : t229 < (l0.length : Int) := of_decide_eq_true as_; obtain ⟨ad230, e230, hx230_0, hx230_1⟩ := at_T82 HR0.out t229 p230 q230; cases e230; replace hx230_0 := (HB.out.cell (World.block_lt_of_cell? w _ hx230_0)).trans hx230_0; replace hx230_1 := (HB.out.cell (World.block_lt_of_cell? w _ hx230_1)).trans hx230_1; replace p230 := eq_true p230; replace q230 := eq_true q230; have p231 : 0 ≤ (t229 : Int) := of_decide_eq_true as_; have q231 : t229 < (l0.length : Int) := of_decide_eq_true as_; obtain ⟨ad231, e231, hx231_0, hx231_1⟩ := at_T82 HR0.out t229 p231 q231; obtain rfl : ad230 = ad231 := (by injection e231); replace hx231_0 := (HB.out.cell (World.block_lt_of_cell? w _ hx231_0)).trans hx231_0; replace hx231_1 := (HB.out.cell (World.block_lt_of_cell? w _ hx231_1)).trans hx231_1; replace p231 := eq_true p231; replace q231 := eq_true q231))
    go_ret
    exact ⟨fin_, bl_⟩
   ·rw [if_neg c6] at H
    have c6b0 : (((rd_T82 l0 t229).f0) == a1) = false := beq_eq_false_iff_ne.mpr c6
    have c6b1 : (((rd_T82 l0 t229).f0) != a1) = true := bne_iff_ne.mpr c6
    obtain ⟨ji8, hji8⟩ : ∃ j_ : Int, (wrap64 (t229 + 1)) = j_ := ⟨_, rfl⟩
    replace H : (if 0 ≤ (ji8) then (if (ji8) < (l0.length : Int) then ((spileref18_line.f ((rd_T82 l0 t229).f0) ((rd_T82 l0 t229).f1) ((rd_T82 l0 (ji8)).f0) ((rd_T82 l0 (ji8)).f1) a1).bind fun t234 => (some t234)) else (none)) else (none)) = some r := by first | (rw [hji8] at H; exact H) | (simp only [hji8] at H ⊢; exact H)
    (try rw [hji8] at A3)
    have hji8w : (IntKind.i64.wrap (t229 + 1)) = ji8 := (i64_w _).trans hji8
    by_cases c9 : 0 ≤ (ji8)
    ·rw [if_pos c9] at H
     have c9b0 : decide (0 ≤ (ji8)) = true := decide_eq_true c9
     clear c9
     by_cases c10 : (ji8) < (l0.length : Int)
     ·rw [if_pos c10] at H
      have c10b0 : decide ((ji8) < (l0.length : Int)) = true := decide_eq_true c10
      clear c10
      replace H := Option.bind_eq_some_iff.mp H
      obtain ⟨t234, A110, H⟩ := H
      replace H : (some t234) = some r := H
      have A11 := Aside0.mk A110
      clear A110
      obtain rfl := Option.some.inj H
      go_enter Tryd.func77, Tryd.ntmps77
      try go_wp2_with (first | ((with_reducible refine gate_callee (f := 85) rfl ?_); refine gl_ (some 8) Tryd.func85 #[.slice A0 l0.length c0, .int .i64 a1] ?_; (with_reducible refine (spileref16_At_s.calls _ _ l0 a1 t229 _ ?side1 ?side2 A3.out).mono ?_); (case side1 => repeat (first | exact HR0.out | (with_reducible refine Kd.C_alloc ?_ _) | (with_reducible refine Kd.C_drewN ?_ _) | (with_reducible refine Kd.C_drew ?_))); (case side2 => exact HC0.out); rintro e w12 ⟨rfl, hb⟩; refine ⟨_, rfl, ?_⟩; have n0_ := Aside0.mk (below_step bl_ hb); clear HB; have HB := n0_; clear n0_; (try clear hb); (try clear hb2); (try clear hk); (try clear hi); have p230 : 0 ≤ (t229 : Int) := of_decide_eq_true as_; have q230 : t229 < (l0.length : Int) := of_decide_eq_true as_; obtain ⟨ad230, e230, hx230_0, hx230_1⟩ := at_T82 HR0.out t229 p230 q230; cases e230; replace hx230_0 := (HB.out.cell (World.block_lt_of_cell? w _ hx230_0)).trans hx230_0; replace hx230_1 := (HB.out.cell (World.block_lt_of_cell? w _ hx230_1)).trans hx230_1; replace p230 := eq_true p230; replace q230 := eq_true q230))
      have n0_ := Aside0.mk (below_drew1 HB.out)
      clear HB
      have HB := n0_
      clear n0_
      have p232 : 0 ≤ (t229 : Int) := of_decide_eq_true as_
      have q232 : t229 < (l0.length : Int) := of_decide_eq_true as_
      obtain ⟨ad232, e232, hx232_0, hx232_1⟩ := at_T82 HR0.out t229 p232 q232
      have hw232_1 := hx232_1
      have hw232_0 := hx232_0
      obtain rfl : ad230 = ad232 := (by injection e232)
      replace hx232_0 := (HB.out.cell (World.block_lt_of_cell? w _ hx232_0)).trans hx232_0
      replace hx232_1 := (HB.out.cell (World.block_lt_of_cell? w _ hx232_1)).trans hx232_1
      replace p232 := eq_true p232
      replace q232 := eq_true q232
      have p233 : 0 ≤ ((ji8) : Int) := of_decide_eq_true as_
      have q233 : (ji8) < (l0.length : Int) := of_decide_eq_true as_
      obtain ⟨ad233, e233, hx233_0, hx233_1⟩ := at_T82 HR0.out (ji8) p233 q233
      have hw233_1 := hx233_1
      have hw233_0 := hx233_0
      obtain rfl : ad230 = ad233 := (by injection e233)
      replace hx233_0 := (HB.out.cell (World.block_lt_of_cell? w _ hx233_0)).trans hx233_0
      replace hx233_1 := (HB.out.cell (World.block_lt_of_cell? w _ hx233_1)).trans hx233_1
      replace p233 := eq_true p233
      replace q233 := eq_true q233
      refine start_ (n := 12) (S := fun w' => w'.cell? (ad230.add ((t229).toNat * 2)) = some (.int .i64 ((rd_T82 l0 t229).f0)) ∧ w'.cell? ⟨(ad230.add ((t229).toNat * 2)).block, (ad230.add ((t229).toNat * 2)).off + 1, none⟩ = some (.int .i64 ((rd_T82 l0 t229).f1)) ∧ w'.cell? (ad230.add (((ji8)).toNat * 2)) = some (.int .i64 ((rd_T82 l0 (ji8)).f0)) ∧ w'.cell? ⟨(ad230.add (((ji8)).toNat * 2)).block, (ad230.add (((ji8)).toNat * 2)).off + 1, none⟩ = some (.int .i64 ((rd_T82 l0 (ji8)).f1))) (ds := []) #[false, false, false, false, false, false, false, false, false, false, false, false] (by kernel_rfl) rfl rfl ⟨((HB.out.cell (World.block_lt_of_cell? w _ hw232_0)).trans hw232_0), ((HB.out.cell (World.block_lt_of_cell? w _ hw232_1)).trans hw232_1), ((HB.out.cell (World.block_lt_of_cell? w _ hw233_0)).trans hw233_0), ((HB.out.cell (World.block_lt_of_cell? w _ hw233_1)).trans hw233_1)⟩ (fun hHeld => ?_); refine with_tabW spileref18_At.tab4 spileref18_At.bits4 (fun HT_ HW_ => ?_)
      generalize w12.drew = w13 at HB hx232_0 hx232_1 hx233_0 hx233_1 hHeld ⊢
      refine pure_ (i := 0) (N := some 21) (v := ?_) (a' := ?_) #[true, false, false, false, false, false, false, false, false, false, false, false] rfl rfl (any_of HT_.out (by kernel_rfl)) (fun _ _ _ h => h) (Or.inl ⟨by rfl, ?_⟩) ?_ ?_
      rotate_left
      ·intro w'
       go_simp
       with_reducible rfl
      rotate_left
      ·simp only [Act.put, List.setIfInBounds_toArray, List.set_cons_zero, List.set_cons_succ, i64_w, i32_w]
       rfl
      refine pure_ (i := 1) (N := some 22) (v := ?_) (a' := ?_) #[true, true, false, false, false, false, false, false, false, false, false, false] rfl rfl (any_of HT_.out (by kernel_rfl)) (fun _ _ _ h => h) (Or.inl ⟨by rfl, ?_⟩) ?_ ?_
      rotate_left
      ·intro w'
       go_simp
       with_reducible rfl
      rotate_left
      ·simp only [Act.put, List.setIfInBounds_toArray, List.set_cons_zero, List.set_cons_succ, i64_w, i32_w]
       rfl
      refine pure_ (i := 2) (N := some 23) (v := ?_) (a' := ?_) #[true, true, true, false, false, false, false, false, false, false, false, false] rfl rfl (any_of HT_.out (by kernel_rfl)) (fun _ _ _ h => h) (Or.inl ⟨by rfl, ?_⟩) ?_ ?_
      rotate_left
      ·intro w'
       go_simp
       with_reducible rfl
      rotate_left
      ·simp only [Act.put, List.setIfInBounds_toArray, List.set_cons_zero, List.set_cons_succ, i64_w, i32_w]
       rfl
      refine pure_ (i := 4) (N := some 25) (v := ?_) (a' := ?_) #[true, true, true, false, true, false, false, false, false, false, false, false] rfl rfl (any_of HT_.out (by kernel_rfl)) (fun _ _ _ h => h) (Or.inl ⟨by rfl, ?_⟩) ?_ ?_
      rotate_left
      ·intro w'
       go_simp
       with_reducible rfl
      rotate_left
      ·simp only [Act.put, List.setIfInBounds_toArray, List.set_cons_zero, List.set_cons_succ, i64_w, i32_w]
       rfl
      refine pure_ (i := 5) (N := some 26) (v := ?_) (a' := ?_) #[true, true, true, false, true, true, false, false, false, false, false, false] rfl rfl (any_of HT_.out (by kernel_rfl)) (fun _ _ _ h => h) (Or.inl ⟨by rfl, ?_⟩) ?_ ?_
      rotate_left
      ·intro w'
       go_simp
       with_reducible rfl
      rotate_left
      ·simp only [Act.put, List.setIfInBounds_toArray, List.set_cons_zero, List.set_cons_succ, i64_w, i32_w]
       rfl
      refine pure_ (i := 6) (N := some 27) (v := ?_) (a' := ?_) #[true, true, true, false, true, true, true, false, false, false, false, false] rfl rfl (any_of HT_.out (by kernel_rfl)) (fun _ _ _ h => h) (Or.inl ⟨by rfl, ?_⟩) ?_ ?_
      rotate_left
      ·intro w'
       go_simp
       with_reducible rfl
      rotate_left
      ·simp only [Act.put, List.setIfInBounds_toArray, List.set_cons_zero, List.set_cons_succ, i64_w, i32_w]
       rfl
      refine pure_ (i := 7) (N := some 28) (v := ?_) (a' := ?_) #[true, true, true, false, true, true, true, true, false, false, false, false] rfl rfl (any_of HT_.out (by kernel_rfl)) (fun _ _ _ h => h) (Or.inl ⟨by rfl, ?_⟩) ?_ ?_
      rotate_left
      ·intro w'
       go_simp
       with_reducible rfl
      rotate_left
      ·simp only [Act.put, List.setIfInBounds_toArray, List.set_cons_zero, List.set_cons_succ, i64_w, i32_w]
       rfl
      refine pure_ (i := 9) (N := some 30) (v := ?_) (a' := ?_) #[true, true, true, false, true, true, true, true, false, true, false, false] rfl rfl (any_of HT_.out (by kernel_rfl)) (fun _ _ _ h => h) (Or.inl ⟨by rfl, ?_⟩) ?_ ?_
      rotate_left
      ·intro w'
       go_simp
       with_reducible rfl
      rotate_left
      ·simp only [Act.put, List.setIfInBounds_toArray, List.set_cons_zero, List.set_cons_succ, i64_w, i32_w]
       rfl
      refine take_ (i := 3) (N := some 24) (v := ?_) (a' := ?_) #[true, true, true, true, true, true, true, true, false, true, false, false] rfl rfl (take_ofW HT_.out HW_.out (by kernel_rfl)) (fun _ _ _ h => h) (Or.inl ⟨by rfl, ?_⟩) hHeld ?_ ?_
      rotate_left
      ·rintro w' ⟨s0, s1, s2, s3⟩
       go_simp
       with_reducible rfl
      rotate_left
      ·simp only [Act.put, List.setIfInBounds_toArray, List.set_cons_zero, List.set_cons_succ, i64_w, i32_w]
       rfl
      refine take_ (i := 8) (N := some 29) (v := ?_) (a' := ?_) #[true, true, true, true, true, true, true, true, true, true, false, false] rfl rfl (take_ofW HT_.out HW_.out (by kernel_rfl)) (fun _ _ _ h => h) (Or.inl ⟨by rfl, ?_⟩) hHeld ?_ ?_
      rotate_left
      ·rintro w' ⟨s0, s1, s2, s3⟩
       go_simp
       with_reducible rfl
      rotate_left
      ·simp only [Act.put, List.setIfInBounds_toArray, List.set_cons_zero, List.set_cons_succ, i64_w, i32_w]
       rfl
      refine one_ (i := 10) (N := some 31) #[true, true, true, true, true, true, true, true, true, true, true, false] rfl rfl (one_of HT_.out (by kernel_rfl)) (by decide) (fun K hK => ?_)
      refine goes_ Tryd.func86 (by kernel_rfl) rfl #[.agg #[.int .i64 ((rd_T82 l0 t229).f0), .int .i64 ((rd_T82 l0 t229).f1)], .agg #[.int .i64 ((rd_T82 l0 (ji8)).f0), .int .i64 ((rd_T82 l0 (ji8)).f1)], .int .i64 a1] (by rfl) rfl rfl (by (try simp only [List.map_toArray, List.map_cons, List.map_nil]); first | done | (simp only [hji8]; rfl) | rfl | (simp only [List.length_drop, List.length_take]; rfl)) ?_
      with_reducible refine (spileref18_line.calls ((rd_T82 l0 t229).f0) ((rd_T82 l0 t229).f1) ((rd_T82 l0 (ji8)).f0) ((rd_T82 l0 (ji8)).f1) a1 t234 _ A11.out).mono ?_
      rintro e w14 ⟨rfl, hb⟩
      refine ⟨_, rfl, ?_⟩
      have n0_ := Aside0.mk (below_step bl_ hb)
      clear HB
      have HB := n0_
      clear n0_
      (try clear hb)
      (try clear hb2)
      (try clear hk)
      (try clear hi)
      refine hK.out _ _ ⟨((HB.out.cell (World.block_lt_of_cell? w _ hw232_0)).trans hw232_0), ((HB.out.cell (World.block_lt_of_cell? w _ hw232_1)).trans hw232_1), ((HB.out.cell (World.block_lt_of_cell? w _ hw233_0)).trans hw233_0), ((HB.out.cell (World.block_lt_of_cell? w _ hw233_1)).trans hw233_1)⟩ (fun hHeld => ?_)
      clear hK K
      refine norm_ (a' := ?_) ?_ ?_
      rotate_left
      ·show Act.put _ (some 31) _ = _
       simp only [Act.put, List.setIfInBounds_toArray, List.set_cons_zero, List.set_cons_succ, i64_w, i32_w]
       rfl
      refine pure_ (i := 11) (N := some 4) (v := ?_) (a' := ?_) #[true, true, true, true, true, true, true, true, true, true, true, true] rfl rfl (any_of HT_.out (by kernel_rfl)) (fun _ _ _ h => h) (Or.inl ⟨by rfl, ?_⟩) ?_ ?_
      rotate_left
      ·intro w'
       go_simp
       with_reducible rfl
      rotate_left
      ·simp only [Act.put, List.setIfInBounds_toArray, List.set_cons_zero, List.set_cons_succ, i64_w, i32_w]
       rfl
      refine done_ (done_of HT_.out (by kernel_rfl)) ?_
      try go_wp2
      go_ret
      exact ⟨by first | rfl | (simp [errW_none, errW_some] <;> rfl) | (simp only [← hji8]; first | rfl | (simp [errW_none, errW_some] <;> rfl)) | (simp [*, errW_none, errW_some] <;> rfl), bl_⟩
     ·rw [if_neg c10] at H
      exact absurd H (by simp)
    ·rw [if_neg c9] at H
     exact absurd H (by simp)
  ·rw [if_neg c5] at H
   exact absurd H (by simp)
 ·rw [if_neg c4] at H
  exact absurd H (by simp)
theorem spileref18_line.plain {a b a' b' s : Int} (h0 : 0 ≤ a) (h1 : a < a') (h2 : a' ≤ 10000) (hs : a ≤ s) (hs' : s ≤ a') (hb0 : 0 ≤ b) (hb : b ≤ 120000) (hb0' : 0 ≤ b') (hb' : b' ≤ 120000) :
    spileref18_line.f a b a' b' s = some (segF a b a' b' s) := by
  have m1 := mul_rng hb0 hb (show 0 ≤ a' - s by omega) (show a' - s ≤ 10000 by omega)
  have m2 := mul_rng hb0' hb' (show 0 ≤ s - a by omega) (show s - a ≤ 10000 by omega)
  have m3 := mul_rng hb0 hb (show 0 ≤ s - a by omega) (show s - a ≤ 10000 by omega)
  have q1 : b * (a' - a) = b * (a' - s) + b * (s - a) := by rw [← Int.mul_add]; congr 1; omega
  have q2 : (b' - b) * (s - a) = b' * (s - a) - b * (s - a) := Int.sub_mul _ _ _
  unfold spileref18_line.f segF
  have w0 : wrap64 (a' - a) = a' - a := w64_ (by omega) (by omega)
  have w1 : wrap64 (b' - b) = b' - b := w64_ (by omega) (by omega)
  have w2 : wrap64 (s - a) = s - a := w64_ (by omega) (by omega)
  rw [w0, w1, w2, q1, q2]
  generalize b * (a' - s) = x at m1 ⊢
  generalize b' * (s - a) = y at m2 ⊢
  generalize b * (s - a) = z at m3 ⊢
  have w3 : wrap64 (x + z) = x + z := w64_ (by omega) (by omega)
  have w4 : wrap64 (y - z) = y - z := w64_ (by omega) (by omega)
  rw [w3, w4]
  have e : x + z + (y - z) = x + y := by omega
  rw [e]
  have w5 : wrap64 (x + y) = x + y := w64_ (by omega) (by omega)
  have w6 : wrap64 (2 * (x + y)) = 2 * (x + y) := w64_ (by omega) (by omega)
  have w7 : wrap64 (2 * (a' - a)) = 2 * (a' - a) := w64_ (by omega) (by omega)
  have w8 : wrap64 (2 * (x + y) + (a' - a)) = 2 * (x + y) + (a' - a) := w64_ (by omega) (by omega)
  rw [w5, w6, w7, w8, if_neg (by omega), Int.tdiv_eq_ediv_of_nonneg (by omega)]
  have d1 : 0 ≤ (2 * (x + y) + (a' - a)) / (2 * (a' - a)) := Int.ediv_nonneg (by omega) (by omega)
  have d2 : (2 * (x + y) + (a' - a)) / (2 * (a' - a)) ≤ 2 * (x + y) + (a' - a) := Int.ediv_le_self _ (by omega)
  rw [w64_ (by omega) (by omega)]
theorem RightT.at18 {l : List S82} (h : RightT l) {s : Int} (h0 : 0 ≤ s) (h1 : s ≤ 10000) : spileref18_At.f l s = some (dens l s) := by
  have hlen := h.hi
  obtain ⟨i, hi, h2, h3, h4⟩ := h.at16 h0
  unfold spileref18_At.f
  rw [hi]
  simp only [Option.bind_some]
  rw [if_pos (by omega), if_pos (by omega)]
  by_cases e : (rd_T82 l i).f0 = s
  · rw [if_pos e, ← e, h.dens_row h2]
  · rw [if_neg e]
    have h5 : i + 1 < l.length := by
      rcases Nat.lt_or_ge (i + 1) l.length with h5 | h5
      · exact h5
      · have := h.last
        rw [show (l.length : Int) - 1 = (i : Int) by omega] at this
        omega
    have w0 : wrap64 ((i : Int) + 1) = (i : Int) + 1 := w64_ (by omega) (by omega)
    rw [w0, if_pos (by omega), if_pos (by omega)]
    have h6 := h4 (i + 1) (by omega) h5
    rw [show ((i + 1 : Nat) : Int) = (i : Int) + 1 by omega] at h6
    have r1 := h.rng i (by omega)
    have r2 := h.rng (i + 1) h5
    rw [show ((i + 1 : Nat) : Int) = (i : Int) + 1 by omega] at r2
    rw [spileref18_line.plain (by omega) (h.inc i h5) (by omega) h3 (by omega) (by omega) (by omega) (by omega) (by omega), h.dens_seg (i := i) ⟨h5, h3, by omega⟩]
    rfl
def spileref18_At_s.f (l0 : List S82) (a1 : Int) : Option Int := if (dchk l0).2 = 0 ∧ 0 ≤ a1 ∧ a1 ≤ 10000 then some (dens l0 a1) else none
theorem spileref18_At_s.calls (A0 : Option Addr) (c0 : Nat) (l0 : List S82) (a1 : Int) (r : Int) (w : World) (hr0 : Kd.C k82 w A0 l0.length l0) (hc0 : l0.length ≤ c0) (h : spileref18_At_s.f l0 a1 = some r) :
    Calls Tryd.prog 77 #[.slice A0 l0.length c0, .int .i64 a1] w fun e w' => e = .returned (.int .i64 r) ∧ Below w.heap.size w w' := by
  unfold spileref18_At_s.f at h
  by_cases hc : (dchk l0).2 = 0 ∧ 0 ≤ a1 ∧ a1 ≤ 10000
  · rw [if_pos hc] at h
    exact spileref18_At.calls A0 c0 l0 a1 r w hr0 hc0 ((((right_iff l0).1 hc.1).at18 hc.2.1 hc.2.2).trans h)
  · rw [if_neg hc] at h; exact absurd h (by simp)
theorem RightT.at18s {l : List S82} (h : RightT l) {s : Int} (h0 : 0 ≤ s) (h1 : s ≤ 10000) : spileref18_At_s.f l s = some (dens l s) := by
  unfold spileref18_At_s.f
  rw [if_pos ⟨(right_iff l).2 h, h0, h1⟩]

end Go.Proofs.YtcdkbciagchlgaaDoor.PF
