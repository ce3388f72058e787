/- interpolate.pairs, a function that is ranged over: what it yields. -/
import Derived.Test.YtlgihblojnoheaaMEv
import Derived.Test.YtlgihblojnoheaaPF0
import Derived.Test.YtlgihblojnoheaaPF5
import Derived.RangeFuncNested
import Derived.RangeFuncBound
import Derived.RangeFuncCalls
import Derived.RangeFuncLeaves
import Derived.RangeFuncBox
import Derived.Shelf.Abstract
import Derived.Shelf.RegionOpen
import Derived.WalkKit
import Derived.OwnWalkIn
import Derived.TacticsInMore
import Derived.LoopNIn
import Derived.LoopIn
import Derived.Sort.LoopGhostIn
namespace Go.Proofs.Ytlgihblojnoheaa.PF
open Go.RowKit Go.Proofs.YtlgihblojnoheaaW.PrintWords Go.Proofs.YtlgihblojnoheaaW.PrintLast Go.Proofs.YtlgihblojnoheaaW.PrintMore
set_option linter.unusedVariables false
set_option linter.unusedSimpArgs false
/-- The strength of a round. -/
def sAt (n : Int) (j : Nat) : Int := if (j : Int) * n ≤ 10000 then (j : Int) * n else 0
theorem sAt_rng {n : Int} (hn : 1 ≤ n) (j : Nat) : 0 ≤ sAt n j ∧ sAt n j ≤ 10000 := by
  unfold sAt
  split
  · exact ⟨Int.mul_nonneg (by omega) (by omega), by assumption⟩
  · exact ⟨by omega, by omega⟩
def encP (t u : List S34) (n : Int) (j : Nat) : Array Value := #[.int .i64 (sAt n j), .agg #[.int .i64 (dens t (sAt n j)), .int .i64 (dens u (sAt n j))]]
/-- What the iterator reads. -/
def EnvP (w0 : World) (B : Nat) (A1 A2 : Option Addr) (c1 c2 : Nat) (t u : List S34) (n : Int) (W : World) : Prop :=
  Below w0.heap.size w0 W ∧ W.cell? ⟨B, 0, none⟩ = some (.slice A1 t.length c1) ∧ W.cell? ⟨B + 1, 0, none⟩ = some (.slice A2 u.length c2) ∧ W.cell? ⟨B + 2, 0, none⟩ = some (.int .i64 n)
theorem EnvP.step {w0 : World} {B : Nat} {A1 A2 : Option Addr} {c1 c2 : Nat} {t u : List S34} {n : Int} {W W' : World} (h : EnvP w0 B A1 A2 c1 c2 t u n W) (hb : Below W.heap.size W W') : EnvP w0 B A1 A2 c1 c2 t u n W' :=
  ⟨below_step h.1 hb, pw_cell_below hb h.2.1, pw_cell_below hb h.2.2.1, pw_cell_below hb h.2.2.2⟩
theorem range_prefix (i N : Nat) (h : i ≤ N) : List.range i <+: List.range N := by
  induction N with
  | zero => rw [show i = 0 by omega]; exact List.prefix_refl _
  | succ N ih =>
    rcases Nat.lt_or_ge N i with h1 | h1
    · rw [show i = N + 1 by omega]; exact List.prefix_refl _
    · rw [List.range_succ]; exact (ih h1).trans (List.prefix_append _ _)
attribute [local go_sem] Oper.semAt_some
set_option maxHeartbeats 1000000 in
set_option maxRecDepth 100000 in
theorem pairs.iter (m : Nat) (w0 : World) (B : Nat) (A1 A2 : Option Addr) (c1 c2 : Nat) (t u : List S34) (n : Int) (l : Nat) (J Jx : List Nat → World → Prop) (W : World)
    (hd : 1 ≤ n ∧ n ≤ 10000) (h1 : Kd.C k34 w0 A1 t.length t) (hc1 : t.length ≤ c1) (h2 : Kd.C k34 w0 A2 u.length u) (hc2 : u.length ≤ c2) (ok1 : (dchk t).2 = 0) (ok2 : (dchk u).2 = 0)
    (hJ : AbidesFrom W.heap.size J) (N : Nat) (hN : ∀ j, j < N ↔ (j : Int) * n ≤ 10000)
    (hY : ∀ pre x W1, J pre W1 → pre.length < N → YieldAt Fence.wide (m - 1) Try.prog l (encP t u n x) W1 fun e W' =>
      (e = .returned (.bool true) ∧ J (pre ++ [x]) W' ∧ (EnvP w0 B A1 A2 c1 c2 t u n W1 → EnvP w0 B A1 A2 c1 c2 t u n W')) ∨ (e = .returned (.bool false) ∧ Jx (pre ++ [x]) W'))
    (hE : EnvP w0 B A1 A2 c1 c2 t u n W) (h0 : J [] W) :
    CallsIn Fence.wide m Try.prog 55 #[.func (.yield l) #[] #[], .pointer (some ⟨B + 2, 0, none⟩), .pointer (some ⟨B, 0, none⟩), .pointer (some ⟨B + 1, 0, none⟩)] W fun e W' => (∃ v, e = .returned v) ∧
      ((∃ ys, ys = List.range N ∧ J ys W') ∨ (∃ pre, pre <+: List.range N ∧ Jx pre W')) := by
  have HY := Aside0.mk hY
  have HJ := Aside0.mk hJ
  have HE := Aside0.mk hE
  have H0 := Aside0.mk h0
  have HD := Aside0.mk hd
  have HN := Aside0.mk hN
  have mixed : Try.prog.follows .mixedOrders = true := by kernel_rfl
  have AT1 := Aside0.mk (fun (x : Int) (W' : World) (hx : 0 ≤ x ∧ x ≤ 10000) (hb : Below w0.heap.size w0 W') => interpolate_at.calls A1 c1 t x (dens t x) W' (Kd.C_below h1 hb) hc1 (by unfold interpolate_at.f; rw [if_pos ⟨ok1, hx.1, hx.2⟩]))
  have AT2 := Aside0.mk (fun (x : Int) (W' : World) (hx : 0 ≤ x ∧ x ≤ 10000) (hb : Below w0.heap.size w0 W') => interpolate_at.calls A2 c2 u x (dens u x) W' (Kd.C_below h2 hb) hc2 (by unfold interpolate_at.f; rw [if_pos ⟨ok2, hx.1, hx.2⟩]))
  clear hY hJ hE h0 hd hN h1 h2 hc1 hc2 ok1 ok2
  refine callsIn_of_wp Try.func55 rfl trivial ?_ rfl
  simp only [Try.ntmps55, List.size_toArray, List.length_cons, List.length_nil, Nat.reduceAdd, Nat.reduceSub, Array.replicate_succ, Array.replicate_zero, List.push_toArray, List.append_toArray, List.nil_append, List.cons_append]
  gi_wp2
  gi_loopg [5] N (fun g s5 wr => ∃ (j : Nat) (x : Int), s5 = .int .i64 x ∧ Aside0 (x = (j : Int) * n ∧ j ≤ N ∧ N - j ≤ g) ∧ Aside0 (J (List.range j) wr) ∧ Aside0 (EnvP w0 B A1 A2 c1 c2 t u n wr))
  case atStart => exact ⟨0, 0, rfl, ⟨by simp, Nat.zero_le _, Nat.le_refl _⟩, H0, HE⟩
  case round =>
    obtain ⟨j, x, rfl, HX, HJ1, HE1⟩ := hrel
    by_cases hlt : x ≤ 10000
    · have hltb : decide (x ≤ 10000) = true := decide_eq_true hlt
      have hc0 := HE1.out.2.1
      have hc1 := HE1.out.2.2.1
      have hc2 := HE1.out.2.2.2
      have hx0 := HX.out
      have hs : sAt n j = x := by
        unfold sAt
        rw [← hx0.1, if_pos hlt]
      have HS := Aside0.mk hs
      have hxr : 0 ≤ x ∧ x ≤ 10000 := by rw [← hs]; exact sAt_rng HD.out.1 j
      have HXR := Aside0.mk hxr
      have hjN : j < N := by rw [HN.out, ← hx0.1]; exact hlt
      have HJN := Aside0.mk hjN
      have HYJ := Aside0.mk (fun W1 (hj : J (List.range j) W1) => HY.out (List.range j) j W1 hj (by rw [List.length_range]; exact hjN))
      clear hx0 hs hxr hjN hlt
      gi_wp2_with fail
      have hE0 : EnvP w0 B A1 A2 c1 c2 t u n wr.drew := ⟨below_drew1 HE1.out.1, HE1.out.2⟩
      have HE2 := Aside0.mk hE0
      have HG := Aside0.mk (below_drew1 (Below.refl wr.heap.size wr))
      clear hE0
      gi_region_with_o (first
        | (refine ⟨trivial, fun h => (by cases h), ?_⟩; refine (callsIn_wide.2 (AT1.out x _ HXR.out HE2.out.1)).mono ?_; clear AT1; rintro e w1 ⟨rfl, hb1⟩; replace HG := Aside0.mk (below_step HG.out hb1); replace HE2 := Aside0.mk (HE2.out.step hb1); replace hc0 := HE2.out.2.1; replace hc1 := HE2.out.2.2.1; clear hb1)
        | (refine ⟨trivial, fun h => (by cases h), ?_⟩; refine (callsIn_wide.2 (AT2.out x _ HXR.out HE2.out.1)).mono ?_; clear AT2; rintro e w2 ⟨rfl, hb1⟩; replace HG := Aside0.mk (below_step HG.out hb1); replace HE2 := Aside0.mk (HE2.out.step hb1); obtain ⟨fn, tmps, assign, body, hy, hR⟩ := HYJ.out w2 (HJ.out _ _ _ none HJ1.out (grown_of_below HG.out none) (fun r h => by cases h)); unfold encP at hy; rw [HS.out] at hy; replace hR := Aside0.mk hR; clear hb1)
        | (refine ⟨fun h => (by cases h), ?_⟩; refine hR.out.mono ?_; rintro e W3 h3; obtain ⟨b, rfl, h3⟩ : ∃ b : Bool, e = .returned (.bool b) ∧ (if b = true then J (List.range j ++ [j]) W3 ∧ (EnvP w0 B A1 A2 c1 c2 t u n w2 → EnvP w0 B A1 A2 c1 c2 t u n W3) else Jx (List.range j ++ [j]) W3) := (by rcases h3 with ⟨rfl, h4⟩ | ⟨rfl, h4⟩ <;> first | exact ⟨true, rfl, h4⟩ | exact ⟨false, rfl, h4⟩); replace h3 := Aside0.mk h3; replace HE2 := Aside0.mk (show EnvP w0 B A1 A2 c1 c2 t u n w2 from HE2.out); clear hR hy))
      all_goals
        clear hc0 hc1 hc2 HYJ
        cases b
        · have h4 : Jx (List.range j ++ [j]) W3 := by have := h3.out; simpa using this
          have H4 := Aside0.mk h4
          clear h3 h4
          gi_wp2
          refine bodyPost_ret (results_none rfl _ _ _) rfl ?_
          exact ⟨⟨_, rfl⟩, .inr ⟨List.range j ++ [j], by rw [← List.range_succ]; exact range_prefix _ _ HJN.out, H4.out⟩⟩
        · have h4 : J (List.range j ++ [j]) W3 ∧ (EnvP w0 B A1 A2 c1 c2 t u n w2 → EnvP w0 B A1 A2 c1 c2 t u n W3) := by have := h3.out; simpa using this
          have H4 := Aside0.mk h4.1
          have HE4 := Aside0.mk (h4.2 HE2.out)
          have hc2 := HE4.out.2.2.2
          have hw : IntKind.i64.wrap (x + n) = x + n := by have := HXR.out; have := HD.out; rw [IntKind.wrap_i64]; omega
          have hw' : wrap64 (x + n) = x + n := by rw [← i64_w]; exact hw
          clear h3 h4
          gi_wp2
          gi_roundg (N - (j + 1))
          case measure => have := HX.out; have := HJN.out; omega
          case rel => exact ⟨j + 1, x + n, by first | rfl | rw [hw'] | rw [hw], ⟨by rw [HX.out.1]; rw [show ((j + 1 : Nat) : Int) = (j : Int) + 1 by omega, Int.add_mul, Int.one_mul], HJN.out, Nat.le_refl _⟩, ⟨by rw [List.range_succ]; exact H4.out⟩, HE4⟩
    · have hltb : decide (x ≤ 10000) = false := decide_eq_false hlt
      have hjN : j = N := by
        rcases Nat.lt_or_ge j N with h | h
        · exact absurd (by rw [HX.out.1]; exact (HN.out j).1 h) hlt
        · have := HX.out.2.1; omega
      subst hjN
      gi_wp2
      go_end0
      exact ⟨⟨_, rfl⟩, .inl (by first | exact HJ1.out | exact ⟨_, rfl, HJ1.out⟩)⟩
set_option maxHeartbeats 1000000 in
set_option maxRecDepth 100000 in
theorem pairs.known (A1 A2 : Option Addr) (c1 c2 : Nat) (t u : List S34) (n : Int) (w : World) :
    Calls Try.prog 44 #[.slice A1 t.length c1, .slice A2 u.length c2, .int .i64 n] w fun e w' => e = .returned (.func (.func 55) #[] #[.pointer (some ⟨w.heap.size + 2, 0, none⟩), .pointer (some ⟨w.heap.size, 0, none⟩), .pointer (some ⟨w.heap.size + 1, 0, none⟩)]) ∧
      w' = ((w.alloc (.cells #[.slice A1 t.length c1] 22)).alloc (.cells #[.slice A2 u.length c2] 22)).alloc (.cells #[.int .i64 n] 3) := by
  go_enter Try.func44, Try.ntmps44
  go_wp2
  go_ret
  exact ⟨rfl, rfl⟩
/-- Is a table not right? -/
def notR (t : List S34) : Bool := !((dchk t).2 == 0)
set_option maxHeartbeats 1000000 in
set_option maxRecDepth 100000 in
theorem differ.clo (A : Option Addr) (c : Nat) (t : List S34) (w : World) (hr : Kd.C k34 w A t.length t) (hc : t.length ≤ c) :
    Calls Try.prog 43 #[.slice A t.length c] w fun e w' => e = .returned (.bool (notR t)) ∧ Below w.heap.size w w' := by
  have HR := Aside0.mk (interpolate_right.calls A c t ((dchk t).2 == 0) w hr hc (by unfold interpolate_right.f density_Check_s.f; rw [Option.bind_some]))
  clear hr hc
  unfold notR
  generalize ((dchk t).2 == 0) = b at *
  go_enter Try.func43, Try.ntmps43
  go_wp2_with (refine HR.out.mono ?_; rintro e w' ⟨rfl, hb⟩)
  go_ret
  exact ⟨rfl, hb⟩
set_option maxHeartbeats 1000000 in
set_option maxRecDepth 100000 in
/-- slices.IndexFunc over two tables. -/
theorem index2.known (clo g : Nat) (v1 v2 : Value) (q1 q2 : Bool) (w : World) (eg : ∀ args w, (callFunc clo args).run Try.prog w = .ok (.enter clo args) w) (h1 : w.cell? ⟨g, 0, none⟩ = some v1) (h2 : w.cell? ⟨g, 1, none⟩ = some v2) (n1 : v1.oneCell' = true) (n2 : v2.oneCell' = true)
    (hf1 : ∀ W, Below w.heap.size w W → Calls Try.prog clo #[v1] W fun e w' => e = .returned (.bool q1) ∧ Below W.heap.size W w')
    (hf2 : ∀ W, Below w.heap.size w W → Calls Try.prog clo #[v2] W fun e w' => e = .returned (.bool q2) ∧ Below W.heap.size W w') :
    Calls Try.prog 54 #[.slice (some ⟨g, 0, none⟩) 2 2, .func (.func clo) #[] #[]] w fun e w' => e = .returned (.int .i64 (if q1 = true then 0 else if q2 = true then 1 else -1)) ∧ Below w.heap.size w w' := by
  have HF1 := Aside0.mk hf1
  have HF2 := Aside0.mk hf2
  clear hf1 hf2
  go_enter Try.func54, Try.ntmps54
  go_wp2
  go_loopg [5, 8] 2 (fun kx s5 s8 wr => ∃ x : Int, s8 = .int .i64 x ∧ Aside0 ((x = 0 ∧ 2 ≤ kx) ∨ (x = 1 ∧ q1 = false ∧ 1 ≤ kx) ∨ (x = 2 ∧ q1 = false ∧ q2 = false)) ∧ Aside0 (Below w.heap.size w wr))
  case atStart => exact ⟨0, rfl, ⟨.inl ⟨rfl, Nat.le_refl _⟩⟩, ⟨Below.refl _ _⟩⟩
  case round =>
    obtain ⟨x, rfl, HX, HB⟩ := hrel
    rcases HX.out with ⟨rfl, hk⟩ | ⟨rfl, hq1, hk⟩ | ⟨rfl, hq1, hq2⟩
    · have HK := Aside0.mk hk
      have d1 := pw_cell_below HB.out h1
      have HC := Aside0.mk (HF1.out _ HB.out)
      clear hk HX
      cases q1
      · go_wp2_with (refine HC.out.mono ?_; rintro e w1 ⟨rfl, hb⟩)
        have HB2 := Aside0.mk (below_step HB.out hb)
        clear hb
        go_roundg 1
        case measure => have := HK.out; omega
        case rel => exact ⟨1, rfl, ⟨.inr (.inl (by simp))⟩, HB2⟩
      · go_wp2_with (refine HC.out.mono ?_; rintro e w1 ⟨rfl, hb⟩)
        have HB2 := Aside0.mk (below_step HB.out hb)
        go_ret
        exact ⟨by first | rfl | trivial | simp, HB2.out⟩
    · have HK := Aside0.mk hk
      have d2 := pw_cell_below HB.out h2
      have HC := Aside0.mk (HF2.out _ HB.out)
      subst hq1
      clear hk HX
      cases q2
      · go_wp2_with (refine HC.out.mono ?_; rintro e w1 ⟨rfl, hb⟩)
        have HB2 := Aside0.mk (below_step HB.out hb)
        clear hb
        go_roundg 0
        case measure => have := HK.out; omega
        case rel => exact ⟨2, rfl, ⟨.inr (.inr (by simp))⟩, HB2⟩
      · go_wp2_with (refine HC.out.mono ?_; rintro e w1 ⟨rfl, hb⟩)
        have HB2 := Aside0.mk (below_step HB.out hb)
        go_ret
        exact ⟨by first | rfl | trivial | simp, HB2.out⟩
    · subst hq1
      subst hq2
      clear HX
      go_wp2
      go_ret
      exact ⟨rfl, HB.out⟩
set_option maxHeartbeats 1000000 in
set_option maxRecDepth 100000 in
theorem contains2.known (clo g : Nat) (v1 v2 : Value) (q1 q2 : Bool) (w : World) (eg : ∀ args w, (callFunc clo args).run Try.prog w = .ok (.enter clo args) w) (h1 : w.cell? ⟨g, 0, none⟩ = some v1) (h2 : w.cell? ⟨g, 1, none⟩ = some v2) (n1 : v1.oneCell' = true) (n2 : v2.oneCell' = true)
    (hf1 : ∀ W, Below w.heap.size w W → Calls Try.prog clo #[v1] W fun e w' => e = .returned (.bool q1) ∧ Below W.heap.size W w')
    (hf2 : ∀ W, Below w.heap.size w W → Calls Try.prog clo #[v2] W fun e w' => e = .returned (.bool q2) ∧ Below W.heap.size W w') :
    Calls Try.prog 42 #[.slice (some ⟨g, 0, none⟩) 2 2, .func (.func clo) #[] #[]] w fun e w' => e = .returned (.bool (q1 || q2)) ∧ Below w.heap.size w w' := by
  have HC := Aside0.mk (index2.known clo g v1 v2 q1 q2 w eg h1 h2 n1 n2 hf1 hf2)
  clear h1 h2 hf1 hf2
  go_enter Try.func42, Try.ntmps42
  go_wp2_with fail
  refine HC.out.mono ?_
  rintro e w' ⟨rfl, hb⟩
  have HB := Aside0.mk hb
  clear hb HC
  cases q1 <;> cases q2 <;> go_wp2 <;> go_ret <;> exact ⟨rfl, HB.out⟩

end Go.Proofs.Ytlgihblojnoheaa.PF
