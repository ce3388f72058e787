-- Written by a program of this session (wip/pr.py) out of Lean's print of the translation; Lean checks it.
import Derived.Test.YtdggkgkbjgigmaaPF0
import Derived.Test.YtdggkgkbjgigmaaPF1
import Derived.Test.YtdggkgkbjgigmaaPF5
import Derived.Test.YtdggkgkbjgigmaaPF6
import Derived.Test.YtdggkgkbjgigmaaPF21
namespace Go.Proofs.Ytdggkgkbjgigmaa.PF
open Go.RowKit Go.Proofs.YtdggkgkbjgigmaaW.PrintWords Go.Proofs.YtdggkgkbjgigmaaW.PrintLast Go.Proofs.YtdggkgkbjgigmaaW.PrintMore
attribute [local go_sem] max2_int min2_int max_two min_two max_three min_three max_four min_four   -- for this text's walks alone
set_option linter.unusedVariables false
set_option linter.unusedSimpArgs false

/-! ### reduce_Plan: function 21 -/
-- MAKING
-- behind 41 42
def planR (l : List S50) (a m : Int) (ts : List Int) : List Int × Int :=
  if plnE l a m ts ts.length ≠ 0 then ([], plnE l a m ts ts.length) else if (runS l a m ts).2 = true then ((runS l a m ts).1.map Prod.fst, 0) else ([], 15)
def reduce_Plan.f (l0 : List S50) (a1_0 a1_1 : Int) (l2 : List Int) : Option (List Int × Int) := if l2.length < 4611686018427387904 then some (planR l0 a1_0 a1_1 l2) else none
theorem plnE_zero {l : List S50} {a m : Int} {ts : List Int} {n : Int} (h : plnE l a m ts n = 0) : LiqOK l a m ∧ ts.length ≤ 8 ∧ n = (ts.length : Int) ∧ (¬ 0 ≤ idxP (farT ts) ts.length 0) ∧ ordL ts = true := by
  unfold plnE at h
  by_cases c0 : lchk l a m = 0
  case neg => rw [if_pos c0] at h; cases h
  rw [if_neg (not_not_intro c0)] at h
  by_cases c1 : 8 < ts.length
  · rw [if_pos c1] at h; cases h
  rw [if_neg c1] at h
  by_cases c2 : n = (ts.length : Int)
  case neg => rw [if_pos c2] at h; cases h
  rw [if_neg (not_not_intro c2)] at h
  by_cases c3 : 0 ≤ idxP (farT ts) ts.length 0
  · rw [if_pos c3] at h; cases h
  rw [if_neg c3] at h
  by_cases c4 : ordL ts = true
  · exact ⟨(lchk_iff l a m).1 c0, by omega, c2, c3, c4⟩
  · rw [if_neg c4] at h; cases h
theorem run_len (l : List S50) (a : Int) (ts : List Int) : ∀ m, (runS l a m ts).1.length ≤ ts.length := by
  induction ts with
  | nil => intro m; simp [runS]
  | cons t r ih =>
    intro m
    simp only [runS]
    split
    · simp
    · have := ih (m + leastS l a m t)
      simp only [List.length_cons]
      omega
/-- What holds between two rounds of Plan's loop: G: the results' boxes behind it, O: out's box, B: the iterator's boxes. -/
def InvP (w : World) (G O B : Nat) (A1 A2 : Option Addr) (c1 c2 : Nat) (t : List S50) (ts : List Int) (a : Int) (pre : List (Int × Int)) (W : World) : Prop :=
  EnvS w B A1 A2 c1 c2 t ts W ∧ (∀ x ∈ pre, 0 ≤ x.1) ∧ (∃ m, LiqB B a m W) ∧
    (∃ v, W.heap[O]? = some (.cells #[v] 41 (0, 0)) ∧ Kd.R (Kd.int .i64) 3 W w.heap.size (fun _ => True) v (pre.map Prod.fst)) ∧
    W.heap[G + 1]? = some (.cells #[.slice none 0 0] 41 (0, 0)) ∧ W.heap[G + 1 + 1]? = some (.cells #[.int .i64 0] 27 (0, 0))
def RetP (w : World) (G : Nat) (pre : List (Int × Int)) (W : World) : Prop :=
  Below w.heap.size w W ∧ (∃ x ∈ pre, x.1 < 0) ∧ W.heap[G + 1]? = some (.cells #[.slice none 0 0] 41 (0, 0)) ∧ W.heap[G + 1 + 1]? = some (.cells #[.int .i64 15] 27 (0, 0))
theorem kept_cells {X Y : World} {row : Option Nat} (hg : X.grownBy Y row) (hr : ∀ r, row = some r → ∃ o : Obj, X.heap[r]? = some o ∧ o.isCells = false) {k : Nat} {cs : Array Value} {t : TypeId} (h : X.heap[k]? = some (.cells cs t (0, 0))) : Y.heap[k]? = some (.cells cs t (0, 0)) :=
  (grownBy_keeps_cells hg hr h rfl).trans h
theorem kept_R {α : Type} {d : Kd α} {e base : Nat} {ok : Nat → Prop} {v : Value} {xs : List α} {X Y : World} {row : Option Nat} (hg : X.grownBy Y row) (hr : ∀ r, row = some r → ∃ o : Obj, X.heap[r]? = some o ∧ o.isCells = false) (h : d.R e X base ok v xs) : d.R e Y base ok v xs :=
  Kd.R_mono (Kd.R_step (Kd.R_bound h) (fun k hk hlt => hg.block k hlt (fun e2 => by
    obtain ⟨o, ho, hc⟩ := hr k e2.symm
    obtain ⟨_, _, _, q, _, cells, hcell⟩ := hk
    rw [hcell] at ho
    cases ho
    cases hc))) (fun _ hk => hk.1)
theorem R_other {base : Nat} {ok : Nat → Prop} {v : Value} {xs : List Int} {X : World} (h : Kd.R (Kd.int .i64) 3 X base ok v xs) {g ty : Nat} {cs : Array Value} (hb : X.heap[g]? = some (.cells cs ty (0, 0))) (ht : ty ≠ 3) (i : Nat) (u : Value) : Kd.R (Kd.int .i64) 3 (X.setCell ⟨g, i, none⟩ u) base ok v xs :=
  Kd.R_mono (Kd.R_step (Kd.R_bound h) (fun k hk _ => Below.heap_setCell X ⟨g, i, none⟩ u k (fun e => by
    obtain ⟨_, _, _, q, hq, cells, hc⟩ := hk
    have e' : k = g := e
    subst e'
    rw [hb] at hc
    injection hc with hc
    injection hc with _ hc
    have hq' : q = 3 := by simpa [Kd.int, Kd.scalar] using hq
    exact ht (hc.trans hq')))) (fun _ hk => hk.1)
theorem InvP.own {w : World} {G O B : Nat} {A1 A2 : Option Addr} {c1 c2 : Nat} {t : List S50} {ts : List Int} {a : Int} {D : Nat} (hD : w.heap.size ≤ D) : OwnFrom D (InvP w G O B A1 A2 c1 c2 t ts a) := by
  intro s X Y row hs hg hr
  have hr2 : ∀ r, row = some r → ∃ o : Obj, X.heap[r]? = some o ∧ o.isCells = false := fun r e => (hr r e).2
  obtain ⟨h1, h2, ⟨m, h3⟩, ⟨v, h4, h5⟩, h6, h7⟩ := hs
  exact ⟨⟨ownFrom_below (w₀ := w) (n₀ := w.heap.size) (B := D) (Nat.le_refl _) hD s X Y row h1.1 hg hr, kept_cells hg hr2 h1.2.1, kept_cells hg hr2 h1.2.2⟩, h2, ⟨m, kept_cells hg hr2 h3⟩, ⟨v, kept_cells hg hr2 h4, kept_R hg hr2 h5⟩, kept_cells hg hr2 h6, kept_cells hg hr2 h7⟩
theorem RetP.own {w : World} {G D : Nat} (hD : w.heap.size ≤ D) : OwnFrom D (RetP w G) := by
  intro s X Y row hs hg hr
  have hr2 : ∀ r, row = some r → ∃ o : Obj, X.heap[r]? = some o ∧ o.isCells = false := fun r e => (hr r e).2
  exact ⟨ownFrom_below (w₀ := w) (n₀ := w.heap.size) (B := D) (Nat.le_refl _) hD s X Y row hs.1 hg hr, hs.2.1, kept_cells hg hr2 hs.2.2.1, kept_cells hg hr2 hs.2.2.2⟩
theorem InvP.below {w : World} {G O B : Nat} {A1 A2 : Option Addr} {c1 c2 : Nat} {t : List S50} {ts : List Int} {a : Int} {pre : List (Int × Int)} {X Y : World} (h : InvP w G O B A1 A2 c1 c2 t ts a pre X) (hb : Below X.heap.size X Y) : InvP w G O B A1 A2 c1 c2 t ts a pre Y := by
  obtain ⟨h1, h2, ⟨m, h3⟩, ⟨v, h4, h5⟩, h6, h7⟩ := h
  exact ⟨h1.below hb, h2, ⟨m, h3.below hb⟩, ⟨v, blk_below h4 hb, Kd.R_below h5 hb⟩, blk_below h6 hb, blk_below h7 hb⟩
theorem cellsRow {base : Nat} {ok : Nat → Prop} {v : Value} {xs : List Int} {X Y : World} (h : Kd.R (Kd.int .i64) 3 X base ok v xs) (hg : X.grownBy Y v.ownBlock) {k : Nat} {o : Obj} (hk : X.heap[k]? = some o) (ho : ∀ cs, o ≠ .cells cs 3 (0, 0)) : Y.heap[k]? = some o := by
  refine (hg.block k (Array.getElem?_eq_some_iff.1 hk).1 (fun e => ?_)).trans hk
  obtain ⟨cells, hc⟩ := Kd.R_typed h k e.symm
  rw [hk] at hc
  exact ho cells (Option.some.inj hc)
theorem InvP.push {w : World} {G O B : Nat} {A1 A2 : Option Addr} {c1 c2 : Nat} {t : List S50} {ts : List Int} {a : Int} {pre : List (Int × Int)} {X Y : World} (x : Int × Int) (hx : 0 ≤ x.1) (hB : w.heap.size ≤ O) (hO : O < B) (hG : G + 1 + 1 < O)
    (h : InvP w G O B A1 A2 c1 c2 t ts a pre X) {v v' : Value} (hv : X.heap[O]? = some (.cells #[v] 41 (0, 0))) (hR : Kd.R (Kd.int .i64) 3 X w.heap.size (fun _ => True) v (pre.map Prod.fst)) (hg : X.grownBy Y v.ownBlock) (hb : Below w.heap.size w Y) (hR' : Kd.R (Kd.int .i64) 3 Y w.heap.size (fun _ => True) v' (pre.map Prod.fst ++ [x.1])) :
    InvP w G O B A1 A2 c1 c2 t ts a (pre ++ [x]) (Y.setCell ⟨O, 0, none⟩ v') ∧ (∀ m, LiqB B a m X → LiqB B a m (Y.setCell ⟨O, 0, none⟩ v')) ∧ KeepsOthers X (Y.setCell ⟨O, 0, none⟩ v') := by
  obtain ⟨h1, h2, ⟨m, h3⟩, _, h6, h7⟩ := h
  have far : ∀ k, k ≠ O → ∀ o, Y.heap[k]? = some o → (Y.setCell ⟨O, 0, none⟩ v').heap[k]? = some o := fun k hk o ho => by
    rw [Below.heap_setCell _ _ _ k hk]; exact ho
  have hO' : Y.heap[O]? = some (.cells #[v] 41 (0, 0)) := cellsRow hR hg hv (fun cs e => by injection e with _ e; exact absurd e (by decide))
  have hlq : ∀ m, LiqB B a m X → LiqB B a m (Y.setCell ⟨O, 0, none⟩ v') := fun m hm => far (B + 1) (by omega) _ (cellsRow hR hg hm (fun cs e => by injection e with _ e; exact absurd e (by decide)))
  refine ⟨⟨⟨below_set hb hB, ?_, ?_⟩, fun y hy => ?_, ⟨m, hlq m h3⟩, ⟨v', blk_put hO' 0 _ rfl, ?_⟩, far _ (by omega) _ (cellsRow hR hg h6 (fun cs e => by injection e with _ e; exact absurd e (by decide))), far _ (by omega) _ (cellsRow hR hg h7 (fun cs e => by injection e with _ e; exact absurd e (by decide)))⟩, hlq, ⟨?_, fun k o hk ho => ?_⟩⟩
  · exact far B (by omega) _ (cellsRow hR hg h1.2.1 (fun cs e => by injection e with _ e; exact absurd e (by decide)))
  · exact far (B + 2) (by omega) _ (cellsRow hR hg h1.2.2 (fun cs e => by injection e with _ e; exact absurd e (by decide)))
  · rcases List.mem_append.1 hy with hy | hy
    · exact h2 y hy
    · rw [List.mem_singleton] at hy; subst hy; exact hx
  · rw [List.map_append]; exact R_other hR' hO' (by decide) 0 _
  · rw [World.size_setCell]; exact hg.size
  · have hk1 : Y.heap[k]? = some o := cellsRow hR hg hk (fun cs e => by subst e; cases ho)
    have hne : k ≠ O := fun e => by subst e; rw [hv] at hk; cases hk; cases ho
    exact far k hne o hk1
theorem row_int {W : World} {base : Nat} {v : Value} {xs : List Int} {x : Int} (h : W.ownsRow base 3 1 v (xs.length + 1) (encs (Value.int .i64) xs ++ [.int .i64 x])) : Kd.R (Kd.int .i64) 3 W base (fun _ => True) v (xs ++ [x]) :=
  Kd.R_of_own (enc := Value.int .i64) (h1 := fun _ => rfl) (xs := xs ++ [x]) (by
    have e : encs (Value.int .i64) (xs ++ [x]) = encs (Value.int .i64) xs ++ [.int .i64 x] := by simp [encs]
    rw [e, List.length_append]
    exact h) (fun _ _ => trivial)
theorem below_grown2 {w X Y : World} {v : Value} {xs : List Int} {ok : Nat → Prop} (h : Below w.heap.size w X) (hg : X.grownBy Y v.ownBlock) (hR : Kd.R (Kd.int .i64) 3 X w.heap.size ok v xs) : Below w.heap.size w Y := h.grown hg h.size (fun k hk => Kd.R_base hR k hk)
theorem EnvS.set {w : World} {B : Nat} {A1 A2 : Option Addr} {c1 c2 : Nat} {t : List S50} {ts : List Int} {X : World} (h : EnvS w B A1 A2 c1 c2 t ts X) {g : Nat} (hg : w.heap.size ≤ g) (h0 : B ≠ g) (h2 : B + 2 ≠ g) (i : Nat) (v : Value) : EnvS w B A1 A2 c1 c2 t ts (X.setCell ⟨g, i, none⟩ v) :=
  ⟨below_set h.1 hg, by rw [Below.heap_setCell _ _ _ B h0]; exact h.2.1, by rw [Below.heap_setCell _ _ _ (B + 2) h2]; exact h.2.2⟩
theorem InvP.liq {w : World} {G O B : Nat} {A1 A2 : Option Addr} {c1 c2 : Nat} {t : List S50} {ts : List Int} {a : Int} {pre : List (Int × Int)} {X : World} {m : Int} (v' : Int) (hB : w.heap.size ≤ B) (hO : O < B) (hG : G + 1 + 1 < B) (h : InvP w G O B A1 A2 c1 c2 t ts a pre X) (hl : LiqB B a m X) :
    InvP w G O B A1 A2 c1 c2 t ts a pre ((X.setCell ⟨B + 1, 0, none⟩ (.int .i64 a)).setCell ⟨B + 1, 1, none⟩ (.int .i64 v')) := by
  obtain ⟨h1, h2, _, ⟨v, h4, h5⟩, h6, h7⟩ := h
  have u0 : (X.setCell ⟨B + 1, 0, none⟩ (.int .i64 a)).heap[B + 1]? = some (.cells #[.int .i64 a, .int .i64 m] 24 (0, 0)) := blk_put hl 0 _ rfl
  have far : ∀ k, k < B → ∀ cs ty, X.heap[k]? = some (.cells cs ty (0, 0)) → ((X.setCell ⟨B + 1, 0, none⟩ (.int .i64 a)).setCell ⟨B + 1, 1, none⟩ (.int .i64 v')).heap[k]? = some (.cells cs ty (0, 0)) := fun k hk cs ty hx => by
    rw [Below.heap_setCell _ _ _ k (by show k ≠ B + 1; omega), Below.heap_setCell _ _ _ k (by show k ≠ B + 1; omega)]
    exact hx
  exact ⟨(h1.set (by omega) (by omega) (by omega) 0 _).set (by omega) (by omega) (by omega) 1 _, h2, ⟨v', blk_put u0 1 _ rfl⟩, ⟨v, far O hO _ _ h4, R_other (R_other h5 hl (by decide) 0 _) u0 (by decide) 1 _⟩, far _ (by omega) _ _ h6, far _ hG _ _ h7⟩
attribute [local go_sem] Oper.semAt_some
set_option maxHeartbeats 8000000 in
set_option maxRecDepth 100000 in
theorem reduce_Plan.calls (A0 : Option Addr) (c0 : Nat) (l0 : List S50) (a1_0 a1_1 : Int) (A2 : Option Addr) (c2 : Nat) (l2 : List Int) (r1 : List Int) (r2 : Int) (w : World) (hr0 : Kd.C k50 w A0 l0.length l0) (hc0 : l0.length ≤ c0) (hr2 : Kd.C (Kd.int .i64) w A2 l2.length l2) (hc2 : l2.length ≤ c2) (h : reduce_Plan.f l0 a1_0 a1_1 l2 = some (r1, r2)) :
    Calls Try.prog 21 #[.slice A0 l0.length c0, .agg #[.int .i64 a1_0, .int .i64 a1_1], .slice A2 l2.length c2] w fun e w' => ∃ v0_ : Value, e = .returned (.tuple #[v0_, .int .i64 r2]) ∧ Kd.R (Kd.int .i64) 3 w' w.heap.size (fun _ => True) v0_ r1 ∧ Below w.heap.size w w' := by
  have hu := Try.underlying24
  unfold reduce_Plan.f at h
  by_cases hz : l2.length < 4611686018427387904
  case neg => rw [if_neg hz] at h; cases h
  rw [if_pos hz] at h
  have h := Option.some.inj h
  have HPL := Aside0.mk (fun (W : World) (hb : Below w.heap.size w W) => reduce_planned_s.calls A0 c0 l0 a1_0 a1_1 A2 c2 l2 l2.length (plnE l0 a1_0 a1_1 l2 l2.length) W (Kd.C_below hr0 hb) hc0 (Kd.C_below hr2 hb) hc2 (by unfold reduce_planned_s.f; rw [if_pos hz]))
  unfold planR at h
  by_cases hp : plnE l0 a1_0 a1_1 l2 l2.length = 0
  case neg =>
    rw [if_pos hp] at h
    simp only [Prod.mk.injEq] at h
    obtain ⟨rfl, rfl⟩ := h
    have b1 : (plnE l0 a1_0 a1_1 l2 l2.length != 0) = true := bne_iff_ne.mpr hp
    generalize plnE l0 a1_0 a1_1 l2 l2.length = pe at *
    have HB := Aside0.mk (Below.refl w.heap.size w)
    clear hr0 hr2 hc0 hc2 hp hz
    refine (callsIn_wide (n := 6)).1 ?_
    refine callsIn_of_wp_marks Try.func21 rfl trivial ?_ rfl
    simp only [Try.ntmps21, List.size_toArray, List.length_cons, List.length_nil, Nat.reduceAdd, Nat.reduceSub, Array.replicate_succ, Array.replicate_zero, List.push_toArray, List.append_toArray, List.nil_append, List.cons_append]
    gi_wp2_with fail
    obtain ⟨W3, hW3⟩ : ∃ W3, W3 = (((w.alloc (.cells #[.int .i64 a1_0, .int .i64 a1_1] 24)).alloc (.cells #[.slice none 0 0] 41)).alloc (.cells #[.int .i64 0] 27)) := ⟨_, rfl⟩
    have HB3 := Aside0.mk (show Below w.heap.size w W3 by rw [hW3]; exact below_alloc (below_alloc (below_alloc (Below.refl _ _) _) _) _)
    have bR : W3.heap[w.heap.size + 1]? = some (.cells #[.slice none 0 0] 41 (0, 0)) := by
      have h1 := Boxed.new (w.alloc (.cells #[.int .i64 a1_0, .int .i64 a1_1] 24)) 41 (.slice none 0 0)
      rw [World.size_alloc] at h1
      rw [hW3]; exact h1.alloc _
    have bE : W3.heap[w.heap.size + 1 + 1]? = some (.cells #[.int .i64 0] 27 (0, 0)) := by
      have h1 := Boxed.new ((w.alloc (.cells #[.int .i64 a1_0, .int .i64 a1_1] 24)).alloc (.cells #[.slice none 0 0] 41)) 27 (.int .i64 0)
      rw [World.size_alloc, World.size_alloc] at h1
      rw [hW3]; exact h1
    rw [← hW3]
    clear hW3
    refine ⟨trivial, (callsIn_wide.2 (HPL.out _ HB3.out)).mono ?_⟩
    rintro e w1 ⟨rfl, hb⟩
    replace bR := blk_below bR hb
    replace bE := blk_below bE hb
    have HB1 := Aside0.mk (below_step HB3.out hb)
    have x0 : w1.cell? ⟨w.heap.size + 1, 0, none⟩ = some (.slice none 0 0) := blk_cell bR 0
    have x1 := blk_frozen bR 0
    have y0 : w1.cell? ⟨w.heap.size + 1 + 1, 0, none⟩ = some (.int .i64 0) := blk_cell bE 0
    have y1 := blk_frozen bE 0
    have HBR := Aside0.mk bR
    have HBE := Aside0.mk bE
    clear hb bR bE HB3
    gi_wp2
    have r0 : ((w1.setCell ⟨w.heap.size + 1, 0, none⟩ (.slice none 0 0)).setCell ⟨w.heap.size + 1 + 1, 0, none⟩ (.int .i64 pe)).cell? ⟨w.heap.size + 1, 0, none⟩ = some (.slice none 0 0) := by
      rw [cell_far (by show w.heap.size + 1 ≠ w.heap.size + 1 + 1; omega)]; exact blk_cell (blk_put HBR.out 0 _ rfl) 0
    have r1 : ((w1.setCell ⟨w.heap.size + 1, 0, none⟩ (.slice none 0 0)).setCell ⟨w.heap.size + 1 + 1, 0, none⟩ (.int .i64 pe)).cell? ⟨w.heap.size + 1 + 1, 0, none⟩ = some (.int .i64 pe) :=
      blk_cell (blk_put ((Boxed.other (B' := w.heap.size + 1) HBE.out (by omega) _)) 0 _ rfl) 0
    refine ⟨.tuple #[.slice none 0 0, .int .i64 pe], ?_, ?_⟩
    · simp [results, Try.f21, go_sem, r0, r1]
    · exact ⟨_, rfl, Kd.R_nil _ _ _ _ _, below_set (below_set HB1.out (Nat.le_succ _)) (by show w.heap.size ≤ w.heap.size + 1 + 1; omega)⟩
  rw [if_neg (not_not_intro hp)] at h
  have b1 : (plnE l0 a1_0 a1_1 l2 l2.length != 0) = false := by rw [hp]; rfl
  obtain ⟨hok, hl8, -, -, -⟩ := plnE_zero hp
  rw [hp] at HPL b1
  have HRES := Aside0.mk h
  have HOK := Aside0.mk hok
  have HL8 := Aside0.mk hl8
  have HC0 := Aside0.mk (⟨hr0, hc0⟩ : _ ∧ _)
  have HC2 := Aside0.mk (⟨hr2, hc2⟩ : _ ∧ _)
  clear h hok hl8 hr0 hr2 hc0 hc2 hp hz
  refine (callsIn_wide (n := 6)).1 ?_
  refine callsIn_of_wp_marks Try.func21 rfl trivial ?_ rfl
  simp only [Try.ntmps21, List.size_toArray, List.length_cons, List.length_nil, Nat.reduceAdd, Nat.reduceSub, Array.replicate_succ, Array.replicate_zero, List.push_toArray, List.append_toArray, List.nil_append, List.cons_append]
  gi_wp2_with fail
  obtain ⟨W3, hW3⟩ : ∃ W3, W3 = (((w.alloc (.cells #[.int .i64 a1_0, .int .i64 a1_1] 24)).alloc (.cells #[.slice none 0 0] 41)).alloc (.cells #[.int .i64 0] 27)) := ⟨_, rfl⟩
  have HB3 := Aside0.mk (show Below w.heap.size w W3 by rw [hW3]; exact below_alloc (below_alloc (below_alloc (Below.refl _ _) _) _) _)
  have bL : W3.heap[w.heap.size]? = some (.cells #[.int .i64 a1_0, .int .i64 a1_1] 24 (0, 0)) := by
    rw [hW3]; exact blk_below (blk_new w _) (below_alloc (below_alloc (Below.refl _ _) _) _)
  have bR : W3.heap[w.heap.size + 1]? = some (.cells #[.slice none 0 0] 41 (0, 0)) := by
    have h1 := Boxed.new (w.alloc (.cells #[.int .i64 a1_0, .int .i64 a1_1] 24)) 41 (.slice none 0 0)
    rw [World.size_alloc] at h1
    rw [hW3]; exact h1.alloc _
  have bE : W3.heap[w.heap.size + 1 + 1]? = some (.cells #[.int .i64 0] 27 (0, 0)) := by
    have h1 := Boxed.new ((w.alloc (.cells #[.int .i64 a1_0, .int .i64 a1_1] 24)).alloc (.cells #[.slice none 0 0] 41)) 27 (.int .i64 0)
    rw [World.size_alloc, World.size_alloc] at h1
    rw [hW3]; exact h1
  rw [← hW3]
  clear hW3
  refine ⟨trivial, (callsIn_wide.2 (HPL.out _ HB3.out)).mono ?_⟩
  rintro e w1 ⟨rfl, hb⟩
  replace bL := blk_below bL hb
  replace bR := blk_below bR hb
  replace bE := blk_below bE hb
  have HB1 := Aside0.mk (below_step HB3.out hb)
  have x0 : w1.cell? ⟨w.heap.size + 1, 0, none⟩ = some (.slice none 0 0) := blk_cell bR 0
  have x1 := blk_frozen bR 0
  have y0 : w1.cell? ⟨w.heap.size + 1 + 1, 0, none⟩ = some (.int .i64 0) := blk_cell bE 0
  have y1 := blk_frozen bE 0
  have HBR := Aside0.mk bR
  have HBE := Aside0.mk bE
  clear hb bR bE HB3
  have HBL := Aside0.mk (show w1.heap[w.heap.size]? = some (.cells #[.int .i64 a1_0, .int .i64 a1_1] 24 (0, 0)) from bL)
  have z0 : ∀ o, (w1.alloc o).cell? ⟨w.heap.size, 0, none⟩ = some (.int .i64 a1_0) := fun o => pw_cell_alloc o (blk_cell bL 0)
  have z1 : ∀ o, (w1.alloc o).cell? ⟨w.heap.size, 1, none⟩ = some (.int .i64 a1_1) := fun o => pw_cell_alloc o (blk_cell bL 1)
  clear bL
  gi_wp2_with fail
  obtain ⟨W4, hW4⟩ : ∃ W4, W4 = w1.alloc (.cells #[.slice none 0 0] 41) := ⟨_, rfl⟩
  have hs4 : W4.heap.size = w1.heap.size + 1 := by rw [hW4]; simp
  have HB4 := Aside0.mk (show Below w.heap.size w W4 by rw [hW4]; exact below_alloc HB1.out _)
  have bO : W4.heap[w1.heap.size]? = some (.cells #[.slice none 0 0] 41 (0, 0)) := by rw [hW4]; exact blk_new w1 _
  have bR4 : W4.heap[w.heap.size + 1]? = some (.cells #[.slice none 0 0] 41 (0, 0)) := by rw [hW4]; exact blk_alloc HBR.out _
  have bE4 : W4.heap[w.heap.size + 1 + 1]? = some (.cells #[.int .i64 0] 27 (0, 0)) := by rw [hW4]; exact blk_alloc HBE.out _
  rw [← hW4]
  have HG := Aside0.mk (show w.heap.size ≤ w1.heap.size ∧ w.heap.size + 1 + 1 < w1.heap.size from ⟨HB1.out.size, blk_lt HBE.out⟩)
  clear hW4 z0 z1 x0 x1 y0 y1 HBL HBR HBE
  refine ⟨trivial, (callsIn_wide.2 (steps.known A0 A2 c0 c2 l0.length l2.length a1_0 a1_1 W4)).mono ?_⟩
  rintro e w' ⟨rfl, rfl⟩
  obtain ⟨B, hB⟩ : ∃ B, B = W4.heap.size := ⟨_, rfl⟩
  obtain ⟨O, hO⟩ : ∃ O, O = w1.heap.size := ⟨_, rfl⟩
  obtain ⟨Wr, hWr⟩ : ∃ Wr, Wr = (((W4.alloc (.cells #[.slice A0 l0.length c0] 22)).alloc (.cells #[.int .i64 a1_0, .int .i64 a1_1] 24)).alloc (.cells #[.slice A2 l2.length c2] 41)) := ⟨_, rfl⟩
  have HBWr := Aside0.mk (show Below w.heap.size w Wr by rw [hWr]; exact below_alloc (below_alloc (below_alloc HB4.out _) _) _)
  have v0 : Wr.heap[B]? = some (.cells #[.slice A0 l0.length c0] 22 (0, 0)) := by rw [hWr, hB]; exact blk_alloc (blk_alloc (blk_new W4 _) _) _
  have v1 : LiqB B a1_0 a1_1 Wr := by
    have h1 := blk_new (W4.alloc (.cells #[.slice A0 l0.length c0] 22)) (.cells #[.int .i64 a1_0, .int .i64 a1_1] 24)
    rw [World.size_alloc] at h1
    unfold LiqB
    rw [hWr, hB]; exact blk_alloc h1 _
  have v2 : Wr.heap[B + 2]? = some (.cells #[.slice A2 l2.length c2] 41 (0, 0)) := by
    have h1 := blk_new ((W4.alloc (.cells #[.slice A0 l0.length c0] 22)).alloc (.cells #[.int .i64 a1_0, .int .i64 a1_1] 24)) (.cells #[.slice A2 l2.length c2] 41)
    rw [World.size_alloc, World.size_alloc] at h1
    rw [hWr, hB]; exact h1
  have vO : Wr.heap[O]? = some (.cells #[.slice none 0 0] 41 (0, 0)) := by rw [hWr, hO]; exact blk_alloc (blk_alloc (blk_alloc bO _) _) _
  have vR : Wr.heap[w.heap.size + 1]? = some (.cells #[.slice none 0 0] 41 (0, 0)) := by rw [hWr]; exact blk_alloc (blk_alloc (blk_alloc bR4 _) _) _
  have vE : Wr.heap[w.heap.size + 1 + 1]? = some (.cells #[.int .i64 0] 27 (0, 0)) := by rw [hWr]; exact blk_alloc (blk_alloc (blk_alloc bE4 _) _) _
  have hINV : InvP w w.heap.size O B A0 A2 c0 c2 l0 l2 a1_0 [] Wr := ⟨⟨HBWr.out, v0, v2⟩, fun x hx => by simp at hx, ⟨_, v1⟩, ⟨_, vO, Kd.R_nil _ _ _ _ _⟩, vR, vE⟩
  have HBO := Aside0.mk (show w.heap.size ≤ B ∧ O < B ∧ w.heap.size + 1 + 1 < B ∧ w.heap.size ≤ O by have := HG.out; omega)
  have HINV := Aside0.mk hINV
  have HGO := Aside0.mk (show w.heap.size + 1 + 1 < O by have := HG.out; omega)
  have HV1 := Aside0.mk v1
  rw [← hWr, ← hB, ← hO]
  clear hWr hB hO hs4 v0 v1 v2 vO vR vE bO bR4 bE4 hINV HB4 HG
  gi_wp2_with fail
  refine range_at rfl (by omega) (gf := 54) (lb := #[.pointer (some ⟨B + 2, 0, none⟩), .pointer (some ⟨B, 0, none⟩), .pointer (some ⟨B + 1, 0, none⟩)]) rfl trivial (enters_of Try.func54 (by kernel_rfl) rfl)
    (encS a1_0) (fun xs => runS l0 a1_0 a1_1 l2 = (xs, true)) (fun pre => pre <+: (runS l0 a1_0 a1_1 l2).1) l2.length (KpS w B A0 A2 c0 c2 l0 l2 a1_0) (LiqB B a1_0 a1_1) (InvP w w.heap.size O B A0 A2 c0 c2 l0 l2 a1_0) (RetP w w.heap.size)
    (fun x a' W => a' = { tmps := #[Value.slice A0 l0.length c0, Value.agg #[Value.int IntKind.i64 a1_0, Value.int IntKind.i64 a1_1], Value.slice A2 l2.length c2, undef, Value.pointer (some { block := w.heap.size, off := 0 }), undef, Value.pointer (some { block := w.heap.size + 1, off := 0 }), Value.pointer (some { block := w.heap.size + 1 + 1, off := 0 }), Value.int IntKind.i64 0, Value.pointer (some { block := O, off := 0 }), Value.int IntKind.i64 x.1, Value.slice A0 l0.length c0, Value.agg #[Value.int IntKind.i64 a1_0, Value.int IntKind.i64 a1_1], Value.slice A2 l2.length c2, Value.slice A2 l2.length c2, Value.int IntKind.i64 ↑l2.length, Value.int IntKind.i64 0, Value.int IntKind.i64 0, Value.bool false, undef, Value.slice A0 l0.length c0, Value.agg #[Value.int IntKind.i64 a1_0, Value.int IntKind.i64 a1_1], Value.slice A2 l2.length c2, Value.func (Fn.func 54) #[] #[Value.pointer (some { block := B + 2, off := 0 }), Value.pointer (some { block := B, off := 0 }), Value.pointer (some { block := B + 1, off := 0 })], Value.int IntKind.i64 x.1, Value.agg #[Value.int IntKind.i64 a1_0, Value.int IntKind.i64 x.2], undef, undef, undef, undef, undef, undef, undef], defers := [] })
    (steps.iter 5 w B A0 A2 c0 c2 l0 l2 a1_0 a1_1 HBO.out.1 HOK.out HL8.out HC0.out.1 HC0.out.2 HC2.out.1 HC2.out.2 _ _ (fun pre W h => h.2.1) (fun pre W h => h.1) (fun pre X Y h hb => h.below hb) (fun pre X m v h hl => h.liq v HBO.out.1 HBO.out.2.1 HBO.out.2.2.1 hl) _ (fun W h => h))
    ?kt ?kb (fun _ => rfl) (InvP.own (by have := HBWr.out.size; exact this)) (RetP.own (by have := HBWr.out.size; exact this)) (fun x a' _ X Y row hs hg hr => hs) HINV.out (fun o o' => LiqB.below HV1.out (below_alloc (below_alloc (Below.refl _ _) _) _)) ?assign ?body ?done ?stop
  case kt => exact fun h k => ⟨fun e => k.1 (h.1 e), fun m e => k.2 m (h.2 m e)⟩
  case kb =>
    intro W l o o' hl ho hc
    have hr : ∀ r, (some l : Option Nat) = some r → Wr.heap.size ≤ r ∧ ∃ o : Obj, W.heap[r]? = some o ∧ o.isCells = false := fun r e => by cases e; exact ⟨hl, o, ho, hc⟩
    have hr2 : ∀ r, (some l : Option Nat) = some r → ∃ o : Obj, W.heap[r]? = some o ∧ o.isCells = false := fun r e => (hr r e).2
    exact ⟨fun h => ⟨ownFrom_below (w₀ := w) (n₀ := w.heap.size) (B := Wr.heap.size) (Nat.le_refl _) HBWr.out.size () W _ (some l) h.1 (grownBy_putObj' W l o') hr, kept_cells (grownBy_putObj' W l o') hr2 h.2.1, kept_cells (grownBy_putObj' W l o') hr2 h.2.2⟩, fun m h => kept_cells (grownBy_putObj' W l o') hr2 h⟩
  case assign =>
    rintro l pre x W K hi hK
    unfold encS
    gi_wp2
    exact hK _ _ (KeepsFrom.refl _ _) ⟨fun h => h, fun m h => h⟩ hi rfl
  case body =>
    rintro l pre x a' W hi rfl hlen
    obtain ⟨v, hv, hR⟩ := hi.2.2.2.1
    have g0 := hi.2.2.2.2.1
    have g1 := hi.2.2.2.2.2
    by_cases hx : x.1 < 0
    case pos =>
      have q0 : decide (x.1 < 0) = true := decide_eq_true hx
      have s0 : W.cell? ⟨w.heap.size + 1, 0, none⟩ = some (.slice none 0 0) := blk_cell g0 0
      have s1 := blk_frozen g0 0
      have s2 : W.cell? ⟨w.heap.size + 1 + 1, 0, none⟩ = some (.int .i64 0) := blk_cell g1 0
      have s3 := blk_frozen g1 0
      have HI := Aside0.mk hi
      have HX := Aside0.mk hx
      have G0 := Aside0.mk g0
      have G1 := Aside0.mk g1
      clear hi hx hv hR g0 g1 hlen
      gi_wp2
      refine ⟨((KeepsOthers.setCell _ _ _).trans (KeepsOthers.setCell _ _ _)).from _, rfl, below_set (below_set HI.out.1.1 (Nat.le_succ _)) (by show w.heap.size ≤ w.heap.size + 1 + 1; omega), ⟨x, by simp, HX.out⟩, ?_, ?_⟩
      · rw [Below.heap_setCell _ _ _ (w.heap.size + 1) (by show w.heap.size + 1 ≠ w.heap.size + 1 + 1; omega)]
        exact blk_put G0.out 0 _ rfl
      · exact blk_put (by rw [Below.heap_setCell _ _ _ (w.heap.size + 1 + 1) (by show w.heap.size + 1 + 1 ≠ w.heap.size + 1; omega)]; exact G1.out) 0 _ rfl
    case neg =>
      have q0 : decide (x.1 < 0) = false := decide_eq_false hx
      have s0 : W.cell? ⟨O, 0, none⟩ = some v := blk_cell hv 0
      obtain ⟨i0, hi0, hz0, hz1, hz2⟩ : ∃ i0, Try.prog.info? 3 = some i0 ∧ i0.zero = some (.int .i64 0) ∧ i0.size = 1 ∧ i0.bytes = 8 := by
        have hinfo : (Try.prog.info? 3).map (fun i => (i.zero, i.size, i.bytes)) = some (some (.int .i64 0), 1, 8) := by kernel_rfl
        cases hq : Try.prog.info? 3 with
        | none => rw [hq] at hinfo; simp at hinfo
        | some i0 => rw [hq] at hinfo; simp at hinfo; exact ⟨i0, rfl, hinfo.1, hinfo.2.1, hinfo.2.2⟩
      have HZI := Aside0.mk (⟨hi0, hz0, hz1, hz2⟩ : _ ∧ _ ∧ _ ∧ _)
      have HI := Aside0.mk hi
      have HX := Aside0.mk (show 0 ≤ x.1 by omega)
      have HV := Aside0.mk hv
      have HR := Aside0.mk hR
      have HLN := Aside0.mk (show (pre.map Prod.fst).length ≤ 8 by rw [List.length_map]; have := HL8.out; omega)
      clear hi hx hv hR g0 g1 hlen hi0 hz0 hz1 hz2
      gi_wp2_with (gi_at_builtin; refine wpListIn_append_own _ rfl (.tmp 28) (.tmp 30) 41 rfl w.heap.size 3 i0 (.int .i64 0) 1 8 Try.underlying41 HZI.out.1 HZI.out.2.1 HZI.out.2.2.1 HZI.out.2.2.2 rfl (by decide) v (pre.map Prod.fst).length (encs (Value.int .i64) (pre.map Prod.fst)) rfl ?hown ⟨W.heap.size, 0, none⟩ 1 1 [.int .i64 x.1] rfl rfl ?hc ?h1c ?b1 ?b2 ?b3 ?_; (case hown => exact (Kd.own_of_R HR.out).alloc _); (case hc => simpa using World.news_of_block (cs := #[.int .i64 x.1]) (t := 3) (fr := (0, 0)) (heap_alloc_new W (.cells #[.int .i64 x.1] 3))); (case h1c => exact fun u hu => by rw [List.mem_singleton] at hu; rw [hu]; rfl); (case b1 => have := HLN.out; simp only [maxLen]; omega); (case b2 => have := HLN.out; omega); (case b3 => exact below_size (below_alloc HI.out.1.1 _)); intro v' w' hown hg hat; have hgW := World.grownBy.trans (World.grownBy_alloc W (.cells #[.int .i64 x.1] 3) v.ownBlock) hg; have hRn := row_int (xs := pre.map Prod.fst) hown; obtain ⟨A', c', hv'⟩ := Kd.R_slice hRn; obtain ⟨nn, hnn⟩ : ∃ nn, nn = (pre.map Prod.fst ++ [x.1]).length := ⟨_, rfl⟩; rw [← hnn] at hv'; clear hnn; subst hv'; have hO' := cellsRow HR.out hgW HV.out (fun cs e => by injection e with _ e; exact absurd e (by decide)); have hbn := below_grown2 HI.out.1.1 hgW HR.out; have s0' := blk_cell hO' 0; have s1' := blk_frozen hO' 0; have HP := Aside0.mk (InvP.push x HX.out HBO.out.2.2.2 HBO.out.2.1 (by have := HGO.out; omega) HI.out HV.out HR.out hgW hbn hRn); clear hown hg hat hgW hRn hO' hbn)
      exact ⟨HP.out.2.2.from _, ⟨fun _ => HP.out.1.1, HP.out.2.1⟩, HP.out.1⟩
  case done =>
    rintro xs W hS hi hK
    obtain ⟨v, hv, hR⟩ := hi.2.2.2.1
    have g0 := hi.2.2.2.2.1
    have g1 := hi.2.2.2.2.2
    have hres := HRES.out
    rw [hS, if_pos rfl] at hres
    simp only [Prod.mk.injEq] at hres
    obtain ⟨hr1, rfl⟩ := hres
    rw [hr1] at hR
    obtain ⟨A', c', hv'⟩ := Kd.R_slice hR
    obtain ⟨nn, hnn⟩ : ∃ nn, nn = r1.length := ⟨_, rfl⟩
    rw [← hnn] at hv'
    clear hnn hr1
    subst hv'
    have s0 : W.cell? ⟨O, 0, none⟩ = some (.slice A' nn c') := blk_cell hv 0
    have t0 : W.cell? ⟨w.heap.size + 1, 0, none⟩ = some (.slice none 0 0) := blk_cell g0 0
    have t1 := blk_frozen g0 0
    have t2 : W.cell? ⟨w.heap.size + 1 + 1, 0, none⟩ = some (.int .i64 0) := blk_cell g1 0
    have t3 := blk_frozen g1 0
    have HI := Aside0.mk hi
    have HR := Aside0.mk hR
    have G0 := Aside0.mk g0
    have G1 := Aside0.mk g1
    clear hS hi hv hR g0 g1
    gi_wp2
    have hK2 : ((W.setCell ⟨w.heap.size + 1, 0, none⟩ (.slice A' nn c')).setCell ⟨w.heap.size + 1 + 1, 0, none⟩ (.int .i64 0)).heap[Wr.heap.size]? = some (.deferred (some [])) := by
      rw [Below.heap_setCell _ _ _ Wr.heap.size (fun e => by have e2 : Wr.heap.size = w.heap.size + 1 + 1 := e; rw [e2, G1.out] at hK; cases hK), Below.heap_setCell _ _ _ Wr.heap.size (fun e => by have e2 : Wr.heap.size = w.heap.size + 1 := e; rw [e2, G0.out] at hK; cases hK)]
      exact hK
    refine ⟨by simp, .inl ⟨_, _, rfl, run_takeDeferred hK2, ?_⟩⟩
    have r0 : ∀ o, (((W.setCell ⟨w.heap.size + 1, 0, none⟩ (.slice A' nn c')).setCell ⟨w.heap.size + 1 + 1, 0, none⟩ (.int .i64 0)).putObj Wr.heap.size o).cell? ⟨w.heap.size + 1, 0, none⟩ = some (.slice A' nn c') := fun o => by
      refine cell_kept ?_ (grownBy_putObj' _ _ o) (fun r e => by cases e; exact ⟨_, hK2, rfl⟩)
      rw [cell_far (by show w.heap.size + 1 ≠ w.heap.size + 1 + 1; omega)]
      exact blk_cell (blk_put G0.out 0 _ rfl) 0
    have r1' : ∀ o, (((W.setCell ⟨w.heap.size + 1, 0, none⟩ (.slice A' nn c')).setCell ⟨w.heap.size + 1 + 1, 0, none⟩ (.int .i64 0)).putObj Wr.heap.size o).cell? ⟨w.heap.size + 1 + 1, 0, none⟩ = some (.int .i64 0) := fun o => by
      refine cell_kept ?_ (grownBy_putObj' _ _ o) (fun r e => by cases e; exact ⟨_, hK2, rfl⟩)
      exact blk_cell (blk_put (Boxed.other (B' := w.heap.size + 1) G1.out (by omega) _) 0 _ rfl) 0
    refine ⟨.tuple #[.slice A' nn c', .int .i64 0], ?_, ?_⟩
    · simp [results, Try.f21, go_sem, r0, r1']
    · refine ⟨_, rfl, ?_, ?_⟩
      · exact kept_R (grownBy_putObj' _ _ _) (fun r e => by cases e; exact ⟨_, hK2, rfl⟩) (R_other (R_other HR.out G0.out (by decide) 0 _) (Boxed.other (B' := w.heap.size + 1) G1.out (by omega) _) (by decide) 0 _)
      · exact (below_set (below_set HI.out.1.1 (Nat.le_succ _)) (by show w.heap.size ≤ w.heap.size + 1 + 1; omega)).trans (belowK_b (n₀ := w.heap.size) (w := Wr) HBWr.out.size _ Wr.heap.size _ _ (Nat.le_refl _) hK2 rfl rfl)
  case stop =>
    rintro pre W hSp hR hK
    obtain ⟨hb, ⟨x, hx, hneg⟩, g0, g1⟩ := hR
    have hres := HRES.out
    have hfl : ¬ (runS l0 a1_0 a1_1 l2).2 = true := fun e => by
      have := runS_nonneg l2 a1_1 HOK.out e x (hSp.subset hx)
      omega
    rw [if_neg hfl] at hres
    simp only [Prod.mk.injEq] at hres
    obtain ⟨rfl, rfl⟩ := hres
    have G0 := Aside0.mk g0
    have G1 := Aside0.mk g1
    have HBW := Aside0.mk hb
    clear hSp hx hneg hfl hb
    gi_wp2
    refine ⟨by simp, .inl ⟨_, _, rfl, run_takeDeferred hK, ?_⟩⟩
    have r0 : ∀ o, (W.putObj Wr.heap.size o).cell? ⟨w.heap.size + 1, 0, none⟩ = some (.slice none 0 0) := fun o => cell_kept (blk_cell G0.out 0) (grownBy_putObj' _ _ o) (fun r e => by cases e; exact ⟨_, hK, rfl⟩)
    have r1' : ∀ o, (W.putObj Wr.heap.size o).cell? ⟨w.heap.size + 1 + 1, 0, none⟩ = some (.int .i64 15) := fun o => cell_kept (blk_cell G1.out 0) (grownBy_putObj' _ _ o) (fun r e => by cases e; exact ⟨_, hK, rfl⟩)
    refine ⟨.tuple #[.slice none 0 0, .int .i64 15], ?_, ?_⟩
    · simp [results, Try.f21, go_sem, r0, r1']
    · exact ⟨_, rfl, Kd.R_nil _ _ _ _ _, HBW.out.trans (belowK_b (n₀ := w.heap.size) (w := Wr) HBWr.out.size _ Wr.heap.size _ _ (Nat.le_refl _) hK rfl rfl)⟩

/-! ### reduce_Check: function 22 -/
def reduce_Check.l0 : Nat → List Int → List Int → Int → Int → Option (Int × Int)
 | 0, _, _, _, _ => none
 | k + 1, x3, x34, x35, x36 => if x36 < x35 then (if 0 ≤ x36 then (if x36 < (x34.length : Int) then (if x36 < (x3.length : Int) then (if (rd x3 x36) = (rd x34 x36) then (reduce_Check.l0 k x3 x34 x35 (wrap64 (x36 + 1))) else (some (x36, 14))) else (none)) else (none)) else (none)) else (some ((-1), 0))
def reduce_Check.f (k : Nat) (l0 : List (S50)) (a1_0 : Int) (a1_1 : Int) (l2 : List Int) (l3 : List Int) : Option (Int × Int) := (reduce_planned_s.f l0 a1_0 a1_1 l2 (l3.length : Int)).bind fun t287 => (if t287 = 0 then ((reduce_Plan.f l0 a1_0 a1_1 l2).bind fun bt288 => (if bt288.2 = 0 then (reduce_Check.l0 k l3 bt288.1 (bt288.1.length : Int) 0) else (some ((-1), bt288.2)))) else (some ((-1), t287)))
theorem reduce_Check.mono_l : ∀ k, (∀ y0 y1 y2 y3, LeO (reduce_Check.l0 k y0 y1 y2 y3) (reduce_Check.l0 (k + 1) y0 y1 y2 y3))
 | 0 => fun _ _ _ _ r h => by simp [reduce_Check.l0] at h
 | k + 1 => by
  have ih0 := reduce_Check.mono_l k
  ·intro y0 y1 y2 y3
   unfold reduce_Check.l0
   repeat' first
   | (with_reducible exact ih0 _ _ _ _)
   | (with_reducible exact LeO.refl _)
   | (with_reducible exact LeO.none _)
   | (with_reducible refine LeO.ite ?_ ?_)
   | (with_reducible refine LeO.bind ?_ (fun _ => ?_))
   | exact ih0 _ _ _ _
   | exact LeO.none _
   | refine LeO.ite ?_ ?_
   | refine LeO.bind ?_ (fun _ => ?_)
theorem reduce_Check.mono : ∀ a0 a1 a2 a3 a4 k, LeO (reduce_Check.f k a0 a1 a2 a3 a4) (reduce_Check.f (k + 1) a0 a1 a2 a3 a4) := by
 intro a0 a1 a2 a3 a4 k
 have ih0 := reduce_Check.mono_l k
 unfold reduce_Check.f
 repeat' first
   | (with_reducible exact ih0 _ _ _ _)
   | (with_reducible exact LeO.refl _)
   | (with_reducible exact LeO.none _)
   | (with_reducible refine LeO.ite ?_ ?_)
   | (with_reducible refine LeO.bind ?_ (fun _ => ?_))
   | exact ih0 _ _ _ _
   | exact LeO.none _
   | refine LeO.ite ?_ ?_
   | refine LeO.bind ?_ (fun _ => ?_)
set_option maxHeartbeats 8000000 in
set_option maxRecDepth 100000 in
theorem reduce_Check.calls (k : Nat) (A0 : Option Addr) (c0 : Nat) (l0 : List (S50)) (a1_0 : Int) (a1_1 : Int) (A2 : Option Addr) (c2 : Nat) (l2 : List Int) (A3 : Option Addr) (c3 : Nat) (l3 : List Int) (r1 : Int) (r2 : Int) (w : World) (hr0 : Kd.C k50 w A0 l0.length l0) (hc0 : l0.length ≤ c0) (hr2 : Kd.C (Kd.int .i64) w A2 l2.length l2) (hc2 : l2.length ≤ c2) (hr3 : Kd.C (Kd.int .i64) w A3 l3.length l3) (hc3 : l3.length ≤ c3) (h : reduce_Check.f k l0 a1_0 a1_1 l2 l3 = some (r1, r2)) :
  Calls Try.prog 22 #[.slice A0 l0.length c0, .agg #[.int .i64 a1_0, .int .i64 a1_1], .slice A2 l2.length c2, .slice A3 l3.length c3] w fun e w' => e = .returned (.tuple #[.int .i64 r1, .int .i64 r2]) ∧ Below w.heap.size w w' := by
 have hu24 := Try.underlying24
 have HR0 := Aside0.mk hr0
 have HC0 := Aside0.mk hc0
 clear hr0 hc0
 have HR2 := Aside0.mk hr2
 have HC2 := Aside0.mk hc2
 clear hr2 hc2
 have HR3 := Aside0.mk hr3
 have HC3 := Aside0.mk hc3
 clear hr3 hc3
 have HB := Aside0.mk (Below.refl w.heap.size w)
 have H : ((reduce_planned_s.f l0 a1_0 a1_1 l2 (l3.length : Int)).bind fun t287 => (if t287 = 0 then ((reduce_Plan.f l0 a1_0 a1_1 l2).bind fun bt288 => (if bt288.2 = 0 then (reduce_Check.l0 k l3 bt288.1 (bt288.1.length : Int) 0) else (some ((-1), bt288.2)))) else (some ((-1), t287)))) = some (r1, r2) := h
 clear h
 replace H := Option.bind_eq_some_iff.mp H
 obtain ⟨t287, A50, H⟩ := H
 replace H : (if t287 = 0 then ((reduce_Plan.f l0 a1_0 a1_1 l2).bind fun bt288 => (if bt288.2 = 0 then (reduce_Check.l0 k l3 bt288.1 (bt288.1.length : Int) 0) else (some ((-1), bt288.2)))) else (some ((-1), t287))) = some (r1, r2) := H
 have A5 := Aside0.mk A50
 clear A50
 by_cases c6 : t287 = 0
 ·rw [if_pos c6] at H
  have c6b0 : (t287 == 0) = true := beq_iff_eq.mpr c6
  have c6b1 : (t287 != 0) = false := bne_eq_false_iff_eq.mpr c6
  clear c6
  replace H := Option.bind_eq_some_iff.mp H
  obtain ⟨⟨t288, t291⟩, A70, H⟩ := H
  replace H : (if t291 = 0 then (reduce_Check.l0 k l3 t288 (t288.length : Int) 0) else (some ((-1), t291))) = some (r1, r2) := H
  have A7 := Aside0.mk A70
  clear A70
  by_cases c8 : t291 = 0
  ·rw [if_pos c8] at H
   have c8b0 : (t291 == 0) = true := beq_iff_eq.mpr c8
   have c8b1 : (t291 != 0) = false := bne_eq_false_iff_eq.mpr c8
   clear c8
   have H' := Aside0.mk H
   clear H
   go_enter Try.func22, Try.ntmps22
   go_wp2_with (first | ((with_reducible refine gate_dst (N := 5) rfl ?_); refine box_event ?hg (N := 5) ?hd (cs := #[.int .i64 a1_0, .int .i64 a1_1]) (t := 24) ?hr ?_; (case hd => rfl); (case hg => rfl); (case hr => first | (go_simp; done) | (go_simp; rfl)); intro gb286 hg w9 hbox hb; have n0_ := Aside0.mk (below_step (by repeat (first | (with_reducible first | exact HB.out | apply below_alloc | apply pw_below_drewN | apply below_drew1) | exact HB.out)) hb); have n1_ := Aside0.mk (hbox); have n2_ := Aside0.mk ((by rw [hg]; exact (below_size (by repeat (first | (with_reducible first | exact HB.out | apply below_alloc | apply pw_below_drewN | apply below_drew1) | exact HB.out))) : w.heap.size ≤ gb286)); have n3_ := Aside0.mk ((by rw [hg]; exact (below_size (by repeat (first | (with_reducible first | exact HB.out | apply below_alloc | apply pw_below_drewN | apply below_drew1) | exact HB.out))) : w.heap.size ≤ gb286)); clear HB; have HB := n0_; have BK286 := n1_; have GW286 := n2_; have GE286 := n3_; clear n0_ n1_ n2_ n3_; clear hb hbox hg; have hcz10_0 : w9.cell? ⟨gb286, 0, none⟩ = some (.int .i64 a1_0) := (blk_cell BK286.out 0).trans rfl; have hcz10_1 : w9.cell? ⟨gb286, 1, none⟩ = some (.int .i64 a1_1) := (blk_cell BK286.out 1).trans rfl; have hfz10_0 := blk_frozen BK286.out 0; have hfz10_1 := blk_frozen BK286.out 1) | ((with_reducible refine gate_callee (f := 41) rfl ?_); refine goesL_ (some 20) rfl rfl Try.func41 (by kernel_rfl) rfl #[.slice A0 l0.length c0, .agg #[.int .i64 a1_0, .int .i64 a1_1], .slice A2 l2.length c2, .int .i64 (l3.length : Int)] rfl (by (try simp only [List.map_toArray, List.map_cons, List.map_nil]); first | done | rfl | (simp only [List.length_drop, List.length_take]; rfl)) ?_; (with_reducible refine (reduce_planned_s.calls _ _ l0 a1_0 a1_1 _ _ l2 (l3.length : Int) t287 _ ?side1 ?side2 ?side3 ?side4 A5.out).mono ?_); (case side1 => repeat (first | exact (Kd.C_below HR0.out HB.out) | (with_reducible refine Kd.C_alloc ?_ _) | (with_reducible refine Kd.C_drewN ?_ _) | (with_reducible refine Kd.C_drew ?_))); (case side2 => exact HC0.out); (case side3 => repeat (first | exact (Kd.C_below HR2.out HB.out) | (with_reducible refine Kd.C_alloc ?_ _) | (with_reducible refine Kd.C_drewN ?_ _) | (with_reducible refine Kd.C_drew ?_))); (case side4 => exact HC2.out); rintro e w11 ⟨rfl, hb⟩; refine ⟨_, rfl, ?_⟩; have n0_ := Aside0.mk (blk_below (g := gb286) (o := .cells #[.int .i64 a1_0, .int .i64 a1_1] 24 (0, 0)) (by (with_reducible repeat (first | refine blk_drewN ?_ _ | refine blk_drew ?_ | refine blk_alloc ?_ _)); exact BK286.out) hb); have n1_ := Aside0.mk (below_step (by repeat (first | (with_reducible first | exact HB.out | apply below_alloc | apply pw_below_drewN | apply below_drew1 | refine below_set ?_ GE286.out) | exact HB.out)) hb); clear BK286; clear HB; have BK286 := n0_; have HB := n1_; clear n0_ n1_; (try clear hb); (try clear hb2); (try clear hk); (try clear hi); have hcz12_0 : w11.cell? ⟨gb286, 0, none⟩ = some (.int .i64 a1_0) := (blk_cell BK286.out 0).trans rfl; have hcz12_1 : w11.cell? ⟨gb286, 1, none⟩ = some (.int .i64 a1_1) := (blk_cell BK286.out 1).trans rfl; have hfz12_0 := blk_frozen BK286.out 0; have hfz12_1 := blk_frozen BK286.out 1) | ((with_reducible refine gate_callee (f := 21) rfl ?_); refine goesL_ (some 28) rfl rfl Try.func21 (by kernel_rfl) rfl #[.slice A0 l0.length c0, .agg #[.int .i64 a1_0, .int .i64 a1_1], .slice A2 l2.length c2] rfl (by (try simp only [List.map_toArray, List.map_cons, List.map_nil]); first | done | rfl | (simp only [List.length_drop, List.length_take]; rfl)) ?_; (with_reducible refine (reduce_Plan.calls _ _ l0 a1_0 a1_1 _ _ l2 t288 t291 _ ?side1 ?side2 ?side3 ?side4 A7.out).mono ?_); (case side1 => repeat (first | exact (Kd.C_below HR0.out HB.out) | (with_reducible refine Kd.C_alloc ?_ _) | (with_reducible refine Kd.C_drewN ?_ _) | (with_reducible refine Kd.C_drew ?_))); (case side2 => exact HC0.out); (case side3 => repeat (first | exact (Kd.C_below HR2.out HB.out) | (with_reducible refine Kd.C_alloc ?_ _) | (with_reducible refine Kd.C_drewN ?_ _) | (with_reducible refine Kd.C_drew ?_))); (case side4 => exact HC2.out); rintro e w13 ⟨v289, rfl, ho0, hb⟩; refine ⟨_, rfl, ?_⟩; have n0_ := Aside0.mk (Kd.R_lower ho0 (below_size (by repeat (first | (with_reducible first | exact HB.out | apply below_alloc | apply pw_below_drewN | apply below_drew1 | refine below_set ?_ GE286.out) | exact HB.out)))); have n1_ := Aside0.mk (blk_below (g := gb286) (o := .cells #[.int .i64 a1_0, .int .i64 a1_1] 24 (0, 0)) (by (with_reducible repeat (first | refine blk_drewN ?_ _ | refine blk_drew ?_ | refine blk_alloc ?_ _)); exact BK286.out) hb); have n2_ := Aside0.mk (below_step (by repeat (first | (with_reducible first | exact HB.out | apply below_alloc | apply pw_below_drewN | apply below_drew1 | refine below_set ?_ GE286.out) | exact HB.out)) hb); clear BK286; clear HB; have HO290 := n0_; have BK286 := n1_; have HB := n2_; clear n0_ n1_ n2_; (try clear hb); (try clear hb2); (try clear hk); (try clear hi); (try clear ho0); obtain ⟨Ao14, co14, eo14⟩ := Kd.R_slice HO290.out; subst eo14))
   go_loopg [36] k (fun kq v36 w' => ∃ (x36_1 : Int), v36 = .int .i64 x36_1 ∧ Aside0 (reduce_Check.l0 kq l3 t288 (t288.length : Int) x36_1 = some (r1, r2)) ∧ Aside0 (kq ≤ k) ∧ Aside0 (Kd.R (Kd.int .i64) 3 w' w.heap.size (fun _ => True) (.slice Ao14 t288.length co14) t288) ∧ Aside0 (w'.heap[gb286]? = some (.cells #[.int .i64 a1_0, .int .i64 a1_1] 24 (0, 0))) ∧ Aside0 (Below w.heap.size w w'))
   case atStart => exact ⟨(0), (by first | rfl | (simp; done) | (simp [*]; done)), H', ⟨Nat.le_refl _⟩, ⟨by (with_reducible repeat (first | apply Kd.R_alloc | apply Kd.R_drewN | apply Kd.R_drew)); exact HO290.out⟩, ⟨by (with_reducible repeat (first | refine blk_drewN ?_ _ | refine blk_drew ?_ | refine blk_alloc ?_ _)); exact BK286.out⟩, ⟨by repeat (first | (with_reducible first | exact HB.out | apply below_alloc | apply pw_below_drewN | apply below_drew1 | refine below_set ?_ GE286.out) | exact HB.out)⟩⟩
   case round =>
    clear H'
    try clear c2
    try clear p2
    try clear c3
    try clear c4
    try clear c6
    try clear c6b0
    try clear c6b1
    try clear c8
    try clear c8b0
    try clear c8b1
    try clear hcz10_0
    try clear hcz10_1
    try clear hcz12_0
    try clear hcz12_1
    try clear hfz10_0
    try clear hfz10_1
    try clear hfz12_0
    try clear hfz12_1
    obtain ⟨x36_1, rfl, HA, HK1, HO_34, BK286, HB⟩ := hrel
    cases gk with
    | zero => exact absurd HA.out (by simp [reduce_Check.l0])
    | succ k1 =>
     have H := HA.out
     clear HA
     simp only [reduce_Check.l0] at H
     by_cases c15 : x36_1 < (t288.length : Int)
     ·rw [if_pos c15] at H
      have c15b0 : decide (x36_1 < (t288.length : Int)) = true := decide_eq_true c15
      clear c15
      by_cases c16 : 0 ≤ x36_1
      ·rw [if_pos c16] at H
       have c16b0 : decide (0 ≤ x36_1) = true := decide_eq_true c16
       clear c16
       by_cases c17 : x36_1 < (t288.length : Int)
       ·rw [if_pos c17] at H
        have c17b0 : decide (x36_1 < (t288.length : Int)) = true := decide_eq_true c17
        clear c17
        by_cases c18 : x36_1 < (l3.length : Int)
        ·rw [if_pos c18] at H
         have c18b0 : decide (x36_1 < (l3.length : Int)) = true := decide_eq_true c18
         clear c18
         by_cases c19 : (rd l3 x36_1) = (rd t288 x36_1)
         ·rw [if_pos c19] at H
          have c19b0 : ((rd l3 x36_1) == (rd t288 x36_1)) = true := beq_iff_eq.mpr c19
          have c19b1 : ((rd l3 x36_1) != (rd t288 x36_1)) = false := bne_eq_false_iff_eq.mpr c19
          clear c19
          have H' := Aside0.mk H
          clear H
          have p292 : 0 ≤ (x36_1 : Int) := of_decide_eq_true (by first | (with_reducible assumption) | assumption)
          have q292 : x36_1 < (t288.length : Int) := of_decide_eq_true (by first | (with_reducible assumption) | assumption)
          obtain ⟨ad292, e292, hx292_0⟩ := Kd.at_int (Kd.R_reads' HO_34.out).2.2 x36_1 p292 q292
          cases e292
          replace p292 := eq_true p292
          replace q292 := eq_true q292
          have p293 : 0 ≤ (x36_1 : Int) := of_decide_eq_true (by first | (with_reducible assumption) | assumption)
          have q293 : x36_1 < (l3.length : Int) := of_decide_eq_true (by first | (with_reducible assumption) | assumption)
          obtain ⟨ad293, e293, hx293_0⟩ := Kd.at_int HR3.out x36_1 p293 q293
          cases e293
          replace hx293_0 := (HB.out.cell (World.block_lt_of_cell? w _ hx293_0)).trans hx293_0
          replace p293 := eq_true p293
          replace q293 := eq_true q293
          go_wp2
          go_roundg k1
          case measure => have := HK1.out; omega
          case rel => exact ⟨(wrap64 (x36_1 + 1)), (by first | rfl | (simp; done) | (simp [*]; done)), H', ⟨by have := HK1.out; omega⟩, ⟨by (with_reducible repeat (first | apply Kd.R_alloc | apply Kd.R_drewN | apply Kd.R_drew)); exact HO_34.out⟩, ⟨by (with_reducible repeat (first | refine blk_drewN ?_ _ | refine blk_drew ?_ | refine blk_alloc ?_ _)); exact BK286.out⟩, ⟨by repeat (first | (with_reducible first | exact HB.out | apply below_alloc | apply pw_below_drewN | apply below_drew1 | refine below_set ?_ GE286.out) | exact HB.out)⟩⟩
         ·rw [if_neg c19] at H
          have c19b0 : ((rd l3 x36_1) == (rd t288 x36_1)) = false := beq_eq_false_iff_ne.mpr c19
          have c19b1 : ((rd l3 x36_1) != (rd t288 x36_1)) = true := bne_iff_ne.mpr c19
          simp only [Option.some.injEq, Prod.mk.injEq] at H
          obtain ⟨rfl, rfl⟩ := H
          have p292 : 0 ≤ (x36_1 : Int) := of_decide_eq_true (by first | (with_reducible assumption) | assumption)
          have q292 : x36_1 < (t288.length : Int) := of_decide_eq_true (by first | (with_reducible assumption) | assumption)
          obtain ⟨ad292, e292, hx292_0⟩ := Kd.at_int (Kd.R_reads' HO_34.out).2.2 x36_1 p292 q292
          cases e292
          replace p292 := eq_true p292
          replace q292 := eq_true q292
          have p293 : 0 ≤ (x36_1 : Int) := of_decide_eq_true (by first | (with_reducible assumption) | assumption)
          have q293 : x36_1 < (l3.length : Int) := of_decide_eq_true (by first | (with_reducible assumption) | assumption)
          obtain ⟨ad293, e293, hx293_0⟩ := Kd.at_int HR3.out x36_1 p293 q293
          cases e293
          replace hx293_0 := (HB.out.cell (World.block_lt_of_cell? w _ hx293_0)).trans hx293_0
          replace p293 := eq_true p293
          replace q293 := eq_true q293
          go_wp2
          go_ret2
          exact ⟨by first | rfl | (simp [errW_none, errW_some] <;> rfl) | (simp [*, errW_none, errW_some] <;> rfl), by repeat (first | (with_reducible first | exact HB.out | apply below_alloc | apply pw_below_drewN | apply below_drew1 | refine below_set ?_ GE286.out) | exact HB.out)⟩
        ·rw [if_neg c18] at H
         exact absurd H (by simp)
       ·rw [if_neg c17] at H
        exact absurd H (by simp)
      ·rw [if_neg c16] at H
       exact absurd H (by simp)
     ·rw [if_neg c15] at H
      have c15b0 : decide (x36_1 < (t288.length : Int)) = false := decide_eq_false c15
      clear c15
      simp only [Option.some.injEq, Prod.mk.injEq] at H
      obtain ⟨rfl, rfl⟩ := H
      go_wp2
      go_ret2
      exact ⟨by first | rfl | (simp [errW_none, errW_some] <;> rfl) | (simp [*, errW_none, errW_some] <;> rfl), by repeat (first | (with_reducible first | exact HB.out | apply below_alloc | apply pw_below_drewN | apply below_drew1 | refine below_set ?_ GE286.out) | exact HB.out)⟩
  ·rw [if_neg c8] at H
   have c8b0 : (t291 == 0) = false := beq_eq_false_iff_ne.mpr c8
   have c8b1 : (t291 != 0) = true := bne_iff_ne.mpr c8
   simp only [Option.some.injEq, Prod.mk.injEq] at H
   obtain ⟨rfl, rfl⟩ := H
   go_enter Try.func22, Try.ntmps22
   go_wp2_with (first | ((with_reducible refine gate_dst (N := 5) rfl ?_); refine box_event ?hg (N := 5) ?hd (cs := #[.int .i64 a1_0, .int .i64 a1_1]) (t := 24) ?hr ?_; (case hd => rfl); (case hg => rfl); (case hr => first | (go_simp; done) | (go_simp; rfl)); intro gb286 hg w20 hbox hb; have n0_ := Aside0.mk (below_step (by repeat (first | (with_reducible first | exact HB.out | apply below_alloc | apply pw_below_drewN | apply below_drew1) | exact HB.out)) hb); have n1_ := Aside0.mk (hbox); have n2_ := Aside0.mk ((by rw [hg]; exact (below_size (by repeat (first | (with_reducible first | exact HB.out | apply below_alloc | apply pw_below_drewN | apply below_drew1) | exact HB.out))) : w.heap.size ≤ gb286)); have n3_ := Aside0.mk ((by rw [hg]; exact (below_size (by repeat (first | (with_reducible first | exact HB.out | apply below_alloc | apply pw_below_drewN | apply below_drew1) | exact HB.out))) : w.heap.size ≤ gb286)); clear HB; have HB := n0_; have BK286 := n1_; have GW286 := n2_; have GE286 := n3_; clear n0_ n1_ n2_ n3_; clear hb hbox hg; have hcz21_0 : w20.cell? ⟨gb286, 0, none⟩ = some (.int .i64 a1_0) := (blk_cell BK286.out 0).trans rfl; have hcz21_1 : w20.cell? ⟨gb286, 1, none⟩ = some (.int .i64 a1_1) := (blk_cell BK286.out 1).trans rfl; have hfz21_0 := blk_frozen BK286.out 0; have hfz21_1 := blk_frozen BK286.out 1) | ((with_reducible refine gate_callee (f := 41) rfl ?_); refine goesL_ (some 20) rfl rfl Try.func41 (by kernel_rfl) rfl #[.slice A0 l0.length c0, .agg #[.int .i64 a1_0, .int .i64 a1_1], .slice A2 l2.length c2, .int .i64 (l3.length : Int)] rfl (by (try simp only [List.map_toArray, List.map_cons, List.map_nil]); first | done | rfl | (simp only [List.length_drop, List.length_take]; rfl)) ?_; (with_reducible refine (reduce_planned_s.calls _ _ l0 a1_0 a1_1 _ _ l2 (l3.length : Int) t287 _ ?side1 ?side2 ?side3 ?side4 A5.out).mono ?_); (case side1 => repeat (first | exact (Kd.C_below HR0.out HB.out) | (with_reducible refine Kd.C_alloc ?_ _) | (with_reducible refine Kd.C_drewN ?_ _) | (with_reducible refine Kd.C_drew ?_))); (case side2 => exact HC0.out); (case side3 => repeat (first | exact (Kd.C_below HR2.out HB.out) | (with_reducible refine Kd.C_alloc ?_ _) | (with_reducible refine Kd.C_drewN ?_ _) | (with_reducible refine Kd.C_drew ?_))); (case side4 => exact HC2.out); rintro e w22 ⟨rfl, hb⟩; refine ⟨_, rfl, ?_⟩; have n0_ := Aside0.mk (blk_below (g := gb286) (o := .cells #[.int .i64 a1_0, .int .i64 a1_1] 24 (0, 0)) (by (with_reducible repeat (first | refine blk_drewN ?_ _ | refine blk_drew ?_ | refine blk_alloc ?_ _)); exact BK286.out) hb); have n1_ := Aside0.mk (below_step (by repeat (first | (with_reducible first | exact HB.out | apply below_alloc | apply pw_below_drewN | apply below_drew1 | refine below_set ?_ GE286.out) | exact HB.out)) hb); clear BK286; clear HB; have BK286 := n0_; have HB := n1_; clear n0_ n1_; (try clear hb); (try clear hb2); (try clear hk); (try clear hi); have hcz23_0 : w22.cell? ⟨gb286, 0, none⟩ = some (.int .i64 a1_0) := (blk_cell BK286.out 0).trans rfl; have hcz23_1 : w22.cell? ⟨gb286, 1, none⟩ = some (.int .i64 a1_1) := (blk_cell BK286.out 1).trans rfl; have hfz23_0 := blk_frozen BK286.out 0; have hfz23_1 := blk_frozen BK286.out 1) | ((with_reducible refine gate_callee (f := 21) rfl ?_); refine goesL_ (some 28) rfl rfl Try.func21 (by kernel_rfl) rfl #[.slice A0 l0.length c0, .agg #[.int .i64 a1_0, .int .i64 a1_1], .slice A2 l2.length c2] rfl (by (try simp only [List.map_toArray, List.map_cons, List.map_nil]); first | done | rfl | (simp only [List.length_drop, List.length_take]; rfl)) ?_; (with_reducible refine (reduce_Plan.calls _ _ l0 a1_0 a1_1 _ _ l2 t288 t291 _ ?side1 ?side2 ?side3 ?side4 A7.out).mono ?_); (case side1 => repeat (first | exact (Kd.C_below HR0.out HB.out) | (with_reducible refine Kd.C_alloc ?_ _) | (with_reducible refine Kd.C_drewN ?_ _) | (with_reducible refine Kd.C_drew ?_))); (case side2 => exact HC0.out); (case side3 => repeat (first | exact (Kd.C_below HR2.out HB.out) | (with_reducible refine Kd.C_alloc ?_ _) | (with_reducible refine Kd.C_drewN ?_ _) | (with_reducible refine Kd.C_drew ?_))); (case side4 => exact HC2.out); rintro e w24 ⟨v289, rfl, ho0, hb⟩; refine ⟨_, rfl, ?_⟩; have n0_ := Aside0.mk (Kd.R_lower ho0 (below_size (by repeat (first | (with_reducible first | exact HB.out | apply below_alloc | apply pw_below_drewN | apply below_drew1 | refine below_set ?_ GE286.out) | exact HB.out)))); have n1_ := Aside0.mk (blk_below (g := gb286) (o := .cells #[.int .i64 a1_0, .int .i64 a1_1] 24 (0, 0)) (by (with_reducible repeat (first | refine blk_drewN ?_ _ | refine blk_drew ?_ | refine blk_alloc ?_ _)); exact BK286.out) hb); have n2_ := Aside0.mk (below_step (by repeat (first | (with_reducible first | exact HB.out | apply below_alloc | apply pw_below_drewN | apply below_drew1 | refine below_set ?_ GE286.out) | exact HB.out)) hb); clear BK286; clear HB; have HO290 := n0_; have BK286 := n1_; have HB := n2_; clear n0_ n1_ n2_; (try clear hb); (try clear hb2); (try clear hk); (try clear hi); (try clear ho0)))
   go_ret2
   exact ⟨by first | rfl | (simp [errW_none, errW_some] <;> rfl) | (simp [*, errW_none, errW_some] <;> rfl), by repeat (first | (with_reducible first | exact HB.out | apply below_alloc | apply pw_below_drewN | apply below_drew1 | refine below_set ?_ GE286.out) | exact HB.out)⟩
 ·rw [if_neg c6] at H
  have c6b0 : (t287 == 0) = false := beq_eq_false_iff_ne.mpr c6
  have c6b1 : (t287 != 0) = true := bne_iff_ne.mpr c6
  simp only [Option.some.injEq, Prod.mk.injEq] at H
  obtain ⟨rfl, rfl⟩ := H
  go_enter Try.func22, Try.ntmps22
  go_wp2_with (first | ((with_reducible refine gate_dst (N := 5) rfl ?_); refine box_event ?hg (N := 5) ?hd (cs := #[.int .i64 a1_0, .int .i64 a1_1]) (t := 24) ?hr ?_; (case hd => rfl); (case hg => rfl); (case hr => first | (go_simp; done) | (go_simp; rfl)); intro gb286 hg w25 hbox hb; have n0_ := Aside0.mk (below_step (by repeat (first | (with_reducible first | exact HB.out | apply below_alloc | apply pw_below_drewN | apply below_drew1) | exact HB.out)) hb); have n1_ := Aside0.mk (hbox); have n2_ := Aside0.mk ((by rw [hg]; exact (below_size (by repeat (first | (with_reducible first | exact HB.out | apply below_alloc | apply pw_below_drewN | apply below_drew1) | exact HB.out))) : w.heap.size ≤ gb286)); have n3_ := Aside0.mk ((by rw [hg]; exact (below_size (by repeat (first | (with_reducible first | exact HB.out | apply below_alloc | apply pw_below_drewN | apply below_drew1) | exact HB.out))) : w.heap.size ≤ gb286)); clear HB; have HB := n0_; have BK286 := n1_; have GW286 := n2_; have GE286 := n3_; clear n0_ n1_ n2_ n3_; clear hb hbox hg; have hcz26_0 : w25.cell? ⟨gb286, 0, none⟩ = some (.int .i64 a1_0) := (blk_cell BK286.out 0).trans rfl; have hcz26_1 : w25.cell? ⟨gb286, 1, none⟩ = some (.int .i64 a1_1) := (blk_cell BK286.out 1).trans rfl; have hfz26_0 := blk_frozen BK286.out 0; have hfz26_1 := blk_frozen BK286.out 1) | ((with_reducible refine gate_callee (f := 41) rfl ?_); refine goesL_ (some 20) rfl rfl Try.func41 (by kernel_rfl) rfl #[.slice A0 l0.length c0, .agg #[.int .i64 a1_0, .int .i64 a1_1], .slice A2 l2.length c2, .int .i64 (l3.length : Int)] rfl (by (try simp only [List.map_toArray, List.map_cons, List.map_nil]); first | done | rfl | (simp only [List.length_drop, List.length_take]; rfl)) ?_; (with_reducible refine (reduce_planned_s.calls _ _ l0 a1_0 a1_1 _ _ l2 (l3.length : Int) t287 _ ?side1 ?side2 ?side3 ?side4 A5.out).mono ?_); (case side1 => repeat (first | exact (Kd.C_below HR0.out HB.out) | (with_reducible refine Kd.C_alloc ?_ _) | (with_reducible refine Kd.C_drewN ?_ _) | (with_reducible refine Kd.C_drew ?_))); (case side2 => exact HC0.out); (case side3 => repeat (first | exact (Kd.C_below HR2.out HB.out) | (with_reducible refine Kd.C_alloc ?_ _) | (with_reducible refine Kd.C_drewN ?_ _) | (with_reducible refine Kd.C_drew ?_))); (case side4 => exact HC2.out); rintro e w27 ⟨rfl, hb⟩; refine ⟨_, rfl, ?_⟩; have n0_ := Aside0.mk (blk_below (g := gb286) (o := .cells #[.int .i64 a1_0, .int .i64 a1_1] 24 (0, 0)) (by (with_reducible repeat (first | refine blk_drewN ?_ _ | refine blk_drew ?_ | refine blk_alloc ?_ _)); exact BK286.out) hb); have n1_ := Aside0.mk (below_step (by repeat (first | (with_reducible first | exact HB.out | apply below_alloc | apply pw_below_drewN | apply below_drew1 | refine below_set ?_ GE286.out) | exact HB.out)) hb); clear BK286; clear HB; have BK286 := n0_; have HB := n1_; clear n0_ n1_; (try clear hb); (try clear hb2); (try clear hk); (try clear hi)))
  go_ret2
  exact ⟨by first | rfl | (simp [errW_none, errW_some] <;> rfl) | (simp [*, errW_none, errW_some] <;> rfl), by repeat (first | (with_reducible first | exact HB.out | apply below_alloc | apply pw_below_drewN | apply below_drew1 | refine below_set ?_ GE286.out) | exact HB.out)⟩

/-! ### slices_Clone_int_int: function 23 -/
-- MAKING
theorem slices_Clone_int_int.info : (Try.prog.info? 3).map (fun i => (i.zero, i.size, i.bytes)) = some (some ((.int .i64 0)), 1, 8) := by kernel_rfl
theorem slices_Clone_int_int.eqn (w : World) (a : Option Addr) (l c : Nat) : (binOp .eql 41 (.slice a l c) (.slice none 0 0)).run Try.prog w = .ok (.bool a.isNone) w := by
  simp only [binOp]
  simp [run_equal_slice_nil w 41 3 a l c Try.underlying41]
section
attribute [local go_sem] slices_Clone_int_int.eqn
def slices_Clone_int_int.f (l0 : List Int) : Option (List Int) := if l0.length < 17592186044416 then some l0 else none
set_option maxHeartbeats 4000000 in
set_option maxRecDepth 100000 in
theorem slices_Clone_int_int.calls (A0 : Option Addr) (c0 : Nat) (l0 : List Int) (r : List Int) (w : World) (hr0 : Kd.C (Kd.int .i64) w A0 l0.length l0) (hc0 : l0.length ≤ c0) (h : slices_Clone_int_int.f l0 = some r) :
    Calls Try.prog 23 #[.slice A0 l0.length c0] w fun e w' => ∃ v0_ : Value, e = .returned (v0_) ∧ Kd.R (Kd.int .i64) 3 w' w.heap.size (fun _ => True) v0_ r ∧ Below w.heap.size w w' := by
  unfold slices_Clone_int_int.f at h
  by_cases hl : l0.length < 17592186044416
  case neg => rw [if_neg hl] at h; exact absurd h (by simp)
  rw [if_pos hl] at h
  obtain rfl := Option.some.inj h
  clear h
  have HL := Aside0.mk hl
  have HR := Aside0.mk hr0
  clear hl
  cases A0 with
  | none =>
    have e0 : l0 = [] := by
      rcases Nat.eq_zero_or_pos l0.length with h0 | h0
      · exact List.eq_nil_of_length_eq_zero h0
      · obtain ⟨ad, h1, _⟩ := hr0.2.2 h0
        cases h1
    subst e0
    clear HR HL hc0 hr0
    go_enter Try.func23, Try.ntmps23
    go_wp2
    go_ret
    exact ⟨_, rfl, Kd.R_nil _ _ _ _ _, Below.refl _ _⟩
  | some ad =>
    clear hr0
    go_enter Try.func23, Try.ntmps23
    go_wp2_with (first | ((with_reducible refine gate_dst (N := 5) rfl ?_); refine Kd.R_lit (Kd.int .i64) _ 3 ?hg (N := 5) ?hd (xs := ([] : List (Int))) (inner := []) (ok := fun _ => True) (okp := fun _ => True) ?hr ?hp (fun _ hk => hk) trivial (Below.refl _ _) (Nat.le_refl _) (by simp) ?_; (case hd => rfl); (case hg => rfl); (case hr => first | (go_simp; done) | (go_simp; rfl)); (case hp => exact (Reps.none _ _)); intro v1 w1 ho1 hb hg_ hnew_; clear hg_ hnew_; have HO1 := Aside0.mk ho1; have HB1 := Aside0.mk hb; clear ho1 hb) | ((with_reducible refine gate_builtin (b := .append) (xs := #[.tmp 5, .tmp 6]) rfl ?_); at_builtin; refine Kd.R_append_rows (Kd.int .i64) (w0 := w) w.heap.size rfl (.tmp 5) (.tmp 6) 41 3 ((.int .i64 0)) 8 rfl Try.underlying41 slices_Clone_int_int.info rfl (by decide) (by omega) v1 [] l0 _ _ _ (fun _ => True) (fun _ => False) rfl rfl ?aO ?aR (fun _ _ h => h) (fun _ h => h.elim) ?aF ?aB ?aS ?aL ?_; (case aR => exact (Kd.C_below HR.out HB1.out)); (case aB => exact HB1.out); (case aF => exact (fun _ _ => trivial)); (case aO => exact HO1.out); (case aS => exact HB1.out.size); (case aL => have := HL.out; simp only [List.length_nil]; omega); intro v2 w2 ho hb hg hat; clear hg hat; have HO2 := Aside0.mk ho; have HB2 := Aside0.mk hb; clear ho hb))
    go_ret
    exact ⟨_, rfl, HO2.out, HB2.out⟩
end

end Go.Proofs.Ytdggkgkbjgigmaa.PF
