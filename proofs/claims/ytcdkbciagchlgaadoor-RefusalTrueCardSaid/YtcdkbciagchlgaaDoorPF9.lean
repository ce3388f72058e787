-- Written by a program of this session (wip/pr.py) out of Lean's print of the translation; Lean checks it.
import Derived.Test.YtcdkbciagchlgaaDoorPF0
import Derived.Test.YtcdkbciagchlgaaDoorPF1
import Derived.Test.YtcdkbciagchlgaaDoorPF6
import Derived.Test.YtcdkbciagchlgaaDoorPF7
import Derived.Test.YtcdkbciagchlgaaDoorPF8
namespace Go.Proofs.YtcdkbciagchlgaaDoor.PF
open Go.RowKit Go.Proofs.YtcdkbciagchlgaaDoorW.PrintWords Go.Proofs.YtcdkbciagchlgaaDoorW.PrintLast Go.Proofs.YtcdkbciagchlgaaDoorW.PrintMore
attribute [local go_sem] max2_int min2_int max_two min_two max_three min_three max_four min_four   
set_option linter.unusedVariables false
set_option linter.unusedSimpArgs false
def tryC (k : Nat) (l1_0 : List S45) (l1_1 l1_2 : List Int) (a1_3 a1_4 a1_5 : Int) (lo hi : List Int) (c : S30) : Option (S30 × Bool) :=
  (refusal_leasts.f k lo hi [] c.f1 c.f2 c.f3).bind fun u => if u.length ≤ 5000 then (refusal_formed.f (u.map up0) c.f1 c.f2 c.f3).bind fun b => if b = true then (refusal_right.f k l1_0 l1_1 l1_2 a1_3 a1_4 a1_5 lo hi (u.map up0) c.f1 c.f2 c.f3).bind fun b2 => some (⟨u.map up0, c.f1, c.f2, c.f3⟩, b2) else some (⟨u.map up0, c.f1, c.f2, c.f3⟩, false) else none
theorem tryC_some {k : Nat} {l1_0 : List S45} {l1_1 l1_2 : List Int} {a1_3 a1_4 a1_5 : Int} {lo hi : List Int} {c : S30} {r : S30 × Bool} (h : tryC k l1_0 l1_1 l1_2 a1_3 a1_4 a1_5 lo hi c = some r) :
    ∃ u b, refusal_leasts.f k lo hi [] c.f1 c.f2 c.f3 = some u ∧ u.length ≤ 5000 ∧ refusal_formed.f (u.map up0) c.f1 c.f2 c.f3 = some b ∧ r.1 = ⟨u.map up0, c.f1, c.f2, c.f3⟩ ∧ ((b = false ∧ r.2 = false) ∨ (b = true ∧ refusal_right.f k l1_0 l1_1 l1_2 a1_3 a1_4 a1_5 lo hi (u.map up0) c.f1 c.f2 c.f3 = some r.2)) := by
  unfold tryC at h
  obtain ⟨u, hu, h⟩ := Option.bind_eq_some_iff.1 h
  by_cases hl : u.length ≤ 5000
  case neg => rw [if_neg hl] at h; cases h
  rw [if_pos hl] at h
  obtain ⟨b, hb, h⟩ := Option.bind_eq_some_iff.1 h
  cases b with
  | false => rw [if_neg (by decide)] at h; cases h; exact ⟨u, false, hu, hl, hb, rfl, .inl ⟨rfl, rfl⟩⟩
  | true =>
    rw [if_pos rfl] at h
    obtain ⟨b2, hb2, h⟩ := Option.bind_eq_some_iff.1 h
    cases h
    exact ⟨u, true, hu, hl, hb, rfl, .inr ⟨rfl, hb2⟩⟩
theorem mapM_at {α β : Type} {f : α → Option β} : ∀ {l : List α} {rs : List β}, l.mapM f = some rs → rs.length = l.length ∧ ∀ (j : Nat) (d : α) (e : β), j < l.length → f (l.getD j d) = some (rs.getD j e)
  | [], rs, h => by
    rw [List.mapM_nil] at h
    cases h
    exact ⟨rfl, fun j _ _ hj => absurd hj (Nat.not_lt_zero _)⟩
  | a :: l, rs, h => by
    rw [List.mapM_cons] at h
    obtain ⟨b, hb, h⟩ := Option.bind_eq_some_iff.1 h
    obtain ⟨r2, hr, h⟩ := Option.bind_eq_some_iff.1 h
    cases h
    obtain ⟨h1, h2⟩ := mapM_at hr
    refine ⟨by simp [h1], fun j d e hj => ?_⟩
    cases j with
    | zero => simpa using hb
    | succ j => simpa using h2 j d e (by simpa using hj)
def refuseR (rs : List (S30 × Bool)) : List Int × Int × Int × Int × Int := match rs.find? (fun r => r.2) with
  | some r => (r.1.f0, r.1.f1, r.1.f2, r.1.f3, 0)
  | none => ([], 0, 0, 0, 22)
def zR : S30 × Bool := (zQ, false)
theorem refuseR_some {rs : List (S30 × Bool)} {j : Nat} (hj : j < rs.length) (h0 : ∀ i, i < j → (rs.getD i zR).2 = false) (h1 : (rs.getD j zR).2 = true) : refuseR rs = ((rs.getD j zR).1.f0, (rs.getD j zR).1.f1, (rs.getD j zR).1.f2, (rs.getD j zR).1.f3, 0) := by
  have e : rs.find? (fun r => r.2) = some (rs.getD j zR) := by
    rw [List.find?_eq_some_iff_getElem]
    refine ⟨h1, j, hj, by simp [List.getD_eq_getElem?_getD, hj], fun i hi => ?_⟩
    have := h0 i hi
    simp [List.getD_eq_getElem?_getD, show i < rs.length by omega] at this
    simp [this]
  unfold refuseR
  rw [e]
theorem refuseR_none {rs : List (S30 × Bool)} (h0 : ∀ i, i < rs.length → (rs.getD i zR).2 = false) : refuseR rs = ([], 0, 0, 0, 22) := by
  have e : rs.find? (fun r => r.2) = none := by
    rw [List.find?_eq_none]
    intro x hx
    obtain ⟨i, hi, rfl⟩ := List.getElem_of_mem hx
    have := h0 i hi
    simp [List.getD_eq_getElem?_getD, hi] at this
    simp [this]
  unfold refuseR
  rw [e]
def refusal_Refuse.f (k : Nat) (l0 : List S82) (l1_0 : List S45) (l1_1 l1_2 : List Int) (a1_3 a1_4 a1_5 : Int) : Option (List Int × Int × Int × Int × Int) :=
  (refusal_Excess.f k l0 l1_0 l1_1 l1_2 a1_3 a1_4 a1_5).bind fun e => if e.2.2 = 0 then (if e.1.length ≤ 1000 ∧ e.2.1.length ≤ 1000 ∧ (a1_4 = 10000 ∨ 0 < e.2.1.length) then ((candS e.1 e.2.1 (decide (a1_4 = 10000))).mapM (tryC k l1_0 l1_1 l1_2 a1_3 a1_4 a1_5 e.1 e.2.1)).bind fun rs => some (refuseR rs) else none) else some ([], 0, 0, 0, e.2.2)
theorem mapM_leO {α β : Type} {f g : α → Option β} (h : ∀ x, LeO (f x) (g x)) : ∀ l : List α, LeO (l.mapM f) (l.mapM g)
  | [] => by rw [List.mapM_nil, List.mapM_nil]; exact LeO.refl _
  | a :: l => by
    rw [List.mapM_cons, List.mapM_cons]
    exact LeO.bind (h a) (fun b => LeO.bind (mapM_leO h l) (fun r => LeO.refl _))
theorem tryC.mono (k : Nat) (l1_0 : List S45) (l1_1 l1_2 : List Int) (a1_3 a1_4 a1_5 : Int) (lo hi : List Int) (c : S30) : LeO (tryC k l1_0 l1_1 l1_2 a1_3 a1_4 a1_5 lo hi c) (tryC (k + 1) l1_0 l1_1 l1_2 a1_3 a1_4 a1_5 lo hi c) := by
  unfold tryC
  refine LeO.bind (refusal_leasts.mono _ _ _ _ _ _ _) (fun u => ?_)
  split
  · refine LeO.bind (LeO.refl _) (fun b => ?_)
    split
    · exact LeO.bind (refusal_right.mono _ _ _ _ _ _ _ _ _ _ _ _ _) (fun t => LeO.refl _)
    · exact LeO.refl _
  · exact LeO.refl _
theorem refusal_Refuse.mono : ∀ a0 a1 a2 a3 a4 a5 a6 k, LeO (refusal_Refuse.f k a0 a1 a2 a3 a4 a5 a6) (refusal_Refuse.f (k + 1) a0 a1 a2 a3 a4 a5 a6) := by
  intro a0 a1 a2 a3 a4 a5 a6 k
  unfold refusal_Refuse.f
  refine LeO.bind (refusal_Excess.mono _ _ _ _ _ _ _ _) (fun e => ?_)
  split
  · split
    · exact LeO.bind (mapM_leO (fun x => tryC.mono k _ _ _ _ _ _ _ _ x) _) (fun rs => LeO.refl _)
    · exact LeO.refl _
  · exact LeO.refl _
theorem kept_cellsR {X Y : World} {row : Option Nat} (hg : X.grownBy Y row) (hr : ∀ r, row = some r → ∃ o : Obj, X.heap[r]? = some o ∧ o.isCells = false) {k : Nat} {cs : Array Value} {t : TypeId} (h : X.heap[k]? = some (.cells cs t (0, 0))) : Y.heap[k]? = some (.cells cs t (0, 0)) :=
  (grownBy_keeps_cells hg hr h rfl).trans h
theorem kept_RR {α : Type} {d : Kd α} {e base : Nat} {ok : Nat → Prop} {v : Value} {xs : List α} {X Y : World} {row : Option Nat} (hg : X.grownBy Y row) (hr : ∀ r, row = some r → ∃ o : Obj, X.heap[r]? = some o ∧ o.isCells = false) (h : d.R e X base ok v xs) : d.R e Y base ok v xs :=
  Kd.R_mono (Kd.R_step (Kd.R_bound h) (fun k hk hlt => hg.block k hlt (fun e2 => by
    obtain ⟨o, ho, hc⟩ := hr k e2.symm
    obtain ⟨_, _, _, q, _, cells, hcell⟩ := hk
    rw [hcell] at ho
    cases ho
    cases hc))) (fun _ hk => hk.1)
def InvF (Wr : World) (rs : List (S30 × Bool)) (pre : List Value) (W : World) : Prop := Below Wr.heap.size Wr W ∧ ∀ i, i < pre.length → (rs.getD i zR).2 = false
def RetF (w : World) (rs : List (S30 × Bool)) (b4 : Nat) (_ : List Value) (W : World) : Prop := Below w.heap.size w W ∧ ∃ j, j < rs.length ∧ (∀ i, i < j → (rs.getD i zR).2 = false) ∧ (rs.getD j zR).2 = true ∧
  ∃ A ca, W.heap[b4]? = some (.cells #[.slice A (rs.getD j zR).1.f0.length ca, .int .i64 (rs.getD j zR).1.f1, .int .i64 (rs.getD j zR).1.f2, .int .i64 (rs.getD j zR).1.f3] 30 (0, 0)) ∧ Kd.R (Kd.int .i64) 3 W w.heap.size (fun _ => True) (.slice A (rs.getD j zR).1.f0.length ca) (rs.getD j zR).1.f0 ∧
    W.heap[b4 + 1]? = some (.cells #[.int .i64 0] 31 (0, 0))
theorem InvF.own {Wr : World} {rs : List (S30 × Bool)} : OwnFrom Wr.heap.size (InvF Wr rs) := fun s X Y row hs hg hr =>
  ⟨ownFrom_below (w₀ := Wr) (n₀ := Wr.heap.size) (B := Wr.heap.size) (Nat.le_refl _) (Nat.le_refl _) s X Y row hs.1 hg hr, hs.2⟩
theorem RetF.own {w : World} {rs : List (S30 × Bool)} {b4 D : Nat} (hD : w.heap.size ≤ D) : OwnFrom D (RetF w rs b4) := by
  intro s X Y row hs hg hr
  have hr2 : ∀ r, row = some r → ∃ o : Obj, X.heap[r]? = some o ∧ o.isCells = false := fun r e => (hr r e).2
  obtain ⟨h1, j, h2, h3, h4, A, ca, h5, h6, h7⟩ := hs
  exact ⟨ownFrom_below (w₀ := w) (n₀ := w.heap.size) (B := D) (Nat.le_refl _) hD s X Y row h1 hg hr, j, h2, h3, h4, A, ca, kept_cellsR hg hr2 h5, kept_RR hg hr2 h6, kept_cellsR hg hr2 h7⟩
theorem refuse_boxes {X : World} {b b' : Nat} {q0 q1 q2 q3 e : Value} (hne : b ≠ b') (p0 p1 p2 p3 e' : Value) (h1 : X.heap[b]? = some (.cells #[q0, q1, q2, q3] 30 (0, 0))) (h2 : X.heap[b']? = some (.cells #[e] 31 (0, 0))) :
    (((((X.setCell ⟨b, 0, none⟩ p0).setCell ⟨b, 1, none⟩ p1).setCell ⟨b, 2, none⟩ p2).setCell ⟨b, 3, none⟩ p3).setCell ⟨b', 0, none⟩ e').heap[b]? = some (.cells #[p0, p1, p2, p3] 30 (0, 0)) ∧
    (((((X.setCell ⟨b, 0, none⟩ p0).setCell ⟨b, 1, none⟩ p1).setCell ⟨b, 2, none⟩ p2).setCell ⟨b, 3, none⟩ p3).setCell ⟨b', 0, none⟩ e').heap[b']? = some (.cells #[e'] 31 (0, 0)) ∧
    (∀ k, k ≠ b → k ≠ b' → (((((X.setCell ⟨b, 0, none⟩ p0).setCell ⟨b, 1, none⟩ p1).setCell ⟨b, 2, none⟩ p2).setCell ⟨b, 3, none⟩ p3).setCell ⟨b', 0, none⟩ e').heap[k]? = X.heap[k]?) ∧
    (∀ {base : Nat} {ok : Nat → Prop} {v : Value} {xs : List Int}, Kd.R (Kd.int .i64) 3 X base ok v xs → Kd.R (Kd.int .i64) 3 (((((X.setCell ⟨b, 0, none⟩ p0).setCell ⟨b, 1, none⟩ p1).setCell ⟨b, 2, none⟩ p2).setCell ⟨b, 3, none⟩ p3).setCell ⟨b', 0, none⟩ e') base ok v xs) := by
  have g1 := blk_put h1 0 p0 rfl
  have g2 := blk_put g1 1 p1 rfl
  have g3 := blk_put g2 2 p2 rfl
  have g4 := blk_put g3 3 p3 rfl
  have k2 : ((((X.setCell ⟨b, 0, none⟩ p0).setCell ⟨b, 1, none⟩ p1).setCell ⟨b, 2, none⟩ p2).setCell ⟨b, 3, none⟩ p3).heap[b']? = some (.cells #[e] 31 (0, 0)) := by
    rw [Below.heap_setCell _ _ _ b' (fun h => hne h.symm), Below.heap_setCell _ _ _ b' (fun h => hne h.symm), Below.heap_setCell _ _ _ b' (fun h => hne h.symm), Below.heap_setCell _ _ _ b' (fun h => hne h.symm)]
    exact h2
  refine ⟨?_, blk_put k2 0 _ rfl, fun k hk hk' => ?_, fun h => ?_⟩
  · rw [Below.heap_setCell _ _ _ b hne]; exact g4
  · rw [Below.heap_setCell _ _ _ k hk', Below.heap_setCell _ _ _ k hk, Below.heap_setCell _ _ _ k hk, Below.heap_setCell _ _ _ k hk, Below.heap_setCell _ _ _ k hk]
  · exact unit_R_other (unit_R_other (unit_R_other (unit_R_other (unit_R_other h h1 (by decide) 0 _) g1 (by decide) 1 _) g2 (by decide) 2 _) g3 (by decide) 3 _) k2 (by decide) 0 _
attribute [local go_sem] Oper.semAt_some
set_option maxHeartbeats 8000000 in
set_option maxRecDepth 100000 in
theorem refusal_Refuse.calls (k : Nat) (A0 : Option Addr) (c0 : Nat) (l0 : List S82) (A1_0 : Option Addr) (c1_0 : Nat) (l1_0 : List S45) (A1_1 : Option Addr) (c1_1 : Nat) (l1_1 : List Int) (A1_2 : Option Addr) (c1_2 : Nat) (l1_2 : List Int) (a1_3 a1_4 a1_5 : Int) (r1_0 : List Int) (r1_1 r1_2 r1_3 r2 : Int) (w : World)
    (hr0 : Kd.C k82 w A0 l0.length l0) (hc0 : l0.length ≤ c0) (hr1_0 : Kd.C k45 w A1_0 l1_0.length l1_0) (hc1_0 : l1_0.length ≤ c1_0) (hr1_1 : Kd.C (Kd.int .i64) w A1_1 l1_1.length l1_1) (hc1_1 : l1_1.length ≤ c1_1) (hr1_2 : Kd.C (Kd.int .i64) w A1_2 l1_2.length l1_2) (hc1_2 : l1_2.length ≤ c1_2)
    (h : refusal_Refuse.f k l0 l1_0 l1_1 l1_2 a1_3 a1_4 a1_5 = some (r1_0, r1_1, r1_2, r1_3, r2)) :
    Calls Tryd.prog 13 #[.slice A0 l0.length c0, .agg #[.slice A1_0 l1_0.length c1_0, .slice A1_1 l1_1.length c1_1, .slice A1_2 l1_2.length c1_2, .int .i64 a1_3, .int .i64 a1_4, .int .i64 a1_5]] w fun e w' => ∃ v0_ : Value, e = .returned (.tuple #[.agg #[v0_, .int .i64 r1_1, .int .i64 r1_2, .int .i64 r1_3], .int .i64 r2]) ∧ Kd.R (Kd.int .i64) 3 w' w.heap.size (fun _ => True) v0_ r1_0 ∧ Below w.heap.size w w' := by
  have hu := Tryd.underlying30
  have hu2 := Tryd.underlying26
  unfold refusal_Refuse.f at h
  obtain ⟨⟨lo, hi, er⟩, hE, h⟩ := Option.bind_eq_some_iff.1 h
  simp only at h
  have HEX := Aside0.mk (fun (W : World) (hb : Below w.heap.size w W) => refusal_Excess.callsN k A0 c0 l0 A1_0 c1_0 l1_0 A1_1 c1_1 l1_1 A1_2 c1_2 l1_2 a1_3 a1_4 a1_5 lo hi er W (Kd.C_below hr0 hb) hc0 (Kd.C_below hr1_0 hb) hc1_0 (Kd.C_below hr1_1 hb) hc1_1 (Kd.C_below hr1_2 hb) hc1_2 hE)
  have HORD := Aside0.mk (fun (W : World) (hb : Below w.heap.size w W) => (⟨Kd.C_below hr1_0 hb, Kd.C_below hr1_1 hb, Kd.C_below hr1_2 hb⟩ : _ ∧ _ ∧ _))
  have HOC := Aside0.mk (⟨hc1_0, hc1_1, hc1_2⟩ : _ ∧ _ ∧ _)
  clear hr0 hc0 hr1_0 hr1_1 hr1_2 hc1_0 hc1_1 hc1_2 hE
  have HH := Aside0.mk h
  clear h
  have HB := Aside0.mk (Below.refl w.heap.size w)
  refine (callsIn_wide (n := 6)).1 ?_
  refine callsIn_of_wp_marks Tryd.func13 rfl trivial ?_ rfl
  simp only [Tryd.ntmps13, List.size_toArray, List.length_cons, List.length_nil, Nat.reduceAdd, Nat.reduceSub, Array.replicate_succ, Array.replicate_zero, List.push_toArray, List.append_toArray, List.nil_append, List.cons_append]
  gi_wp2_with fail
  obtain ⟨W3, hW3⟩ : ∃ W3, W3 = (((w.alloc (.cells #[.slice A1_0 l1_0.length c1_0, .slice A1_1 l1_1.length c1_1, .slice A1_2 l1_2.length c1_2, .int .i64 a1_3, .int .i64 a1_4, .int .i64 a1_5] 26)).alloc (.cells #[.slice none 0 0, .int .i64 0, .int .i64 0, .int .i64 0] 30)).alloc (.cells #[.int .i64 0] 31)) := ⟨_, rfl⟩
  have HB3 := Aside0.mk (show Below w.heap.size w W3 by rw [hW3]; exact below_alloc (below_alloc (below_alloc (Below.refl _ _) _) _) _)
  have bO : W3.heap[w.heap.size]? = some (.cells #[.slice A1_0 l1_0.length c1_0, .slice A1_1 l1_1.length c1_1, .slice A1_2 l1_2.length c1_2, .int .i64 a1_3, .int .i64 a1_4, .int .i64 a1_5] 26 (0, 0)) := by
    rw [hW3]; exact blk_below (blk_new w _) (below_alloc (below_alloc (Below.refl _ _) _) _)
  have bR : W3.heap[w.heap.size + 1]? = some (.cells #[.slice none 0 0, .int .i64 0, .int .i64 0, .int .i64 0] 30 (0, 0)) := by
    have h1 := blk_new (w.alloc (.cells #[.slice A1_0 l1_0.length c1_0, .slice A1_1 l1_1.length c1_1, .slice A1_2 l1_2.length c1_2, .int .i64 a1_3, .int .i64 a1_4, .int .i64 a1_5] 26)) (.cells #[.slice none 0 0, .int .i64 0, .int .i64 0, .int .i64 0] 30)
    rw [World.size_alloc] at h1
    rw [hW3]; exact blk_alloc h1 _
  have bE : W3.heap[w.heap.size + 1 + 1]? = some (.cells #[.int .i64 0] 31 (0, 0)) := by
    have h1 := blk_new ((w.alloc (.cells #[.slice A1_0 l1_0.length c1_0, .slice A1_1 l1_1.length c1_1, .slice A1_2 l1_2.length c1_2, .int .i64 a1_3, .int .i64 a1_4, .int .i64 a1_5] 26)).alloc (.cells #[.slice none 0 0, .int .i64 0, .int .i64 0, .int .i64 0] 30)) (.cells #[.int .i64 0] 31)
    rw [World.size_alloc, World.size_alloc] at h1
    rw [hW3]; exact h1
  rw [← hW3]
  clear hW3
  refine ⟨trivial, (callsIn_wide.2 (HEX.out _ HB3.out)).mono ?_⟩
  rintro e w1 ⟨v0, v1, rfl, hRl, hRh, hnil, hb⟩
  obtain ⟨Al, cl, rfl⟩ := Kd.R_slice hRl
  obtain ⟨Ah, ch, rfl⟩ := Kd.R_slice hRh
  replace bO := blk_below bO hb
  replace bR := blk_below bR hb
  replace bE := blk_below bE hb
  have HB1 := Aside0.mk (below_step HB3.out hb)
  have HBX := Aside0.mk (⟨bO, bR, bE⟩ : _ ∧ _ ∧ _)
  have HLH := Aside0.mk (⟨hRl, hRh, hnil⟩ : _ ∧ _ ∧ _)
  clear hRl hRh hnil hb HB3 bO bR bE
  have HZ : Aside0 (∀ o o' : Obj, ((w1.alloc o).alloc o').heap[w.heap.size + 1]? = some (.cells #[.slice none 0 0, .int .i64 0, .int .i64 0, .int .i64 0] 30 (0, 0)) ∧ ((w1.alloc o).alloc o').heap[w.heap.size + 1 + 1]? = some (.cells #[.int .i64 0] 31 (0, 0))) :=
    ⟨fun o o' => ⟨blk_alloc (blk_alloc HBX.out.2.1 o) o', blk_alloc (blk_alloc HBX.out.2.2 o) o'⟩⟩
  by_cases he : er = 0
  case neg =>
    have b1 : (er != 0) = true := bne_iff_ne.mpr he
    have hh := HH.out
    rw [if_neg he] at hh
    cases hh
    have z0 : ∀ o o', ((w1.alloc o).alloc o').cell? ⟨w.heap.size + 1, 0, none⟩ = some (.slice none 0 0) := fun o o' => blk_cell (HZ.out o o').1 0
    have z1 : ∀ o o', ((w1.alloc o).alloc o').cell? ⟨w.heap.size + 1, 1, none⟩ = some (.int .i64 0) := fun o o' => blk_cell (HZ.out o o').1 1
    have z2 : ∀ o o', ((w1.alloc o).alloc o').cell? ⟨w.heap.size + 1, 2, none⟩ = some (.int .i64 0) := fun o o' => blk_cell (HZ.out o o').1 2
    have z3 : ∀ o o', ((w1.alloc o).alloc o').cell? ⟨w.heap.size + 1, 3, none⟩ = some (.int .i64 0) := fun o o' => blk_cell (HZ.out o o').1 3
    have f0 : ∀ o o' i, ((w1.alloc o).alloc o').frozen? ⟨w.heap.size + 1, i, none⟩ = false := fun o o' i => blk_frozen (HZ.out o o').1 i
    have z4 : ∀ o o', ((w1.alloc o).alloc o').cell? ⟨w.heap.size + 1 + 1, 0, none⟩ = some (.int .i64 0) := fun o o' => blk_cell (HZ.out o o').2 0
    have f4 : ∀ o o' i, ((w1.alloc o).alloc o').frozen? ⟨w.heap.size + 1 + 1, i, none⟩ = false := fun o o' i => blk_frozen (HZ.out o o').2 i
    clear he
    gi_wp2
    have HP := refuse_boxes (b := w.heap.size + 1) (b' := w.heap.size + 1 + 1) (by omega) (.slice none 0 0) (.int .i64 0) (.int .i64 0) (.int .i64 0) (.int .i64 r2) (HZ.out (.cells #[.slice Al lo.length cl] 24) (.cells #[.slice Ah hi.length ch] 24)).1 (HZ.out _ _).2
    have r0 := blk_cell HP.1 0
    have r1 := blk_cell HP.1 1
    have r2' := blk_cell HP.1 2
    have r3 := blk_cell HP.1 3
    have r4 := blk_cell HP.2.1 0
    refine ⟨.tuple #[.agg #[.slice none 0 0, .int .i64 0, .int .i64 0, .int .i64 0], .int .i64 r2], ?_, ?_⟩
    · simp [results, Tryd.f13, go_sem, r0, r1, r2', r3, r4, hu]
    · exact ⟨_, rfl, Kd.R_nil _ _ _ _ _, below_set (below_set (below_set (below_set (below_set (below_alloc (below_alloc HB1.out _) _) (by show w.heap.size ≤ w.heap.size + 1; omega)) (by show w.heap.size ≤ w.heap.size + 1; omega)) (by show w.heap.size ≤ w.heap.size + 1; omega)) (by show w.heap.size ≤ w.heap.size + 1; omega)) (by show w.heap.size ≤ w.heap.size + 1 + 1; omega)⟩
  subst he
  have b1 : ((0 : Int) != 0) = false := rfl
  have hh := HH.out
  rw [if_pos rfl] at hh
  by_cases hbd : lo.length ≤ 1000 ∧ hi.length ≤ 1000 ∧ (a1_4 = 10000 ∨ 0 < hi.length)
  case neg => rw [if_neg hbd] at hh; cases hh
  rw [if_pos hbd] at hh
  obtain ⟨rs, hrs, hh⟩ := Option.bind_eq_some_iff.1 hh
  have HRES := Aside0.mk (Option.some.inj hh)
  have HBD := Aside0.mk hbd
  have HRS := Aside0.mk (mapM_at hrs)
  clear hh hbd hrs HH
  have bl := blk_new w1 (.cells #[.slice Al lo.length cl] 24)
  have bh := blk_new (w1.alloc (.cells #[.slice Al lo.length cl] 24)) (.cells #[.slice Ah hi.length ch] 24)
  rw [World.size_alloc] at bh
  obtain ⟨W4, hW4⟩ : ∃ W4, W4 = (w1.alloc (.cells #[.slice Al lo.length cl] 24)).alloc (.cells #[.slice Ah hi.length ch] 24) := ⟨_, rfl⟩
  rw [← hW4] at bh
  have bl4 : W4.heap[w1.heap.size]? = some (.cells #[.slice Al lo.length cl] 24 (0, 0)) := by rw [hW4]; exact blk_alloc bl _
  have x0 : W4.cell? ⟨w1.heap.size, 0, none⟩ = some (.slice Al lo.length cl) := blk_cell bl4 0
  have x1 : W4.cell? ⟨w1.heap.size + 1, 0, none⟩ = some (.slice Ah hi.length ch) := blk_cell bh 0
  rw [hW4] at x0 x1
  gi_wp2_with fail
  rw [← hW4]
  have HB4 := Aside0.mk (show Below w1.heap.size w1 W4 by rw [hW4]; exact below_alloc (below_alloc (Below.refl _ _) _) _)
  have HCL := Aside0.mk (Kd.C_below (Kd.R_reads' HLH.out.1).2.2 HB4.out)
  have HCH := Aside0.mk (Kd.C_below (Kd.R_reads' HLH.out.2.1).2.2 HB4.out)
  have HLC := Aside0.mk (⟨(Kd.R_reads' HLH.out.1).2.1, (Kd.R_reads' HLH.out.2.1).2.1⟩ : _ ∧ _)
  have HNN : Aside0 (Ah.isNone = decide (a1_4 = 10000)) := ⟨by
    by_cases e1 : a1_4 = 10000
    · have := HLH.out.2.2 e1
      injection this with e2
      rw [e2, decide_eq_true e1]; rfl
    · obtain ⟨ad, e2, -⟩ := Kd.at_int HCH.out 0 (by omega) (by have := HBD.out.2.2; omega)
      rw [e2, decide_eq_false e1]; rfl⟩
  have HBH := Aside0.mk (⟨bl4, bh, (by rw [hW4]; exact HZ.out _ _ : W4.heap[w.heap.size + 1]? = some (.cells #[.slice none 0 0, .int .i64 0, .int .i64 0, .int .i64 0] 30 (0, 0)) ∧ W4.heap[w.heap.size + 1 + 1]? = some (.cells #[.int .i64 0] 31 (0, 0)))⟩ : _ ∧ _ ∧ _)
  refine ⟨trivial, (callsIn_wide.2 (refusal_candidates.known Al cl lo Ah ch hi W4 HCL.out HLC.out.1 HCH.out HLC.out.2 HBD.out.1 HBD.out.2.1)).mono ?_⟩
  rintro e W5 ⟨kb, lb, hb, kv, rfl, hk, hl, hh, hkv, hb5⟩
  rw [HNN.out] at hkv
  obtain ⟨cs, hcs⟩ : ∃ cs, cs = candS lo hi (decide (a1_4 = 10000)) := ⟨_, rfl⟩
  rw [← hcs] at hkv HRS
  obtain ⟨Ak, ck, rfl⟩ := Kd.R_slice hkv
  have HCN := Aside0.mk (show cs.length ≤ 5000 by rw [hcs]; unfold candS; rw [List.length_append, List.length_append, List.length_append]; have := candL_len lo; have := candH_len hi; have := HBD.out; split <;> simp <;> omega)
  have HK := Aside0.mk (⟨hk, hl, hh, hkv, hb5⟩ : _ ∧ _ ∧ _ ∧ _ ∧ _)
  clear hk hl hh hkv hb5 hcs x0 x1 bl bl4 bh hW4
  gi_wp2_with fail
  obtain ⟨us, hus_⟩ : ∃ us : Nat → List Int, us = fun j => if j < cs.length then (refusal_leasts.f k lo hi [] (cs.getD j zQ).f1 (cs.getD j zQ).f2 (cs.getD j zQ).f3).getD [] else [] := ⟨_, rfl⟩
  have HUS := Aside0.mk (show ∀ j, j < cs.length → refusal_leasts.f k lo hi [] (cs.getD j zQ).f1 (cs.getD j zQ).f2 (cs.getD j zQ).f3 = some (us j) ∧ (us j).length ≤ 5000 ∧ ∃ b, refusal_formed.f ((us j).map up0) (cs.getD j zQ).f1 (cs.getD j zQ).f2 (cs.getD j zQ).f3 = some b ∧ (rs.getD j zR).1 = ⟨(us j).map up0, (cs.getD j zQ).f1, (cs.getD j zQ).f2, (cs.getD j zQ).f3⟩ ∧
      ((b = false ∧ (rs.getD j zR).2 = false) ∨ (b = true ∧ refusal_right.f k l1_0 l1_1 l1_2 a1_3 a1_4 a1_5 lo hi ((us j).map up0) (cs.getD j zQ).f1 (cs.getD j zQ).f2 (cs.getD j zQ).f3 = some (rs.getD j zR).2)) from fun j hj => by
    obtain ⟨u, b, q1, q2, q3, q4, q5⟩ := tryC_some (HRS.out.2 j zQ zR hj)
    have e : us j = u := by rw [hus_]; simp only [if_pos hj, q1, Option.getD_some]
    rw [e]
    exact ⟨q1, q2, b, q3, q4, q5⟩)
  have HUL := Aside0.mk (show ∀ j, (us j).length ≤ 5000 from fun j => by
    by_cases hj : j < cs.length
    · exact (HUS.out j hj).2.1
    · rw [hus_]; simp only [if_neg hj]; exact Nat.zero_le _)
  clear hus_
  have HSZ := Aside0.mk (show w.heap.size ≤ W5.heap.size ∧ w1.heap.size ≤ W5.heap.size ∧ w.heap.size + 1 + 1 < w1.heap.size by have h1 := blk_lt HBX.out.2.2; have h2 := HB4.out.size; have h3 := HK.out.2.2.2.2.size; omega)
  refine range_g rfl (by omega) (gf := 62) (lb := #[.pointer (some ⟨kb, 0, none⟩), .pointer (some ⟨lb, 0, none⟩), .pointer (some ⟨hb, 0, none⟩)]) rfl trivial (enters_of Tryd.func62 (by kernel_rfl) rfl)
    (fun v => #[v]) (fun xs => xs.length = cs.length) (fun _ => True) cs.length (fun _ _ => True) (fun _ => True) (InvF W5 rs) (RetF w rs (w.heap.size + 1)) (fun pre v W => GQ W5 (cs.getD pre.length zQ) ((us pre.length).map up0) v W)
    (fun pre x a' W => ∃ g A ca, W5.heap.size ≤ g ∧ a' = { tmps := #[Value.slice A0 l0.length c0, Value.agg #[Value.slice A1_0 l1_0.length c1_0, Value.slice A1_1 l1_1.length c1_1, Value.slice A1_2 l1_2.length c1_2, Value.int IntKind.i64 a1_3, Value.int IntKind.i64 a1_4, Value.int IntKind.i64 a1_5], undef, Value.pointer (some { block := w.heap.size, off := 0 }), Value.pointer (some { block := w.heap.size + 1, off := 0 }), Value.pointer (some { block := w.heap.size + 1 + 1, off := 0 }), Value.pointer (some { block := w1.heap.size, off := 0 }), Value.pointer (some { block := w1.heap.size + 1, off := 0 }), Value.int IntKind.i64 0, Value.pointer (some { block := g, off := 0 }),
        Value.tuple #[Value.slice Al lo.length cl, Value.slice Ah hi.length ch, Value.int IntKind.i64 0], Value.slice A0 l0.length c0, Value.agg #[Value.slice A1_0 l1_0.length c1_0, Value.slice A1_1 l1_1.length c1_1, Value.slice A1_2 l1_2.length c1_2, Value.int IntKind.i64 a1_3, Value.int IntKind.i64 a1_4, Value.int IntKind.i64 a1_5], Value.tuple #[Value.slice Al lo.length cl, Value.slice Ah hi.length ch, Value.int IntKind.i64 0], Value.slice Al lo.length cl, Value.slice Ah hi.length ch, Value.int IntKind.i64 0, Value.int IntKind.i64 0, Value.bool false, undef, undef, Value.slice Al lo.length cl, Value.slice Ah hi.length ch,
        Value.func (Fn.func 62) #[] #[Value.pointer (some { block := kb, off := 0 }), Value.pointer (some { block := lb, off := 0 }), Value.pointer (some { block := hb, off := 0 })], x, undef, undef, undef, undef, undef, undef, undef, undef, undef, undef, undef], defers := [] } ∧
      x = .agg #[.slice A ((us pre.length).map up0).length ca, .int .i64 (cs.getD pre.length zQ).f1, .int .i64 (cs.getD pre.length zQ).f2, .int .i64 (cs.getD pre.length zQ).f3] ∧ W.heap[g]? = some (.cells #[.slice A ((us pre.length).map up0).length ca, .int .i64 (cs.getD pre.length zQ).f1, .int .i64 (cs.getD pre.length zQ).f2, .int .i64 (cs.getD pre.length zQ).f3] 30 (0, 0)) ∧ Kd.R (Kd.int .i64) 3 W W5.heap.size (fun _ => True) (.slice A ((us pre.length).map up0).length ca) ((us pre.length).map up0))
    (cands.iter 5 W5 kb lb hb Al Ah Ak cl ch ck lo hi k cs us HK.out.1 HK.out.2.1 HK.out.2.2.1 (Kd.R_reads' HK.out.2.2.2.1).2.2 (Kd.R_reads' HK.out.2.2.2.1).2.1 (Kd.C_below HCL.out HK.out.2.2.2.2) HLC.out.1 (Kd.C_below HCH.out HK.out.2.2.2.2) HLC.out.2 HCN.out (fun j hj => (HUS.out j hj).1) HUL.out (InvF W5 rs) (RetF w rs (w.heap.size + 1)) (fun pre W h => h.1) (fun pre X Y h hb => ⟨below_step h.1 hb, h.2⟩))
    (fun _ _ => trivial) (fun _ _ _ _ _ _ _ => trivial) (fun _ => rfl) InvF.own (RetF.own HSZ.out.1) ?own ⟨Below.refl _ _, fun i hi => absurd hi (Nat.not_lt_zero _)⟩ (fun _ _ => trivial) ?assign ?body ?done ?stop
  case own =>
    rintro pre x a' _ X Y row ⟨g, A, ca, hg0, h1, h2, h3, h4⟩ hg hr
    have hr2 : ∀ r, row = some r → ∃ o : Obj, X.heap[r]? = some o ∧ o.isCells = false := fun r e => (hr r e).2
    exact ⟨g, A, ca, hg0, h1, h2, kept_cellsR hg hr2 h3, kept_RR hg hr2 h4⟩
  case assign =>
    rintro l pre x W K hi ⟨A, ca, rfl, hR⟩ hK
    generalize ((us pre.length).map up0) = uu at *
    generalize cs.getD pre.length zQ = cc at *
    gi_wp2
    exact hK _ _ ((KeepsOthers.alloc W _).from _) trivial ⟨below_alloc hi.1 _, hi.2⟩ ⟨W.heap.size, A, ca, hi.1.size, rfl, rfl, blk_new W _, Kd.R_alloc hR _⟩
  case body =>
    rintro l pre x a' W hi ⟨g, A, ca, hg0, rfl, rfl, hbx, hRu⟩ hlen
    obtain ⟨hu1, -, b, hu3, hu4, hu5⟩ := HUS.out pre.length hlen
    obtain ⟨cc, hcc⟩ : ∃ cc, cs.getD pre.length zQ = cc := ⟨_, rfl⟩
    obtain ⟨uu, huu⟩ : ∃ uu, (us pre.length).map up0 = uu := ⟨_, rfl⟩
    obtain ⟨X, hX⟩ : ∃ X : Value, Value.agg #[.slice A ((us pre.length).map up0).length ca, .int .i64 (cs.getD pre.length zQ).f1, .int .i64 (cs.getD pre.length zQ).f2, .int .i64 (cs.getD pre.length zQ).f3] = X := ⟨_, rfl⟩
    rw [hX]
    rw [hcc] at hu3 hu4 hu5 hbx
    rw [huu] at hu3 hu4 hu5 hbx hRu
    have HI := Aside0.mk hi
    have HLEN := Aside0.mk hlen
    have HU4 := Aside0.mk hu4
    have HRU := Aside0.mk hRu
    have HGX := Aside0.mk hbx
    have HG0 := Aside0.mk hg0
    have HNO : Aside0 (∀ wz, Below W.heap.size W wz → (rs.getD pre.length zR).2 = false → KeepsFrom W5.heap.size W wz ∧ True ∧ InvF W5 rs (pre ++ [X]) wz) := ⟨fun wz hbz hf => ⟨(KeepsOthers.of_grownBy (grown_of_below hbz none) (fun j o h => by cases h)).from _, trivial, below_step HI.out.1 hbz, fun i hi' => by
      rw [List.length_append] at hi'
      rcases Nat.lt_or_ge i pre.length with h | h
      · exact HI.out.2 i h
      · have : i = pre.length := by have : i < pre.length + 1 := hi'; omega
        rw [this]; exact hf⟩⟩
    have s0 : W.cell? ⟨g, 0, none⟩ = some (.slice A uu.length ca) := blk_cell hbx 0
    have s1 : W.cell? ⟨g, 1, none⟩ = some (.int .i64 cc.f1) := blk_cell hbx 1
    have s2 : W.cell? ⟨g, 2, none⟩ = some (.int .i64 cc.f2) := blk_cell hbx 2
    have s3 : W.cell? ⟨g, 3, none⟩ = some (.int .i64 cc.f3) := blk_cell hbx 3
    have HFM := Aside0.mk (refusal_formed.calls A ca uu cc.f1 cc.f2 cc.f3 b W (Kd.R_reads' hRu).2.2 (Kd.R_reads' hRu).2.1 hu3)
    have HU5 := Aside0.mk hu5
    clear hu1 hu3 hu4 hu5 hcc huu hX hi hlen hRu hbx hg0
    gi_wp2_with fail
    refine ⟨trivial, (CallsIn.inRound l (callsIn_wide.2 HFM.out)).mono ?_⟩
    rintro e wa ⟨rfl, hba⟩
    have HBA := Aside0.mk hba
    clear hba s0 s1 s2 s3 HFM
    have hbox := fun {q : Nat} {cells : Array Value} {t : TypeId} (h : w1.heap[q]? = some (.cells cells t (0, 0))) => blk_below (blk_below (blk_below (blk_below h HB4.out) HK.out.2.2.2.2) HI.out.1) HBA.out
    have go := hbox HBX.out.1
    have gr := hbox HBX.out.2.1
    have ge := hbox HBX.out.2.2
    have gl := blk_below (blk_below (blk_below HBH.out.1 HK.out.2.2.2.2) HI.out.1) HBA.out
    have gh := blk_below (blk_below (blk_below HBH.out.2.1 HK.out.2.2.2.2) HI.out.1) HBA.out
    have gx := blk_below HGX.out HBA.out
    clear hbox
    cases b
    · have hf : (rs.getD pre.length zR).2 = false := by rcases HU5.out with h | h; exact h.2; exact absurd h.1 (by decide)
      have HF := Aside0.mk hf
      clear hf go gr ge gl gh gx HU5
      gi_wp2_with fail
      refine ⟨trivial, ?_⟩
      gi_wp2
      exact HNO.out _ HBA.out HF.out
    have hrt : refusal_right.f k l1_0 l1_1 l1_2 a1_3 a1_4 a1_5 lo hi uu cc.f1 cc.f2 cc.f3 = some (rs.getD pre.length zR).2 := by rcases HU5.out with h | h; exact absurd h.1 (by decide); exact h.2
    have hbwa : Below w.heap.size w wa := below_step (below_step (below_step (below_step HB1.out HB4.out) HK.out.2.2.2.2) HI.out.1) HBA.out
    have HBWA := Aside0.mk hbwa
    obtain ⟨b2, hb2⟩ : ∃ b2, (rs.getD pre.length zR).2 = b2 := ⟨_, rfl⟩
    rw [hb2] at hrt
    have HR := Aside0.mk (refusal_right.calls k A1_0 c1_0 l1_0 A1_1 c1_1 l1_1 A1_2 c1_2 l1_2 a1_3 a1_4 a1_5 Al cl lo Ah ch hi A ca uu cc.f1 cc.f2 cc.f3 b2 wa (HORD.out _ hbwa).1 HOC.out.1 (HORD.out _ hbwa).2.1 HOC.out.2.1 (HORD.out _ hbwa).2.2 HOC.out.2.2
      (Kd.C_below (Kd.C_below (Kd.C_below HCL.out HK.out.2.2.2.2) HI.out.1) HBA.out) HLC.out.1 (Kd.C_below (Kd.C_below (Kd.C_below HCH.out HK.out.2.2.2.2) HI.out.1) HBA.out) HLC.out.2 (Kd.C_below (Kd.R_reads' HRU.out).2.2 HBA.out) (Kd.R_reads' HRU.out).2.1 hrt)
    have HB2 := Aside0.mk hb2
    have o0 := blk_cell go 0
    have o1 := blk_cell go 1
    have o2 := blk_cell go 2
    have o3 := blk_cell go 3
    have o4 := blk_cell go 4
    have o5 := blk_cell go 5
    have o6 : wa.cell? ⟨w1.heap.size, 0, none⟩ = some (.slice Al lo.length cl) := blk_cell gl 0
    have o7 : wa.cell? ⟨w1.heap.size + 1, 0, none⟩ = some (.slice Ah hi.length ch) := blk_cell gh 0
    have s0 : wa.cell? ⟨g, 0, none⟩ = some (.slice A uu.length ca) := blk_cell gx 0
    have s1 : wa.cell? ⟨g, 1, none⟩ = some (.int .i64 cc.f1) := blk_cell gx 1
    have s2 : wa.cell? ⟨g, 2, none⟩ = some (.int .i64 cc.f2) := blk_cell gx 2
    have s3 : wa.cell? ⟨g, 3, none⟩ = some (.int .i64 cc.f3) := blk_cell gx 3
    have GG := Aside0.mk (⟨gr, ge, gx⟩ : _ ∧ _ ∧ _)
    change wa.cell? ⟨w.heap.size, 0, none⟩ = some (.slice A1_0 l1_0.length c1_0) at o0
    change wa.cell? ⟨w.heap.size, 1, none⟩ = some (.slice A1_1 l1_1.length c1_1) at o1
    change wa.cell? ⟨w.heap.size, 2, none⟩ = some (.slice A1_2 l1_2.length c1_2) at o2
    change wa.cell? ⟨w.heap.size, 3, none⟩ = some (.int .i64 a1_3) at o3
    change wa.cell? ⟨w.heap.size, 4, none⟩ = some (.int .i64 a1_4) at o4
    change wa.cell? ⟨w.heap.size, 5, none⟩ = some (.int .i64 a1_5) at o5
    clear go gr ge gl gh gx hbwa hrt hb2 HU5
    gi_wp2_with fail
    refine ⟨trivial, (CallsIn.inRound l (callsIn_wide.2 HR.out)).mono ?_⟩
    rintro e wb ⟨rfl, hbb⟩
    have HBB := Aside0.mk hbb
    have gr := blk_below GG.out.1 hbb
    have ge := blk_below GG.out.2.1 hbb
    have gx := blk_below GG.out.2.2 hbb
    clear hbb HR s0 s1 s2 s3 o0 o1 o2 o3 o4 o5 o6 o7
    cases b2
    · clear gr ge gx
      gi_wp2
      exact HNO.out _ (below_step HBA.out HBB.out) HB2.out
    have z0 : wb.cell? ⟨w.heap.size + 1, 0, none⟩ = some (.slice none 0 0) := blk_cell gr 0
    have z1 : wb.cell? ⟨w.heap.size + 1, 1, none⟩ = some (.int .i64 0) := blk_cell gr 1
    have z2 : wb.cell? ⟨w.heap.size + 1, 2, none⟩ = some (.int .i64 0) := blk_cell gr 2
    have z3 : wb.cell? ⟨w.heap.size + 1, 3, none⟩ = some (.int .i64 0) := blk_cell gr 3
    have f0 : ∀ i, wb.frozen? ⟨w.heap.size + 1, i, none⟩ = false := fun i => blk_frozen gr i
    have z4 : wb.cell? ⟨w.heap.size + 1 + 1, 0, none⟩ = some (.int .i64 0) := blk_cell ge 0
    have f4 : ∀ i, wb.frozen? ⟨w.heap.size + 1 + 1, i, none⟩ = false := fun i => blk_frozen ge i
    have s0 : wb.cell? ⟨g, 0, none⟩ = some (.slice A uu.length ca) := blk_cell gx 0
    have s1 : wb.cell? ⟨g, 1, none⟩ = some (.int .i64 cc.f1) := blk_cell gx 1
    have s2 : wb.cell? ⟨g, 2, none⟩ = some (.int .i64 cc.f2) := blk_cell gx 2
    have s3 : wb.cell? ⟨g, 3, none⟩ = some (.int .i64 cc.f3) := blk_cell gx 3
    have GB := Aside0.mk (⟨gr, ge⟩ : _ ∧ _)
    clear gr ge gx
    gi_wp2
    have HP := refuse_boxes (b := w.heap.size + 1) (b' := w.heap.size + 1 + 1) (by omega) (.slice A uu.length ca) (.int .i64 cc.f1) (.int .i64 cc.f2) (.int .i64 cc.f3) (.int .i64 0) GB.out.1 GB.out.2
    have hbwb := below_step HBWA.out HBB.out
    refine ⟨((((((KeepsOthers.of_grownBy (grown_of_below (below_step HBA.out HBB.out) none) (fun j o h => by cases h)).trans (KeepsOthers.setCell _ _ _)).trans (KeepsOthers.setCell _ _ _)).trans (KeepsOthers.setCell _ _ _)).trans (KeepsOthers.setCell _ _ _)).trans (KeepsOthers.setCell _ _ _)).from _, rfl,
      below_set (below_set (below_set (below_set (below_set hbwb (by show w.heap.size ≤ w.heap.size + 1; omega)) (by show w.heap.size ≤ w.heap.size + 1; omega)) (by show w.heap.size ≤ w.heap.size + 1; omega)) (by show w.heap.size ≤ w.heap.size + 1; omega)) (by show w.heap.size ≤ w.heap.size + 1 + 1; omega), pre.length, by rw [HRS.out.1]; exact HLEN.out, HI.out.2, HB2.out, A, ca, ?_, ?_, HP.2.1⟩
    · rw [HU4.out]; exact HP.1
    · rw [HU4.out]; exact HP.2.2.2 (Kd.R_below (Kd.R_lower HRU.out HSZ.out.1) (below_step HBA.out HBB.out))
  case done =>
    rintro xs W hS hi hK
    have hres := HRES.out
    rw [refuseR_none (fun i hi' => hi.2 i (by rw [hS, ← HRS.out.1]; exact hi'))] at hres
    simp only [Prod.mk.injEq] at hres
    obtain ⟨rfl, rfl, rfl, rfl, rfl⟩ := hres
    have gb := blk_below (blk_below HBH.out.2.2.1 HK.out.2.2.2.2) hi.1
    have ge := blk_below (blk_below HBH.out.2.2.2 HK.out.2.2.2.2) hi.1
    have z0 : W.cell? ⟨w.heap.size + 1, 0, none⟩ = some (.slice none 0 0) := blk_cell gb 0
    have z1 : W.cell? ⟨w.heap.size + 1, 1, none⟩ = some (.int .i64 0) := blk_cell gb 1
    have z2 : W.cell? ⟨w.heap.size + 1, 2, none⟩ = some (.int .i64 0) := blk_cell gb 2
    have z3 : W.cell? ⟨w.heap.size + 1, 3, none⟩ = some (.int .i64 0) := blk_cell gb 3
    have f0 : ∀ i, W.frozen? ⟨w.heap.size + 1, i, none⟩ = false := fun i => blk_frozen gb i
    have z4 : W.cell? ⟨w.heap.size + 1 + 1, 0, none⟩ = some (.int .i64 0) := blk_cell ge 0
    have f4 : ∀ i, W.frozen? ⟨w.heap.size + 1 + 1, i, none⟩ = false := fun i => blk_frozen ge i
    have GB := Aside0.mk (⟨gb, ge⟩ : _ ∧ _)
    have HI := Aside0.mk hi
    clear hS hi gb ge
    gi_wp2
    have HP := refuse_boxes (b := w.heap.size + 1) (b' := w.heap.size + 1 + 1) (by omega) (.slice none 0 0) (.int .i64 0) (.int .i64 0) (.int .i64 0) (.int .i64 22) GB.out.1 GB.out.2
    have hK2 := (HP.2.2.1 W5.heap.size (by have := HSZ.out; omega) (by have := HSZ.out; omega)).trans hK
    refine ⟨by simp, .inl ⟨_, _, rfl, run_takeDeferred hK2, ?_⟩⟩
    have r0 := fun o => cell_kept (blk_cell HP.1 0) (grownBy_putObj' _ W5.heap.size o) (fun r e => by cases e; exact ⟨_, hK2, rfl⟩)
    have r1 := fun o => cell_kept (blk_cell HP.1 1) (grownBy_putObj' _ W5.heap.size o) (fun r e => by cases e; exact ⟨_, hK2, rfl⟩)
    have r2' := fun o => cell_kept (blk_cell HP.1 2) (grownBy_putObj' _ W5.heap.size o) (fun r e => by cases e; exact ⟨_, hK2, rfl⟩)
    have r3 := fun o => cell_kept (blk_cell HP.1 3) (grownBy_putObj' _ W5.heap.size o) (fun r e => by cases e; exact ⟨_, hK2, rfl⟩)
    have r4 := fun o => cell_kept (blk_cell HP.2.1 0) (grownBy_putObj' _ W5.heap.size o) (fun r e => by cases e; exact ⟨_, hK2, rfl⟩)
    refine ⟨.tuple #[.agg #[.slice none 0 0, .int .i64 0, .int .i64 0, .int .i64 0], .int .i64 22], ?_, ?_⟩
    · simp [results, Tryd.f13, go_sem, r0, r1, r2', r3, r4, hu]
    · have hbw : Below w.heap.size w W := below_step (below_step (below_step HB1.out HB4.out) HK.out.2.2.2.2) HI.out.1
      exact ⟨_, rfl, Kd.R_nil _ _ _ _ _, (below_set (below_set (below_set (below_set (below_set hbw (by show w.heap.size ≤ w.heap.size + 1; omega)) (by show w.heap.size ≤ w.heap.size + 1; omega)) (by show w.heap.size ≤ w.heap.size + 1; omega)) (by show w.heap.size ≤ w.heap.size + 1; omega)) (by show w.heap.size ≤ w.heap.size + 1 + 1; omega)).trans (belowK_b (n₀ := w.heap.size) (w := W5) HSZ.out.1 _ W5.heap.size _ _ (Nat.le_refl _) hK2 rfl rfl)⟩
  case stop =>
    rintro pre W - hR hK
    obtain ⟨hb, j, hj, h0, h1, A, ca, g4, hRR, g5⟩ := hR
    have hres := HRES.out
    rw [refuseR_some hj h0 h1] at hres
    simp only [Prod.mk.injEq] at hres
    obtain ⟨rfl, rfl, rfl, rfl, rfl⟩ := hres
    have G4 := Aside0.mk g4
    have G5 := Aside0.mk g5
    have HRR := Aside0.mk hRR
    have HBW := Aside0.mk hb
    clear hj h0 h1 g4 hRR g5 hb
    gi_wp2
    refine ⟨by simp, .inl ⟨_, _, rfl, run_takeDeferred hK, ?_⟩⟩
    have r0 := fun o => cell_kept (blk_cell G4.out 0) (grownBy_putObj' W W5.heap.size o) (fun r e => by cases e; exact ⟨_, hK, rfl⟩)
    have r1 := fun o => cell_kept (blk_cell G4.out 1) (grownBy_putObj' W W5.heap.size o) (fun r e => by cases e; exact ⟨_, hK, rfl⟩)
    have r2' := fun o => cell_kept (blk_cell G4.out 2) (grownBy_putObj' W W5.heap.size o) (fun r e => by cases e; exact ⟨_, hK, rfl⟩)
    have r3 := fun o => cell_kept (blk_cell G4.out 3) (grownBy_putObj' W W5.heap.size o) (fun r e => by cases e; exact ⟨_, hK, rfl⟩)
    have r4 := fun o => cell_kept (blk_cell G5.out 0) (grownBy_putObj' W W5.heap.size o) (fun r e => by cases e; exact ⟨_, hK, rfl⟩)
    refine ⟨.tuple #[.agg #[.slice A (rs.getD j zR).1.f0.length ca, .int .i64 (rs.getD j zR).1.f1, .int .i64 (rs.getD j zR).1.f2, .int .i64 (rs.getD j zR).1.f3], .int .i64 0], ?_, ?_⟩
    · generalize rs.getD j zR = rr at *
      simp [results, Tryd.f13, go_sem, r0, r1, r2', r3, r4, hu]
    · exact ⟨_, rfl, kept_RR (grownBy_putObj' _ _ _) (fun r e => by cases e; exact ⟨_, hK, rfl⟩) HRR.out, HBW.out.trans (belowK_b (n₀ := w.heap.size) (w := W5) HSZ.out.1 _ W5.heap.size _ _ (Nat.le_refl _) hK rfl rfl)⟩
def slices_Equal_int_int.l0 : Nat → List Int → List Int → Int → Int → Option (Bool)
 | 0, _, _, _, _ => none
 | k + 1, x0, x1, x12, x13 => if x13 < x12 then (if 0 ≤ x13 then (if x13 < (x0.length : Int) then (if x13 < (x1.length : Int) then (if (rd x0 x13) = (rd x1 x13) then (slices_Equal_int_int.l0 k x0 x1 x12 (wrap64 (x13 + 1))) else (some false)) else (none)) else (none)) else (none)) else (some true)
def slices_Equal_int_int.f (k : Nat) (l0 : List Int) (l1 : List Int) : Option (Bool) := if (l0.length : Int) = (l1.length : Int) then (slices_Equal_int_int.l0 k l0 l1 (l0.length : Int) 0) else (some false)
theorem slices_Equal_int_int.mono_l : ∀ k, (∀ y0 y1 y2 y3, LeO (slices_Equal_int_int.l0 k y0 y1 y2 y3) (slices_Equal_int_int.l0 (k + 1) y0 y1 y2 y3))
 | 0 => fun _ _ _ _ r h => by simp [slices_Equal_int_int.l0] at h
 | k + 1 => by
  have ih0 := slices_Equal_int_int.mono_l k
  ·intro y0 y1 y2 y3
   unfold slices_Equal_int_int.l0
   repeat' first
   | (with_reducible exact ih0 _ _ _ _)
   | (with_reducible exact LeO.refl _)
   | (with_reducible exact LeO.none _)
   | (with_reducible refine LeO.ite ?_ ?_)
   | (with_reducible refine LeO.bind ?_ (fun _ => ?_))
   | exact ih0 _ _ _ _
   | exact LeO.none _
   | refine LeO.ite ?_ ?_
   | refine LeO.bind ?_ (fun _ => ?_)
theorem slices_Equal_int_int.mono : ∀ a0 a1 k, LeO (slices_Equal_int_int.f k a0 a1) (slices_Equal_int_int.f (k + 1) a0 a1) := by
 intro a0 a1 k
 have ih0 := slices_Equal_int_int.mono_l k
 unfold slices_Equal_int_int.f
 repeat' first
   | (with_reducible exact ih0 _ _ _ _)
   | (with_reducible exact LeO.refl _)
   | (with_reducible exact LeO.none _)
   | (with_reducible refine LeO.ite ?_ ?_)
   | (with_reducible refine LeO.bind ?_ (fun _ => ?_))
   | exact ih0 _ _ _ _
   | exact LeO.none _
   | refine LeO.ite ?_ ?_
   | refine LeO.bind ?_ (fun _ => ?_)
set_option maxHeartbeats 8000000 in
set_option maxRecDepth 100000 in
theorem slices_Equal_int_int.calls (k : Nat) (A0 : Option Addr) (c0 : Nat) (l0 : List Int) (A1 : Option Addr) (c1 : Nat) (l1 : List Int) (r : Bool) (w : World) (hr0 : Kd.C (Kd.int .i64) w A0 l0.length l0) (hc0 : l0.length ≤ c0) (hr1 : Kd.C (Kd.int .i64) w A1 l1.length l1) (hc1 : l1.length ≤ c1) (h : slices_Equal_int_int.f k l0 l1 = some r) :
  Calls Tryd.prog 15 #[.slice A0 l0.length c0, .slice A1 l1.length c1] w fun e w' => e = .returned (.bool r) ∧ Drawn0 w w' := by
 have HR0 := Aside0.mk hr0
 have HC0 := Aside0.mk hc0
 clear hr0 hc0
 have HR1 := Aside0.mk hr1
 have HC1 := Aside0.mk hc1
 clear hr1 hc1
 have H : (if (l0.length : Int) = (l1.length : Int) then (slices_Equal_int_int.l0 k l0 l1 (l0.length : Int) 0) else (some false)) = some r := h
 clear h
 by_cases c3 : (l0.length : Int) = (l1.length : Int)
 ·rw [if_pos c3] at H
  have c3b0 : ((l0.length : Int) == (l1.length : Int)) = true := beq_iff_eq.mpr c3
  have c3b1 : ((l0.length : Int) != (l1.length : Int)) = false := bne_eq_false_iff_eq.mpr c3
  have c3b2 : (l0.length == l1.length) = true := by first | simpa using c3 | (simp at c3 ⊢; omega)
  clear c3
  have H' := Aside0.mk H
  clear H
  go_enter Tryd.func15, Tryd.ntmps15
  go_wp2
  repeat (go_quiet (fail); try go_wp2)
  go_loopg [13] k (fun kq v13 w' => ∃ (x13_1 : Int), v13 = .int .i64 x13_1 ∧ Aside0 (slices_Equal_int_int.l0 kq l0 l1 (l0.length : Int) x13_1 = some r) ∧ Aside0 (kq ≤ k) ∧ Drawn0 w w')
  case atStart => exact ⟨(0), sm_, H', ⟨Nat.le_refl _⟩, by repeat (first | exact Drawn0.refl _ | apply Drawn0.step)⟩
  case round =>
   clear H'
   try clear c1
   try clear p2
   try clear c3
   try clear c3b0
   try clear c3b1
   try clear c3b2
   obtain ⟨x13_1, rfl, HA, HK1, ⟨m1, rfl⟩⟩ := hrel
   cases gk with
   | zero => exact absurd HA.out (by simp [slices_Equal_int_int.l0])
   | succ k1 =>
    have H := HA.out
    clear HA
    simp only [slices_Equal_int_int.l0] at H
    by_cases c4 : x13_1 < (l0.length : Int)
    ·rw [if_pos c4] at H
     have c4b0 : decide (x13_1 < (l0.length : Int)) = true := decide_eq_true c4
     clear c4
     by_cases c5 : 0 ≤ x13_1
     ·rw [if_pos c5] at H
      have c5b0 : decide (0 ≤ x13_1) = true := decide_eq_true c5
      clear c5
      by_cases c6 : x13_1 < (l0.length : Int)
      ·rw [if_pos c6] at H
       have c6b0 : decide (x13_1 < (l0.length : Int)) = true := decide_eq_true c6
       clear c6
       by_cases c7 : x13_1 < (l1.length : Int)
       ·rw [if_pos c7] at H
        have c7b0 : decide (x13_1 < (l1.length : Int)) = true := decide_eq_true c7
        clear c7
        by_cases c8 : (rd l0 x13_1) = (rd l1 x13_1)
        ·rw [if_pos c8] at H
         have c8b0 : ((rd l0 x13_1) == (rd l1 x13_1)) = true := beq_iff_eq.mpr c8
         have c8b1 : ((rd l0 x13_1) != (rd l1 x13_1)) = false := bne_eq_false_iff_eq.mpr c8
         clear c8
         have H' := Aside0.mk H
         clear H
         have p184 : 0 ≤ (x13_1 : Int) := of_decide_eq_true as_
         have q184 : x13_1 < (l0.length : Int) := of_decide_eq_true as_
         obtain ⟨ad184, e184, hx184_0⟩ := Kd.at_int HR0.out x13_1 p184 q184
         cases e184
         replace p184 := eq_true p184
         replace q184 := eq_true q184
         have p185 : 0 ≤ (x13_1 : Int) := of_decide_eq_true as_
         have q185 : x13_1 < (l1.length : Int) := of_decide_eq_true as_
         obtain ⟨ad185, e185, hx185_0⟩ := Kd.at_int HR1.out x13_1 p185 q185
         cases e185
         replace p185 := eq_true p185
         replace q185 := eq_true q185
         go_wp2
         repeat (go_quiet (fail); try go_wp2)
         go_roundg k1
         case measure => have := HK1.out; omega
         case rel => exact ⟨(wrap64 (x13_1 + 1)), sm_, H', ⟨by have := HK1.out; omega⟩, by repeat (first | exact Drawn0.refl _ | apply Drawn0.step)⟩
        ·rw [if_neg c8] at H
         have c8b0 : ((rd l0 x13_1) == (rd l1 x13_1)) = false := beq_eq_false_iff_ne.mpr c8
         have c8b1 : ((rd l0 x13_1) != (rd l1 x13_1)) = true := bne_iff_ne.mpr c8
         obtain rfl := Option.some.inj H
         have p184 : 0 ≤ (x13_1 : Int) := of_decide_eq_true as_
         have q184 : x13_1 < (l0.length : Int) := of_decide_eq_true as_
         obtain ⟨ad184, e184, hx184_0⟩ := Kd.at_int HR0.out x13_1 p184 q184
         cases e184
         replace p184 := eq_true p184
         replace q184 := eq_true q184
         have p185 : 0 ≤ (x13_1 : Int) := of_decide_eq_true as_
         have q185 : x13_1 < (l1.length : Int) := of_decide_eq_true as_
         obtain ⟨ad185, e185, hx185_0⟩ := Kd.at_int HR1.out x13_1 p185 q185
         cases e185
         replace p185 := eq_true p185
         replace q185 := eq_true q185
         go_wp2
         repeat (go_quiet (fail); try go_wp2)
         go_ret
         exact ⟨by first | rfl | (simp; done) | (simp [*]; done), by repeat (first | exact Drawn0.refl _ | apply Drawn0.step)⟩
       ·rw [if_neg c7] at H
        exact absurd H (by simp)
      ·rw [if_neg c6] at H
       exact absurd H (by simp)
     ·rw [if_neg c5] at H
      exact absurd H (by simp)
    ·rw [if_neg c4] at H
     have c4b0 : decide (x13_1 < (l0.length : Int)) = false := decide_eq_false c4
     clear c4
     obtain rfl := Option.some.inj H
     go_wp2
     repeat (go_quiet (fail); try go_wp2)
     go_ret
     exact ⟨by first | rfl | (simp; done) | (simp [*]; done), by repeat (first | exact Drawn0.refl _ | apply Drawn0.step)⟩
 ·rw [if_neg c3] at H
  have c3b0 : ((l0.length : Int) == (l1.length : Int)) = false := beq_eq_false_iff_ne.mpr c3
  have c3b1 : ((l0.length : Int) != (l1.length : Int)) = true := bne_iff_ne.mpr c3
  have c3b2 : (l0.length == l1.length) = false := by first | simpa using c3 | (simp at c3 ⊢; omega)
  obtain rfl := Option.some.inj H
  go_enter Tryd.func15, Tryd.ntmps15
  go_wp2
  repeat (go_quiet (fail); try go_wp2)
  go_ret
  exact ⟨by first | rfl | (simp; done) | (simp [*]; done), by repeat (first | exact Drawn0.refl _ | apply Drawn0.step)⟩
def wordT (lo hi : Int) : ByteArray := if lo = 1 then ⟨#[116, 111, 111, 32, 119, 101, 97, 107]⟩ else if hi = 1 then ⟨#[116, 111, 111, 32, 115, 116, 114, 111, 110, 103]⟩ else ⟨#[116, 111, 111, 32, 102, 101, 119, 32, 117, 110, 105, 116, 115]⟩
def decW (u : Nat) : List UInt8 := if h : u < 10 then [UInt8.ofNat (48 + u)] else decW (u / 10) ++ [UInt8.ofNat (48 + u % 10)]
termination_by u
decreasing_by omega
def refusal_Why.f (l0_0 : List Int) (a0_1 a0_2 a0_3 : Int) : Option (ByteArray × Int) := (refusal_formed.f l0_0 a0_1 a0_2 a0_3).bind fun b => if b = true then some (wordT a0_1 a0_2 ++ (⟨#[44, 32, 102, 97, 99, 116, 111, 114, 32]⟩ : ByteArray) ++ ⟨(decW a0_3.toNat).toArray⟩, 0) else some ((⟨#[]⟩ : ByteArray), 2)
def WhyOK (w : World) : Prop := ∀ (A0_0 : Option Addr) (c0_0 : Nat) (l0_0 : List Int) (a0_1 a0_2 a0_3 : Int) (r1 : ByteArray) (r2 : Int), Kd.C (Kd.int .i64) w A0_0 l0_0.length l0_0 → l0_0.length ≤ c0_0 → refusal_Why.f l0_0 a0_1 a0_2 a0_3 = some (r1, r2) →
  Calls Tryd.prog 17 #[.agg #[.slice A0_0 l0_0.length c0_0, .int .i64 a0_1, .int .i64 a0_2, .int .i64 a0_3]] w fun e w' => e = .returned (.tuple #[.string r1, .int .i64 r2]) ∧ Below w.heap.size w w'
theorem calP_ {w w1 : World} (h : Aside0 (∀ w1, Below w.heap.size w w1 → WhyOK w1)) (hb : Below w.heap.size w w1) : WhyOK w1 := h.out w1 hb
theorem refusal_Why.calls (A0_0 : Option Addr) (c0_0 : Nat) (l0_0 : List Int) (a0_1 a0_2 a0_3 : Int) (r1 : ByteArray) (r2 : Int) (w1 : World) (hr0_0 : Kd.C (Kd.int .i64) w1 A0_0 l0_0.length l0_0) (hc0_0 : l0_0.length ≤ c0_0) (h : refusal_Why.f l0_0 a0_1 a0_2 a0_3 = some (r1, r2)) (hP : WhyOK w1 := by exact calP_ (by assumption) bl_) :
    Calls Tryd.prog 17 #[.agg #[.slice A0_0 l0_0.length c0_0, .int .i64 a0_1, .int .i64 a0_2, .int .i64 a0_3]] w1 fun e w' => e = .returned (.tuple #[.string r1, .int .i64 r2]) ∧ Below w1.heap.size w1 w' := hP A0_0 c0_0 l0_0 a0_1 a0_2 a0_3 r1 r2 hr0_0 hc0_0 h
def refusal_Check.f (k : Nat) (l0 : List (S82)) (l1_0 : List (S45)) (l1_1 : List Int) (l1_2 : List Int) (a1_3 : Int) (a1_4 : Int) (a1_5 : Int) (l2_0 : List Int) (a2_1 : Int) (a2_2 : Int) (a2_3 : Int) : Option (Int) := (refusal_Excess.f k l0 l1_0 l1_1 l1_2 a1_3 a1_4 a1_5).bind fun bt188 => (if bt188.2.2 = 0 then (if (l2_0.length : Int) = (l1_0.length : Int) then ((refusal_formed.f l2_0 a2_1 a2_2 a2_3).bind fun t195 => (if t195 = true then ((refusal_right.f k l1_0 l1_1 l1_2 a1_3 a1_4 a1_5 bt188.1 bt188.2.1 l2_0 a2_1 a2_2 a2_3).bind fun t196 => (if t196 = true then (some 0) else (some 14))) else (some 2))) else (some 10)) else (some bt188.2.2))
theorem refusal_Check.mono : ∀ a0 a1 a2 a3 a4 a5 a6 a7 a8 a9 a10 k, LeO (refusal_Check.f k a0 a1 a2 a3 a4 a5 a6 a7 a8 a9 a10) (refusal_Check.f (k + 1) a0 a1 a2 a3 a4 a5 a6 a7 a8 a9 a10) := by
 intro a0 a1 a2 a3 a4 a5 a6 a7 a8 a9 a10 k
 unfold refusal_Check.f
 repeat' first
   | (with_reducible exact refusal_Excess.mono _ _ _ _ _ _ _ _)
   | (with_reducible exact refusal_right.mono _ _ _ _ _ _ _ _ _ _ _ _ _)
   | (with_reducible exact LeO.refl _)
   | (with_reducible exact LeO.none _)
   | (with_reducible refine LeO.ite ?_ ?_)
   | (with_reducible refine LeO.bind ?_ (fun _ => ?_))
   | exact refusal_Excess.mono _ _ _ _ _ _ _ _
   | exact refusal_right.mono _ _ _ _ _ _ _ _ _ _ _ _ _
   | exact LeO.none _
   | refine LeO.ite ?_ ?_
   | refine LeO.bind ?_ (fun _ => ?_)
set_option maxHeartbeats 8000000 in
set_option maxRecDepth 100000 in
theorem refusal_Check.calls (k : Nat) (A0 : Option Addr) (c0 : Nat) (l0 : List (S82)) (A1_0 : Option Addr) (c1_0 : Nat) (l1_0 : List (S45)) (A1_1 : Option Addr) (c1_1 : Nat) (l1_1 : List Int) (A1_2 : Option Addr) (c1_2 : Nat) (l1_2 : List Int) (a1_3 : Int) (a1_4 : Int) (a1_5 : Int) (A2_0 : Option Addr) (c2_0 : Nat) (l2_0 : List Int) (a2_1 : Int) (a2_2 : Int) (a2_3 : Int) (r : Int) (w : World) (hr0 : Kd.C k82 w A0 l0.length l0) (hc0 : l0.length ≤ c0) (hr1_0 : Kd.C k45 w A1_0 l1_0.length l1_0) (hc1_0 : l1_0.length ≤ c1_0) (hr1_1 : Kd.C (Kd.int .i64) w A1_1 l1_1.length l1_1) (hc1_1 : l1_1.length ≤ c1_1) (hr1_2 : Kd.C (Kd.int .i64) w A1_2 l1_2.length l1_2) (hc1_2 : l1_2.length ≤ c1_2) (hr2_0 : Kd.C (Kd.int .i64) w A2_0 l2_0.length l2_0) (hc2_0 : l2_0.length ≤ c2_0) (h : refusal_Check.f k l0 l1_0 l1_1 l1_2 a1_3 a1_4 a1_5 l2_0 a2_1 a2_2 a2_3 = some r) :
  Calls Tryd.prog 19 #[.slice A0 l0.length c0, .agg #[.slice A1_0 l1_0.length c1_0, .slice A1_1 l1_1.length c1_1, .slice A1_2 l1_2.length c1_2, .int .i64 a1_3, .int .i64 a1_4, .int .i64 a1_5], .agg #[.slice A2_0 l2_0.length c2_0, .int .i64 a2_1, .int .i64 a2_2, .int .i64 a2_3]] w fun e w' => e = .returned (.int .i64 r) ∧ Below w.heap.size w w' := by
 have hu26 := Tryd.underlying26
 have hu30 := Tryd.underlying30
 have HR0 := Aside0.mk hr0
 have HC0 := Aside0.mk hc0
 clear hr0 hc0
 have HR1_0 := Aside0.mk hr1_0
 have HC1_0 := Aside0.mk hc1_0
 clear hr1_0 hc1_0
 have HR1_1 := Aside0.mk hr1_1
 have HC1_1 := Aside0.mk hc1_1
 clear hr1_1 hc1_1
 have HR1_2 := Aside0.mk hr1_2
 have HC1_2 := Aside0.mk hc1_2
 clear hr1_2 hc1_2
 have HR2_0 := Aside0.mk hr2_0
 have HC2_0 := Aside0.mk hc2_0
 clear hr2_0 hc2_0
 have HB := Aside0.mk (Below.refl w.heap.size w)
 have H : ((refusal_Excess.f k l0 l1_0 l1_1 l1_2 a1_3 a1_4 a1_5).bind fun bt188 => (if bt188.2.2 = 0 then (if (l2_0.length : Int) = (l1_0.length : Int) then ((refusal_formed.f l2_0 a2_1 a2_2 a2_3).bind fun t195 => (if t195 = true then ((refusal_right.f k l1_0 l1_1 l1_2 a1_3 a1_4 a1_5 bt188.1 bt188.2.1 l2_0 a2_1 a2_2 a2_3).bind fun t196 => (if t196 = true then (some 0) else (some 14))) else (some 2))) else (some 10)) else (some bt188.2.2))) = some r := h
 clear h
 replace H := Option.bind_eq_some_iff.mp H
 obtain ⟨⟨t188, t191, t194⟩, A40, H⟩ := H
 replace H : (if t194 = 0 then (if (l2_0.length : Int) = (l1_0.length : Int) then ((refusal_formed.f l2_0 a2_1 a2_2 a2_3).bind fun t195 => (if t195 = true then ((refusal_right.f k l1_0 l1_1 l1_2 a1_3 a1_4 a1_5 t188 t191 l2_0 a2_1 a2_2 a2_3).bind fun t196 => (if t196 = true then (some 0) else (some 14))) else (some 2))) else (some 10)) else (some t194)) = some r := H
 have A4 := Aside0.mk A40
 clear A40
 by_cases c5 : t194 = 0
 ·rw [if_pos c5] at H
  have c5b0 : (t194 == 0) = true := beq_iff_eq.mpr c5
  have c5b1 : (t194 != 0) = false := bne_eq_false_iff_eq.mpr c5
  clear c5
  by_cases c6 : (l2_0.length : Int) = (l1_0.length : Int)
  ·rw [if_pos c6] at H
   have c6b0 : ((l2_0.length : Int) == (l1_0.length : Int)) = true := beq_iff_eq.mpr c6
   have c6b1 : ((l2_0.length : Int) != (l1_0.length : Int)) = false := bne_eq_false_iff_eq.mpr c6
   have c6b2 : (l2_0.length == l1_0.length) = true := by first | simpa using c6 | (simp at c6 ⊢; omega)
   clear c6
   replace H := Option.bind_eq_some_iff.mp H
   obtain ⟨t195, A70, H⟩ := H
   replace H : (if t195 = true then ((refusal_right.f k l1_0 l1_1 l1_2 a1_3 a1_4 a1_5 t188 t191 l2_0 a2_1 a2_2 a2_3).bind fun t196 => (if t196 = true then (some 0) else (some 14))) else (some 2)) = some r := H
   have A7 := Aside0.mk A70
   clear A70
   by_cases c8 : t195 = true
   ·subst c8
    have H1 : ((refusal_right.f k l1_0 l1_1 l1_2 a1_3 a1_4 a1_5 t188 t191 l2_0 a2_1 a2_2 a2_3).bind fun t196 => (if t196 = true then (some 0) else (some 14))) = some r := by rw [if_pos rfl] at H; exact H
    clear H
    have H := H1
    clear H1
    replace H := Option.bind_eq_some_iff.mp H
    obtain ⟨t196, A90, H⟩ := H
    replace H : (if t196 = true then (some 0) else (some 14)) = some r := H
    have A9 := Aside0.mk A90
    clear A90
    by_cases c10 : t196 = true
    ·subst c10
     have H1 : (some 0) = some r := by rw [if_pos rfl] at H; exact H
     clear H
     have H := H1
     clear H1
     obtain rfl := Option.some.inj H
     go_enter Tryd.func19, Tryd.ntmps19
     go_wp2_with (first | ((with_reducible refine gate_dst (N := 4) rfl ?_); refine be_ (N := 4) (cs := #[.slice A1_0 l1_0.length c1_0, .slice A1_1 l1_1.length c1_1, .slice A1_2 l1_2.length c1_2, .int .i64 a1_3, .int .i64 a1_4, .int .i64 a1_5]) (t := 26) ?_; intro gb186 hg w11 hbox hb; have n0_ := Aside0.mk (below_step bl_ hb); have n1_ := Aside0.mk (hbox); have n2_ := Aside0.mk ((by rw [hg]; exact (below_size bl_) : w.heap.size ≤ gb186)); have n3_ := Aside0.mk ((by rw [hg]; exact (below_size bl_) : w.heap.size ≤ gb186)); clear HB; have HB := n0_; have BK186 := n1_; have GW186 := n2_; have GE186 := n3_; clear n0_ n1_ n2_ n3_; clear hb hbox hg) | ((with_reducible refine gate_dst (N := 5) rfl ?_); refine be_ (N := 5) (cs := #[.slice A2_0 l2_0.length c2_0, .int .i64 a2_1, .int .i64 a2_2, .int .i64 a2_3]) (t := 30) ?_; intro gb187 hg w12 hbox hb; have n0_ := Aside0.mk (blk_below (bkt_ BK186) hb); have n1_ := Aside0.mk (below_step bls_ hb); have n2_ := Aside0.mk (hbox); have n3_ := Aside0.mk ((by rw [hg]; exact (below_size bls_) : w.heap.size ≤ gb187)); have n4_ := Aside0.mk ((by rw [hg]; exact (below_size bls_) : w.heap.size ≤ gb187)); have n5_ := Aside0.mk ((by rw [hg]; exact Nat.ne_of_lt (blk_lt (bkt_ BK186)) : gb186 ≠ gb187)); have n6_ := Aside0.mk ((by rw [hg]; exact Nat.ne_of_gt (blk_lt (bkt_ BK186)) : gb187 ≠ gb186)); clear BK186; clear HB; have BK186 := n0_; have HB := n1_; have BK187 := n2_; have GW187 := n3_; have GE187 := n4_; have NB186_187 := n5_; have NB187_186 := n6_; clear n0_ n1_ n2_ n3_ n4_ n5_ n6_; clear hb hbox hg; have hnb13 := NB186_187.out; have hnc13 := NB187_186.out; obtain ⟨hcz14_0, hcz14_1, hcz14_2, hcz14_3, hcz14_4, hcz14_5⟩ := bc6_ BK186; obtain ⟨hfz14_0, hfz14_1, hfz14_2, hfz14_3, hfz14_4⟩ := bf5_ BK186; have hfz14_5 := blk_frozen BK186.out 5) | ((with_reducible refine gate_callee (f := 11) rfl ?_); refine gl_ (some 13) Tryd.func11 #[.slice A0 l0.length c0, .agg #[.slice A1_0 l1_0.length c1_0, .slice A1_1 l1_1.length c1_1, .slice A1_2 l1_2.length c1_2, .int .i64 a1_3, .int .i64 a1_4, .int .i64 a1_5]] ?_; (with_reducible refine (refusal_Excess.calls k _ _ l0 _ _ l1_0 _ _ l1_1 _ _ l1_2 a1_3 a1_4 a1_5 t188 t191 t194 _ ?side1 ?side2 ?side3 ?side4 ?side5 ?side6 ?side7 ?side8 A4.out).mono ?_); (case side1 => exact kc_ HR0); (case side2 => exact HC0.out); (case side3 => exact kc_ HR1_0); (case side4 => exact HC1_0.out); (case side5 => exact kc_ HR1_1); (case side6 => exact HC1_1.out); (case side7 => exact kc_ HR1_2); (case side8 => exact HC1_2.out); rintro e w15 ⟨v189, v192, rfl, ho0, ho1, hb⟩; refine ⟨_, rfl, ?_⟩; have n0_ := Aside0.mk (Kd.R_lower ho0 (below_size bls_)); have n1_ := Aside0.mk (Kd.R_lower ho1 (below_size bls_)); have n2_ := Aside0.mk (blk_below (bkt_ BK186) hb); have n3_ := Aside0.mk (blk_below (bkt_ BK187) hb); have n4_ := Aside0.mk (below_step bls_ hb); clear BK186; clear BK187; clear HB; have HO190 := n0_; have HO193 := n1_; have BK186 := n2_; have BK187 := n3_; have HB := n4_; clear n0_ n1_ n2_ n3_ n4_; (try clear hb); (try clear hb2); (try clear hk); (try clear hi); (try clear ho0); (try clear ho1); obtain ⟨hcz16_0, hcz16_1, hcz16_2, hcz16_3⟩ := bc4_ BK187; obtain ⟨hfz16_0, hfz16_1, hfz16_2, hfz16_3⟩ := bf4_ BK187; obtain ⟨hcz17_0, hcz17_1, hcz17_2, hcz17_3, hcz17_4, hcz17_5⟩ := bc6_ BK186; obtain ⟨hfz17_0, hfz17_1, hfz17_2, hfz17_3, hfz17_4⟩ := bf5_ BK186; have hfz17_5 := blk_frozen BK186.out 5) | ((with_reducible refine gate_callee (f := 33) rfl ?_); refine gl_ (some 31) Tryd.func33 #[.agg #[.slice A2_0 l2_0.length c2_0, .int .i64 a2_1, .int .i64 a2_2, .int .i64 a2_3]] ?_; (with_reducible refine (refusal_formed.calls _ _ l2_0 a2_1 a2_2 a2_3 true _ ?side1 ?side2 A7.out).mono ?_); (case side1 => exact kc_ HR2_0); (case side2 => exact HC2_0.out); rintro e w18 ⟨rfl, hb⟩; refine ⟨_, rfl, ?_⟩; have n0_ := Aside0.mk (Kd.R_below (kr_ HO190) hb); have n1_ := Aside0.mk (Kd.R_below (kr_ HO193) hb); have n2_ := Aside0.mk (blk_below (bkt_ BK186) hb); have n3_ := Aside0.mk (blk_below (bkt_ BK187) hb); have n4_ := Aside0.mk (below_step bls_ hb); clear HO190; clear HO193; clear BK186; clear BK187; clear HB; have HO190 := n0_; have HO193 := n1_; have BK186 := n2_; have BK187 := n3_; have HB := n4_; clear n0_ n1_ n2_ n3_ n4_; (try clear hb); (try clear hb2); (try clear hk); (try clear hi); obtain ⟨hcz19_0, hcz19_1, hcz19_2, hcz19_3, hcz19_4, hcz19_5⟩ := bc6_ BK186; obtain ⟨hfz19_0, hfz19_1, hfz19_2, hfz19_3, hfz19_4, hfz19_5⟩ := bf6_ BK186; obtain ⟨hcz20_0, hcz20_1, hcz20_2, hcz20_3⟩ := bc4_ BK187; obtain ⟨hfz20_0, hfz20_1, hfz20_2, hfz20_3⟩ := bf4_ BK187; obtain ⟨Ao21, co21, eo21⟩ := Kd.R_slice HO190.out; subst eo21; obtain ⟨Ao22, co22, eo22⟩ := Kd.R_slice HO193.out; subst eo22) | ((with_reducible refine gate_callee (f := 34) rfl ?_); refine gl_ (some 38) Tryd.func34 #[.agg #[.slice A1_0 l1_0.length c1_0, .slice A1_1 l1_1.length c1_1, .slice A1_2 l1_2.length c1_2, .int .i64 a1_3, .int .i64 a1_4, .int .i64 a1_5], .slice Ao21 t188.length co21, .slice Ao22 t191.length co22, .agg #[.slice A2_0 l2_0.length c2_0, .int .i64 a2_1, .int .i64 a2_2, .int .i64 a2_3]] ?_; (with_reducible refine (refusal_right.calls k _ _ l1_0 _ _ l1_1 _ _ l1_2 a1_3 a1_4 a1_5 _ _ t188 _ _ t191 _ _ l2_0 a2_1 a2_2 a2_3 true _ ?side1 ?side2 ?side3 ?side4 ?side5 ?side6 ?side7 ?side8 ?side9 ?side10 ?side11 ?side12 A9.out).mono ?_); (case side1 => exact kc_ HR1_0); (case side2 => exact HC1_0.out); (case side3 => exact kc_ HR1_1); (case side4 => exact HC1_1.out); (case side5 => exact kc_ HR1_2); (case side6 => exact HC1_2.out); (case side7 => repeat (first | exact (Kd.R_reads' HO190.out).2.2 | (with_reducible refine Kd.C_alloc ?_ _) | (with_reducible refine Kd.C_drewN ?_ _) | (with_reducible refine Kd.C_drew ?_))); (case side8 => exact (Kd.R_reads' HO190.out).2.1); (case side9 => repeat (first | exact (Kd.R_reads' HO193.out).2.2 | (with_reducible refine Kd.C_alloc ?_ _) | (with_reducible refine Kd.C_drewN ?_ _) | (with_reducible refine Kd.C_drew ?_))); (case side10 => exact (Kd.R_reads' HO193.out).2.1); (case side11 => exact kc_ HR2_0); (case side12 => exact HC2_0.out); rintro e w23 ⟨rfl, hb⟩; refine ⟨_, rfl, ?_⟩; have n0_ := Aside0.mk (Kd.R_below (kr_ HO190) hb); have n1_ := Aside0.mk (Kd.R_below (kr_ HO193) hb); have n2_ := Aside0.mk (blk_below (bkt_ BK186) hb); have n3_ := Aside0.mk (blk_below (bkt_ BK187) hb); have n4_ := Aside0.mk (below_step bls_ hb); clear HO190; clear HO193; clear BK186; clear BK187; clear HB; have HO190 := n0_; have HO193 := n1_; have BK186 := n2_; have BK187 := n3_; have HB := n4_; clear n0_ n1_ n2_ n3_ n4_; (try clear hb); (try clear hb2); (try clear hk); (try clear hi)))
     go_ret
     exact ⟨fin_, bls_⟩
    ·replace c10 := Bool.eq_false_iff.mpr c10
     subst c10
     have H1 : (some 14) = some r := by rw [if_neg (show ¬ (false = true) by decide)] at H; exact H
     clear H
     have H := H1
     clear H1
     obtain rfl := Option.some.inj H
     go_enter Tryd.func19, Tryd.ntmps19
     go_wp2_with (first | ((with_reducible refine gate_dst (N := 4) rfl ?_); refine be_ (N := 4) (cs := #[.slice A1_0 l1_0.length c1_0, .slice A1_1 l1_1.length c1_1, .slice A1_2 l1_2.length c1_2, .int .i64 a1_3, .int .i64 a1_4, .int .i64 a1_5]) (t := 26) ?_; intro gb186 hg w24 hbox hb; have n0_ := Aside0.mk (below_step bl_ hb); have n1_ := Aside0.mk (hbox); have n2_ := Aside0.mk ((by rw [hg]; exact (below_size bl_) : w.heap.size ≤ gb186)); have n3_ := Aside0.mk ((by rw [hg]; exact (below_size bl_) : w.heap.size ≤ gb186)); clear HB; have HB := n0_; have BK186 := n1_; have GW186 := n2_; have GE186 := n3_; clear n0_ n1_ n2_ n3_; clear hb hbox hg) | ((with_reducible refine gate_dst (N := 5) rfl ?_); refine be_ (N := 5) (cs := #[.slice A2_0 l2_0.length c2_0, .int .i64 a2_1, .int .i64 a2_2, .int .i64 a2_3]) (t := 30) ?_; intro gb187 hg w25 hbox hb; have n0_ := Aside0.mk (blk_below (bkt_ BK186) hb); have n1_ := Aside0.mk (below_step bls_ hb); have n2_ := Aside0.mk (hbox); have n3_ := Aside0.mk ((by rw [hg]; exact (below_size bls_) : w.heap.size ≤ gb187)); have n4_ := Aside0.mk ((by rw [hg]; exact (below_size bls_) : w.heap.size ≤ gb187)); have n5_ := Aside0.mk ((by rw [hg]; exact Nat.ne_of_lt (blk_lt (bkt_ BK186)) : gb186 ≠ gb187)); have n6_ := Aside0.mk ((by rw [hg]; exact Nat.ne_of_gt (blk_lt (bkt_ BK186)) : gb187 ≠ gb186)); clear BK186; clear HB; have BK186 := n0_; have HB := n1_; have BK187 := n2_; have GW187 := n3_; have GE187 := n4_; have NB186_187 := n5_; have NB187_186 := n6_; clear n0_ n1_ n2_ n3_ n4_ n5_ n6_; clear hb hbox hg; have hnb26 := NB186_187.out; have hnc26 := NB187_186.out; obtain ⟨hcz27_0, hcz27_1, hcz27_2, hcz27_3, hcz27_4, hcz27_5⟩ := bc6_ BK186; obtain ⟨hfz27_0, hfz27_1, hfz27_2, hfz27_3, hfz27_4⟩ := bf5_ BK186; have hfz27_5 := blk_frozen BK186.out 5) | ((with_reducible refine gate_callee (f := 11) rfl ?_); refine gl_ (some 13) Tryd.func11 #[.slice A0 l0.length c0, .agg #[.slice A1_0 l1_0.length c1_0, .slice A1_1 l1_1.length c1_1, .slice A1_2 l1_2.length c1_2, .int .i64 a1_3, .int .i64 a1_4, .int .i64 a1_5]] ?_; (with_reducible refine (refusal_Excess.calls k _ _ l0 _ _ l1_0 _ _ l1_1 _ _ l1_2 a1_3 a1_4 a1_5 t188 t191 t194 _ ?side1 ?side2 ?side3 ?side4 ?side5 ?side6 ?side7 ?side8 A4.out).mono ?_); (case side1 => exact kc_ HR0); (case side2 => exact HC0.out); (case side3 => exact kc_ HR1_0); (case side4 => exact HC1_0.out); (case side5 => exact kc_ HR1_1); (case side6 => exact HC1_1.out); (case side7 => exact kc_ HR1_2); (case side8 => exact HC1_2.out); rintro e w28 ⟨v189, v192, rfl, ho0, ho1, hb⟩; refine ⟨_, rfl, ?_⟩; have n0_ := Aside0.mk (Kd.R_lower ho0 (below_size bls_)); have n1_ := Aside0.mk (Kd.R_lower ho1 (below_size bls_)); have n2_ := Aside0.mk (blk_below (bkt_ BK186) hb); have n3_ := Aside0.mk (blk_below (bkt_ BK187) hb); have n4_ := Aside0.mk (below_step bls_ hb); clear BK186; clear BK187; clear HB; have HO190 := n0_; have HO193 := n1_; have BK186 := n2_; have BK187 := n3_; have HB := n4_; clear n0_ n1_ n2_ n3_ n4_; (try clear hb); (try clear hb2); (try clear hk); (try clear hi); (try clear ho0); (try clear ho1); obtain ⟨hcz29_0, hcz29_1, hcz29_2, hcz29_3⟩ := bc4_ BK187; obtain ⟨hfz29_0, hfz29_1, hfz29_2, hfz29_3⟩ := bf4_ BK187; obtain ⟨hcz30_0, hcz30_1, hcz30_2, hcz30_3, hcz30_4, hcz30_5⟩ := bc6_ BK186; obtain ⟨hfz30_0, hfz30_1, hfz30_2, hfz30_3, hfz30_4⟩ := bf5_ BK186; have hfz30_5 := blk_frozen BK186.out 5) | ((with_reducible refine gate_callee (f := 33) rfl ?_); refine gl_ (some 31) Tryd.func33 #[.agg #[.slice A2_0 l2_0.length c2_0, .int .i64 a2_1, .int .i64 a2_2, .int .i64 a2_3]] ?_; (with_reducible refine (refusal_formed.calls _ _ l2_0 a2_1 a2_2 a2_3 true _ ?side1 ?side2 A7.out).mono ?_); (case side1 => exact kc_ HR2_0); (case side2 => exact HC2_0.out); rintro e w31 ⟨rfl, hb⟩; refine ⟨_, rfl, ?_⟩; have n0_ := Aside0.mk (Kd.R_below (kr_ HO190) hb); have n1_ := Aside0.mk (Kd.R_below (kr_ HO193) hb); have n2_ := Aside0.mk (blk_below (bkt_ BK186) hb); have n3_ := Aside0.mk (blk_below (bkt_ BK187) hb); have n4_ := Aside0.mk (below_step bls_ hb); clear HO190; clear HO193; clear BK186; clear BK187; clear HB; have HO190 := n0_; have HO193 := n1_; have BK186 := n2_; have BK187 := n3_; have HB := n4_; clear n0_ n1_ n2_ n3_ n4_; (try clear hb); (try clear hb2); (try clear hk); (try clear hi); obtain ⟨hcz32_0, hcz32_1, hcz32_2, hcz32_3, hcz32_4, hcz32_5⟩ := bc6_ BK186; obtain ⟨hfz32_0, hfz32_1, hfz32_2, hfz32_3, hfz32_4, hfz32_5⟩ := bf6_ BK186; obtain ⟨hcz33_0, hcz33_1, hcz33_2, hcz33_3⟩ := bc4_ BK187; obtain ⟨hfz33_0, hfz33_1, hfz33_2, hfz33_3⟩ := bf4_ BK187; obtain ⟨Ao34, co34, eo34⟩ := Kd.R_slice HO190.out; subst eo34; obtain ⟨Ao35, co35, eo35⟩ := Kd.R_slice HO193.out; subst eo35) | ((with_reducible refine gate_callee (f := 34) rfl ?_); refine gl_ (some 38) Tryd.func34 #[.agg #[.slice A1_0 l1_0.length c1_0, .slice A1_1 l1_1.length c1_1, .slice A1_2 l1_2.length c1_2, .int .i64 a1_3, .int .i64 a1_4, .int .i64 a1_5], .slice Ao34 t188.length co34, .slice Ao35 t191.length co35, .agg #[.slice A2_0 l2_0.length c2_0, .int .i64 a2_1, .int .i64 a2_2, .int .i64 a2_3]] ?_; (with_reducible refine (refusal_right.calls k _ _ l1_0 _ _ l1_1 _ _ l1_2 a1_3 a1_4 a1_5 _ _ t188 _ _ t191 _ _ l2_0 a2_1 a2_2 a2_3 false _ ?side1 ?side2 ?side3 ?side4 ?side5 ?side6 ?side7 ?side8 ?side9 ?side10 ?side11 ?side12 A9.out).mono ?_); (case side1 => exact kc_ HR1_0); (case side2 => exact HC1_0.out); (case side3 => exact kc_ HR1_1); (case side4 => exact HC1_1.out); (case side5 => exact kc_ HR1_2); (case side6 => exact HC1_2.out); (case side7 => repeat (first | exact (Kd.R_reads' HO190.out).2.2 | (with_reducible refine Kd.C_alloc ?_ _) | (with_reducible refine Kd.C_drewN ?_ _) | (with_reducible refine Kd.C_drew ?_))); (case side8 => exact (Kd.R_reads' HO190.out).2.1); (case side9 => repeat (first | exact (Kd.R_reads' HO193.out).2.2 | (with_reducible refine Kd.C_alloc ?_ _) | (with_reducible refine Kd.C_drewN ?_ _) | (with_reducible refine Kd.C_drew ?_))); (case side10 => exact (Kd.R_reads' HO193.out).2.1); (case side11 => exact kc_ HR2_0); (case side12 => exact HC2_0.out); rintro e w36 ⟨rfl, hb⟩; refine ⟨_, rfl, ?_⟩; have n0_ := Aside0.mk (Kd.R_below (kr_ HO190) hb); have n1_ := Aside0.mk (Kd.R_below (kr_ HO193) hb); have n2_ := Aside0.mk (blk_below (bkt_ BK186) hb); have n3_ := Aside0.mk (blk_below (bkt_ BK187) hb); have n4_ := Aside0.mk (below_step bls_ hb); clear HO190; clear HO193; clear BK186; clear BK187; clear HB; have HO190 := n0_; have HO193 := n1_; have BK186 := n2_; have BK187 := n3_; have HB := n4_; clear n0_ n1_ n2_ n3_ n4_; (try clear hb); (try clear hb2); (try clear hk); (try clear hi)))
     go_ret
     exact ⟨fin_, bls_⟩
   ·replace c8 := Bool.eq_false_iff.mpr c8
    subst c8
    have H1 : (some 2) = some r := by rw [if_neg (show ¬ (false = true) by decide)] at H; exact H
    clear H
    have H := H1
    clear H1
    obtain rfl := Option.some.inj H
    go_enter Tryd.func19, Tryd.ntmps19
    go_wp2_with (first | ((with_reducible refine gate_dst (N := 4) rfl ?_); refine be_ (N := 4) (cs := #[.slice A1_0 l1_0.length c1_0, .slice A1_1 l1_1.length c1_1, .slice A1_2 l1_2.length c1_2, .int .i64 a1_3, .int .i64 a1_4, .int .i64 a1_5]) (t := 26) ?_; intro gb186 hg w37 hbox hb; have n0_ := Aside0.mk (below_step bl_ hb); have n1_ := Aside0.mk (hbox); have n2_ := Aside0.mk ((by rw [hg]; exact (below_size bl_) : w.heap.size ≤ gb186)); have n3_ := Aside0.mk ((by rw [hg]; exact (below_size bl_) : w.heap.size ≤ gb186)); clear HB; have HB := n0_; have BK186 := n1_; have GW186 := n2_; have GE186 := n3_; clear n0_ n1_ n2_ n3_; clear hb hbox hg) | ((with_reducible refine gate_dst (N := 5) rfl ?_); refine be_ (N := 5) (cs := #[.slice A2_0 l2_0.length c2_0, .int .i64 a2_1, .int .i64 a2_2, .int .i64 a2_3]) (t := 30) ?_; intro gb187 hg w38 hbox hb; have n0_ := Aside0.mk (blk_below (bkt_ BK186) hb); have n1_ := Aside0.mk (below_step bls_ hb); have n2_ := Aside0.mk (hbox); have n3_ := Aside0.mk ((by rw [hg]; exact (below_size bls_) : w.heap.size ≤ gb187)); have n4_ := Aside0.mk ((by rw [hg]; exact (below_size bls_) : w.heap.size ≤ gb187)); have n5_ := Aside0.mk ((by rw [hg]; exact Nat.ne_of_lt (blk_lt (bkt_ BK186)) : gb186 ≠ gb187)); have n6_ := Aside0.mk ((by rw [hg]; exact Nat.ne_of_gt (blk_lt (bkt_ BK186)) : gb187 ≠ gb186)); clear BK186; clear HB; have BK186 := n0_; have HB := n1_; have BK187 := n2_; have GW187 := n3_; have GE187 := n4_; have NB186_187 := n5_; have NB187_186 := n6_; clear n0_ n1_ n2_ n3_ n4_ n5_ n6_; clear hb hbox hg; have hnb39 := NB186_187.out; have hnc39 := NB187_186.out; obtain ⟨hcz40_0, hcz40_1, hcz40_2, hcz40_3, hcz40_4, hcz40_5⟩ := bc6_ BK186; obtain ⟨hfz40_0, hfz40_1, hfz40_2, hfz40_3, hfz40_4⟩ := bf5_ BK186; have hfz40_5 := blk_frozen BK186.out 5) | ((with_reducible refine gate_callee (f := 11) rfl ?_); refine gl_ (some 13) Tryd.func11 #[.slice A0 l0.length c0, .agg #[.slice A1_0 l1_0.length c1_0, .slice A1_1 l1_1.length c1_1, .slice A1_2 l1_2.length c1_2, .int .i64 a1_3, .int .i64 a1_4, .int .i64 a1_5]] ?_; (with_reducible refine (refusal_Excess.calls k _ _ l0 _ _ l1_0 _ _ l1_1 _ _ l1_2 a1_3 a1_4 a1_5 t188 t191 t194 _ ?side1 ?side2 ?side3 ?side4 ?side5 ?side6 ?side7 ?side8 A4.out).mono ?_); (case side1 => exact kc_ HR0); (case side2 => exact HC0.out); (case side3 => exact kc_ HR1_0); (case side4 => exact HC1_0.out); (case side5 => exact kc_ HR1_1); (case side6 => exact HC1_1.out); (case side7 => exact kc_ HR1_2); (case side8 => exact HC1_2.out); rintro e w41 ⟨v189, v192, rfl, ho0, ho1, hb⟩; refine ⟨_, rfl, ?_⟩; have n0_ := Aside0.mk (Kd.R_lower ho0 (below_size bls_)); have n1_ := Aside0.mk (Kd.R_lower ho1 (below_size bls_)); have n2_ := Aside0.mk (blk_below (bkt_ BK186) hb); have n3_ := Aside0.mk (blk_below (bkt_ BK187) hb); have n4_ := Aside0.mk (below_step bls_ hb); clear BK186; clear BK187; clear HB; have HO190 := n0_; have HO193 := n1_; have BK186 := n2_; have BK187 := n3_; have HB := n4_; clear n0_ n1_ n2_ n3_ n4_; (try clear hb); (try clear hb2); (try clear hk); (try clear hi); (try clear ho0); (try clear ho1); obtain ⟨hcz42_0, hcz42_1, hcz42_2, hcz42_3⟩ := bc4_ BK187; obtain ⟨hfz42_0, hfz42_1, hfz42_2, hfz42_3⟩ := bf4_ BK187; obtain ⟨hcz43_0, hcz43_1, hcz43_2, hcz43_3, hcz43_4, hcz43_5⟩ := bc6_ BK186; obtain ⟨hfz43_0, hfz43_1, hfz43_2, hfz43_3, hfz43_4⟩ := bf5_ BK186; have hfz43_5 := blk_frozen BK186.out 5) | ((with_reducible refine gate_callee (f := 33) rfl ?_); refine gl_ (some 31) Tryd.func33 #[.agg #[.slice A2_0 l2_0.length c2_0, .int .i64 a2_1, .int .i64 a2_2, .int .i64 a2_3]] ?_; (with_reducible refine (refusal_formed.calls _ _ l2_0 a2_1 a2_2 a2_3 false _ ?side1 ?side2 A7.out).mono ?_); (case side1 => exact kc_ HR2_0); (case side2 => exact HC2_0.out); rintro e w44 ⟨rfl, hb⟩; refine ⟨_, rfl, ?_⟩; have n0_ := Aside0.mk (Kd.R_below (kr_ HO190) hb); have n1_ := Aside0.mk (Kd.R_below (kr_ HO193) hb); have n2_ := Aside0.mk (blk_below (bkt_ BK186) hb); have n3_ := Aside0.mk (blk_below (bkt_ BK187) hb); have n4_ := Aside0.mk (below_step bls_ hb); clear HO190; clear HO193; clear BK186; clear BK187; clear HB; have HO190 := n0_; have HO193 := n1_; have BK186 := n2_; have BK187 := n3_; have HB := n4_; clear n0_ n1_ n2_ n3_ n4_; (try clear hb); (try clear hb2); (try clear hk); (try clear hi)))
    go_ret
    exact ⟨fin_, bls_⟩
  ·rw [if_neg c6] at H
   have c6b0 : ((l2_0.length : Int) == (l1_0.length : Int)) = false := beq_eq_false_iff_ne.mpr c6
   have c6b1 : ((l2_0.length : Int) != (l1_0.length : Int)) = true := bne_iff_ne.mpr c6
   have c6b2 : (l2_0.length == l1_0.length) = false := by first | simpa using c6 | (simp at c6 ⊢; omega)
   obtain rfl := Option.some.inj H
   go_enter Tryd.func19, Tryd.ntmps19
   go_wp2_with (first | ((with_reducible refine gate_dst (N := 4) rfl ?_); refine be_ (N := 4) (cs := #[.slice A1_0 l1_0.length c1_0, .slice A1_1 l1_1.length c1_1, .slice A1_2 l1_2.length c1_2, .int .i64 a1_3, .int .i64 a1_4, .int .i64 a1_5]) (t := 26) ?_; intro gb186 hg w45 hbox hb; have n0_ := Aside0.mk (below_step bl_ hb); have n1_ := Aside0.mk (hbox); have n2_ := Aside0.mk ((by rw [hg]; exact (below_size bl_) : w.heap.size ≤ gb186)); have n3_ := Aside0.mk ((by rw [hg]; exact (below_size bl_) : w.heap.size ≤ gb186)); clear HB; have HB := n0_; have BK186 := n1_; have GW186 := n2_; have GE186 := n3_; clear n0_ n1_ n2_ n3_; clear hb hbox hg) | ((with_reducible refine gate_dst (N := 5) rfl ?_); refine be_ (N := 5) (cs := #[.slice A2_0 l2_0.length c2_0, .int .i64 a2_1, .int .i64 a2_2, .int .i64 a2_3]) (t := 30) ?_; intro gb187 hg w46 hbox hb; have n0_ := Aside0.mk (blk_below (bkt_ BK186) hb); have n1_ := Aside0.mk (below_step bls_ hb); have n2_ := Aside0.mk (hbox); have n3_ := Aside0.mk ((by rw [hg]; exact (below_size bls_) : w.heap.size ≤ gb187)); have n4_ := Aside0.mk ((by rw [hg]; exact (below_size bls_) : w.heap.size ≤ gb187)); have n5_ := Aside0.mk ((by rw [hg]; exact Nat.ne_of_lt (blk_lt (bkt_ BK186)) : gb186 ≠ gb187)); have n6_ := Aside0.mk ((by rw [hg]; exact Nat.ne_of_gt (blk_lt (bkt_ BK186)) : gb187 ≠ gb186)); clear BK186; clear HB; have BK186 := n0_; have HB := n1_; have BK187 := n2_; have GW187 := n3_; have GE187 := n4_; have NB186_187 := n5_; have NB187_186 := n6_; clear n0_ n1_ n2_ n3_ n4_ n5_ n6_; clear hb hbox hg; have hnb47 := NB186_187.out; have hnc47 := NB187_186.out; obtain ⟨hcz48_0, hcz48_1, hcz48_2, hcz48_3, hcz48_4, hcz48_5⟩ := bc6_ BK186; obtain ⟨hfz48_0, hfz48_1, hfz48_2, hfz48_3, hfz48_4⟩ := bf5_ BK186; have hfz48_5 := blk_frozen BK186.out 5) | ((with_reducible refine gate_callee (f := 11) rfl ?_); refine gl_ (some 13) Tryd.func11 #[.slice A0 l0.length c0, .agg #[.slice A1_0 l1_0.length c1_0, .slice A1_1 l1_1.length c1_1, .slice A1_2 l1_2.length c1_2, .int .i64 a1_3, .int .i64 a1_4, .int .i64 a1_5]] ?_; (with_reducible refine (refusal_Excess.calls k _ _ l0 _ _ l1_0 _ _ l1_1 _ _ l1_2 a1_3 a1_4 a1_5 t188 t191 t194 _ ?side1 ?side2 ?side3 ?side4 ?side5 ?side6 ?side7 ?side8 A4.out).mono ?_); (case side1 => exact kc_ HR0); (case side2 => exact HC0.out); (case side3 => exact kc_ HR1_0); (case side4 => exact HC1_0.out); (case side5 => exact kc_ HR1_1); (case side6 => exact HC1_1.out); (case side7 => exact kc_ HR1_2); (case side8 => exact HC1_2.out); rintro e w49 ⟨v189, v192, rfl, ho0, ho1, hb⟩; refine ⟨_, rfl, ?_⟩; have n0_ := Aside0.mk (Kd.R_lower ho0 (below_size bls_)); have n1_ := Aside0.mk (Kd.R_lower ho1 (below_size bls_)); have n2_ := Aside0.mk (blk_below (bkt_ BK186) hb); have n3_ := Aside0.mk (blk_below (bkt_ BK187) hb); have n4_ := Aside0.mk (below_step bls_ hb); clear BK186; clear BK187; clear HB; have HO190 := n0_; have HO193 := n1_; have BK186 := n2_; have BK187 := n3_; have HB := n4_; clear n0_ n1_ n2_ n3_ n4_; (try clear hb); (try clear hb2); (try clear hk); (try clear hi); (try clear ho0); (try clear ho1); obtain ⟨hcz50_0, hcz50_1, hcz50_2, hcz50_3⟩ := bc4_ BK187; obtain ⟨hfz50_0, hfz50_1, hfz50_2, hfz50_3⟩ := bf4_ BK187; obtain ⟨hcz51_0, hcz51_1, hcz51_2, hcz51_3, hcz51_4, hcz51_5⟩ := bc6_ BK186; obtain ⟨hfz51_0, hfz51_1, hfz51_2, hfz51_3, hfz51_4⟩ := bf5_ BK186; have hfz51_5 := blk_frozen BK186.out 5))
   go_ret
   exact ⟨fin_, bls_⟩
 ·rw [if_neg c5] at H
  have c5b0 : (t194 == 0) = false := beq_eq_false_iff_ne.mpr c5
  have c5b1 : (t194 != 0) = true := bne_iff_ne.mpr c5
  obtain rfl := Option.some.inj H
  go_enter Tryd.func19, Tryd.ntmps19
  go_wp2_with (first | ((with_reducible refine gate_dst (N := 4) rfl ?_); refine be_ (N := 4) (cs := #[.slice A1_0 l1_0.length c1_0, .slice A1_1 l1_1.length c1_1, .slice A1_2 l1_2.length c1_2, .int .i64 a1_3, .int .i64 a1_4, .int .i64 a1_5]) (t := 26) ?_; intro gb186 hg w52 hbox hb; have n0_ := Aside0.mk (below_step bl_ hb); have n1_ := Aside0.mk (hbox); have n2_ := Aside0.mk ((by rw [hg]; exact (below_size bl_) : w.heap.size ≤ gb186)); have n3_ := Aside0.mk ((by rw [hg]; exact (below_size bl_) : w.heap.size ≤ gb186)); clear HB; have HB := n0_; have BK186 := n1_; have GW186 := n2_; have GE186 := n3_; clear n0_ n1_ n2_ n3_; clear hb hbox hg) | ((with_reducible refine gate_dst (N := 5) rfl ?_); refine be_ (N := 5) (cs := #[.slice A2_0 l2_0.length c2_0, .int .i64 a2_1, .int .i64 a2_2, .int .i64 a2_3]) (t := 30) ?_; intro gb187 hg w53 hbox hb; have n0_ := Aside0.mk (blk_below (bkt_ BK186) hb); have n1_ := Aside0.mk (below_step bls_ hb); have n2_ := Aside0.mk (hbox); have n3_ := Aside0.mk ((by rw [hg]; exact (below_size bls_) : w.heap.size ≤ gb187)); have n4_ := Aside0.mk ((by rw [hg]; exact (below_size bls_) : w.heap.size ≤ gb187)); have n5_ := Aside0.mk ((by rw [hg]; exact Nat.ne_of_lt (blk_lt (bkt_ BK186)) : gb186 ≠ gb187)); have n6_ := Aside0.mk ((by rw [hg]; exact Nat.ne_of_gt (blk_lt (bkt_ BK186)) : gb187 ≠ gb186)); clear BK186; clear HB; have BK186 := n0_; have HB := n1_; have BK187 := n2_; have GW187 := n3_; have GE187 := n4_; have NB186_187 := n5_; have NB187_186 := n6_; clear n0_ n1_ n2_ n3_ n4_ n5_ n6_; clear hb hbox hg; have hnb54 := NB186_187.out; have hnc54 := NB187_186.out; obtain ⟨hcz55_0, hcz55_1, hcz55_2, hcz55_3, hcz55_4, hcz55_5⟩ := bc6_ BK186; obtain ⟨hfz55_0, hfz55_1, hfz55_2, hfz55_3, hfz55_4⟩ := bf5_ BK186; have hfz55_5 := blk_frozen BK186.out 5) | ((with_reducible refine gate_callee (f := 11) rfl ?_); refine gl_ (some 13) Tryd.func11 #[.slice A0 l0.length c0, .agg #[.slice A1_0 l1_0.length c1_0, .slice A1_1 l1_1.length c1_1, .slice A1_2 l1_2.length c1_2, .int .i64 a1_3, .int .i64 a1_4, .int .i64 a1_5]] ?_; (with_reducible refine (refusal_Excess.calls k _ _ l0 _ _ l1_0 _ _ l1_1 _ _ l1_2 a1_3 a1_4 a1_5 t188 t191 t194 _ ?side1 ?side2 ?side3 ?side4 ?side5 ?side6 ?side7 ?side8 A4.out).mono ?_); (case side1 => exact kc_ HR0); (case side2 => exact HC0.out); (case side3 => exact kc_ HR1_0); (case side4 => exact HC1_0.out); (case side5 => exact kc_ HR1_1); (case side6 => exact HC1_1.out); (case side7 => exact kc_ HR1_2); (case side8 => exact HC1_2.out); rintro e w56 ⟨v189, v192, rfl, ho0, ho1, hb⟩; refine ⟨_, rfl, ?_⟩; have n0_ := Aside0.mk (Kd.R_lower ho0 (below_size bls_)); have n1_ := Aside0.mk (Kd.R_lower ho1 (below_size bls_)); have n2_ := Aside0.mk (blk_below (bkt_ BK186) hb); have n3_ := Aside0.mk (blk_below (bkt_ BK187) hb); have n4_ := Aside0.mk (below_step bls_ hb); clear BK186; clear BK187; clear HB; have HO190 := n0_; have HO193 := n1_; have BK186 := n2_; have BK187 := n3_; have HB := n4_; clear n0_ n1_ n2_ n3_ n4_; (try clear hb); (try clear hb2); (try clear hk); (try clear hi); (try clear ho0); (try clear ho1)))
  go_ret
  exact ⟨fin_, bls_⟩
def spilelaw30_example.f  : Option ((List (S82)) × (List (S45)) × List Int × List Int × Int × Int × Int) := some ((([(⟨0, 100000⟩ : S82), (⟨10000, 80000⟩ : S82)] : List (S82))), (([(⟨40000, 920000⟩ : S45), (⟨0, 1000000⟩ : S45)] : List (S45))), (([3, 2] : List Int)), (([1, 1] : List Int)), 3000, 4000, 5)
set_option maxHeartbeats 8000000 in
set_option maxRecDepth 100000 in
theorem spilelaw30_example.calls  (r1 : List (S82)) (r2 : List (S45)) (r3 : List Int) (r4 : List Int) (r5 : Int) (r6 : Int) (r7 : Int) (w : World) (h : spilelaw30_example.f  = some (r1, r2, r3, r4, r5, r6, r7)) :
  Calls Tryd.prog 26 #[] w fun e w' => ∃ v0_ v1_ v2_ v3_ : Value, e = .returned (.tuple #[v0_, .agg #[v1_, v2_, v3_, .int .i64 r5, .int .i64 r6, .int .i64 r7]]) ∧ Kd.R k82 82 w' w.heap.size (fun _ => True) v0_ r1 ∧ Kd.R k45 45 w' w.heap.size (fun _ => True) v1_ r2 ∧ Kd.R (Kd.int .i64) 3 w' w.heap.size (fun k_ => some k_ ≠ (v3_ : Value).ownBlock) v2_ r3 ∧ Kd.R (Kd.int .i64) 3 w' w.heap.size (fun k_ => some k_ ≠ (v2_ : Value).ownBlock) v3_ r4 ∧ Below w.heap.size w w' := by
 have hu26 := Tryd.underlying26
 have hu82 := Tryd.underlying82
 have hu45 := Tryd.underlying45
 have HB := Aside0.mk (Below.refl w.heap.size w)
 have H : (some ((([(⟨0, 100000⟩ : S82), (⟨10000, 80000⟩ : S82)] : List (S82))), (([(⟨40000, 920000⟩ : S45), (⟨0, 1000000⟩ : S45)] : List (S45))), (([3, 2] : List Int)), (([1, 1] : List Int)), 3000, 4000, 5)) = some (r1, r2, r3, r4, r5, r6, r7) := h
 clear h
 obtain ⟨y198, hy198⟩ : ∃ y_ : List (S82), y_ = (([(⟨0, 100000⟩ : S82), (⟨10000, 80000⟩ : S82)] : List (S82))) := ⟨_, rfl⟩
 replace H : (some (y198, (([(⟨40000, 920000⟩ : S45), (⟨0, 1000000⟩ : S45)] : List (S45))), (([3, 2] : List Int)), (([1, 1] : List Int)), 3000, 4000, 5)) = some (r1, r2, r3, r4, r5, r6, r7) := by first | (rw [hy198]; with_reducible exact H) | (have H2_ := (Option.bind_some _ _).symm.trans H; rw [hy198]; with_reducible exact H2_) | (have H2_ := (Option.bind_some _ _).symm.trans H; with_reducible exact H2_) | with_reducible exact H | (rw [hy198]; exact H) | exact H
 have Ny198 := Aside0.mk hy198
 clear hy198
 obtain ⟨y201, hy201⟩ : ∃ y_ : List (S45), y_ = (([(⟨40000, 920000⟩ : S45), (⟨0, 1000000⟩ : S45)] : List (S45))) := ⟨_, rfl⟩
 replace H : (some (y198, y201, (([3, 2] : List Int)), (([1, 1] : List Int)), 3000, 4000, 5)) = some (r1, r2, r3, r4, r5, r6, r7) := by first | (rw [hy201]; with_reducible exact H) | (have H2_ := (Option.bind_some _ _).symm.trans H; rw [hy201]; with_reducible exact H2_) | (have H2_ := (Option.bind_some _ _).symm.trans H; with_reducible exact H2_) | with_reducible exact H | (rw [hy201]; exact H) | exact H
 have Ny201 := Aside0.mk hy201
 clear hy201
 obtain ⟨y204, hy204⟩ : ∃ y_ : List Int, y_ = (([3, 2] : List Int)) := ⟨_, rfl⟩
 replace H : (some (y198, y201, y204, (([1, 1] : List Int)), 3000, 4000, 5)) = some (r1, r2, r3, r4, r5, r6, r7) := by first | (rw [hy204]; with_reducible exact H) | (have H2_ := (Option.bind_some _ _).symm.trans H; rw [hy204]; with_reducible exact H2_) | (have H2_ := (Option.bind_some _ _).symm.trans H; with_reducible exact H2_) | with_reducible exact H | (rw [hy204]; exact H) | exact H
 have Ny204 := Aside0.mk hy204
 clear hy204
 obtain ⟨y207, hy207⟩ : ∃ y_ : List Int, y_ = (([1, 1] : List Int)) := ⟨_, rfl⟩
 replace H : (some (y198, y201, y204, y207, 3000, 4000, 5)) = some (r1, r2, r3, r4, r5, r6, r7) := by first | (rw [hy207]; with_reducible exact H) | (have H2_ := (Option.bind_some _ _).symm.trans H; rw [hy207]; with_reducible exact H2_) | (have H2_ := (Option.bind_some _ _).symm.trans H; with_reducible exact H2_) | with_reducible exact H | (rw [hy207]; exact H) | exact H
 have Ny207 := Aside0.mk hy207
 clear hy207
 simp only [Option.some.injEq, Prod.mk.injEq] at H
 obtain ⟨rfl, rfl, rfl, rfl, rfl, rfl, rfl⟩ := H
 go_enter Tryd.func26, Tryd.ntmps26
 go_wp2_with (first | ((with_reducible refine gate_dst (N := 1) rfl ?_); refine be_ (N := 1) (cs := #[.slice none 0 0, .slice none 0 0, .slice none 0 0, .int .i64 0, .int .i64 0, .int .i64 0]) (t := 26) ?_; intro gb197 hg w1 hbox hb; have n0_ := Aside0.mk (below_step bl_ hb); have n1_ := Aside0.mk (hbox); have n2_ := Aside0.mk ((by rw [hg]; exact (below_size bl_) : w.heap.size ≤ gb197)); have n3_ := Aside0.mk ((by rw [hg]; exact (below_size bl_) : w.heap.size ≤ gb197)); clear HB; have HB := n0_; have BK197 := n1_; have GW197 := n2_; have GE197 := n3_; clear n0_ n1_ n2_ n3_; clear hb hbox hg) | ((with_reducible refine gate_dst (N := 4) rfl ?_); refine Kd.R_lit k82 _ 82 ?hg (N := 4) ?hd (xs := ([(⟨0, 100000⟩ : S82), (⟨10000, 80000⟩ : S82)] : List (S82))) (inner := [.int .i64 0, .int .i64 100000, .int .i64 10000, .int .i64 80000]) (ok := fun _ => True) (okp := fun _ => True) ?hr ?hp (fun _ hk => hk) trivial (Below.refl _ _) (Nat.le_refl _) (by simp) ?_; (case hd => rfl); (case hg => rfl); (case hr => first | (go_simp; done) | (go_simp; rfl)); (case hp => exact (Reps.c2 (show Kd.M k82 _ _ _ (⟨0, 100000⟩ : S82) [.int .i64 0, .int .i64 100000] from (k82_mkM _ _ _ (⟨0, 100000⟩ : S82) )) (Reps.c2 (show Kd.M k82 _ _ _ (⟨10000, 80000⟩ : S82) [.int .i64 10000, .int .i64 80000] from (k82_mkM _ _ _ (⟨10000, 80000⟩ : S82) )) (Reps.none _ _)))); intro v199 w2 ho3 hb hg_ hnew_; clear hg_ hnew_; (first | rw [← Ny198.out] at ho3 | (simp only [Int.reduceToNat] at ho3; rw [← Ny198.out] at ho3)); have n0_ := Aside0.mk (Kd.R_lower ho3 (below_size bls_)); have n1_ := Aside0.mk (blk_below (bkt_ BK197) hb); have n2_ := Aside0.mk (below_step bls_ hb); clear BK197; clear HB; have HO200 := n0_; have BK197 := n1_; have HB := n2_; clear n0_ n1_ n2_; clear hb ho3) | ((with_reducible refine gate_dst (N := 7) rfl ?_); refine Kd.R_lit k45 _ 45 ?hg (N := 7) ?hd (xs := ([(⟨40000, 920000⟩ : S45), (⟨0, 1000000⟩ : S45)] : List (S45))) (inner := [.int .i64 40000, .int .i64 920000, .int .i64 0, .int .i64 1000000]) (ok := fun _ => True) (okp := fun _ => True) ?hr ?hp (fun _ hk => hk) trivial (Below.refl _ _) (Nat.le_refl _) (by simp) ?_; (case hd => rfl); (case hg => rfl); (case hr => first | (go_simp; done) | (go_simp; rfl)); (case hp => exact (Reps.c2 (show Kd.M k45 _ _ _ (⟨40000, 920000⟩ : S45) [.int .i64 40000, .int .i64 920000] from (k45_mkM _ _ _ (⟨40000, 920000⟩ : S45) )) (Reps.c2 (show Kd.M k45 _ _ _ (⟨0, 1000000⟩ : S45) [.int .i64 0, .int .i64 1000000] from (k45_mkM _ _ _ (⟨0, 1000000⟩ : S45) )) (Reps.none _ _)))); intro v202 w4 ho5 hb hg_ hnew_; clear hg_ hnew_; (first | rw [← Ny201.out] at ho5 | (simp only [Int.reduceToNat] at ho5; rw [← Ny201.out] at ho5)); have n0_ := Aside0.mk (Kd.R_below (kr_ HO200) hb); have n1_ := Aside0.mk (Kd.R_lower ho5 (below_size bls_)); have n2_ := Aside0.mk (blk_below (bkt_ BK197) hb); have n3_ := Aside0.mk (below_step bls_ hb); clear HO200; clear BK197; clear HB; have HO200 := n0_; have HO203 := n1_; have BK197 := n2_; have HB := n3_; clear n0_ n1_ n2_ n3_; clear hb ho5) | ((with_reducible refine gate_dst (N := 8) rfl ?_); refine Kd.R_lit (Kd.int .i64) _ 3 ?hg (N := 8) ?hd (xs := ([3, 2] : List Int)) (inner := [.int .i64 3, .int .i64 2]) (ok := fun _ => True) (okp := fun _ => True) ?hr ?hp (fun _ hk => hk) trivial (Below.refl _ _) (Nat.le_refl _) (by simp) ?_; (case hd => rfl); (case hg => rfl); (case hr => first | (go_simp; done) | (go_simp; rfl)); (case hp => exact (Reps.one (show Kd.M (Kd.int .i64) _ _ _ 3 [.int .i64 3] from rfl) (Reps.one (show Kd.M (Kd.int .i64) _ _ _ 2 [.int .i64 2] from rfl) (Reps.none _ _)))); intro v205 w6 ho7 hb hg_ hnew_; clear hg_ hnew_; (first | rw [← Ny204.out] at ho7 | (simp only [Int.reduceToNat] at ho7; rw [← Ny204.out] at ho7)); have n0_ := Aside0.mk (Kd.R_below (kr_ HO200) hb); have n1_ := Aside0.mk (Kd.R_below (kr_ HO203) hb); have n2_ := Aside0.mk (Kd.R_lower ho7 (below_size bls_)); have n3_ := Aside0.mk (blk_below (bkt_ BK197) hb); have n4_ := Aside0.mk (below_step bls_ hb); clear HO200; clear HO203; clear BK197; clear HB; have HO200 := n0_; have HO203 := n1_; have HO206 := n2_; have BK197 := n3_; have HB := n4_; clear n0_ n1_ n2_ n3_ n4_; clear hb ho7) | ((with_reducible refine gate_dst (N := 9) rfl ?_); refine Kd.R_lit (Kd.int .i64) _ 3 ?hg (N := 9) ?hd (xs := ([1, 1] : List Int)) (inner := [.int .i64 1, .int .i64 1]) (ok := fun _ => True) (okp := fun _ => True) ?hr ?hp (fun _ hk => hk) trivial (Below.refl _ _) (Nat.le_refl _) (by simp) ?_; (case hd => rfl); (case hg => rfl); (case hr => first | (go_simp; done) | (go_simp; rfl)); (case hp => exact (Reps.one (show Kd.M (Kd.int .i64) _ _ _ 1 [.int .i64 1] from rfl) (Reps.one (show Kd.M (Kd.int .i64) _ _ _ 1 [.int .i64 1] from rfl) (Reps.none _ _)))); intro v208 w8 ho9 hb hg_ hnew_; clear hg_ hnew_; (first | rw [← Ny207.out] at ho9 | (simp only [Int.reduceToNat] at ho9; rw [← Ny207.out] at ho9)); have n0_ := Aside0.mk (Kd.R_below (kr_ HO200) hb); have n1_ := Aside0.mk (Kd.R_below (kr_ HO203) hb); have n2_ := Aside0.mk (Kd.R_elder' (kr_ HO206) (Kd.R_base ho9) hb); have n3_ := Aside0.mk (Kd.R_lower (Kd.R_new' ho9 (Kd.R_lt (kr_ HO206))) (below_size bls_)); have n4_ := Aside0.mk (blk_below (bkt_ BK197) hb); have n5_ := Aside0.mk (below_step bls_ hb); clear HO200; clear HO203; clear HO206; clear BK197; clear HB; have HO200 := n0_; have HO203 := n1_; have HO206 := n2_; have HO209 := n3_; have BK197 := n4_; have HB := n5_; clear n0_ n1_ n2_ n3_ n4_ n5_; clear hb ho9; obtain ⟨Ao10, co10, eo10⟩ := Kd.R_slice HO209.out; subst eo10; obtain ⟨Ao11, co11, eo11⟩ := Kd.R_slice HO206.out; subst eo11; obtain ⟨Ao12, co12, eo12⟩ := Kd.R_slice HO203.out; subst eo12; obtain ⟨hcz13_0, hcz13_1, hcz13_2, hcz13_3, hcz13_4, hcz13_5⟩ := bc6_ BK197; obtain ⟨hfz13_0, hfz13_1, hfz13_2, hfz13_3, hfz13_4⟩ := bf5_ BK197; have hfz13_5 := blk_frozen BK197.out 5))
 refine bodyPost_ret (results_tc rfl _ _ gb197 26 #[.slice Ao12 y201.length co12, .slice Ao11 y204.length co11, .slice Ao10 y207.length co10, .int .i64 3000, .int .i64 4000, .int .i64 5] (0, 0) _ rfl (by (with_reducible repeat (first | refine blk_drewN ?_ _ | refine blk_drew ?_ | refine blk_alloc ?_ _)); refine blk_put (cs := #[.slice Ao12 y201.length co12, .slice Ao11 y204.length co11, .slice Ao10 y207.length co10, .int .i64 3000, .int .i64 4000, .int .i64 0]) ?_ 5 _ rfl; (with_reducible repeat (first | refine blk_drewN ?_ _ | refine blk_drew ?_ | refine blk_alloc ?_ _)); refine blk_put (cs := #[.slice Ao12 y201.length co12, .slice Ao11 y204.length co11, .slice Ao10 y207.length co10, .int .i64 3000, .int .i64 0, .int .i64 0]) ?_ 4 _ rfl; (with_reducible repeat (first | refine blk_drewN ?_ _ | refine blk_drew ?_ | refine blk_alloc ?_ _)); refine blk_put (cs := #[.slice Ao12 y201.length co12, .slice Ao11 y204.length co11, .slice Ao10 y207.length co10, .int .i64 0, .int .i64 0, .int .i64 0]) ?_ 3 _ rfl; (with_reducible repeat (first | refine blk_drewN ?_ _ | refine blk_drew ?_ | refine blk_alloc ?_ _)); refine blk_put (cs := #[.slice Ao12 y201.length co12, .slice Ao11 y204.length co11, .slice none 0 0, .int .i64 0, .int .i64 0, .int .i64 0]) ?_ 2 _ rfl; (with_reducible repeat (first | refine blk_drewN ?_ _ | refine blk_drew ?_ | refine blk_alloc ?_ _)); refine blk_put (cs := #[.slice Ao12 y201.length co12, .slice none 0 0, .slice none 0 0, .int .i64 0, .int .i64 0, .int .i64 0]) ?_ 1 _ rfl; (with_reducible repeat (first | refine blk_drewN ?_ _ | refine blk_drew ?_ | refine blk_alloc ?_ _)); refine blk_put (cs := #[.slice none 0 0, .slice none 0 0, .slice none 0 0, .int .i64 0, .int .i64 0, .int .i64 0]) ?_ 0 _ rfl; (with_reducible repeat (first | refine blk_drewN ?_ _ | refine blk_drew ?_ | refine blk_alloc ?_ _)); exact BK197.out) Tryd.underlying26 rfl (by kernel_rfl)) rfl ?_
 exact ⟨_, _, _, _, fin_, by (with_reducible repeat (first | apply Kd.R_alloc | apply Kd.R_drewN | apply Kd.R_drew)); exact Kd.R_mono (Kd.R_far (p := ⟨gb197, 5, none⟩) (Kd.R_far (p := ⟨gb197, 4, none⟩) (Kd.R_far (p := ⟨gb197, 3, none⟩) (Kd.R_far (p := ⟨gb197, 2, none⟩) (Kd.R_far (p := ⟨gb197, 1, none⟩) (Kd.R_far (p := ⟨gb197, 0, none⟩) (Kd.R_types HO200.out BK197.out (by decide)) (fun _ hk => hk.2) (.slice Ao12 y201.length co12)) (fun _ hk => hk.2) (.slice Ao11 y204.length co11)) (fun _ hk => hk.2) (.slice Ao10 y207.length co10)) (fun _ hk => hk.2) (.int .i64 3000)) (fun _ hk => hk.2) (.int .i64 4000)) (fun _ hk => hk.2) (.int .i64 5)) (fun _ hk => trivial), by (with_reducible repeat (first | apply Kd.R_alloc | apply Kd.R_drewN | apply Kd.R_drew)); exact Kd.R_mono (Kd.R_far (p := ⟨gb197, 5, none⟩) (Kd.R_far (p := ⟨gb197, 4, none⟩) (Kd.R_far (p := ⟨gb197, 3, none⟩) (Kd.R_far (p := ⟨gb197, 2, none⟩) (Kd.R_far (p := ⟨gb197, 1, none⟩) (Kd.R_far (p := ⟨gb197, 0, none⟩) (Kd.R_types HO203.out BK197.out (by decide)) (fun _ hk => hk.2) (.slice Ao12 y201.length co12)) (fun _ hk => hk.2) (.slice Ao11 y204.length co11)) (fun _ hk => hk.2) (.slice Ao10 y207.length co10)) (fun _ hk => hk.2) (.int .i64 3000)) (fun _ hk => hk.2) (.int .i64 4000)) (fun _ hk => hk.2) (.int .i64 5)) (fun _ hk => trivial), by (with_reducible repeat (first | apply Kd.R_alloc | apply Kd.R_drewN | apply Kd.R_drew)); exact Kd.R_mono (Kd.R_far (p := ⟨gb197, 5, none⟩) (Kd.R_far (p := ⟨gb197, 4, none⟩) (Kd.R_far (p := ⟨gb197, 3, none⟩) (Kd.R_far (p := ⟨gb197, 2, none⟩) (Kd.R_far (p := ⟨gb197, 1, none⟩) (Kd.R_far (p := ⟨gb197, 0, none⟩) (Kd.R_types HO206.out BK197.out (by decide)) (fun _ hk => hk.2) (.slice Ao12 y201.length co12)) (fun _ hk => hk.2) (.slice Ao11 y204.length co11)) (fun _ hk => hk.2) (.slice Ao10 y207.length co10)) (fun _ hk => hk.2) (.int .i64 3000)) (fun _ hk => hk.2) (.int .i64 4000)) (fun _ hk => hk.2) (.int .i64 5)) (fun _ hk => hk.1.2), by (with_reducible repeat (first | apply Kd.R_alloc | apply Kd.R_drewN | apply Kd.R_drew)); exact Kd.R_mono (Kd.R_far (p := ⟨gb197, 5, none⟩) (Kd.R_far (p := ⟨gb197, 4, none⟩) (Kd.R_far (p := ⟨gb197, 3, none⟩) (Kd.R_far (p := ⟨gb197, 2, none⟩) (Kd.R_far (p := ⟨gb197, 1, none⟩) (Kd.R_far (p := ⟨gb197, 0, none⟩) (Kd.R_types HO209.out BK197.out (by decide)) (fun _ hk => hk.2) (.slice Ao12 y201.length co12)) (fun _ hk => hk.2) (.slice Ao11 y204.length co11)) (fun _ hk => hk.2) (.slice Ao10 y207.length co10)) (fun _ hk => hk.2) (.int .i64 3000)) (fun _ hk => hk.2) (.int .i64 4000)) (fun _ hk => hk.2) (.int .i64 5)) (fun _ hk => hk.1.2), bls_⟩
def spilelaw30_awake.f : Option Bool := some true
def AwakeOK (w : World) : Prop := Calls Tryd.prog 9 #[] w fun e w' => e = .returned (.bool true) ∧ Below w.heap.size w w'
theorem calA_ {w w1 : World} (h : Aside0 (∀ w1, Below w.heap.size w w1 → AwakeOK w1)) (hb : Below w.heap.size w w1) : AwakeOK w1 := h.out w1 hb
theorem spilelaw30_awake.calls (r : Bool) (w : World) (h : spilelaw30_awake.f = some r) (hA : AwakeOK w := by exact calA_ (by assumption) bl_) :
    Calls Tryd.prog 9 #[] w fun e w' => e = .returned (.bool r) ∧ Below w.heap.size w w' := by
  cases h
  exact hA
def spileref16_Few.f (l0 : List (S82)) : Option (Bool) := if (l0.length : Int) ≤ 20 then (some true) else (if (l0.length : Int) > 128 then (some (decide ((l0.length : Int) ≤ 133))) else (some false))
set_option maxHeartbeats 8000000 in
set_option maxRecDepth 100000 in
theorem spileref16_Few.calls (A0 : Option Addr) (c0 : Nat) (l0 : List (S82)) (r : Bool) (w : World) (hr0 : Kd.C k82 w A0 l0.length l0) (hc0 : l0.length ≤ c0) (h : spileref16_Few.f l0 = some r) :
  Calls Tryd.prog 27 #[.slice A0 l0.length c0] w fun e w' => e = .returned (.bool r) ∧ Drawn0 w w' := by
 have HR0 := Aside0.mk hr0
 have HC0 := Aside0.mk hc0
 clear hr0 hc0
 have H : (if (l0.length : Int) ≤ 20 then (some true) else (if (l0.length : Int) > 128 then (some (decide ((l0.length : Int) ≤ 133))) else (some false))) = some r := h
 clear h
 by_cases c2 : (l0.length : Int) ≤ 20
 ·rw [if_pos c2] at H
  have c2b0 : decide ((l0.length : Int) ≤ 20) = true := decide_eq_true c2
  have c2b1 : decide (l0.length ≤ 20) = true := decide_eq_true (by omega)
  clear c2
  obtain rfl := Option.some.inj H
  go_enter Tryd.func27, Tryd.ntmps27
  go_wp2
  go_ret
  exact ⟨by first | rfl | (simp; done) | (simp [*]; done), by repeat (first | exact Drawn0.refl _ | apply Drawn0.step)⟩
 ·rw [if_neg c2] at H
  have c2b0 : decide ((l0.length : Int) ≤ 20) = false := decide_eq_false c2
  have c2b1 : decide (l0.length ≤ 20) = false := decide_eq_false (by omega)
  clear c2
  by_cases c3 : (l0.length : Int) > 128
  ·rw [if_pos c3] at H
   have c3b0 : decide (128 < (l0.length : Int)) = true := decide_eq_true c3
   have c3b1 : decide (128 < l0.length) = true := decide_eq_true (by omega)
   clear c3
   obtain rfl := Option.some.inj H
   go_enter Tryd.func27, Tryd.ntmps27
   go_wp2
   go_ret
   exact ⟨by first | rfl | (simp; done) | (simp [*]; done), by repeat (first | exact Drawn0.refl _ | apply Drawn0.step)⟩
  ·rw [if_neg c3] at H
   have c3b0 : decide (128 < (l0.length : Int)) = false := decide_eq_false c3
   have c3b1 : decide (128 < l0.length) = false := decide_eq_false (by omega)
   clear c3
   obtain rfl := Option.some.inj H
   go_enter Tryd.func27, Tryd.ntmps27
   go_wp2
   go_ret
   exact ⟨by first | rfl | (simp; done) | (simp [*]; done), by repeat (first | exact Drawn0.refl _ | apply Drawn0.step)⟩
end Go.Proofs.YtcdkbciagchlgaaDoor.PF
