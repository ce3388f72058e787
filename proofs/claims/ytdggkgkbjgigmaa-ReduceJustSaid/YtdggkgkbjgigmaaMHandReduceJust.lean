/- The walk through the law ReduceJust of package spilelaw28 and its closure. -/
import Derived.Test.YtdggkgkbjgigmaaMLiq
import Derived.Test.YtdggkgkbjgigmaaMRed
import Derived.Test.YtdggkgkbjgigmaaMRedAwake
import Derived.Test.YtdggkgkbjgigmaaPF0
import Derived.Test.YtdggkgkbjgigmaaPF1
import Derived.Test.YtdggkgkbjgigmaaPF10
import Derived.Test.YtdggkgkbjgigmaaPF11
import Derived.Test.YtdggkgkbjgigmaaPF5
import Derived.Test.YtdggkgkbjgigmaaPF6
import Derived.Test.YtdggkgkbjgigmaaPF7
import Derived.Test.YtdggkgkbjgigmaaPF8
namespace Go.Proofs.Ytdggkgkbjgigmaa.PF
open Go.RowKit Go.Proofs.YtdggkgkbjgigmaaW.PrintWords Go.Proofs.YtdggkgkbjgigmaaW.PrintLast Go.Proofs.YtdggkgkbjgigmaaW.PrintMore
set_option linter.unusedVariables false
set_option linter.unusedSimpArgs false
theorem few28.known (l : List S50) (b : Bool) (A : Option Addr) (c : Nat) (w : World) (hr : Kd.C k50 w A l.length l) (hc : l.length ≤ c) (h : spileref16_Few.f l = some b) :
    Calls Try.prog 11 #[.slice A l.length c] w fun e w' => e = .returned (.bool b) ∧ Below w.heap.size w w' := by
  refine (spileref16_Few.calls A c l b w hr hc h).mono ?_
  rintro e w' ⟨rfl, hd⟩
  exact ⟨rfl, hd.below⟩
set_option maxHeartbeats 400000 in
set_option maxRecDepth 100000 in
theorem ReduceJust.clo (bt bl : Nat) (A : Option Addr) (c : Nat) (l : List S50) (a m x g : Int) (W : World) (hcl : l.length ≤ c) (hs : alcohol_Strength.f l a (m + x) = some (g, 0)) (hw : wrap64 (m + x) = m + x)
    (ht : W.cell? ⟨bt, 0, none⟩ = some (.slice A l.length c)) (ha : W.cell? ⟨bl, 0, none⟩ = some (.int .i64 a)) (hm : W.cell? ⟨bl, 1, none⟩ = some (.int .i64 m)) (hr : Kd.C k50 W A l.length l) :
    Calls Try.prog 19 (#[.int .i64 x] ++ #[.pointer (some ⟨bt, 0, none⟩), .pointer (some ⟨bl, 0, none⟩)]) W fun e w' => e = .returned (.int .i64 g) ∧ Below W.heap.size W w' := by
  have hu := Try.underlying24
  have hw' : IntKind.i64.wrap (m + x) = m + x := by rw [i64_w]; exact hw
  have HS := Aside0.mk (alcohol_Strength.calls A c l a (m + x) g 0 W hr hcl hs)
  clear hcl hs hw hr
  go_enter Try.func19, Try.ntmps19
  go_wp2_with (refine HS.out.mono ?_; rintro e w' ⟨rfl, hb⟩)
  go_ret
  exact ⟨rfl, hb⟩
theorem box2_ {W W5 : World} {g t : Nat} {x y u v : Value} (hb : Below W.heap.size W W5) (hg : g = W.heap.size) (hbox : W5.heap[g]? = some (.cells #[u, v] t (0, 0))) :
    Below W.heap.size W ((W5.setCell ⟨g, 0, none⟩ x).setCell ⟨g, 1, none⟩ y) ∧ ((W5.setCell ⟨g, 0, none⟩ x).setCell ⟨g, 1, none⟩ y).cell? ⟨g, 0, none⟩ = some x ∧ ((W5.setCell ⟨g, 0, none⟩ x).setCell ⟨g, 1, none⟩ y).cell? ⟨g, 1, none⟩ = some y := by
  have h0 : W5.cell? ⟨g, 0, none⟩ = some u := blk_cell hbox 0
  have h1 : W5.cell? ⟨g, 1, none⟩ = some v := blk_cell hbox 1
  have hne : (⟨g, 0, none⟩ : Addr) ≠ ⟨g, 1, none⟩ := by intro h; injection h with _ h; exact absurd h (by decide)
  refine ⟨below_set (below_set hb (Nat.le_of_eq hg.symm)) (Nat.le_of_eq hg.symm), ?_, ?_⟩
  · rw [World.cell?_setCell_other _ _ _ _ (Ne.symm hne)]
    exact World.cell?_setCell_same' _ _ _ (by rw [h0]; rfl)
  · refine World.cell?_setCell_same' _ _ _ ?_
    rw [World.cell?_setCell_other _ _ _ _ hne, h1]
    rfl
set_option maxHeartbeats 1000000 in
set_option maxRecDepth 100000 in
/-- Where Few is false, and where there is no range. -/
theorem ReduceJust.none_ (A : Option Addr) (c : Nat) (l : List S50) (a m t p y f e : Int) (b : Bool) (w : World) (hr : Kd.C k50 w A l.length l) (hc : l.length ≤ c) (hb0 : spileref16_Few.f l = some b)
    (hR : rngS l a m t = (0, 0, e)) (hW : watS l a m t = (y, f)) (he : (e != 0) = true) (hx : (e == 7) = false ∨ ((e == 7) = true ∧ (f == 0) = false)) :
    Calls Try.prog 5 #[.slice A l.length c, .agg #[.int .i64 a, .int .i64 m], .int .i64 t, .int .u32 p] w fun e w' => e = .returned (.bool true) ∧ Below w.heap.size w w' := by
  have hu := Try.underlying24
  have hv := Try.underlying31
  obtain ⟨W0, hW0⟩ : ∃ W0, W0 = (w.alloc (.cells #[.slice A l.length c] 22)).alloc (.cells #[.int .i64 a, .int .i64 m] 24) := ⟨_, rfl⟩
  have hB0 : Below w.heap.size w W0 := by rw [hW0]; exact below_alloc (below_alloc (Below.refl _ _) _) _
  have ct : W0.cell? ⟨w.heap.size, 0, none⟩ = some (.slice A l.length c) := by rw [hW0]; exact pw_cell_alloc _ (pw_cell_new w _ _)
  have ca : W0.cell? ⟨w.heap.size + 1, 0, none⟩ = some (.int .i64 a) := by rw [hW0]; rw [World.cell?_alloc_at _ _ _ _ (by simp)]; rfl
  have cm : W0.cell? ⟨w.heap.size + 1, 1, none⟩ = some (.int .i64 m) := by rw [hW0]; rw [World.cell?_alloc_at _ _ _ _ (by simp)]; rfl
  have HA := Aside0.mk (spilelaw28_awake.calls true W0 awake28)
  have HF := Aside0.mk (fun W (hb : Below w.heap.size w W) => few28.known l b A c W (Kd.C_below hr hb) hc hb0)
  have HR := Aside0.mk (fun W (hb : Below w.heap.size w W) => reduce_Range.calls A c l a m t 0 0 e W (Kd.C_below hr hb) hc (by rw [reduce_Range.plain, hR]))
  have HW := Aside0.mk (fun W (hb : Below w.heap.size w W) => reduce_Water.calls A c l a m t y f W (Kd.C_below hr hb) hc (by rw [reduce_Water.plain, hW]))
  have HB0 := Aside0.mk hB0
  have HW0 := Aside0.mk hW0
  clear hB0 hW0 hr hc hR hW hb0
  cases b
  · clear he hx HR HW
    go_enter Try.func5, Try.ntmps5
    go_wp2_with fail
    rw [← HW0.out]
    refine HA.out.mono ?_
    rintro e' w1 ⟨rfl, hb⟩
    replace ct := pw_cell_below hb ct
    have HB := Aside0.mk (below_step HB0.out hb)
    clear hb
    go_wp2_with fail
    refine (HF.out _ HB.out).mono ?_
    rintro e' w2 ⟨rfl, hb⟩
    replace HB := Aside0.mk (below_step HB.out hb)
    clear hb
    go_wp2
    go_ret
    exact ⟨rfl, HB.out⟩
  · rcases hx with hx | ⟨hx, hx2⟩
    all_goals
      go_enter Try.func5, Try.ntmps5
      go_wp2_with fail
      rw [← HW0.out]
      refine HA.out.mono ?_
      rintro e' w1 ⟨rfl, hb⟩
      replace ct := pw_cell_below hb ct
      replace ca := pw_cell_below hb ca
      replace cm := pw_cell_below hb cm
      have HB := Aside0.mk (below_step HB0.out hb)
      clear hb
      go_wp2_with fail
      refine (HF.out _ HB.out).mono ?_
      rintro e' w2 ⟨rfl, hb⟩
      replace ct := pw_cell_below hb ct
      replace ca := pw_cell_below hb ca
      replace cm := pw_cell_below hb cm
      replace HB := Aside0.mk (below_step HB.out hb)
      clear hb
      go_wp2_with fail
      refine (HR.out _ HB.out).mono ?_
      rintro e' w3 ⟨rfl, hb⟩
      replace ct := pw_cell_below hb ct
      replace ca := pw_cell_below hb ca
      replace cm := pw_cell_below hb cm
      replace HB := Aside0.mk (below_step HB.out hb)
      clear hb
      go_wp2_with (first
        | ((with_reducible refine gate_dst (N := 9) rfl ?_); refine box_event ?hg (N := 9) ?hd (cs := #[.int .i64 0, .int .i64 0]) (t := 31) ?hr ?_; (case hd => rfl); (case hg => rfl); (case hr => first | (go_simp; done) | (go_simp; rfl)); intro g hg w5 hbox hb5; have hc0 : w5.cell? ⟨g, 0, none⟩ = some (.int .i64 0) := blk_cell hbox 0; have hc1 : w5.cell? ⟨g, 1, none⟩ = some (.int .i64 0) := blk_cell hbox 1; have hf0 := blk_frozen hbox 0; have hf1 := blk_frozen hbox 1; replace hbox := Aside0.mk hbox; replace hb5 := Aside0.mk hb5; replace hg := Aside0.mk hg)
        | ((with_reducible refine gate_store (t := 31) (p := 9) rfl ?_); refine store_event (t := 31) (p := 9) (v := ?vo) (w1 := (w5.setCell ⟨g, 0, none⟩ (.int .i64 0)).setCell ⟨g, 1, none⟩ (.int .i64 0)) ?hg ?ho ?hn ?hr ?_; (case ho => rfl); (case hg => rfl); (case hn => rfl); (case hr => first | (go_simp; done) | (go_simp; rfl)); intro w6 hw6; clear hc0 hc1 hf0 hf1; have hbx := box2_ (x := .int .i64 0) (y := .int .i64 0) hb5.out hg.out hbox.out; rw [← hw6] at hbx; clear hw6 hb5 hg hbox; obtain ⟨hb6, q0, q1⟩ := hbx; replace ct := pw_cell_below hb6 ct; replace ca := pw_cell_below hb6 ca; replace cm := pw_cell_below hb6 cm; replace HB := Aside0.mk (below_step HB.out hb6); clear hb6))
      refine (HW.out _ HB.out).mono ?_
      rintro e' w7 ⟨rfl, hb⟩
      replace q0 := pw_cell_below hb q0
      replace q1 := pw_cell_below hb q1
      replace HB := Aside0.mk (below_step HB.out hb)
      clear hb ct ca cm HW HR HF HA HB0 HW0
      go_wp2
      go_ret
      exact ⟨rfl, HB.out⟩
-- GENERATED
set_option maxHeartbeats 2000000 in
set_option maxRecDepth 100000 in
/-- Where the rows are too many. -/
theorem ReduceJust.few_ (A : Option Addr) (c : Nat) (l : List S50) (a m t p : Int) (w : World) (hr : Kd.C k50 w A l.length l) (hc : l.length ≤ c) (hb0 : spileref16_Few.f l = some false) :
    Calls Try.prog 5 #[.slice A l.length c, .agg #[.int .i64 a, .int .i64 m], .int .i64 t, .int .u32 p] w fun e w' => e = .returned (.bool true) ∧ Below w.heap.size w w' := by
  obtain ⟨W0, hW0⟩ : ∃ W0, W0 = (w.alloc (.cells #[.slice A l.length c] 22)).alloc (.cells #[.int .i64 a, .int .i64 m] 24) := ⟨_, rfl⟩
  have hB0 : Below w.heap.size w W0 := by rw [hW0]; exact below_alloc (below_alloc (Below.refl _ _) _) _
  have ct : W0.cell? ⟨w.heap.size, 0, none⟩ = some (.slice A l.length c) := by rw [hW0]; exact pw_cell_alloc _ (pw_cell_new w _ _)
  have HA := Aside0.mk (spilelaw28_awake.calls true W0 awake28)
  have HF := Aside0.mk (fun W (hb : Below w.heap.size w W) => few28.known l false A c W (Kd.C_below hr hb) hc hb0)
  have HB0 := Aside0.mk hB0
  have HW0 := Aside0.mk hW0
  clear hB0 hW0 hr hc hb0
  go_enter Try.func5, Try.ntmps5
  go_wp2_with fail
  rw [← HW0.out]
  refine HA.out.mono ?_
  rintro e' w1 ⟨rfl, hb⟩
  replace ct := pw_cell_below hb ct
  have HB := Aside0.mk (below_step HB0.out hb)
  clear hb
  go_wp2_with fail
  refine (HF.out _ HB.out).mono ?_
  rintro e' w2 ⟨rfl, hb⟩
  replace HB := Aside0.mk (below_step HB.out hb)
  clear hb
  go_wp2
  go_ret
  exact ⟨rfl, HB.out⟩
set_option maxHeartbeats 2000000 in
set_option maxRecDepth 100000 in
/-- Where no water gives just the target, although there is water for it. -/
theorem ReduceJust.gap_ (A : Option Addr) (c : Nat) (l : List S50) (a m t p y g0 : Int) (w : World) (hr : Kd.C k50 w A l.length l) (hc : l.length ≤ c) (hb0 : spileref16_Few.f l = some true)
    (hR : rngS l a m t = (0, 0, 7)) (hW : watS l a m t = (y, 0)) (hs : alcohol_Strength.f l a (m + y) = some (g0, 0)) (hw : wrap64 (m + y) = m + y) (hne : (g0 != t) = true) :
    Calls Try.prog 5 #[.slice A l.length c, .agg #[.int .i64 a, .int .i64 m], .int .i64 t, .int .u32 p] w fun e w' => e = .returned (.bool true) ∧ Below w.heap.size w w' := by
  have hu := Try.underlying24
  have hv := Try.underlying31
  obtain ⟨W0, hW0⟩ : ∃ W0, W0 = (w.alloc (.cells #[.slice A l.length c] 22)).alloc (.cells #[.int .i64 a, .int .i64 m] 24) := ⟨_, rfl⟩
  have hB0 : Below w.heap.size w W0 := by rw [hW0]; exact below_alloc (below_alloc (Below.refl _ _) _) _
  have ct : W0.cell? ⟨w.heap.size, 0, none⟩ = some (.slice A l.length c) := by rw [hW0]; exact pw_cell_alloc _ (pw_cell_new w _ _)
  have ca : W0.cell? ⟨w.heap.size + 1, 0, none⟩ = some (.int .i64 a) := by rw [hW0]; rw [World.cell?_alloc_at _ _ _ _ (by simp)]; rfl
  have cm : W0.cell? ⟨w.heap.size + 1, 1, none⟩ = some (.int .i64 m) := by rw [hW0]; rw [World.cell?_alloc_at _ _ _ _ (by simp)]; rfl
  have HA := Aside0.mk (spilelaw28_awake.calls true W0 awake28)
  have HF := Aside0.mk (fun W (hb : Below w.heap.size w W) => few28.known l true A c W (Kd.C_below hr hb) hc hb0)
  have HR := Aside0.mk (fun W (hb : Below w.heap.size w W) => reduce_Range.calls A c l a m t 0 0 7 W (Kd.C_below hr hb) hc (by rw [reduce_Range.plain, hR]))
  have HW := Aside0.mk (fun W (hb : Below w.heap.size w W) => reduce_Water.calls A c l a m t y 0 W (Kd.C_below hr hb) hc (by rw [reduce_Water.plain, hW]))
  have hw' : IntKind.i64.wrap (m + y) = m + y := by rw [i64_w]; exact hw
  have HS := Aside0.mk (fun W (hb : Below w.heap.size w W) => alcohol_Strength.calls A c l a (m + y) g0 0 W (Kd.C_below hr hb) hc hs)
  clear hs hw
  have HB0 := Aside0.mk hB0
  have HW0 := Aside0.mk hW0
  clear hB0 hW0 hr hc hR hW hb0
  go_enter Try.func5, Try.ntmps5
  go_wp2_with fail
  rw [← HW0.out]
  refine HA.out.mono ?_
  rintro e' w1 ⟨rfl, hb⟩
  replace ct := pw_cell_below hb ct
  replace ca := pw_cell_below hb ca
  replace cm := pw_cell_below hb cm
  have HB := Aside0.mk (below_step HB0.out hb)
  clear hb HA HB0 HW0
  go_wp2_with fail
  refine (HF.out _ HB.out).mono ?_
  rintro e' w2 ⟨rfl, hb⟩
  replace ct := pw_cell_below hb ct
  replace ca := pw_cell_below hb ca
  replace cm := pw_cell_below hb cm
  replace HB := Aside0.mk (below_step HB.out hb)
  clear hb HF
  go_wp2_with fail
  refine (HR.out _ HB.out).mono ?_
  rintro e' w3 ⟨rfl, hb⟩
  replace ct := pw_cell_below hb ct
  replace ca := pw_cell_below hb ca
  replace cm := pw_cell_below hb cm
  replace HB := Aside0.mk (below_step HB.out hb)
  clear hb HR
  go_wp2_with (first
    | ((with_reducible refine gate_dst (N := 9) rfl ?_); refine box_event ?hg (N := 9) ?hd (cs := #[.int .i64 0, .int .i64 0]) (t := 31) ?hr ?_; (case hd => rfl); (case hg => rfl); (case hr => first | (go_simp; done) | (go_simp; rfl)); intro g hg w5 hbox hb5; have hc0 : w5.cell? ⟨g, 0, none⟩ = some (.int .i64 0) := blk_cell hbox 0; have hc1 : w5.cell? ⟨g, 1, none⟩ = some (.int .i64 0) := blk_cell hbox 1; have hf0 := blk_frozen hbox 0; have hf1 := blk_frozen hbox 1; replace hbox := Aside0.mk hbox; replace hb5 := Aside0.mk hb5; replace hg := Aside0.mk hg)
    | ((with_reducible refine gate_store (t := 31) (p := 9) rfl ?_); refine store_event (t := 31) (p := 9) (v := ?vo) (w1 := (w5.setCell ⟨g, 0, none⟩ (.int .i64 0)).setCell ⟨g, 1, none⟩ (.int .i64 0)) ?hg ?ho ?hn ?hr ?_; (case ho => rfl); (case hg => rfl); (case hn => rfl); (case hr => first | (go_simp; done) | (go_simp; rfl)); intro w6 hw6; clear hc0 hc1 hf0 hf1; have hbx := box2_ (x := .int .i64 0) (y := .int .i64 0) hb5.out hg.out hbox.out; rw [← hw6] at hbx; clear hw6 hb5 hg hbox; obtain ⟨hb6, q0, q1⟩ := hbx; replace ct := pw_cell_below hb6 ct; replace ca := pw_cell_below hb6 ca; replace cm := pw_cell_below hb6 cm; replace HB := Aside0.mk (below_step HB.out hb6); clear hb6))
  refine (HW.out _ HB.out).mono ?_
  rintro e' w7 ⟨rfl, hb⟩
  replace ct := pw_cell_below hb ct
  replace ca := pw_cell_below hb ca
  replace cm := pw_cell_below hb cm
  replace q0 := pw_cell_below hb q0
  replace q1 := pw_cell_below hb q1
  replace HB := Aside0.mk (below_step HB.out hb)
  clear hb HW
  go_wp2_with fail
  refine (HS.out _ HB.out).mono ?_
  rintro e' w8 ⟨rfl, hb⟩
  replace q0 := pw_cell_below hb q0
  replace q1 := pw_cell_below hb q1
  replace HB := Aside0.mk (below_step HB.out hb)
  clear hb ct ca cm HS
  go_wp2
  go_ret
  exact ⟨rfl, HB.out⟩
set_option maxHeartbeats 2000000 in
set_option maxRecDepth 100000 in
/-- Where a range gives just the target. -/
theorem ReduceJust.just_ (G : Int → Int) (ok : Int → Prop) (A : Option Addr) (c : Nat) (l : List S50) (a m t p lo hi : Int) (w : World) (hr : Kd.C k50 w A l.length l) (hc : l.length ≤ c) (hb0 : spileref16_Few.f l = some true)
    (hR : rngS l a m t = (lo, hi, 0)) (hW : watS l a m t = (lo, 0)) (n0 : 0 ≤ lo) (n1 : lo ≤ hi) (n2 : m + hi ≤ 128849018880000) (n3 : 0 ≤ m) (n4 : 0 ≤ p) (n5 : p ≤ 4294967295) (n6 : 0 ≤ Int.tmod p (hi - lo + 1)) (n7 : Int.tmod p (hi - lo + 1) < hi - lo + 1)
    (hG : ∀ x, ok x → alcohol_Strength.f l a (m + x) = some (G x, 0) ∧ wrap64 (m + x) = m + x) (k1 : ok lo) (k2 : ok hi) (k3 : ok (lo + Int.tmod p (hi - lo + 1))) (k4 : 0 < lo → ok (lo - 1)) (k5 : m + hi ≠ 128849018880000 → ok (hi + 1))
    (e1 : (G lo != t) = false) (e2 : (G hi != t) = false) (e3 : (G (lo + Int.tmod p (hi - lo + 1)) != t) = false) (e4 : 0 < lo → (G (lo - 1) == t) = false) (e5 : m + hi ≠ 128849018880000 → (G (hi + 1) != t) = true) :
    Calls Try.prog 5 #[.slice A l.length c, .agg #[.int .i64 a, .int .i64 m], .int .i64 t, .int .u32 p] w fun e w' => e = .returned (.bool true) ∧ Below w.heap.size w w' := by
  have hu := Try.underlying24
  have hv := Try.underlying31
  obtain ⟨W0, hW0⟩ : ∃ W0, W0 = (w.alloc (.cells #[.slice A l.length c] 22)).alloc (.cells #[.int .i64 a, .int .i64 m] 24) := ⟨_, rfl⟩
  have hB0 : Below w.heap.size w W0 := by rw [hW0]; exact below_alloc (below_alloc (Below.refl _ _) _) _
  have ct : W0.cell? ⟨w.heap.size, 0, none⟩ = some (.slice A l.length c) := by rw [hW0]; exact pw_cell_alloc _ (pw_cell_new w _ _)
  have ca : W0.cell? ⟨w.heap.size + 1, 0, none⟩ = some (.int .i64 a) := by rw [hW0]; rw [World.cell?_alloc_at _ _ _ _ (by simp)]; rfl
  have cm : W0.cell? ⟨w.heap.size + 1, 1, none⟩ = some (.int .i64 m) := by rw [hW0]; rw [World.cell?_alloc_at _ _ _ _ (by simp)]; rfl
  have HA := Aside0.mk (spilelaw28_awake.calls true W0 awake28)
  have HF := Aside0.mk (fun W (hb : Below w.heap.size w W) => few28.known l true A c W (Kd.C_below hr hb) hc hb0)
  have HR := Aside0.mk (fun W (hb : Below w.heap.size w W) => reduce_Range.calls A c l a m t lo hi 0 W (Kd.C_below hr hb) hc (by rw [reduce_Range.plain, hR]))
  have HW := Aside0.mk (fun W (hb : Below w.heap.size w W) => reduce_Water.calls A c l a m t lo 0 W (Kd.C_below hr hb) hc (by rw [reduce_Water.plain, hW]))
  have HX := Aside0.mk (fun W (hb : Below w.heap.size w W) (ct : W.cell? ⟨w.heap.size, 0, none⟩ = some (.slice A l.length c)) (ca : W.cell? ⟨w.heap.size + 1, 0, none⟩ = some (.int .i64 a)) (cm : W.cell? ⟨w.heap.size + 1, 1, none⟩ = some (.int .i64 m)) (x : Int) (hx : ok x) => ReduceJust.clo w.heap.size (w.heap.size + 1) A c l a m x (G x) W hc (hG x hx).1 (hG x hx).2 ct ca cm (Kd.C_below hr hb))
  have eg : ∀ args w, (callFunc 19 args).run Try.prog w = .ok (.enter 19 args) w := enters_of Try.func19 (by kernel_rfl) rfl
  have b1 : decide (lo < 0) = false := decide_eq_false (by omega)
  have b2 : decide (hi < lo) = false := decide_eq_false (by omega)
  have b3 : decide (128849018880000 < m + hi) = false := decide_eq_false (by omega)
  have b4 : (hi - lo + 1 == 0) = false := beq_eq_false_iff_ne.mpr (by omega)
  have b5 : ¬ (hi - lo + 1 = 0) := by omega
  have v1 : IntKind.i64.wrap (m + hi) = m + hi := by rw [i64_w]; exact w64_ (by omega) (by omega)
  have v2 : IntKind.i64.wrap (hi - lo) = hi - lo := by rw [i64_w]; exact w64_ (by omega) (by omega)
  have v3 : IntKind.i64.wrap (hi - lo + 1) = hi - lo + 1 := by rw [i64_w]; exact w64_ (by omega) (by omega)
  have v4 : IntKind.i64.wrap p = p := by rw [i64_w]; exact w64_ (by omega) (by omega)
  have v5 : IntKind.i64.wrap (lo + Int.tmod p (hi - lo + 1)) = lo + Int.tmod p (hi - lo + 1) := by rw [i64_w]; exact w64_ (by omega) (by omega)
  have v6 : IntKind.i64.wrap (lo - 1) = lo - 1 := by rw [i64_w]; exact w64_ (by omega) (by omega)
  have v7 : IntKind.i64.wrap (hi + 1) = hi + 1 := by rw [i64_w]; exact w64_ (by omega) (by omega)
  have K1 := Aside0.mk k1
  have K2 := Aside0.mk k2
  have K3 := Aside0.mk k3
  have K4 := Aside0.mk k4
  have K5 := Aside0.mk k5
  clear hG k1 k2 k3 k4 k5
  have HB0 := Aside0.mk hB0
  have HW0 := Aside0.mk hW0
  clear hB0 hW0 hr hc hR hW hb0
  go_enter Try.func5, Try.ntmps5
  go_wp2_with fail
  rw [← HW0.out]
  refine HA.out.mono ?_
  rintro e' w1 ⟨rfl, hb⟩
  replace ct := pw_cell_below hb ct
  replace ca := pw_cell_below hb ca
  replace cm := pw_cell_below hb cm
  have HB := Aside0.mk (below_step HB0.out hb)
  clear hb HA HB0 HW0
  go_wp2_with fail
  refine (HF.out _ HB.out).mono ?_
  rintro e' w2 ⟨rfl, hb⟩
  replace ct := pw_cell_below hb ct
  replace ca := pw_cell_below hb ca
  replace cm := pw_cell_below hb cm
  replace HB := Aside0.mk (below_step HB.out hb)
  clear hb HF
  go_wp2_with fail
  refine (HR.out _ HB.out).mono ?_
  rintro e' w3 ⟨rfl, hb⟩
  replace ct := pw_cell_below hb ct
  replace ca := pw_cell_below hb ca
  replace cm := pw_cell_below hb cm
  replace HB := Aside0.mk (below_step HB.out hb)
  clear hb HR
  go_wp2_with (first
    | ((with_reducible refine gate_dst (N := 9) rfl ?_); refine box_event ?hg (N := 9) ?hd (cs := #[.int .i64 0, .int .i64 0]) (t := 31) ?hr ?_; (case hd => rfl); (case hg => rfl); (case hr => first | (go_simp; done) | (go_simp; rfl)); intro g hg w5 hbox hb5; have hc0 : w5.cell? ⟨g, 0, none⟩ = some (.int .i64 0) := blk_cell hbox 0; have hc1 : w5.cell? ⟨g, 1, none⟩ = some (.int .i64 0) := blk_cell hbox 1; have hf0 := blk_frozen hbox 0; have hf1 := blk_frozen hbox 1; replace hbox := Aside0.mk hbox; replace hb5 := Aside0.mk hb5; replace hg := Aside0.mk hg)
    | ((with_reducible refine gate_store (t := 31) (p := 9) rfl ?_); refine store_event (t := 31) (p := 9) (v := ?vo) (w1 := (w5.setCell ⟨g, 0, none⟩ (.int .i64 lo)).setCell ⟨g, 1, none⟩ (.int .i64 hi)) ?hg ?ho ?hn ?hr ?_; (case ho => rfl); (case hg => rfl); (case hn => rfl); (case hr => first | (go_simp; done) | (go_simp; rfl)); intro w6 hw6; clear hc0 hc1 hf0 hf1; have hbx := box2_ (x := .int .i64 lo) (y := .int .i64 hi) hb5.out hg.out hbox.out; rw [← hw6] at hbx; clear hw6 hb5 hg hbox; obtain ⟨hb6, q0, q1⟩ := hbx; replace ct := pw_cell_below hb6 ct; replace ca := pw_cell_below hb6 ca; replace cm := pw_cell_below hb6 cm; replace HB := Aside0.mk (below_step HB.out hb6); clear hb6))
  refine (HW.out _ HB.out).mono ?_
  rintro e' w7 ⟨rfl, hb⟩
  replace ct := pw_cell_below hb ct
  replace ca := pw_cell_below hb ca
  replace cm := pw_cell_below hb cm
  replace q0 := pw_cell_below hb q0
  replace q1 := pw_cell_below hb q1
  replace HB := Aside0.mk (below_step HB.out hb)
  clear hb HW
  have E4 := Aside0.mk e4
  have E5 := Aside0.mk e5
  have N := Aside0.mk n0
  clear n0 n1 n2 n3 n4 n5 n6 n7 e4 e5
  go_wp2
  refine start_ (n := 32) (S := fun w' => w'.cell? ⟨g, 0, none⟩ = some (.int .i64 lo) ∧ w'.cell? ⟨g, 1, none⟩ = some (.int .i64 hi)) (ds := []) #[false, false, false, false, false, false, false, false, false, false, false, false, false, false, false, false, false, false, false, false, false, false, false, false, false, false, false, false, false, false, false, false] (by kernel_rfl) rfl rfl ⟨q0, q1⟩ (fun hHeld => ?_)
  replace ct : w7.drew.cell? _ = _ := ct
  replace ca : w7.drew.cell? _ = _ := ca
  replace cm : w7.drew.cell? _ = _ := cm
  replace q0 : w7.drew.cell? _ = _ := q0
  replace q1 : w7.drew.cell? _ = _ := q1
  replace HB := Aside0.mk (below_drew1 HB.out)
  generalize w7.drew = w8 at ct ca cm q0 q1 HB hHeld ⊢
  refine pure_ (i := 0) (N := some 99) (v := ?_) (a' := ?_) #[true, false, false, false, false, false, false, false, false, false, false, false, false, false, false, false, false, false, false, false, false, false, false, false, false, false, false, false, false, false, false, false] rfl rfl (by kernel_rfl) (fun _ _ _ h => h) (Or.inl ⟨by rfl, ?_⟩) ?_ ?_
  rotate_left
  · intro w'
    go_simp
    with_reducible rfl
  rotate_left
  · simp only [Act.put, List.setIfInBounds_toArray, List.set_cons_zero, List.set_cons_succ, i64_w, i32_w]
    rfl
  refine pure_ (i := 1) (N := some 100) (v := ?_) (a' := ?_) #[true, true, false, false, false, false, false, false, false, false, false, false, false, false, false, false, false, false, false, false, false, false, false, false, false, false, false, false, false, false, false, false] rfl rfl (by kernel_rfl) (fun _ _ _ h => h) (Or.inl ⟨by rfl, ?_⟩) ?_ ?_
  rotate_left
  · intro w'
    go_simp
    with_reducible rfl
  rotate_left
  · simp only [Act.put, List.setIfInBounds_toArray, List.set_cons_zero, List.set_cons_succ, i64_w, i32_w]
    rfl
  refine pure_ (i := 4) (N := some 103) (v := ?_) (a' := ?_) #[true, true, false, false, true, false, false, false, false, false, false, false, false, false, false, false, false, false, false, false, false, false, false, false, false, false, false, false, false, false, false, false] rfl rfl (by kernel_rfl) (fun _ _ _ h => h) (Or.inl ⟨by rfl, ?_⟩) ?_ ?_
  rotate_left
  · intro w'
    go_simp
    with_reducible rfl
  rotate_left
  · simp only [Act.put, List.setIfInBounds_toArray, List.set_cons_zero, List.set_cons_succ, i64_w, i32_w]
    rfl
  refine take_ (i := 2) (N := some 101) (v := ?_) (a' := ?_) #[true, true, true, false, true, false, false, false, false, false, false, false, false, false, false, false, false, false, false, false, false, false, false, false, false, false, false, false, false, false, false, false] rfl rfl (by kernel_rfl) (fun _ _ _ h => h) (Or.inl ⟨by rfl, ?_⟩) hHeld ?_ ?_
  rotate_left
  · rintro w' ⟨s0, s1⟩
    go_simp
    with_reducible rfl
  rotate_left
  · simp only [Act.put, List.setIfInBounds_toArray, List.set_cons_zero, List.set_cons_succ, i64_w, i32_w]
    rfl
  refine one_ (i := 3) (N := some 102) #[true, true, true, true, true, false, false, false, false, false, false, false, false, false, false, false, false, false, false, false, false, false, false, false, false, false, false, false, false, false, false, false] rfl rfl (by kernel_rfl) (by decide) (fun K hK => ?_)
  refine call_ 19 #[.int .i64 lo, .pointer (some ⟨w.heap.size, 0, none⟩), .pointer (some ⟨w.heap.size + 1, 0, none⟩)] (by rfl) rfl (by go_simp) ?_
  refine (HX.out _ HB.out ct ca cm _ K1.out).mono ?_
  rintro e' w9 ⟨rfl, hb⟩
  refine ⟨_, rfl, ?_⟩
  replace ct := pw_cell_below hb ct
  replace ca := pw_cell_below hb ca
  replace cm := pw_cell_below hb cm
  replace q0 := pw_cell_below hb q0
  replace q1 := pw_cell_below hb q1
  replace HB := Aside0.mk (below_step HB.out hb)
  clear hb
  refine hK.out _ _ ⟨q0, q1⟩ (fun hHeld => ?_)
  clear hK K
  refine norm_ (a' := ?_) ?_ ?_
  rotate_left
  · show Act.put _ (some 102) _ = _
    simp only [Act.put, List.setIfInBounds_toArray, List.set_cons_zero, List.set_cons_succ, i64_w, i32_w]
    rfl
  refine pure_ (i := 5) (N := some 104) (v := ?_) (a' := ?_) #[true, true, true, true, true, true, false, false, false, false, false, false, false, false, false, false, false, false, false, false, false, false, false, false, false, false, false, false, false, false, false, false] rfl rfl (by kernel_rfl) (fun _ _ _ h => h) (Or.inl ⟨by rfl, ?_⟩) ?_ ?_
  rotate_left
  · intro w'
    go_simp
    with_reducible rfl
  rotate_left
  · simp only [Act.put, List.setIfInBounds_toArray, List.set_cons_zero, List.set_cons_succ, i64_w, i32_w]
    rfl
  refine pure_ (i := 6) (N := some 105) (v := ?_) (a' := ?_) #[true, true, true, true, true, true, true, false, false, false, false, false, false, false, false, false, false, false, false, false, false, false, false, false, false, false, false, false, false, false, false, false] rfl rfl (by kernel_rfl) (fun _ _ _ h => h) (Or.inl ⟨by rfl, ?_⟩) ?_ ?_
  rotate_left
  · intro w'
    go_simp
    with_reducible rfl
  rotate_left
  · simp only [Act.put, List.setIfInBounds_toArray, List.set_cons_zero, List.set_cons_succ, i64_w, i32_w]
    rfl
  refine pure_ (i := 7) (N := some 106) (v := ?_) (a' := ?_) #[true, true, true, true, true, true, true, true, false, false, false, false, false, false, false, false, false, false, false, false, false, false, false, false, false, false, false, false, false, false, false, false] rfl rfl (by kernel_rfl) (fun _ _ _ h => h) (Or.inl ⟨by rfl, ?_⟩) ?_ ?_
  rotate_left
  · intro w'
    go_simp
    with_reducible rfl
  rotate_left
  · simp only [Act.put, List.setIfInBounds_toArray, List.set_cons_zero, List.set_cons_succ, i64_w, i32_w]
    rfl
  refine pure_ (i := 8) (N := some 107) (v := ?_) (a' := ?_) #[true, true, true, true, true, true, true, true, true, false, false, false, false, false, false, false, false, false, false, false, false, false, false, false, false, false, false, false, false, false, false, false] rfl rfl (by kernel_rfl) (fun _ _ _ h => h) (Or.inl ⟨by rfl, ?_⟩) ?_ ?_
  rotate_left
  · intro w'
    go_simp
    with_reducible rfl
  rotate_left
  · simp only [Act.put, List.setIfInBounds_toArray, List.set_cons_zero, List.set_cons_succ, i64_w, i32_w]
    rfl
  refine pure_ (i := 11) (N := some 110) (v := ?_) (a' := ?_) #[true, true, true, true, true, true, true, true, true, false, false, true, false, false, false, false, false, false, false, false, false, false, false, false, false, false, false, false, false, false, false, false] rfl rfl (by kernel_rfl) (fun _ _ _ h => h) (Or.inl ⟨by rfl, ?_⟩) ?_ ?_
  rotate_left
  · intro w'
    go_simp
    with_reducible rfl
  rotate_left
  · simp only [Act.put, List.setIfInBounds_toArray, List.set_cons_zero, List.set_cons_succ, i64_w, i32_w]
    rfl
  refine take_ (i := 9) (N := some 108) (v := ?_) (a' := ?_) #[true, true, true, true, true, true, true, true, true, true, false, true, false, false, false, false, false, false, false, false, false, false, false, false, false, false, false, false, false, false, false, false] rfl rfl (by kernel_rfl) (fun _ _ _ h => h) (Or.inl ⟨by rfl, ?_⟩) hHeld ?_ ?_
  rotate_left
  · rintro w' ⟨s0, s1⟩
    go_simp
    with_reducible rfl
  rotate_left
  · simp only [Act.put, List.setIfInBounds_toArray, List.set_cons_zero, List.set_cons_succ, i64_w, i32_w]
    rfl
  refine one_ (i := 10) (N := some 109) #[true, true, true, true, true, true, true, true, true, true, true, true, false, false, false, false, false, false, false, false, false, false, false, false, false, false, false, false, false, false, false, false] rfl rfl (by kernel_rfl) (by decide) (fun K hK => ?_)
  refine call_ 19 #[.int .i64 hi, .pointer (some ⟨w.heap.size, 0, none⟩), .pointer (some ⟨w.heap.size + 1, 0, none⟩)] (by rfl) rfl (by go_simp) ?_
  refine (HX.out _ HB.out ct ca cm _ K2.out).mono ?_
  rintro e' w10 ⟨rfl, hb⟩
  refine ⟨_, rfl, ?_⟩
  replace ct := pw_cell_below hb ct
  replace ca := pw_cell_below hb ca
  replace cm := pw_cell_below hb cm
  replace q0 := pw_cell_below hb q0
  replace q1 := pw_cell_below hb q1
  replace HB := Aside0.mk (below_step HB.out hb)
  clear hb
  refine hK.out _ _ ⟨q0, q1⟩ (fun hHeld => ?_)
  clear hK K
  refine norm_ (a' := ?_) ?_ ?_
  rotate_left
  · show Act.put _ (some 109) _ = _
    simp only [Act.put, List.setIfInBounds_toArray, List.set_cons_zero, List.set_cons_succ, i64_w, i32_w]
    rfl
  refine pure_ (i := 12) (N := some 111) (v := ?_) (a' := ?_) #[true, true, true, true, true, true, true, true, true, true, true, true, true, false, false, false, false, false, false, false, false, false, false, false, false, false, false, false, false, false, false, false] rfl rfl (by kernel_rfl) (fun _ _ _ h => h) (Or.inl ⟨by rfl, ?_⟩) ?_ ?_
  rotate_left
  · intro w'
    go_simp
    with_reducible rfl
  rotate_left
  · simp only [Act.put, List.setIfInBounds_toArray, List.set_cons_zero, List.set_cons_succ, i64_w, i32_w]
    rfl
  refine pure_ (i := 13) (N := some 112) (v := ?_) (a' := ?_) #[true, true, true, true, true, true, true, true, true, true, true, true, true, true, false, false, false, false, false, false, false, false, false, false, false, false, false, false, false, false, false, false] rfl rfl (by kernel_rfl) (fun _ _ _ h => h) (Or.inl ⟨by rfl, ?_⟩) ?_ ?_
  rotate_left
  · intro w'
    go_simp
    with_reducible rfl
  rotate_left
  · simp only [Act.put, List.setIfInBounds_toArray, List.set_cons_zero, List.set_cons_succ, i64_w, i32_w]
    rfl
  refine pure_ (i := 14) (N := some 113) (v := ?_) (a' := ?_) #[true, true, true, true, true, true, true, true, true, true, true, true, true, true, true, false, false, false, false, false, false, false, false, false, false, false, false, false, false, false, false, false] rfl rfl (by kernel_rfl) (fun _ _ _ h => h) (Or.inl ⟨by rfl, ?_⟩) ?_ ?_
  rotate_left
  · intro w'
    go_simp
    with_reducible rfl
  rotate_left
  · simp only [Act.put, List.setIfInBounds_toArray, List.set_cons_zero, List.set_cons_succ, i64_w, i32_w]
    rfl
  refine pure_ (i := 15) (N := some 114) (v := ?_) (a' := ?_) #[true, true, true, true, true, true, true, true, true, true, true, true, true, true, true, true, false, false, false, false, false, false, false, false, false, false, false, false, false, false, false, false] rfl rfl (by kernel_rfl) (fun _ _ _ h => h) (Or.inl ⟨by rfl, ?_⟩) ?_ ?_
  rotate_left
  · intro w'
    go_simp
    with_reducible rfl
  rotate_left
  · simp only [Act.put, List.setIfInBounds_toArray, List.set_cons_zero, List.set_cons_succ, i64_w, i32_w]
    rfl
  refine pure_ (i := 16) (N := some 115) (v := ?_) (a' := ?_) #[true, true, true, true, true, true, true, true, true, true, true, true, true, true, true, true, true, false, false, false, false, false, false, false, false, false, false, false, false, false, false, false] rfl rfl (by kernel_rfl) (fun _ _ _ h => h) (Or.inl ⟨by rfl, ?_⟩) ?_ ?_
  rotate_left
  · intro w'
    go_simp
    with_reducible rfl
  rotate_left
  · simp only [Act.put, List.setIfInBounds_toArray, List.set_cons_zero, List.set_cons_succ, i64_w, i32_w]
    rfl
  refine pure_ (i := 18) (N := some 117) (v := ?_) (a' := ?_) #[true, true, true, true, true, true, true, true, true, true, true, true, true, true, true, true, true, false, true, false, false, false, false, false, false, false, false, false, false, false, false, false] rfl rfl (by kernel_rfl) (fun _ _ _ h => h) (Or.inl ⟨by rfl, ?_⟩) ?_ ?_
  rotate_left
  · intro w'
    go_simp
    with_reducible rfl
  rotate_left
  · simp only [Act.put, List.setIfInBounds_toArray, List.set_cons_zero, List.set_cons_succ, i64_w, i32_w]
    rfl
  refine pure_ (i := 19) (N := some 118) (v := ?_) (a' := ?_) #[true, true, true, true, true, true, true, true, true, true, true, true, true, true, true, true, true, false, true, true, false, false, false, false, false, false, false, false, false, false, false, false] rfl rfl (by kernel_rfl) (fun _ _ _ h => h) (Or.inl ⟨by rfl, ?_⟩) ?_ ?_
  rotate_left
  · intro w'
    go_simp
    with_reducible rfl
  rotate_left
  · simp only [Act.put, List.setIfInBounds_toArray, List.set_cons_zero, List.set_cons_succ, i64_w, i32_w]
    rfl
  refine pure_ (i := 20) (N := some 119) (v := ?_) (a' := ?_) #[true, true, true, true, true, true, true, true, true, true, true, true, true, true, true, true, true, false, true, true, true, false, false, false, false, false, false, false, false, false, false, false] rfl rfl (by kernel_rfl) (fun _ _ _ h => h) (Or.inl ⟨by rfl, ?_⟩) ?_ ?_
  rotate_left
  · intro w'
    go_simp
    with_reducible rfl
  rotate_left
  · simp only [Act.put, List.setIfInBounds_toArray, List.set_cons_zero, List.set_cons_succ, i64_w, i32_w]
    rfl
  refine pure_ (i := 22) (N := some 121) (v := ?_) (a' := ?_) #[true, true, true, true, true, true, true, true, true, true, true, true, true, true, true, true, true, false, true, true, true, false, true, false, false, false, false, false, false, false, false, false] rfl rfl (by kernel_rfl) (fun _ _ _ h => h) (Or.inl ⟨by rfl, ?_⟩) ?_ ?_
  rotate_left
  · intro w'
    go_simp
    with_reducible rfl
  rotate_left
  · simp only [Act.put, List.setIfInBounds_toArray, List.set_cons_zero, List.set_cons_succ, i64_w, i32_w]
    rfl
  refine pure_ (i := 29) (N := some 128) (v := ?_) (a' := ?_) #[true, true, true, true, true, true, true, true, true, true, true, true, true, true, true, true, true, false, true, true, true, false, true, false, false, false, false, false, false, true, false, false] rfl rfl (by kernel_rfl) (fun _ _ _ h => h) (Or.inl ⟨by rfl, ?_⟩) ?_ ?_
  rotate_left
  · intro w'
    go_simp
    with_reducible rfl
  rotate_left
  · simp only [Act.put, List.setIfInBounds_toArray, List.set_cons_zero, List.set_cons_succ, i64_w, i32_w]
    rfl
  refine take_ (i := 17) (N := some 116) (v := ?_) (a' := ?_) #[true, true, true, true, true, true, true, true, true, true, true, true, true, true, true, true, true, true, true, true, true, false, true, false, false, false, false, false, false, true, false, false] rfl rfl (by kernel_rfl) (fun _ _ _ h => h) (Or.inl ⟨by rfl, ?_⟩) hHeld ?_ ?_
  rotate_left
  · rintro w' ⟨s0, s1⟩
    go_simp
    with_reducible rfl
  rotate_left
  · simp only [Act.put, List.setIfInBounds_toArray, List.set_cons_zero, List.set_cons_succ, i64_w, i32_w]
    rfl
  refine take_ (i := 21) (N := some 120) (v := ?_) (a' := ?_) #[true, true, true, true, true, true, true, true, true, true, true, true, true, true, true, true, true, true, true, true, true, true, true, false, false, false, false, false, false, true, false, false] rfl rfl (by kernel_rfl) (fun _ _ _ h => h) (Or.inl ⟨by rfl, ?_⟩) hHeld ?_ ?_
  rotate_left
  · rintro w' ⟨s0, s1⟩
    go_simp
    with_reducible rfl
  rotate_left
  · simp only [Act.put, List.setIfInBounds_toArray, List.set_cons_zero, List.set_cons_succ, i64_w, i32_w]
    rfl
  refine take_ (i := 23) (N := some 122) (v := ?_) (a' := ?_) #[true, true, true, true, true, true, true, true, true, true, true, true, true, true, true, true, true, true, true, true, true, true, true, true, false, false, false, false, false, true, false, false] rfl rfl (by kernel_rfl) (fun _ _ _ h => h) (Or.inl ⟨by rfl, ?_⟩) hHeld ?_ ?_
  rotate_left
  · rintro w' ⟨s0, s1⟩
    go_simp
    with_reducible rfl
  rotate_left
  · simp only [Act.put, List.setIfInBounds_toArray, List.set_cons_zero, List.set_cons_succ, i64_w, i32_w]
    rfl
  refine pure_ (i := 24) (N := some 123) (v := ?_) (a' := ?_) #[true, true, true, true, true, true, true, true, true, true, true, true, true, true, true, true, true, true, true, true, true, true, true, true, true, false, false, false, false, true, false, false] rfl rfl (by kernel_rfl) (fun _ _ _ h => h) (Or.inl ⟨by rfl, ?_⟩) ?_ ?_
  rotate_left
  · intro w'
    go_simp
    with_reducible rfl
  rotate_left
  · simp only [Act.put, List.setIfInBounds_toArray, List.set_cons_zero, List.set_cons_succ, i64_w, i32_w]
    rfl
  refine pure_ (i := 25) (N := some 124) (v := ?_) (a' := ?_) #[true, true, true, true, true, true, true, true, true, true, true, true, true, true, true, true, true, true, true, true, true, true, true, true, true, true, false, false, false, true, false, false] rfl rfl (by kernel_rfl) (fun _ _ _ h => h) (Or.inl ⟨by rfl, ?_⟩) ?_ ?_
  rotate_left
  · intro w'
    go_simp
    with_reducible rfl
  rotate_left
  · simp only [Act.put, List.setIfInBounds_toArray, List.set_cons_zero, List.set_cons_succ, i64_w, i32_w]
    rfl
  refine pure_ (i := 26) (N := some 125) (v := ?_) (a' := ?_) #[true, true, true, true, true, true, true, true, true, true, true, true, true, true, true, true, true, true, true, true, true, true, true, true, true, true, true, false, false, true, false, false] rfl rfl (by kernel_rfl) (fun _ _ _ h => h) (Or.inl ⟨by rfl, ?_⟩) ?_ ?_
  rotate_left
  · intro w'
    go_simp
    with_reducible rfl
  rotate_left
  · simp only [Act.put, List.setIfInBounds_toArray, List.set_cons_zero, List.set_cons_succ, i64_w, i32_w]
    rfl
  refine pure_ (i := 27) (N := some 126) (v := ?_) (a' := ?_) #[true, true, true, true, true, true, true, true, true, true, true, true, true, true, true, true, true, true, true, true, true, true, true, true, true, true, true, true, false, true, false, false] rfl rfl (by kernel_rfl) (fun _ _ _ h => h) (Or.inl ⟨by rfl, ?_⟩) ?_ ?_
  rotate_left
  · intro w'
    go_simp
    with_reducible rfl
  rotate_left
  · simp only [Act.put, List.setIfInBounds_toArray, List.set_cons_zero, List.set_cons_succ, i64_w, i32_w]
    rfl
  refine one_ (i := 28) (N := some 127) #[true, true, true, true, true, true, true, true, true, true, true, true, true, true, true, true, true, true, true, true, true, true, true, true, true, true, true, true, true, true, false, false] rfl rfl (by kernel_rfl) (by decide) (fun K hK => ?_)
  refine call_ 19 #[.int .i64 (lo + Int.tmod p (hi - lo + 1)), .pointer (some ⟨w.heap.size, 0, none⟩), .pointer (some ⟨w.heap.size + 1, 0, none⟩)] (by rfl) rfl (by go_simp) ?_
  refine (HX.out _ HB.out ct ca cm _ K3.out).mono ?_
  rintro e' w11 ⟨rfl, hb⟩
  refine ⟨_, rfl, ?_⟩
  replace ct := pw_cell_below hb ct
  replace ca := pw_cell_below hb ca
  replace cm := pw_cell_below hb cm
  replace q0 := pw_cell_below hb q0
  replace q1 := pw_cell_below hb q1
  replace HB := Aside0.mk (below_step HB.out hb)
  clear hb
  refine hK.out _ _ ⟨q0, q1⟩ (fun hHeld => ?_)
  clear hK K
  refine norm_ (a' := ?_) ?_ ?_
  rotate_left
  · show Act.put _ (some 127) _ = _
    simp only [Act.put, List.setIfInBounds_toArray, List.set_cons_zero, List.set_cons_succ, i64_w, i32_w]
    rfl
  refine pure_ (i := 30) (N := some 129) (v := ?_) (a' := ?_) #[true, true, true, true, true, true, true, true, true, true, true, true, true, true, true, true, true, true, true, true, true, true, true, true, true, true, true, true, true, true, true, false] rfl rfl (by kernel_rfl) (fun _ _ _ h => h) (Or.inl ⟨by rfl, ?_⟩) ?_ ?_
  rotate_left
  · intro w'
    go_simp
    with_reducible rfl
  rotate_left
  · simp only [Act.put, List.setIfInBounds_toArray, List.set_cons_zero, List.set_cons_succ, i64_w, i32_w]
    rfl
  refine pure_ (i := 31) (N := some 130) (v := ?_) (a' := ?_) #[true, true, true, true, true, true, true, true, true, true, true, true, true, true, true, true, true, true, true, true, true, true, true, true, true, true, true, true, true, true, true, true] rfl rfl (by kernel_rfl) (fun _ _ _ h => h) (Or.inl ⟨by rfl, ?_⟩) ?_ ?_
  rotate_left
  · intro w'
    go_simp
    with_reducible rfl
  rotate_left
  · simp only [Act.put, List.setIfInBounds_toArray, List.set_cons_zero, List.set_cons_succ, i64_w, i32_w]
    rfl
  refine done_ (by kernel_rfl) ?_
  clear K1 K2 K3 e1 e2 e3
  by_cases p1 : 0 < lo
  · have b6 : decide (0 < lo) = true := decide_eq_true p1
    replace E4 := E4.out p1
    replace K4 := Aside0.mk (K4.out p1)
    by_cases p2 : m + hi = 128849018880000
    · have b7 : (m + hi == 128849018880000) = true := beq_iff_eq.mpr p2
      clear p1 p2 E5 K5
      go_wp2_with (refine (HX.out _ HB.out ct ca cm _ K4.out).mono ?_; rintro e' w' ⟨rfl, hb⟩; replace ct := pw_cell_below hb ct; replace ca := pw_cell_below hb ca; replace cm := pw_cell_below hb cm; replace q0 := pw_cell_below hb q0; replace q1 := pw_cell_below hb q1; replace HB := Aside0.mk (below_step HB.out hb); clear hb)
      go_ret
      exact ⟨rfl, HB.out⟩
    · have b7 : (m + hi == 128849018880000) = false := beq_eq_false_iff_ne.mpr p2
      replace E5 := E5.out p2
      replace K5 := Aside0.mk (K5.out p2)
      clear p1 p2
      go_wp2_with (refine (HX.out _ HB.out ct ca cm _ (by first | exact K4.out | exact K5.out)).mono ?_; rintro e' w' ⟨rfl, hb⟩; replace ct := pw_cell_below hb ct; replace ca := pw_cell_below hb ca; replace cm := pw_cell_below hb cm; replace q0 := pw_cell_below hb q0; replace q1 := pw_cell_below hb q1; replace HB := Aside0.mk (below_step HB.out hb); clear hb)
      go_ret
      exact ⟨rfl, HB.out⟩
  · have b6 : decide (0 < lo) = false := decide_eq_false p1
    by_cases p2 : m + hi = 128849018880000
    · have b7 : (m + hi == 128849018880000) = true := beq_iff_eq.mpr p2
      clear p1 p2 E5 K5 E4 K4
      go_wp2
      go_ret
      exact ⟨rfl, HB.out⟩
    · have b7 : (m + hi == 128849018880000) = false := beq_eq_false_iff_ne.mpr p2
      replace E5 := E5.out p2
      replace K5 := Aside0.mk (K5.out p2)
      clear p1 p2 E4 K4
      go_wp2_with (refine (HX.out _ HB.out ct ca cm _ K5.out).mono ?_; rintro e' w' ⟨rfl, hb⟩; replace ct := pw_cell_below hb ct; replace ca := pw_cell_below hb ca; replace cm := pw_cell_below hb cm; replace q0 := pw_cell_below hb q0; replace q1 := pw_cell_below hb q1; replace HB := Aside0.mk (below_step HB.out hb); clear hb)
      go_ret
      exact ⟨rfl, HB.out⟩
def spilelaw28_ReduceJust.f (l0 : List S50) (a1_0 a1_1 a2 a3 : Int) : Option Bool := if 0 ≤ a3 ∧ a3 ≤ 4294967295 then some true else none
theorem LiqOK.gr_rng {l : List S50} {a m : Int} (h : LiqOK l a m) : 0 ≤ gradeS l a m ∧ gradeS l a m ≤ 10000 := by
  obtain ⟨g0, g1, _, _⟩ := h.grade
  exact ⟨g0, g1⟩
set_option maxHeartbeats 1000000 in
theorem spilelaw28_ReduceJust.calls (A0 : Option Addr) (c0 : Nat) (l0 : List S50) (a1_0 a1_1 a2 a3 : Int) (r : Bool) (w : World) (hr0 : Kd.C k50 w A0 l0.length l0) (hc0 : l0.length ≤ c0) (h : spilelaw28_ReduceJust.f l0 a1_0 a1_1 a2 a3 = some r) :
    Calls Try.prog 5 #[.slice A0 l0.length c0, .agg #[.int .i64 a1_0, .int .i64 a1_1], .int .i64 a2, .int .u32 a3] w fun e w' => e = .returned (.bool r) ∧ Below w.heap.size w w' := by
  unfold spilelaw28_ReduceJust.f at h
  by_cases hp : 0 ≤ a3 ∧ a3 ≤ 4294967295
  case neg => rw [if_neg hp] at h; exact absurd h (by simp)
  rw [if_pos hp] at h
  obtain rfl := Option.some.inj h
  clear h
  have hEx : ∀ e : Int, e ≠ 0 → e ≠ 7 → rngS l0 a1_0 a1_1 a2 = (0, 0, e) → ∀ b, spileref16_Few.f l0 = some b → Calls Try.prog 5 #[.slice A0 l0.length c0, .agg #[.int .i64 a1_0, .int .i64 a1_1], .int .i64 a2, .int .u32 a3] w fun e w' => e = .returned (.bool true) ∧ Below w.heap.size w w' := fun e h0 h7 hR b hb =>
    ReduceJust.none_ A0 c0 l0 a1_0 a1_1 a2 a3 (watS l0 a1_0 a1_1 a2).1 (watS l0 a1_0 a1_1 a2).2 e b w hr0 hc0 hb hR rfl (bne_iff_ne.mpr h0) (Or.inl (beq_eq_false_iff_ne.mpr h7))
  obtain ⟨b, hb⟩ := few_some l0
  cases b
  · exact ReduceJust.few_ A0 c0 l0 a1_0 a1_1 a2 a3 w hr0 hc0 hb
  by_cases hk : lchk l0 a1_0 a1_1 = 0
  case neg => exact hEx 1 (by decide) (by decide) (by unfold rngS; rw [if_pos hk]) true hb
  by_cases ht : a2 < 0 ∨ 10000 < a2
  · exact hEx 2 (by decide) (by decide) (by unfold rngS; rw [if_neg (not_not_intro hk), if_pos ht]) true hb
  have hL := (lchk_iff _ _ _).1 hk
  have m0 := hL.m0
  have m1 := hL.m1
  obtain ⟨b0, b1, b2, b3⟩ := hL.least a2
  obtain ⟨d0, d1, d2, d3⟩ := hL.least (a2 - 1)
  by_cases hg : leastS l0 a1_0 a1_1 a2 > highS l0 a1_0 a1_1 a2
  · have hR : rngS l0 a1_0 a1_1 a2 = (0, 0, 7) := by unfold rngS; rw [if_neg (not_not_intro hk), if_neg ht, if_pos hg]
    by_cases hroom : leastS l0 a1_0 a1_1 a2 > 128849018880000 - a1_1
    · exact ReduceJust.none_ A0 c0 l0 a1_0 a1_1 a2 a3 0 15 7 true w hr0 hc0 hb hR (by unfold watS; rw [if_neg (not_not_intro hk), if_neg ht, if_pos hroom]) (by decide) (Or.inr ⟨by decide, by decide⟩)
    · have hW : watS l0 a1_0 a1_1 a2 = (leastS l0 a1_0 a1_1 a2, 0) := by unfold watS; rw [if_neg (not_not_intro hk), if_neg ht, if_neg hroom]
      · have hl := hL.wet (m' := a1_1 + leastS l0 a1_0 a1_1 a2) (by omega) (by omega)
        have hle := b3 _ (Int.le_refl _) (by omega)
        refine ReduceJust.gap_ A0 c0 l0 a1_0 a1_1 a2 a3 (leastS l0 a1_0 a1_1 a2) (gradeS l0 a1_0 (a1_1 + leastS l0 a1_0 a1_1 a2)) w hr0 hc0 hb hR hW (Str.yes hl) (w64_ (by omega) (by omega)) (bne_iff_ne.mpr ?_)
        intro heq
        unfold highS at hg
        by_cases hz : a2 > 0
        · rw [if_pos hz] at hg
          have := d3 (leastS l0 a1_0 a1_1 a2) (by omega) (by omega)
          omega
        · rw [if_neg hz] at hg
          omega
  · have hR : rngS l0 a1_0 a1_1 a2 = (leastS l0 a1_0 a1_1 a2, highS l0 a1_0 a1_1 a2, 0) := by unfold rngS; rw [if_neg (not_not_intro hk), if_neg ht, if_neg hg]
    have hhi : highS l0 a1_0 a1_1 a2 ≤ 128849018880000 - a1_1 := by unfold highS; split <;> omega
    have hW : watS l0 a1_0 a1_1 a2 = (leastS l0 a1_0 a1_1 a2, 0) := by unfold watS; rw [if_neg (not_not_intro hk), if_neg ht, if_neg (by omega)]
    have n1 : leastS l0 a1_0 a1_1 a2 ≤ highS l0 a1_0 a1_1 a2 := by omega
    obtain ⟨hi, hhi_⟩ : ∃ hi, hi = highS l0 a1_0 a1_1 a2 := ⟨_, rfl⟩
    obtain ⟨lo, hlo_⟩ : ∃ lo, lo = leastS l0 a1_0 a1_1 a2 := ⟨_, rfl⟩
    rw [← hhi_] at hR hhi n1
    rw [← hlo_] at hR hW n1 b0 b2 b3
    have r0 := Int.emod_nonneg a3 (show hi - lo + 1 ≠ 0 by omega)
    have r1 := Int.emod_lt_of_pos a3 (show 0 < hi - lo + 1 by omega)
    rw [← Int.tmod_eq_emod_of_nonneg hp.1] at r0 r1
    have hwet : ∀ x, 0 ≤ x → x ≤ 128849018880000 - a1_1 → LiqOK l0 a1_0 (a1_1 + x) := fun x h0 h1 => hL.wet (m' := a1_1 + x) (by omega) (by omega)
    have hin : ∀ x, lo ≤ x → x ≤ hi → gradeS l0 a1_0 (a1_1 + x) = a2 := fun x h0 h1 => by
      have q1 := b3 x h0 (by omega)
      have q2 := (hwet x (by omega) (by omega)).gr_rng
      unfold highS at hhi_
      by_cases hz : a2 > 0
      · rw [if_pos hz] at hhi_
        have := d2 x (by omega) (by omega)
        omega
      · omega
    refine ReduceJust.just_ (fun x => gradeS l0 a1_0 (a1_1 + x)) (fun x => 0 ≤ x ∧ x ≤ 128849018880000 - a1_1) A0 c0 l0 a1_0 a1_1 a2 a3 lo hi w hr0 hc0 hb hR hW b0 n1 (by omega) m0 hp.1 hp.2 r0 r1
      (fun x hx => ⟨Str.yes (hwet x hx.1 hx.2), w64_ (by omega) (by omega)⟩) ⟨by omega, by omega⟩ ⟨by omega, by omega⟩ ⟨by omega, by omega⟩ (fun _ => ⟨by omega, by omega⟩) (fun q => ⟨by omega, by omega⟩)
      (bne_eq_false_iff_eq.mpr (hin lo (Int.le_refl _) n1)) (bne_eq_false_iff_eq.mpr (hin hi n1 (Int.le_refl _))) (bne_eq_false_iff_eq.mpr (hin _ (by omega) (by omega))) (fun q => beq_eq_false_iff_ne.mpr ?_) (fun q => bne_iff_ne.mpr ?_)
    · show gradeS l0 a1_0 (a1_1 + (lo - 1)) ≠ a2
      have := b2 (lo - 1) (by omega) (by omega)
      omega
    · show gradeS l0 a1_0 (a1_1 + (hi + 1)) ≠ a2
      unfold highS at hhi_
      by_cases hz : a2 > 0
      · rw [if_pos hz] at hhi_
        have := d3 (hi + 1) (by omega) (by omega)
        omega
      · rw [if_neg hz] at hhi_
        omega

end Go.Proofs.Ytdggkgkbjgigmaa.PF
