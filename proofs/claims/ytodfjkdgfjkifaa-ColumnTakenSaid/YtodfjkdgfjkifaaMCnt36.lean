/- slices.ContainsFunc over flows, and the closures of column.Merge. -/
import Derived.Test.YtodfjkdgfjkifaaPF0
import Derived.Test.YtodfjkdgfjkifaaPF1
namespace Go.Proofs.Ytodfjkdgfjkifaa.PF
open Go.RowKit Go.Proofs.YtodfjkdgfjkifaaW.PrintWords Go.Proofs.YtodfjkdgfjkifaaW.PrintLast Go.Proofs.YtodfjkdgfjkifaaW.PrintMore
set_option linter.unusedVariables false
set_option linter.unusedSimpArgs false
set_option maxHeartbeats 4000000 in
set_option maxRecDepth 1000000 in
/-- slices.IndexFunc[[]spile/api.Flow,spile/api.Flow] over a closure that may make memory. -/
theorem flowIndexFunc.below (g : Nat) (cb : Array Value) (A : Option Addr) (c : Nat) (l : List S28) (q : Nat → Bool) (w : World) (eg : ∀ args w, (callFunc g args).run Try.prog w = .ok (.enter g args) w) (hsz : l.length < 4611686018427387904) (hr : Kd.C k28 w A l.length l)
    (hf : ∀ (W : World) (i : Int), 0 ≤ i → i < l.length → Below w.heap.size w W → Calls Try.prog g (#[.agg #[.int .i64 (rd_T28 l i).f0, .int .i64 (rd_T28 l i).f1, .int .i64 (rd_T28 l i).f2, .int .i64 (rd_T28 l i).f3]] ++ cb) W fun e w' => e = .returned (.bool (q i.toNat)) ∧ Below W.heap.size W w') :
    Calls Try.prog 43 #[.slice A l.length c, .func (.func g) #[] cb] w fun e w' => e = .returned (.int .i64 (idxP q l.length 0)) ∧ Below w.heap.size w w' := by
  have hu := Try.underlying28
  have HF := Aside0.mk hf
  have HR := Aside0.mk hr
  clear hf hr
  obtain ⟨res, hres⟩ : ∃ res, idxP q l.length 0 = res := ⟨_, rfl⟩
  rw [hres]
  have HS := Aside0.mk hres
  clear hres
  go_enter Try.func43, Try.ntmps43
  go_wp2
  go_loopg [5, 8] l.length (fun kx s5 s8 wr => ∃ x : Int, s8 = .int .i64 x ∧ Aside0 (0 ≤ x ∧ x ≤ l.length ∧ l.length - x.toNat ≤ kx ∧ ∀ j, j < x.toNat → q j = false) ∧ Aside0 (Below w.heap.size w wr))
  case atStart => exact ⟨0, rfl, ⟨by omega, by omega, by omega, fun j hj => by simp at hj⟩, ⟨Below.refl _ _⟩⟩
  case round =>
    obtain ⟨x, rfl, HX, HB⟩ := hrel
    by_cases hlt : x < (l.length : Int)
    · have hltb : decide (x < (l.length : Int)) = true := decide_eq_true hlt
      have p1 : 0 ≤ x := HX.out.1
      obtain ⟨ad, e, h1, h2, h3, h4⟩ := at_T28 HR.out x p1 hlt
      cases e
      replace h1 := pw_cell_below HB.out h1
      replace h2 := pw_cell_below HB.out h2
      replace h3 := pw_cell_below HB.out h3
      replace h4 := pw_cell_below HB.out h4
      have hc := Aside0.mk (HF.out _ x p1 hlt HB.out)
      have HLT := Aside0.mk hlt
      clear hlt
      replace p1 := eq_true p1
      have p2 : (x < (l.length : Int)) = True := eq_true HLT.out
      generalize (rd_T28 l x).f0 = y0 at h1 hc
      generalize (rd_T28 l x).f1 = y1 at h2 hc
      generalize (rd_T28 l x).f2 = y2 at h3 hc
      generalize (rd_T28 l x).f3 = y3 at h4 hc
      have hw : wrap64 (x + 1) = x + 1 := by have := HX.out.1; have := HLT.out; unfold wrap64; omega
      have HW := Aside0.mk hw
      clear hw
      cases hq : q x.toNat
      · rw [hq] at hc
        have HQ := Aside0.mk hq
        clear hq
        go_wp2_with (refine hc.out.mono ?_; rintro e w' ⟨rfl, hb2⟩)
        have HB2 := Aside0.mk (below_then HB.out HB.out.size hb2)
        go_roundg (l.length - (x + 1).toNat)
        case measure => have := HX.out; have := HLT.out; omega
        case rel => exact ⟨x + 1, by rw [HW.out], ⟨by have := HX.out; omega, by have := HLT.out; omega, Nat.le_refl _, fun j hj => by
          rcases Nat.lt_or_ge j x.toNat with h | h
          · exact HX.out.2.2.2 j h
          · have e : j = x.toNat := by have := HX.out.1; omega
            rw [e]; exact HQ.out⟩, HB2⟩
      · rw [hq] at hc
        have er : x = res := by
          rw [← HS.out, idxP_found q x.toNat l.length 0 hq (fun j _ hj => HX.out.2.2.2 j hj) (Nat.zero_le _) (by have := HX.out; have := HLT.out; omega)]
          have := HX.out.1; omega
        have ER := Aside0.mk er
        clear hq er
        go_wp2_with (refine hc.out.mono ?_; rintro e w' ⟨rfl, hb2⟩)
        have HB2 := Aside0.mk (below_then HB.out HB.out.size hb2)
        go_ret
        exact ⟨by rw [← ER.out]; rfl, HB2.out⟩
    · have hltb : decide (x < (l.length : Int)) = false := decide_eq_false hlt
      have er : -1 = res := by
        rw [← HS.out]
        exact (idxP_none q l.length 0 (fun j _ hj => HX.out.2.2.2 j (by have := HX.out; omega))).symm
      have ER := Aside0.mk er
      clear hlt er
      go_wp2
      go_ret
      exact ⟨by rw [← ER.out]; rfl, HB.out⟩

set_option maxHeartbeats 4000000 in
set_option maxRecDepth 1000000 in
theorem flowContainsFunc.below (g : Nat) (cb : Array Value) (A : Option Addr) (c : Nat) (l : List S28) (q : Nat → Bool) (w : World) (eg : ∀ args w, (callFunc g args).run Try.prog w = .ok (.enter g args) w) (hsz : l.length < 4611686018427387904) (hr : Kd.C k28 w A l.length l)
    (hf : ∀ (W : World) (i : Int), 0 ≤ i → i < l.length → Below w.heap.size w W → Calls Try.prog g (#[.agg #[.int .i64 (rd_T28 l i).f0, .int .i64 (rd_T28 l i).f1, .int .i64 (rd_T28 l i).f2, .int .i64 (rd_T28 l i).f3]] ++ cb) W fun e w' => e = .returned (.bool (q i.toNat)) ∧ Below W.heap.size W w') :
    Calls Try.prog 40 #[.slice A l.length c, .func (.func g) #[] cb] w fun e w' => e = .returned (.bool (decide (0 ≤ idxP q l.length 0))) ∧ Below w.heap.size w w' := by
  have HC := Aside0.mk (flowIndexFunc.below g cb A c l q w eg hsz hr hf)
  clear hf hr eg
  generalize idxP q l.length 0 = r at HC ⊢
  go_enter Try.func40, Try.ntmps40
  go_wp2_with (refine HC.out.mono ?_; rintro e w' ⟨rfl, hb⟩)
  go_ret
  exact ⟨rfl, hb⟩

/-- The number of a plate behind a merging. -/
def mgN (q n : Int) : Int := if q < n then n - 1 else n
set_option maxHeartbeats 1000000 in
set_option maxRecDepth 100000 in
theorem merge.num (gq : Nat) (q n : Int) (w : World) (hq : w.cell? ⟨gq, 0, none⟩ = some (.int .i64 q)) (hn : IntKind.i64.wrap (n - 1) = n - 1) :
    Calls Try.prog 39 (#[.int .i64 n] ++ #[.pointer (some ⟨gq, 0, none⟩)]) w fun e w' => e = .returned (.int .i64 (mgN q n)) ∧ w' = w := by
  unfold mgN
  by_cases h : q < n
  · have hb : decide (q < n) = true := decide_eq_true h
    rw [if_pos h]
    clear h
    go_enter Try.func39, Try.ntmps39
    go_wp2
    go_ret
    exact ⟨rfl, rfl⟩
  · have hb : decide (q < n) = false := decide_eq_false h
    rw [if_neg h]
    clear h
    go_enter Try.func39, Try.ntmps39
    go_wp2
    go_ret
    exact ⟨rfl, rfl⟩
/-- Is a flow beyond the limits? -/
def big36 (f : S28) : Bool := decide (10737418240000 < f.f2) || decide (128849018880000 < f.f3)
set_option maxHeartbeats 1000000 in
set_option maxRecDepth 100000 in
theorem merge.big (f : S28) (w : World) :
    Calls Try.prog 41 (#[.agg #[.int .i64 f.f0, .int .i64 f.f1, .int .i64 f.f2, .int .i64 f.f3]] ++ #[]) w fun e w' => e = .returned (.bool (big36 f)) ∧ Below w.heap.size w w' := by
  have hu := Try.underlying28
  unfold big36
  obtain ⟨y0, y1, y2, y3⟩ := f
  simp only
  cases h1 : decide (10737418240000 < y2) <;> cases h2 : decide (128849018880000 < y3)
  all_goals
    go_enter Try.func41, Try.ntmps41
    go_wp2_with ((with_reducible refine gate_dst (N := 1) rfl ?_); refine box_event ?hg (N := 1) ?hd (cs := #[.int .i64 y0, .int .i64 y1, .int .i64 y2, .int .i64 y3]) (t := 28) ?hr ?_; (case hd => rfl); (case hg => rfl); (case hr => first | (go_simp; done) | (go_simp; rfl)); intro gb hg w3 hbox hb; have c2 : w3.cell? ⟨gb, 2, none⟩ = some (.int .i64 y2) := blk_cell hbox 2; have c3 : w3.cell? ⟨gb, 3, none⟩ = some (.int .i64 y3) := blk_cell hbox 3; have HB := Aside0.mk hb; clear hbox hb hg)
    go_ret
    exact ⟨rfl, HB.out⟩

end Go.Proofs.Ytodfjkdgfjkifaa.PF
