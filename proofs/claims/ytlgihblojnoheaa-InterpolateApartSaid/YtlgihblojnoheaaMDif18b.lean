/- interpolate.Differ: what it returns. -/
import Derived.Test.YtlgihblojnoheaaMDif18
import Derived.Test.YtlgihblojnoheaaMEv
import Derived.Test.YtlgihblojnoheaaPF0
import Derived.Test.YtlgihblojnoheaaPF5
import Derived.RangeFuncNested
import Derived.RangeFuncBound
import Derived.RangeFuncCalls
import Derived.RangeFuncLeaves
import Derived.RangeFuncBox
import Derived.Shelf.Abstract
import Derived.Shelf.RegionOpen
import Derived.WalkKit
import Derived.OwnWalkIn
import Derived.TacticsInMore
import Derived.LoopNIn
import Derived.LoopIn
import Derived.Sort.LoopGhostIn
namespace Go.Proofs.Ytlgihblojnoheaa.PF
open Go.RowKit Go.Proofs.YtlgihblojnoheaaW.PrintWords Go.Proofs.YtlgihblojnoheaaW.PrintLast Go.Proofs.YtlgihblojnoheaaW.PrintMore
set_option linter.unusedVariables false
set_option linter.unusedSimpArgs false
attribute [local go_sem] Oper.semAt_some
/-- What a round makes of the greatest difference and its strength. -/
def difF (t u : List S34) (n : Int) (acc : Int × Int) (j : Nat) : Int × Int :=
  let d := mx (dens t (sAt n j) - dens u (sAt n j)) (dens u (sAt n j) - dens t (sAt n j))
  if acc.1 < d then (d, sAt n j) else acc
def difS (t u : List S34) (n : Int) (js : List Nat) : Int × Int := js.foldl (difF t u n) (-1, 0)
def nRounds (n : Int) : Nat := (10000 / n).toNat + 1
theorem nRounds_iff {n : Int} (h : 1 ≤ n) (j : Nat) : j < nRounds n ↔ (j : Int) * n ≤ 10000 := by
  unfold nRounds
  have h1 : (0 : Int) ≤ 10000 / n := Int.ediv_nonneg (by omega) (by omega)
  have h2 : ((10000 / n).toNat : Int) = 10000 / n := by omega
  constructor
  · intro hj
    exact (Int.le_ediv_iff_mul_le (by omega)).1 (by omega)
  · intro hj
    have := (Int.le_ediv_iff_mul_le (c := n) (a := (j : Int)) (b := 10000) (by omega)).2 hj
    omega
set_option maxHeartbeats 2000000 in
set_option maxRecDepth 100000 in
theorem differ.good (A1 A2 : Option Addr) (c1 c2 : Nat) (t u : List S34) (n : Int) (w : World) (hd : 1 ≤ n ∧ n ≤ 10000) (h1 : Kd.C k34 w A1 t.length t) (hc1 : t.length ≤ c1) (h2 : Kd.C k34 w A2 u.length u) (hc2 : u.length ≤ c2) (ok1 : (dchk t).2 = 0) (ok2 : (dchk u).2 = 0) :
    Calls Try.prog 24 #[.slice A1 t.length c1, .slice A2 u.length c2, .int .i64 n] w fun e w' => e = .returned (.tuple #[.int .i64 (difS t u n (List.range (nRounds n))).1, .int .i64 (difS t u n (List.range (nRounds n))).2, .int .i64 0]) ∧ Below w.heap.size w w' := by
  have eg : ∀ args w, (callFunc 43 args).run Try.prog w = .ok (.enter 43 args) w := enters_of Try.func43 (by kernel_rfl) rfl
  have hq1 : notR t = false := by unfold notR; rw [ok1]; rfl
  have hq2 : notR u = false := by unfold notR; rw [ok2]; rfl
  have HCF := Aside0.mk (fun (W : World) (g : Nat) (hB : Below w.heap.size w W) (d1 : W.cell? ⟨g, 0, none⟩ = some (.slice A1 t.length c1)) (d2 : W.cell? ⟨g, 1, none⟩ = some (.slice A2 u.length c2)) =>
    contains2.known 43 g _ _ (notR t) (notR u) W eg d1 d2 rfl rfl (fun W' hb => differ.clo A1 c1 t W' (Kd.C_below h1 (below_step hB hb)) hc1) (fun W' hb => differ.clo A2 c2 u W' (Kd.C_below h2 (below_step hB hb)) hc2))
  rw [hq1, hq2] at HCF
  have b1 : decide (n < 1) = false := decide_eq_false (by omega)
  have b2 : decide (10000 < n) = false := decide_eq_false (by omega)
  have HD := Aside0.mk hd
  have HC1 := Aside0.mk h1
  have HC2 := Aside0.mk h2
  have HL1 := Aside0.mk hc1
  have HL2 := Aside0.mk hc2
  have OK1 := Aside0.mk ok1
  have OK2 := Aside0.mk ok2
  clear hq1 hq2 eg h1 h2 hc1 hc2 ok1 ok2 hd
  refine (callsIn_wide (n := 6)).1 ?_
  refine callsIn_of_wp_marks Try.func24 rfl trivial ?_ rfl
  simp only [Try.ntmps24, List.size_toArray, List.length_cons, List.length_nil, Nat.reduceAdd, Nat.reduceSub, Array.replicate_succ, Array.replicate_zero, List.push_toArray, List.append_toArray, List.nil_append, List.cons_append]
  gi_wp2_with fail
  have hbk := blk_new w (.cells #[.slice A1 t.length c1, .slice A2 u.length c2] 22)
  refine ⟨trivial, (callsIn_wide.2 (HCF.out _ w.heap.size (below_alloc (Below.refl _ _) _) (by rw [blk_cell hbk]; rfl) (by rw [blk_cell hbk]; rfl))).mono ?_⟩
  rintro e w2 ⟨rfl, hb⟩
  have HB2 := Aside0.mk (below_step (below_alloc (Below.refl _ _) _) hb)
  clear hb HCF hbk
  gi_wp2_with fail
  obtain ⟨W5, hW5⟩ : ∃ W5, W5 = (w2.alloc (Obj.cells #[Value.int IntKind.i64 (-1)] 3)).alloc (Obj.cells #[Value.int IntKind.i64 0] 3) := ⟨_, rfl⟩
  have hs5 : W5.heap.size = w2.heap.size + 1 + 1 := by rw [hW5]; simp
  have bM : Boxed W5 w2.heap.size 3 (.int .i64 (-1)) := by rw [hW5]; exact (Boxed.new w2 _ _).alloc _
  have bX : Boxed W5 (w2.heap.size + 1) 3 (.int .i64 0) := by rw [hW5]; have := Boxed.new (w2.alloc (Obj.cells #[Value.int IntKind.i64 (-1)] 3)) 3 (.int .i64 0); rwa [World.size_alloc] at this
  have hB5 : Below w.heap.size w W5 := by rw [hW5]; exact (HB2.out.alloc HB2.out.size _).alloc (by have := HB2.out.size; simp; omega) _
  rw [← hW5]
  clear hW5
  refine ⟨trivial, (callsIn_wide.2 (pairs.known A1 A2 c1 c2 t u n W5)).mono ?_⟩
  rintro e w' ⟨rfl, rfl⟩
  obtain ⟨W0, hW0⟩ : ∃ W0, W0 = ((W5.alloc (.cells #[.slice A1 t.length c1] 22)).alloc (.cells #[.slice A2 u.length c2] 22)).alloc (.cells #[.int .i64 n] 3) := ⟨_, rfl⟩
  have hs0 : W0.heap.size = w2.heap.size + 1 + 1 + 3 := by rw [hW0]; simp [hs5]
  have bM0 : Boxed W0 w2.heap.size 3 (.int .i64 (-1)) := by rw [hW0]; exact ((bM.alloc _).alloc _).alloc _
  have bX0 : Boxed W0 (w2.heap.size + 1) 3 (.int .i64 0) := by rw [hW0]; exact ((bX.alloc _).alloc _).alloc _
  have hB0 : Below w.heap.size w W0 := by rw [hW0]; exact ((hB5.alloc hB5.size _).alloc (by have := hB5.size; simp; omega) _).alloc (by have := hB5.size; simp; omega) _
  have e1 : W0.cell? ⟨w2.heap.size + 1 + 1, 0, none⟩ = some (.slice A1 t.length c1) := by
    have h := (((Boxed.new W5 22 (.slice A1 t.length c1)).alloc (.cells #[.slice A2 u.length c2] 22)).alloc (.cells #[.int .i64 n] 3)).cell
    rw [hs5, ← hW0] at h
    exact h
  have e2 : W0.cell? ⟨w2.heap.size + 1 + 1 + 1, 0, none⟩ = some (.slice A2 u.length c2) := by
    have h := ((Boxed.new (W5.alloc (.cells #[.slice A1 t.length c1] 22)) 22 (.slice A2 u.length c2)).alloc (.cells #[.int .i64 n] 3)).cell
    rw [World.size_alloc, hs5, ← hW0] at h
    exact h
  have e3 : W0.cell? ⟨w2.heap.size + 1 + 1 + 2, 0, none⟩ = some (.int .i64 n) := by
    have h := (Boxed.new ((W5.alloc (.cells #[.slice A1 t.length c1] 22)).alloc (.cells #[.slice A2 u.length c2] 22)) 3 (.int .i64 n)).cell
    rw [World.size_alloc, World.size_alloc, hs5, ← hW0] at h
    exact h
  have hE : EnvP w (w2.heap.size + 1 + 1) A1 A2 c1 c2 t u n W0 := ⟨hB0, e1, e2, e3⟩
  have HS2 := Aside0.mk (show w.heap.size ≤ w2.heap.size from HB2.out.size)
  rw [← hW0, hs5]
  clear hW0 e1 e2 e3 hB0 hB5 bM bX hs5
  gi_wp2_with fail
  refine wpIn_rangeFunc_ownH rfl (by omega) (gf := 55) (lb := #[.pointer (some ⟨w2.heap.size + 1 + 1 + 2, 0, none⟩), .pointer (some ⟨w2.heap.size + 1 + 1, 0, none⟩), .pointer (some ⟨w2.heap.size + 1 + 1 + 1, 0, none⟩)]) rfl trivial (enters_of Try.func55 (by kernel_rfl) rfl)
    (encs := encP t u n) (Kp := fun X Y => EnvP w (w2.heap.size + 1 + 1) A1 A2 c1 c2 t u n X → EnvP w (w2.heap.size + 1 + 1) A1 A2 c1 c2 t u n Y) (S := fun ys => ys = List.range (nRounds n)) (Sp := fun pre => pre <+: List.range (nRounds n)) (N := nRounds n) (w0 := W0)
    (fun l J Jx W hW hJ hJx hY h0 => pairs.iter 5 w (w2.heap.size + 1 + 1) A1 A2 c1 c2 t u n l J Jx W HD.out HC1.out HL1.out HC2.out HL2.out OK1.out OK2.out hJ (nRounds n) (nRounds_iff HD.out.1) hY (hE.step hW) h0)
    (fun h k x => k (h x)) ?kb (Below.refl _ _) (fun _ => rfl)
    (fun pre W => (Boxed W w2.heap.size 3 (.int .i64 (difS t u n pre).1) ∧ Boxed W (w2.heap.size + 1) 3 (.int .i64 (difS t u n pre).2)) ∧ EnvP w (w2.heap.size + 1 + 1) A1 A2 c1 c2 t u n W)
    (fun _ _ _ => False)
    ?own
    (fun _ _ _ _ _ hs _ _ => hs)
    ⟨⟨bM0, bX0⟩, hE⟩
    (fun x a' W => ∃ Bx, w2.heap.size + 1 + 1 + 2 < Bx ∧ W.heap[Bx]? = some (.cells #[.int .i64 (dens t (sAt n x)), .int .i64 (dens u (sAt n x))] 58 (0, 0)) ∧ a' = { tmps := #[Value.slice A1 t.length c1, Value.slice A2 u.length c2, Value.int IntKind.i64 n, undef, undef, undef, Value.int IntKind.i64 0, Value.int IntKind.i64 0, Value.int IntKind.i64 0, Value.pointer (some ⟨w2.heap.size, 0, none⟩), Value.pointer (some ⟨w2.heap.size + 1, 0, none⟩), Value.int IntKind.i64 (sAt n x), Value.pointer (some ⟨Bx, 0, none⟩), undef, Value.bool false, Value.slice A1 t.length c1, Value.slice A2 u.length c2, Value.slice (some ⟨w.heap.size, 0, none⟩) 2 2, Value.bool false, Value.bool false, Value.int IntKind.i64 n, Value.bool false, Value.bool false, Value.int IntKind.i64 n, Value.bool false, Value.bool false, Value.slice A1 t.length c1, Value.slice A2 u.length c2, Value.int IntKind.i64 n, Value.func (Fn.func 55) #[] #[.pointer (some ⟨w2.heap.size + 1 + 1 + 2, 0, none⟩), .pointer (some ⟨w2.heap.size + 1 + 1, 0, none⟩), .pointer (some ⟨w2.heap.size + 1 + 1 + 1, 0, none⟩)], Value.int IntKind.i64 (sAt n x), Value.agg #[Value.int IntKind.i64 (dens t (sAt n x)), Value.int IntKind.i64 (dens u (sAt n x))], undef, undef, undef, undef, undef, undef, undef, undef, undef, undef, undef, undef, undef, undef, undef, undef, undef, undef], defers := [] })
    ?ax ?assign ?body ?done ?stop
  case kb =>
    intro W l o o' hl ho hc hw hE
    have hr : ∀ r, (some l : Option Nat) = some r → ∃ o : Obj, W.heap[r]? = some o ∧ o.isCells = false := fun r e => by cases e; exact ⟨o, ho, hc⟩
    exact ⟨hE.1.trans (belowK_b (n₀ := w.heap.size) (w := W0) (by have := HS2.out; omega) W l o o' hl ho hc hw), cell_kept hE.2.1 (grownBy_putObj' W l o') hr, cell_kept hE.2.2.1 (grownBy_putObj' W l o') hr, cell_kept hE.2.2.2 (grownBy_putObj' W l o') hr⟩
  case own =>
    refine OwnFrom.and (OwnFrom.and (Own.from (boxed_own _ _ _) _) (Own.from (boxed_own _ _ _) _)) (fun s X Y row hs hg hr => ?_)
    exact ⟨ownFrom_below (w₀ := w) (n₀ := w.heap.size) (B := W0.heap.size) (Nat.le_refl _) (by have := HS2.out; omega) s X Y row hs.1 hg hr, cell_kept hs.2.1 hg (fun r e => (hr r e).2), cell_kept hs.2.2.1 hg (fun r e => (hr r e).2), cell_kept hs.2.2.2 hg (fun r e => (hr r e).2)⟩
  case ax =>
    intro x a' _ X Y row hs hg hr
    obtain ⟨Bx, q1, q2, q3⟩ := hs
    refine ⟨Bx, q1, (hg.block Bx (blk_lt q2) (fun e => ?_)).trans q2, q3⟩
    obtain ⟨_, o, ho, hc⟩ := hr Bx e.symm
    rw [q2] at ho
    cases ho
    cases hc
  case assign =>
    rintro l pre x W K ⟨⟨m1, m2⟩, hE1⟩ hK
    unfold encP
    gi_wp2
    exact hK _ _ ((KeepsOthers.alloc _ _).from _) (fun h => h.step (below_alloc (Below.refl _ _) _)) ⟨⟨m1.alloc _, m2.alloc _⟩, hE1.step (below_alloc (Below.refl _ _) _)⟩ ⟨W.heap.size, block_lt_of_cell hE1.2.2.2, blk_new W _, rfl⟩
  case body =>
    rintro l pre x a' W hl ⟨r, hr⟩ ⟨⟨m1, m2⟩, hE1⟩ ⟨Bx, hBx, hbx, rfl⟩ hlt
    have f0 := m1.cell
    have f1 := m1.frozen
    have f2 := m2.cell
    have f3 := m2.frozen
    have f4 := blk_cell hbx 0
    have f5 := blk_cell hbx 1
    simp only [List.getElem?_toArray, List.getElem?_cons_zero, List.getElem?_cons_succ] at f4 f5
    have hdS : difS t u n (pre ++ [x]) = difF t u n (difS t u n pre) x := by unfold difS; rw [List.foldl_append]; rfl
    have r1 := RightT.dens_rng ((right_iff t).1 OK1.out) (sAt_rng HD.out.1 x).1 (sAt_rng HD.out.1 x).2
    have r2 := RightT.dens_rng ((right_iff u).1 OK2.out) (sAt_rng HD.out.1 x).1 (sAt_rng HD.out.1 x).2
    simp only [difF] at hdS
    have HDS := Aside0.mk hdS
    clear hdS
    generalize hp : difS t u n pre = p at *
    generalize dens t (sAt n x) = d0 at *
    generalize dens u (sAt n x) = d1 at *
    generalize sAt n x = sx at *
    have hw1 : IntKind.i64.wrap (d0 - d1) = d0 - d1 := by rw [IntKind.wrap_i64]; omega
    have hw2 : IntKind.i64.wrap (d1 - d0) = d1 - d0 := by rw [IntKind.wrap_i64]; omega
    have HE1 := Aside0.mk hE1
    have M1 := Aside0.mk m1
    have M2 := Aside0.mk m2
    clear hE1 m1 m2 hr hbx hp
    have hst : ∀ q s' : Int, EnvP w (w2.heap.size + 1 + 1) A1 A2 c1 c2 t u n ((W.setCell ⟨w2.heap.size, 0, none⟩ (.int .i64 q)).setCell ⟨w2.heap.size + 1, 0, none⟩ (.int .i64 s')) := fun q s' => by
      refine ⟨(HE1.out.1.setCell (p := ⟨w2.heap.size, 0, none⟩) HS2.out _).setCell (p := ⟨w2.heap.size + 1, 0, none⟩) (Nat.le_succ_of_le HS2.out) _, ?_, ?_, ?_⟩
      · rw [cell_far (by show w2.heap.size + 1 + 1 ≠ w2.heap.size + 1; omega), cell_far (by show w2.heap.size + 1 + 1 ≠ w2.heap.size; omega)]; exact HE1.out.2.1
      · rw [cell_far (by show w2.heap.size + 1 + 1 + 1 ≠ w2.heap.size + 1; omega), cell_far (by show w2.heap.size + 1 + 1 + 1 ≠ w2.heap.size; omega)]; exact HE1.out.2.2.1
      · rw [cell_far (by show w2.heap.size + 1 + 1 + 2 ≠ w2.heap.size + 1; omega), cell_far (by show w2.heap.size + 1 + 1 + 2 ≠ w2.heap.size; omega)]; exact HE1.out.2.2.2
    have HST := Aside0.mk hst
    clear hst
    gi_wp2
    all_goals
      have hmx : mx (d0 - d1) (d1 - d0) = max (d0 - d1) (d1 - d0) := by unfold mx; split <;> omega
      first
      | (refine ⟨KeepsFrom.refl _ _, fun h => h, ⟨?_, ?_⟩, HE1.out⟩
         · rw [HDS.out, hmx, if_neg (by omega)]; exact M1.out
         · rw [HDS.out, hmx, if_neg (by omega)]; exact M2.out)
      | (refine ⟨((KeepsOthers.setCell _ _ _).trans (KeepsOthers.setCell _ _ _)).from _, fun _ => HST.out _ _, ⟨?_, ?_⟩, HST.out _ _⟩
         · rw [HDS.out, hmx, if_pos (by omega)]; exact (Boxed.set _ M1.out).other (by omega) _
         · rw [HDS.out, hmx, if_pos (by omega)]; exact Boxed.set _ (M2.out.other (by omega) _))
  case done =>
    rintro D ys W hD rfl ⟨⟨m1, m2⟩, hE1⟩ hK
    have f0 := m1.cell
    have f2 := m2.cell
    generalize hp : difS t u n (List.range (nRounds n)) = p at *
    have HE1 := Aside0.mk hE1
    clear hE1 m1 m2
    have mixed : Try.prog.follows .mixedOrders = true := by kernel_rfl
    gi_wp2_with fail
    gi_region_o
    all_goals gi_wp2
    all_goals
      refine ⟨by simp, .inl ⟨_, _, rfl, run_takeDeferred (w := W.drew) hK, ?_⟩⟩
      refine ⟨.tuple #[.int .i64 p.1, .int .i64 p.2, .int .i64 0], ?_, ?_, ?_⟩
      · simp [results, Try.f24, go_sem]
      · rw [hp]
      · exact (below_drew1 HE1.out.1).trans (belowK_b (n₀ := w.heap.size) (w := W0) (by have := HS2.out; omega) W.drew D _ _ hD hK rfl rfl)
  case stop =>
    rintro D c pre W _ _ h _
    exact h.elim

end Go.Proofs.Ytlgihblojnoheaa.PF
