/- interpolate.Differ: its faults. -/
import Derived.Test.YtlgihblojnoheaaMDif18
import Derived.Test.YtlgihblojnoheaaMDif18b
import Derived.Test.YtlgihblojnoheaaMEv
import Derived.Test.YtlgihblojnoheaaMInt18
import Derived.Test.YtlgihblojnoheaaPF0
import Derived.Test.YtlgihblojnoheaaPF1
import Derived.Test.YtlgihblojnoheaaPF10
import Derived.Test.YtlgihblojnoheaaPF18
import Derived.Test.YtlgihblojnoheaaPF5
import Derived.RangeFuncNested
import Derived.RangeFuncBound
import Derived.RangeFuncCalls
import Derived.RangeFuncLeaves
import Derived.RangeFuncBox
import Derived.Shelf.Abstract
import Derived.Shelf.RegionOpen
import Derived.WalkKit
import Derived.OwnWalkIn
import Derived.TacticsInMore
import Derived.LoopNIn
import Derived.LoopIn
import Derived.Sort.LoopGhostIn
namespace Go.Proofs.Ytlgihblojnoheaa.PF
open Go.RowKit Go.Proofs.YtlgihblojnoheaaW.PrintWords Go.Proofs.YtlgihblojnoheaaW.PrintLast Go.Proofs.YtlgihblojnoheaaW.PrintMore
set_option linter.unusedVariables false
set_option linter.unusedSimpArgs false
attribute [local go_sem] Oper.semAt_some
set_option maxHeartbeats 2000000 in
set_option maxRecDepth 100000 in
theorem differ.bad1 (A1 A2 : Option Addr) (c1 c2 : Nat) (t u : List S34) (n : Int) (w : World) (h1 : Kd.C k34 w A1 t.length t) (hc1 : t.length ≤ c1) (h2 : Kd.C k34 w A2 u.length u) (hc2 : u.length ≤ c2) (ok : (notR t || notR u) = true) :
    Calls Try.prog 24 #[.slice A1 t.length c1, .slice A2 u.length c2, .int .i64 n] w fun e w' => e = .returned (.tuple #[.int .i64 0, .int .i64 0, .int .i64 1]) ∧ Below w.heap.size w w' := by
  have eg : ∀ args w, (callFunc 43 args).run Try.prog w = .ok (.enter 43 args) w := enters_of Try.func43 (by kernel_rfl) rfl
  have HCF := Aside0.mk (fun (W : World) (g : Nat) (hB : Below w.heap.size w W) (d1 : W.cell? ⟨g, 0, none⟩ = some (.slice A1 t.length c1)) (d2 : W.cell? ⟨g, 1, none⟩ = some (.slice A2 u.length c2)) =>
    contains2.known 43 g _ _ (notR t) (notR u) W eg d1 d2 rfl rfl (fun W' hb => differ.clo A1 c1 t W' (Kd.C_below h1 (below_step hB hb)) hc1) (fun W' hb => differ.clo A2 c2 u W' (Kd.C_below h2 (below_step hB hb)) hc2))
  rw [ok] at HCF
  clear eg h1 h2 hc1 hc2 ok
  refine (callsIn_wide (n := 6)).1 ?_
  refine callsIn_of_wp_marks Try.func24 rfl trivial ?_ rfl
  simp only [Try.ntmps24, List.size_toArray, List.length_cons, List.length_nil, Nat.reduceAdd, Nat.reduceSub, Array.replicate_succ, Array.replicate_zero, List.push_toArray, List.append_toArray, List.nil_append, List.cons_append]
  gi_wp2_with fail
  have hbk := blk_new w (.cells #[.slice A1 t.length c1, .slice A2 u.length c2] 22)
  refine ⟨trivial, (callsIn_wide.2 (HCF.out _ w.heap.size (below_alloc (Below.refl _ _) _) (by rw [blk_cell hbk]; rfl) (by rw [blk_cell hbk]; rfl))).mono ?_⟩
  rintro e w2 ⟨rfl, hb⟩
  have HB2 := Aside0.mk (below_step (below_alloc (Below.refl _ _) _) hb)
  clear hb HCF hbk
  gi_wp2
  refine ⟨.tuple #[.int .i64 0, .int .i64 0, .int .i64 1], ?_, ?_, ?_⟩
  · simp [results, Try.f24, go_sem]
  · rfl
  · exact HB2.out
set_option maxHeartbeats 2000000 in
set_option maxRecDepth 100000 in
theorem differ.bad2 (A1 A2 : Option Addr) (c1 c2 : Nat) (t u : List S34) (n : Int) (w : World) (hd : n < 1 ∨ 1 ≤ n ∧ 10000 < n) (h1 : Kd.C k34 w A1 t.length t) (hc1 : t.length ≤ c1) (h2 : Kd.C k34 w A2 u.length u) (hc2 : u.length ≤ c2) (ok : (notR t || notR u) = false) :
    Calls Try.prog 24 #[.slice A1 t.length c1, .slice A2 u.length c2, .int .i64 n] w fun e w' => e = .returned (.tuple #[.int .i64 0, .int .i64 0, .int .i64 2]) ∧ Below w.heap.size w w' := by
  have eg : ∀ args w, (callFunc 43 args).run Try.prog w = .ok (.enter 43 args) w := enters_of Try.func43 (by kernel_rfl) rfl
  have HCF := Aside0.mk (fun (W : World) (g : Nat) (hB : Below w.heap.size w W) (d1 : W.cell? ⟨g, 0, none⟩ = some (.slice A1 t.length c1)) (d2 : W.cell? ⟨g, 1, none⟩ = some (.slice A2 u.length c2)) =>
    contains2.known 43 g _ _ (notR t) (notR u) W eg d1 d2 rfl rfl (fun W' hb => differ.clo A1 c1 t W' (Kd.C_below h1 (below_step hB hb)) hc1) (fun W' hb => differ.clo A2 c2 u W' (Kd.C_below h2 (below_step hB hb)) hc2))
  rw [ok] at HCF
  clear eg h1 h2 hc1 hc2 ok
  rcases hd with hn | ⟨hn1, hn2⟩
  · have b1 : decide (n < 1) = true := decide_eq_true (by omega)
    clear hn
    refine (callsIn_wide (n := 6)).1 ?_
    refine callsIn_of_wp_marks Try.func24 rfl trivial ?_ rfl
    simp only [Try.ntmps24, List.size_toArray, List.length_cons, List.length_nil, Nat.reduceAdd, Nat.reduceSub, Array.replicate_succ, Array.replicate_zero, List.push_toArray, List.append_toArray, List.nil_append, List.cons_append]
    gi_wp2_with fail
    have hbk := blk_new w (.cells #[.slice A1 t.length c1, .slice A2 u.length c2] 22)
    refine ⟨trivial, (callsIn_wide.2 (HCF.out _ w.heap.size (below_alloc (Below.refl _ _) _) (by rw [blk_cell hbk]; rfl) (by rw [blk_cell hbk]; rfl))).mono ?_⟩
    rintro e w2 ⟨rfl, hb⟩
    have HB2 := Aside0.mk (below_step (below_alloc (Below.refl _ _) _) hb)
    clear hb HCF hbk
    gi_wp2
    refine ⟨.tuple #[.int .i64 0, .int .i64 0, .int .i64 2], ?_, ?_, ?_⟩
    · simp [results, Try.f24, go_sem]
    · rfl
    · exact HB2.out
  · have b1 : decide (n < 1) = false := decide_eq_false (by omega)
    have b2 : decide (10000 < n) = true := decide_eq_true (by omega)
    clear hn1 hn2
    refine (callsIn_wide (n := 6)).1 ?_
    refine callsIn_of_wp_marks Try.func24 rfl trivial ?_ rfl
    simp only [Try.ntmps24, List.size_toArray, List.length_cons, List.length_nil, Nat.reduceAdd, Nat.reduceSub, Array.replicate_succ, Array.replicate_zero, List.push_toArray, List.append_toArray, List.nil_append, List.cons_append]
    gi_wp2_with fail
    have hbk := blk_new w (.cells #[.slice A1 t.length c1, .slice A2 u.length c2] 22)
    refine ⟨trivial, (callsIn_wide.2 (HCF.out _ w.heap.size (below_alloc (Below.refl _ _) _) (by rw [blk_cell hbk]; rfl) (by rw [blk_cell hbk]; rfl))).mono ?_⟩
    rintro e w2 ⟨rfl, hb⟩
    have HB2 := Aside0.mk (below_step (below_alloc (Below.refl _ _) _) hb)
    clear hb HCF hbk
    gi_wp2
    refine ⟨.tuple #[.int .i64 0, .int .i64 0, .int .i64 2], ?_, ?_, ?_⟩
    · simp [results, Try.f24, go_sem]
    · rfl
    · exact HB2.out
/-- What Differ returns. -/
def difR (t u : List S34) (n : Int) : Int × Int × Int :=
  if (notR t || notR u) = true then (0, 0, 1) else if n < 1 ∨ 10000 < n then (0, 0, 2) else ((difS t u n (List.range (nRounds n))).1, (difS t u n (List.range (nRounds n))).2, 0)
theorem notR_false {t : List S34} : notR t = false ↔ (dchk t).2 = 0 := by
  unfold notR
  cases h : ((dchk t).2 == 0)
  · simp only [Bool.not_false, Bool.true_eq_false, false_iff]; intro e; rw [e] at h; cases h
  · simp only [Bool.not_true, true_iff]; exact of_decide_eq_true (by simpa using h)
theorem differ.known {r : Int × Int × Int} {t u : List S34} {n : Int} (A1 A2 : Option Addr) (c1 c2 : Nat) (w : World) (h1 : Kd.C k34 w A1 t.length t) (hc1 : t.length ≤ c1) (h2 : Kd.C k34 w A2 u.length u) (hc2 : u.length ≤ c2) (hr : difR t u n = r) :
    Calls Try.prog 24 #[.slice A1 t.length c1, .slice A2 u.length c2, .int .i64 n] w fun e w' => e = .returned (.tuple #[.int .i64 r.1, .int .i64 r.2.1, .int .i64 r.2.2]) ∧ Below w.heap.size w w' := by
  subst hr
  unfold difR
  by_cases hq : (notR t || notR u) = true
  · rw [if_pos hq]; exact differ.bad1 A1 A2 c1 c2 t u n w h1 hc1 h2 hc2 hq
  · rw [if_neg hq]
    replace hq : (notR t || notR u) = false := by simpa using hq
    by_cases hn : n < 1 ∨ 10000 < n
    · rw [if_pos hn]; exact differ.bad2 A1 A2 c1 c2 t u n w (by omega) h1 hc1 h2 hc2 hq
    · rw [if_neg hn]
      obtain ⟨q1, q2⟩ := Bool.or_eq_false_iff.1 hq
      exact differ.good A1 A2 c1 c2 t u n w (by omega) h1 hc1 h2 hc2 (notR_false.1 q1) (notR_false.1 q2)
theorem difS_succ (t u : List S34) (n : Int) (j : Nat) : difS t u n (List.range (j + 1)) = difF t u n (difS t u n (List.range j)) j := by
  unfold difS
  rw [List.range_succ, List.foldl_append]
  rfl
theorem spileref18_Differ.go {t u : List S34} {n : Int} (h1 : RightT t) (h2 : RightT u) (hd : 1 ≤ n ∧ n ≤ 10000) (d : Nat) : ∀ j : Nat, j + d = nRounds n → Ev (fun k => spileref18_Differ.l0 k t u n (difS t u n (List.range j)).1 (difS t u n (List.range j)).2 ((j : Int) * n)) ((difS t u n (List.range (nRounds n))).1, (difS t u n (List.range (nRounds n))).2, 0) := by
  induction d with
  | zero =>
    intro j hj
    obtain rfl : j = nRounds n := by omega
    refine Ev.ret (fun k => ?_)
    simp only [spileref18_Differ.l0]
    rw [if_neg (fun h => absurd ((nRounds_iff hd.1 (nRounds n)).2 h) (Nat.lt_irrefl _))]
  | succ d ih =>
    intro j hj
    have hle := (nRounds_iff hd.1 j).1 (by omega)
    have hs : sAt n j = (j : Int) * n := by unfold sAt; rw [if_pos hle]
    have hr := sAt_rng hd.1 j
    have r1 := h1.dens_rng hr.1 hr.2
    have r2 := h2.dens_rng hr.1 hr.2
    have e1 := h1.at18s hr.1 hr.2
    have e2 := h2.at18s hr.1 hr.2
    have hI := ih (j + 1) (by omega)
    rw [difS_succ] at hI
    rw [show ((j + 1 : Nat) : Int) * n = (j : Int) * n + n by rw [show ((j + 1 : Nat) : Int) = (j : Int) + 1 by omega, Int.add_mul, Int.one_mul]] at hI
    simp only [difF] at hI
    rw [← hs] at hI hle ⊢
    generalize difS t u n (List.range j) = p at *
    generalize hd0 : dens t (sAt n j) = d0 at *
    generalize hd1 : dens u (sAt n j) = d1 at *
    generalize sAt n j = s at *
    refine Ev.step (fun k => ?_) hI
    simp only [spileref18_Differ.l0]
    rw [if_pos hle, e1, Option.bind_some, e2, Option.bind_some, w64_ (x := d0 - d1) (by omega) (by omega), w64_ (x := -(d0 - d1)) (by omega) (by omega), w64_ (x := s + n) (by omega) (by omega)]
    have hmx : mx (d0 - d1) (d1 - d0) = max (d0 - d1) (d1 - d0) := by unfold mx; split <;> omega
    rw [hmx]
    by_cases hn : d0 - d1 < 0
    · rw [if_pos hn, show max (d0 - d1) (d1 - d0) = -(d0 - d1) by omega]
      by_cases hm : -(d0 - d1) > p.1
      · rw [if_pos hm, if_pos hm]
      · rw [if_neg hm, if_neg hm]
    · rw [if_neg hn, show max (d0 - d1) (d1 - d0) = d0 - d1 by omega]
      by_cases hm : d0 - d1 > p.1
      · rw [if_pos hm, if_pos hm]
      · rw [if_neg hm, if_neg hm]
theorem spileref18_Differ.ev (t u : List S34) (n : Int) : Ev (fun k => spileref18_Differ.f k t u n) (difR t u n) := by
  unfold spileref18_Differ.f difR
  rw [right16, right16]
  have hnt : ((dchk t).2 == 0) = !notR t := by unfold notR; rw [Bool.not_not]
  have hnu : ((dchk u).2 == 0) = !notR u := by unfold notR; rw [Bool.not_not]
  rw [hnt, hnu]
  cases ht : notR t
  case true =>
    exact Ev.ret (fun k => by rw [Option.bind_some, Bool.not_true, if_neg (by decide)]; simp only [spileref18_Differ.j0, if_true, Bool.true_or])
  cases hu : notR u
  case true =>
    exact Ev.ret (fun k => by rw [Option.bind_some, Bool.not_false, if_pos rfl, Option.bind_some, Bool.not_true, Bool.not_false]; simp only [spileref18_Differ.j0, if_true, Bool.or_true])
  have R1 := (right_iff t).1 (notR_false.1 ht)
  have R2 := (right_iff u).1 (notR_false.1 hu)
  rw [if_neg (by decide)]
  by_cases h1 : n < 1
  · rw [if_pos (Or.inl h1)]
    refine Ev.step (G := fun k => spileref18_Differ.j1 k t u n true) (fun k => ?_) (Ev.ret (fun k => ?_))
    · rw [Option.bind_some, Bool.not_false, if_pos rfl, Option.bind_some, Bool.not_true]
      simp only [spileref18_Differ.j0, Bool.false_eq_true, if_false]
      rw [if_pos h1]
    · simp only [spileref18_Differ.j1, if_true]
  by_cases h2 : 10000 < n
  · rw [if_pos (Or.inr h2)]
    refine Ev.step (G := fun k => spileref18_Differ.j1 k t u n true) (fun k => ?_) (Ev.ret (fun k => ?_))
    · rw [Option.bind_some, Bool.not_false, if_pos rfl, Option.bind_some, Bool.not_true]
      simp only [spileref18_Differ.j0, Bool.false_eq_true, if_false]
      rw [if_neg h1, decide_eq_true h2]
    · simp only [spileref18_Differ.j1, if_true]
  rw [if_neg (by omega)]
  refine Ev.step (G := fun k => spileref18_Differ.j1 k t u n false) (fun k => ?_) (Ev.step (G := fun k => spileref18_Differ.l0 k t u n (-1) 0 0) (fun k => ?_) ?_)
  rotate_right
  · have := spileref18_Differ.go R1 R2 (n := n) (by omega) (nRounds n) 0 (by omega)
    rw [Int.natCast_zero, Int.zero_mul] at this
    exact this
  · rw [Option.bind_some, Bool.not_false, if_pos rfl, Option.bind_some, Bool.not_true]
    simp only [spileref18_Differ.j0, Bool.false_eq_true, if_false]
    rw [if_neg h1, decide_eq_false (show ¬ n > 10000 from h2)]
  · simp only [spileref18_Differ.j1, Bool.false_eq_true, if_false]
theorem spileref18_Differ.known {t u : List S34} {n : Int} (A1 A2 : Option Addr) (c1 c2 : Nat) (w : World) (h1 : Kd.C k34 w A1 t.length t) (hc1 : t.length ≤ c1) (h2 : Kd.C k34 w A2 u.length u) (hc2 : u.length ≤ c2) {r : Int × Int × Int} (hr : difR t u n = r) :
    Calls Try.prog 25 #[.slice A1 t.length c1, .slice A2 u.length c2, .int .i64 n] w fun e w' => e = .returned (.tuple #[.int .i64 r.1, .int .i64 r.2.1, .int .i64 r.2.2]) ∧ Below w.heap.size w w' := by
  obtain ⟨k, hk⟩ := Ev.given (spileref18_Differ.ev t u n)
  rw [hr] at hk
  exact spileref18_Differ.calls k A1 c1 t A2 c2 u n r.1 r.2.1 r.2.2 w h1 hc1 h2 hc2 hk

end Go.Proofs.Ytlgihblojnoheaa.PF
