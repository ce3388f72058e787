-- Written by a program of this session (wip/rowgen.py); Lean checks it.
import Derived.Test.YtdggkgkbjgigmaaRows
import Derived.Test.YtdggkgkbjgigmaaPF23
import Derived.Test.YtdggkgkbjgigmaaR
import Derived.WalkKit
import Derived.ProofKit
import Derived.OpenShut
import Derived.ShutString
import Derived.ChangeOld
import Derived.Below
import Derived.SizedLaws
import Derived.Carry
namespace Go.Proofs.Ytdggkgkbjgigmaa.reduceSteps
open Go.ChangeShapes Go.WideShapes Go.ChangeAt Go.RowKit Go.Proofs.YtdggkgkbjgigmaaR Go.Proofs.YtdggkgkbjgigmaaW.PrintWords Go.Proofs.Ytdggkgkbjgigmaa.PF
open Go.ChangeMaps (open_string shut_string)
set_option linter.unusedVariables false
def wf_S50 (x : S50) : Prop := ((Lit.int .i64 x.f0).wf = true) ∧ ((Lit.int .i64 x.f1).wf = true)
def wf_i64 (x : Int) : Prop := (Lit.int .i64 x).wf = true
/-- The one pure statement of spilelaw28_ReduceSteps. -/
def Pure : Prop := ∀ (l0 : List (S50)) (s1 : S24) (l2 : List Int) (a3 : Int), (l0.length ≤ maxLen ∧ ∀ x ∈ l0, wf_S50 x) → (((Lit.int .i64 s1.f0).wf = true) ∧ ((Lit.int .i64 s1.f1).wf = true)) → (l2.length ≤ maxLen ∧ ∀ x ∈ l2, wf_i64 x) → ((Lit.int .u8 a3).wf = true) → ∃ k, spilelaw28_ReduceSteps.f k l0 s1.f0 s1.f1 l2 a3 = some true
theorem own : ownKnob Try.prog.godebug = none := by kernel_rfl
theorem laidOut : laidOutB Try.prog = true := by kernel_rfl
set_option maxRecDepth 100000 in
set_option maxHeartbeats 2000000 in
theorem lifted (P0 : Pure) (os : Os) (started : os.Started) (H : Type) (enc : TypeId × Value → H) :
    ReturnsInHanded {} Try.checked os 8 .any (Rows.reduceStepsSpec.pre6 enc Try.prog Try.f8 Rows.reduceStepsRow.domain false) (Rows.reduceStepsSpec.post enc Try.prog Try.f8 false true false false) := by
  refine returnsInHanded_of_change_sized (C := Try.checked) own started (by kernel_rfl) Try.func8
    (ChangeSpec.witness6 (enc := enc) (C := Try.checked) false ⟨#[], #[.slice none 0 0, .agg #[.int .i64 0, .int .i64 0], .slice none 0 0, .int .u8 0], []⟩ 8 (by kernel_rfl) (by kernel_rfl) (by kernel_rfl) (by kernel_rfl)) ?_
  intro W base args ds gs before hval0 hW hcnd hsz0 _
  have hval : ∀ (j : Nat) t v, Try.f8.params[j]? = some t → args[j]? = some v → Value.okWide Try.prog W .any base t v := hval0
  have hW' := hW
  obtain ⟨p, q, hA0, hV, rfl, hfz, hnd⟩ := hW
  have hA : DataW.TrodAll enc Try.prog W 0 (fun _ => true) true Try.f8.params.toList args.toList ds p := hA0
  rw [Try.params8] at hA hval
  obtain ⟨v0, vs0, d0, ds0, p0, q0, hargs, rfl, rfl, h0, r0⟩ := trodAll_cons hA
  obtain ⟨v1, vs1, d1, ds1, p1, q1, rfl, rfl, rfl, h1, r1⟩ := trodAll_cons r0
  obtain ⟨v2, vs2, d2, ds2, p2, q2, rfl, rfl, rfl, h2, r2⟩ := trodAll_cons r1
  obtain ⟨v3, vs3, d3, ds3, p3, q3, rfl, rfl, rfl, h3, r3⟩ := trodAll_cons r2
  obtain ⟨rfl, rfl, rfl⟩ := trodAll_nil r3
  obtain rfl : args = #[v0, v1, v2, v3] := by cases args; simp_all
  obtain ⟨rfl, rfl⟩ := trodVars_none hV
  have lt0 : ∀ x ∈ p0, x.block < W.heap.size := by obtain ⟨m, hm⟩ := h0; exact DataW.trod_lt m _ _ _ hm
  obtain ⟨A0, n0, c0, rfl⟩ := okWide_slice Try.underlying22 (hval 0 22 v0 rfl rfl)
  obtain ⟨l0, K0, w0⟩ := rds_par (rds_slice (rds_struct (fun x : S50 => (x.f0, x.f1)) (fun p => (⟨p.1, p.2⟩ : S50)) (fun _ => rfl) Try.underlying50 (by kernel_rfl) (rds_more (rds_int Try.underlying3) rfl (by kernel_rfl) (rds_last (rds_int Try.underlying3) rfl (by kernel_rfl)))) Try.underlying22 (by kernel_rfl)) h0
  obtain ⟨rfl, hc0, hr0⟩ := slice_par K0
  have lt1 : ∀ x ∈ p1, x.block < W.heap.size := by obtain ⟨m, hm⟩ := h1; exact DataW.trod_lt m _ _ _ hm
  obtain ⟨cs1, rfl, z1⟩ := okWide_struct Try.underlying24 (hval 1 24 v1 rfl rfl)
  obtain ⟨s1, K1, w1⟩ := rds_par (rds_struct (fun x : S24 => (x.f0, x.f1)) (fun p => (⟨p.1, p.2⟩ : S24)) (fun _ => rfl) Try.underlying24 (by kernel_rfl) (rds_more (rds_int Try.underlying3) rfl (by kernel_rfl) (rds_last (rds_int Try.underlying3) rfl (by kernel_rfl)))) h1
  obtain e1 := k24_open K1
  obtain rfl := agg_cs e1
  have lt2 : ∀ x ∈ p2, x.block < W.heap.size := by obtain ⟨m, hm⟩ := h2; exact DataW.trod_lt m _ _ _ hm
  obtain ⟨A2, n2, c2, rfl⟩ := okWide_slice Try.underlying41 (hval 2 41 v2 rfl rfl)
  obtain ⟨l2, K2, w2⟩ := rds_par (rds_slice (rds_int Try.underlying3) Try.underlying41 (by kernel_rfl)) h2
  obtain ⟨rfl, hc2, hr2⟩ := slice_par K2
  have lt3 : ∀ x ∈ p3, x.block < W.heap.size := by obtain ⟨m, hm⟩ := h3; exact DataW.trod_lt m _ _ _ hm
  obtain ⟨a3, rfl, _, _, w3⟩ := open_int Try.underlying5 (hval 3 5 v3 rfl rfl) h3
  obtain ⟨k, hk⟩ := P0 l0 s1 l2 a3 w0 w1 w2 w3
  refine (spilelaw28_ReduceSteps.calls k A0 c0 l0 s1.f0 s1.f1 A2 c2 l2 a3 true W hr0 hc0 hr2 hc2 hk).mono ?_
  rintro e W' ⟨rfl, hd⟩
  have bel : Below W.heap.size W W' := hd
  exact ⟨_, rfl, _, _, _, [], _, [], hW', trodAll_mk1 (shut_bool Try.underlying4 _), (trodAll_cons_mk (Below.trod laidOut (by kernel_rfl) (of_decide_eq_true (by kernel_rfl)) h0 bel lt0) (trodAll_cons_mk (Below.trod laidOut (by kernel_rfl) (of_decide_eq_true (by kernel_rfl)) h1 bel lt1) (trodAll_cons_mk (Below.trod laidOut (by kernel_rfl) (of_decide_eq_true (by kernel_rfl)) h2 bel lt2) (trodAll_cons_mk (Below.trod laidOut (by kernel_rfl) (of_decide_eq_true (by kernel_rfl)) h3 bel lt3) trodAll_mk0)))), rfl, bel.frame _, fun h => by cases h⟩
theorem over (P0 : Pure) : Rows.reduceStepsRow.holds Try.pinned (OpenSpec.ofChange Rows.reduceStepsSpec) :=
  OpenClaim.holds_of_wide 8 Try.f8 rfl rfl rfl rfl rfl rfl rfl ⟨rfl, rfl, rfl, rfl, rfl⟩ rfl rfl rfl rfl rfl (by kernel_rfl) Try.func8 (by kernel_rfl)
    (of_decide_eq_true (by kernel_rfl)) (by unfold Func.isWrapper; first | (rw [if_pos (by decide +kernel)]; kernel_rfl) | (rw [if_neg (by decide +kernel)]; exact ⟨rfl, rfl⟩))
    (fun os started H enc _ => lifted P0 os started H enc)
end Go.Proofs.Ytdggkgkbjgigmaa.reduceSteps
