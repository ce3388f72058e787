-- Written by a program of this session (wip/rowgen.py); Lean checks it.
import Derived.Test.YtdolabpkgienkaaRows
import Derived.Test.YtdolabpkgienkaaMHandBondCovers
import Derived.Test.YtdolabpkgienkaaR
import Derived.WalkKit
import Derived.ProofKit
import Derived.OpenShut
import Derived.ShutString
import Derived.ChangeOld
import Derived.Below
import Derived.SizedLaws
import Derived.Carry
namespace Go.Proofs.Ytdolabpkgienkaa.bondCovers
open Go.ChangeShapes Go.WideShapes Go.ChangeAt Go.RowKit Go.Proofs.YtdolabpkgienkaaR Go.Proofs.YtdolabpkgienkaaW.PrintWords Go.Proofs.Ytdolabpkgienkaa.PF
open Go.ChangeMaps (open_string shut_string)
set_option linter.unusedVariables false
def wf_S31 (x : S31) : Prop := ((Lit.int .i64 x.f0).wf = true) ∧ ((Lit.int .i64 x.f1).wf = true) ∧ ((Lit.int .i64 x.f2).wf = true) ∧ ((Lit.int .i64 x.f3).wf = true)
def wf_S35 (x : S35) : Prop := ((Lit.int .i64 x.f0).wf = true) ∧ ((Lit.int .i64 x.f1).wf = true) ∧ ((Lit.int .i64 x.f2).wf = true)
/-- The one pure statement of spilelaw52_BondCovers. -/
def Pure : Prop := ∀ (l0 : List (S31)) (l1 : List (S35)) (l2 : List (S35)), (l0.length ≤ maxLen ∧ ∀ x ∈ l0, wf_S31 x) → (l1.length ≤ maxLen ∧ ∀ x ∈ l1, wf_S35 x) → (l2.length ≤ maxLen ∧ ∀ x ∈ l2, wf_S35 x) → spilelaw52_BondCovers.f l0 l1 l2 = some true
theorem own : ownKnob Try.prog.godebug = none := by kernel_rfl
theorem laidOut : laidOutB Try.prog = true := by kernel_rfl
set_option maxRecDepth 100000 in
set_option maxHeartbeats 2000000 in
theorem lifted (P0 : Pure) (os : Os) (started : os.Started) (H : Type) (enc : TypeId × Value → H) :
    ReturnsInHanded {} Try.checked os 8 .any (Rows.bondCoversSpec.pre6 enc Try.prog Try.f8 Rows.bondCoversRow.domain false) (Rows.bondCoversSpec.post enc Try.prog Try.f8 false true false false) := by
  refine returnsInHanded_of_change_sized (C := Try.checked) own started (by kernel_rfl) Try.func8
    (ChangeSpec.witness6 (enc := enc) (C := Try.checked) false ⟨#[], #[.slice none 0 0, .slice none 0 0, .slice none 0 0], []⟩ 8 (by kernel_rfl) (by kernel_rfl) (by kernel_rfl) (by kernel_rfl)) ?_
  intro W base args ds gs before hval0 hW hcnd hsz0 _
  have hval : ∀ (j : Nat) t v, Try.f8.params[j]? = some t → args[j]? = some v → Value.okWide Try.prog W .any base t v := hval0
  have hW' := hW
  obtain ⟨p, q, hA0, hV, rfl, hfz, hnd⟩ := hW
  have hA : DataW.TrodAll enc Try.prog W 0 (fun _ => true) true Try.f8.params.toList args.toList ds p := hA0
  rw [Try.params8] at hA hval
  obtain ⟨v0, vs0, d0, ds0, p0, q0, hargs, rfl, rfl, h0, r0⟩ := trodAll_cons hA
  obtain ⟨v1, vs1, d1, ds1, p1, q1, rfl, rfl, rfl, h1, r1⟩ := trodAll_cons r0
  obtain ⟨v2, vs2, d2, ds2, p2, q2, rfl, rfl, rfl, h2, r2⟩ := trodAll_cons r1
  obtain ⟨rfl, rfl, rfl⟩ := trodAll_nil r2
  obtain rfl : args = #[v0, v1, v2] := by cases args; simp_all
  obtain ⟨rfl, rfl⟩ := trodVars_none hV
  have lt0 : ∀ x ∈ p0, x.block < W.heap.size := by obtain ⟨m, hm⟩ := h0; exact DataW.trod_lt m _ _ _ hm
  obtain ⟨A0, n0, c0, rfl⟩ := okWide_slice Try.underlying22 (hval 0 22 v0 rfl rfl)
  obtain ⟨l0, K0, w0⟩ := rds_par (rds_slice (rds_struct (fun x : S31 => (x.f0, x.f1, x.f2, x.f3)) (fun p => (⟨p.1, p.2.1, p.2.2.1, p.2.2.2⟩ : S31)) (fun _ => rfl) Try.underlying31 (by kernel_rfl) (rds_more (rds_int Try.underlying3) rfl (by kernel_rfl) (rds_more (rds_int Try.underlying3) rfl (by kernel_rfl) (rds_more (rds_int Try.underlying3) rfl (by kernel_rfl) (rds_last (rds_int Try.underlying3) rfl (by kernel_rfl)))))) Try.underlying22 (by kernel_rfl)) h0
  obtain ⟨rfl, hc0, hr0⟩ := slice_par K0
  have lt1 : ∀ x ∈ p1, x.block < W.heap.size := by obtain ⟨m, hm⟩ := h1; exact DataW.trod_lt m _ _ _ hm
  obtain ⟨A1, n1, c1, rfl⟩ := okWide_slice Try.underlying23 (hval 1 23 v1 rfl rfl)
  obtain ⟨l1, K1, w1⟩ := rds_par (rds_slice (rds_struct (fun x : S35 => (x.f0, x.f1, x.f2)) (fun p => (⟨p.1, p.2.1, p.2.2⟩ : S35)) (fun _ => rfl) Try.underlying35 (by kernel_rfl) (rds_more (rds_int Try.underlying3) rfl (by kernel_rfl) (rds_more (rds_int Try.underlying3) rfl (by kernel_rfl) (rds_last (rds_int Try.underlying3) rfl (by kernel_rfl))))) Try.underlying23 (by kernel_rfl)) h1
  obtain ⟨rfl, hc1, hr1⟩ := slice_par K1
  have lt2 : ∀ x ∈ p2, x.block < W.heap.size := by obtain ⟨m, hm⟩ := h2; exact DataW.trod_lt m _ _ _ hm
  obtain ⟨A2, n2, c2, rfl⟩ := okWide_slice Try.underlying23 (hval 2 23 v2 rfl rfl)
  obtain ⟨l2, K2, w2⟩ := rds_par (rds_slice (rds_struct (fun x : S35 => (x.f0, x.f1, x.f2)) (fun p => (⟨p.1, p.2.1, p.2.2⟩ : S35)) (fun _ => rfl) Try.underlying35 (by kernel_rfl) (rds_more (rds_int Try.underlying3) rfl (by kernel_rfl) (rds_more (rds_int Try.underlying3) rfl (by kernel_rfl) (rds_last (rds_int Try.underlying3) rfl (by kernel_rfl))))) Try.underlying23 (by kernel_rfl)) h2
  obtain ⟨rfl, hc2, hr2⟩ := slice_par K2
  have hk := P0 l0 l1 l2 w0 w1 w2
  refine (spilelaw52_BondCovers.calls A0 c0 l0 A1 c1 l1 A2 c2 l2 true W hr0 hc0 hr1 hc1 hr2 hc2 hk).mono ?_
  rintro e W' ⟨rfl, hd⟩
  have bel : Below W.heap.size W W' := hd
  exact ⟨_, rfl, _, _, _, [], _, [], hW', trodAll_mk1 (shut_bool Try.underlying4 _), (trodAll_cons_mk (Below.trod laidOut (by kernel_rfl) (of_decide_eq_true (by kernel_rfl)) h0 bel lt0) (trodAll_cons_mk (Below.trod laidOut (by kernel_rfl) (of_decide_eq_true (by kernel_rfl)) h1 bel lt1) (trodAll_cons_mk (Below.trod laidOut (by kernel_rfl) (of_decide_eq_true (by kernel_rfl)) h2 bel lt2) trodAll_mk0))), rfl, bel.frame _, fun h => by cases h⟩
theorem over (P0 : Pure) : Rows.bondCoversRow.holds Try.pinned (OpenSpec.ofChange Rows.bondCoversSpec) :=
  OpenClaim.holds_of_wide 8 Try.f8 rfl rfl rfl rfl rfl rfl rfl ⟨rfl, rfl, rfl, rfl, rfl⟩ rfl rfl rfl rfl rfl (by kernel_rfl) Try.func8 (by kernel_rfl)
    (of_decide_eq_true (by kernel_rfl)) (by unfold Func.isWrapper; first | (rw [if_pos (by decide +kernel)]; kernel_rfl) | (rw [if_neg (by decide +kernel)]; exact ⟨rfl, rfl⟩))
    (fun os started H enc _ => lifted P0 os started H enc)
end Go.Proofs.Ytdolabpkgienkaa.bondCovers
