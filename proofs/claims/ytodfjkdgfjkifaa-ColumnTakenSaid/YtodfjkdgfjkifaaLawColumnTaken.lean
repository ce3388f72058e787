-- Written by a program of this session (wip/rowgen.py); Lean checks it.
import Derived.Test.YtodfjkdgfjkifaaRows
import Derived.Test.YtodfjkdgfjkifaaMHandColumnTaken
import Derived.Test.YtodfjkdgfjkifaaR
import Derived.WalkKit
import Derived.ProofKit
import Derived.OpenShut
import Derived.ShutString
import Derived.ChangeOld
import Derived.Below
import Derived.SizedLaws
import Derived.Carry
namespace Go.Proofs.Ytodfjkdgfjkifaa.columnTaken
open Go.ChangeShapes Go.WideShapes Go.ChangeAt Go.RowKit Go.Proofs.YtodfjkdgfjkifaaR Go.Proofs.YtodfjkdgfjkifaaW.PrintWords Go.Proofs.Ytodfjkdgfjkifaa.PF
open Go.ChangeMaps (open_string shut_string)
set_option linter.unusedVariables false
def wf_S28 (x : S28) : Prop := ((Lit.int .i64 x.f0).wf = true) ∧ ((Lit.int .i64 x.f1).wf = true) ∧ ((Lit.int .i64 x.f2).wf = true) ∧ ((Lit.int .i64 x.f3).wf = true)
/-- The one pure statement of spilelaw36_ColumnTaken. -/
def Pure : Prop := ∀ (s0 : S24) (a1 : Int), (((Lit.int .i64 s0.f0).wf = true) ∧ (s0.f1.length ≤ maxLen ∧ ∀ x ∈ s0.f1, wf_S28 x)) → ((Lit.int .u8 a1).wf = true) → spilelaw36_ColumnTaken.f s0.f0 s0.f1 a1 = some true
theorem own : ownKnob Try.prog.godebug = none := by kernel_rfl
theorem laidOut : laidOutB Try.prog = true := by kernel_rfl
set_option maxRecDepth 100000 in
set_option maxHeartbeats 2000000 in
theorem lifted (P0 : Pure) (os : Os) (started : os.Started) (H : Type) (enc : TypeId × Value → H) :
    ReturnsInHanded {} Try.checked os 8 .any (Rows.columnTakenSpec.pre6 enc Try.prog Try.f8 Rows.columnTakenRow.domain false) (Rows.columnTakenSpec.post enc Try.prog Try.f8 false true false false) := by
  refine returnsInHanded_of_change_sized (C := Try.checked) own started (by kernel_rfl) Try.func8
    (ChangeSpec.witness6 (enc := enc) (C := Try.checked) false ⟨#[], #[.agg #[.int .i64 0, .slice none 0 0], .int .u8 0], []⟩ 8 (by kernel_rfl) (by kernel_rfl) (by kernel_rfl) (by kernel_rfl)) ?_
  intro W base args ds gs before hval0 hW hcnd hsz0 _
  have hval : ∀ (j : Nat) t v, Try.f8.params[j]? = some t → args[j]? = some v → Value.okWide Try.prog W .any base t v := hval0
  have hW' := hW
  obtain ⟨p, q, hA0, hV, rfl, hfz, hnd⟩ := hW
  have hA : DataW.TrodAll enc Try.prog W 0 (fun _ => true) true Try.f8.params.toList args.toList ds p := hA0
  rw [Try.params8] at hA hval
  obtain ⟨v0, vs0, d0, ds0, p0, q0, hargs, rfl, rfl, h0, r0⟩ := trodAll_cons hA
  obtain ⟨v1, vs1, d1, ds1, p1, q1, rfl, rfl, rfl, h1, r1⟩ := trodAll_cons r0
  obtain ⟨rfl, rfl, rfl⟩ := trodAll_nil r1
  obtain rfl : args = #[v0, v1] := by cases args; simp_all
  obtain ⟨rfl, rfl⟩ := trodVars_none hV
  have lt0 : ∀ x ∈ p0, x.block < W.heap.size := by obtain ⟨m, hm⟩ := h0; exact DataW.trod_lt m _ _ _ hm
  obtain ⟨cs0, rfl, z0⟩ := okWide_struct Try.underlying24 (hval 0 24 v0 rfl rfl)
  obtain ⟨s0, K0, w0⟩ := rds_par (rds_struct (fun x : S24 => (x.f0, x.f1)) (fun p => (⟨p.1, p.2⟩ : S24)) (fun _ => rfl) Try.underlying24 (by kernel_rfl) (rds_more (rds_int Try.underlying3) rfl (by kernel_rfl) (rds_last (rds_slice (rds_struct (fun x : S28 => (x.f0, x.f1, x.f2, x.f3)) (fun p => (⟨p.1, p.2.1, p.2.2.1, p.2.2.2⟩ : S28)) (fun _ => rfl) Try.underlying28 (by kernel_rfl) (rds_more (rds_int Try.underlying3) rfl (by kernel_rfl) (rds_more (rds_int Try.underlying3) rfl (by kernel_rfl) (rds_more (rds_int Try.underlying3) rfl (by kernel_rfl) (rds_last (rds_int Try.underlying3) rfl (by kernel_rfl)))))) Try.underlying22 (by kernel_rfl)) rfl (by kernel_rfl)))) h0
  obtain ⟨A0_1, c0_1, e0, hc0_1, hr0_1⟩ := k24_open K0
  obtain rfl := agg_cs e0
  have lt1 : ∀ x ∈ p1, x.block < W.heap.size := by obtain ⟨m, hm⟩ := h1; exact DataW.trod_lt m _ _ _ hm
  obtain ⟨a1, rfl, _, _, w1⟩ := open_int Try.underlying5 (hval 1 5 v1 rfl rfl) h1
  have hk := P0 s0 a1 w0 w1
  refine (spilelaw36_ColumnTaken.calls s0.f0 A0_1 c0_1 s0.f1 a1 true W hr0_1 hc0_1 hk).mono ?_
  rintro e W' ⟨rfl, hd⟩
  have bel : Below W.heap.size W W' := hd
  exact ⟨_, rfl, _, _, _, [], _, [], hW', trodAll_mk1 (shut_bool Try.underlying4 _), (trodAll_cons_mk (Below.trod laidOut (by kernel_rfl) (of_decide_eq_true (by kernel_rfl)) h0 bel lt0) (trodAll_cons_mk (Below.trod laidOut (by kernel_rfl) (of_decide_eq_true (by kernel_rfl)) h1 bel lt1) trodAll_mk0)), rfl, bel.frame _, fun h => by cases h⟩
theorem over (P0 : Pure) : Rows.columnTakenRow.holds Try.pinned (OpenSpec.ofChange Rows.columnTakenSpec) :=
  OpenClaim.holds_of_wide 8 Try.f8 rfl rfl rfl rfl rfl rfl rfl ⟨rfl, rfl, rfl, rfl, rfl⟩ rfl rfl rfl rfl rfl (by kernel_rfl) Try.func8 (by kernel_rfl)
    (of_decide_eq_true (by kernel_rfl)) (by unfold Func.isWrapper; first | (rw [if_pos (by decide +kernel)]; kernel_rfl) | (rw [if_neg (by decide +kernel)]; exact ⟨rfl, rfl⟩))
    (fun os started H enc _ => lifted P0 os started H enc)
end Go.Proofs.Ytodfjkdgfjkifaa.columnTaken
