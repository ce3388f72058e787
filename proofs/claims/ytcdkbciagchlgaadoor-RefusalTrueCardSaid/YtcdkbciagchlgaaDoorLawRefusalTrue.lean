-- Written by a program of this session (wip/rowgen.py); Lean checks it.
import Derived.Test.YtcdkbciagchlgaaDoorRows
import Derived.Test.YtcdkbciagchlgaaDoorMHandRefusalTrue
import Derived.Test.YtcdkbciagchlgaaDoorR
import Derived.WalkKit
import Derived.ProofKit
import Derived.OpenShut
import Derived.ShutString
import Derived.ChangeOld
import Derived.Below
import Derived.SizedLaws
import Derived.Carry
import Derived.Test.YtcdkbciagchlgaaDoorTie
import Derived.Test.YtcdkbciagchlgaaDoorCards
import Derived.Test.YtcdkbciagchlgaaDoorMCard30
import Derived.LaidMore
import Derived.Stop.Joined
import Derived.SevenTiedAt
namespace Go.Proofs.YtcdkbciagchlgaaDoor.refusalTrue
open Go.ChangeShapes Go.WideShapes Go.ChangeAt Go.RowKit Go.Proofs.YtcdkbciagchlgaaDoorR Go.Proofs.YtcdkbciagchlgaaDoorW.PrintWords Go.Proofs.YtcdkbciagchlgaaDoor.PF
open Go.ChangeMaps (open_string shut_string)
set_option linter.unusedVariables false
def wf_S82 (x : S82) : Prop := ((Lit.int .i64 x.f0).wf = true) ∧ ((Lit.int .i64 x.f1).wf = true)
def wf_S45 (x : S45) : Prop := ((Lit.int .i64 x.f0).wf = true) ∧ ((Lit.int .i64 x.f1).wf = true)
def wf_i64 (x : Int) : Prop := (Lit.int .i64 x).wf = true
def Pure : Prop := ∀ (l0 : List (S82)) (s1 : S26) (s2 : S30), (l0.length ≤ maxLen ∧ ∀ x ∈ l0, wf_S82 x) → ((s1.f0.length ≤ maxLen ∧ ∀ x ∈ s1.f0, wf_S45 x) ∧ (s1.f1.length ≤ maxLen ∧ ∀ x ∈ s1.f1, wf_i64 x) ∧ (s1.f2.length ≤ maxLen ∧ ∀ x ∈ s1.f2, wf_i64 x) ∧ ((Lit.int .i64 s1.f3).wf = true) ∧ ((Lit.int .i64 s1.f4).wf = true) ∧ ((Lit.int .i64 s1.f5).wf = true)) → ((s2.f0.length ≤ maxLen ∧ ∀ x ∈ s2.f0, wf_i64 x) ∧ ((Lit.int .i64 s2.f1).wf = true) ∧ ((Lit.int .i64 s2.f2).wf = true) ∧ ((Lit.int .i64 s2.f3).wf = true)) → spilelaw30_RefusalTrue.f l0 s1.f0 s1.f1 s1.f2 s1.f3 s1.f4 s1.f5 s2.f0 s2.f1 s2.f2 s2.f3 = some true
theorem own : ownKnob Tryd.prog.godebug = none := by kernel_rfl
theorem laidOut : laidOutB Tryd.prog = true := by kernel_rfl
set_option maxRecDepth 100000 in
set_option maxHeartbeats 2000000 in
theorem lifted (P0 : Pure) (os : Os) (started : os.Started) (H : Type) (enc : TypeId × Value → H) :
    ReturnsInHanded {} Tryd.checked os 8 .any (fun w args => (Rows.refusalTrueSpec.pre enc Tryd.prog Tryd.f8 [] false w args ∧ laidMetH Tryd.prog laidL w) ∧ sizedMet enc Tryd.prog Tryd.f8 (OpenSpec.ofChange Rows.refusalTrueSpec) false w args) (Rows.refusalTrueSpec.post enc Tryd.prog Tryd.f8 false true false false) := by
  refine returnsInHanded_of_change_and (C := Tryd.checked) (X := (fun w _ => laidMetH Tryd.prog laidL w)) (fun _ _ _ hh h => h.of_heap hh) own started (by kernel_rfl) Tryd.func8
    (ChangeSpec.witness_shaped (enc := enc) (C := Tryd.checked) (os := os) (X := (fun w _ => laidMetH Tryd.prog laidL w)) false (World.doorLaid Tryd.prog doorSteps os) #[.slice none 0 0, .agg #[.slice none 0 0, .slice none 0 0, .slice none 0 0, .int .i64 0, .int .i64 0, .int .i64 0], .agg #[.slice none 0 0, .int .i64 0, .int .i64 0, .int .i64 0]] 8 rfl (World.shaped_of_RefB (by kernel_rfl) (by kernel_rfl)) (by kernel_rfl) (by kernel_rfl) (by kernel_rfl) (door_met os _)) ?_
  intro W base args ds gs before hval0 hW hcnd hsz0 hL _
  have hval : ∀ (j : Nat) t v, Tryd.f8.params[j]? = some t → args[j]? = some v → Value.okWide Tryd.prog W .any base t v := hval0
  have hW' := hW
  obtain ⟨p, q, hA0, hV, rfl, hfz, hnd⟩ := hW
  have hA : DataW.TrodAll enc Tryd.prog W 0 (fun _ => true) true Tryd.f8.params.toList args.toList ds p := hA0
  rw [Tryd.params8] at hA hval
  obtain ⟨v0, vs0, d0, ds0, p0, q0, hargs, rfl, rfl, h0, r0⟩ := trodAll_cons hA
  obtain ⟨v1, vs1, d1, ds1, p1, q1, rfl, rfl, rfl, h1, r1⟩ := trodAll_cons r0
  obtain ⟨v2, vs2, d2, ds2, p2, q2, rfl, rfl, rfl, h2, r2⟩ := trodAll_cons r1
  obtain ⟨rfl, rfl, rfl⟩ := trodAll_nil r2
  obtain rfl : args = #[v0, v1, v2] := by cases args; simp_all
  obtain ⟨rfl, rfl⟩ := trodVars_none hV
  have lt0 : ∀ x ∈ p0, x.block < W.heap.size := by obtain ⟨m, hm⟩ := h0; exact DataW.trod_lt m _ _ _ hm
  obtain ⟨A0, n0, c0, rfl⟩ := okWide_slice Tryd.underlying22 (hval 0 22 v0 rfl rfl)
  obtain ⟨l0, K0, w0⟩ := rds_par (rds_slice (rds_struct (fun x : S82 => (x.f0, x.f1)) (fun p => (⟨p.1, p.2⟩ : S82)) (fun _ => rfl) Tryd.underlying82 (by kernel_rfl) (rds_more (rds_int Tryd.underlying3) rfl (by kernel_rfl) (rds_last (rds_int Tryd.underlying3) rfl (by kernel_rfl)))) Tryd.underlying22 (by kernel_rfl)) h0
  obtain ⟨rfl, hc0, hr0⟩ := slice_par K0
  have lt1 : ∀ x ∈ p1, x.block < W.heap.size := by obtain ⟨m, hm⟩ := h1; exact DataW.trod_lt m _ _ _ hm
  obtain ⟨cs1, rfl, z1⟩ := okWide_struct Tryd.underlying26 (hval 1 26 v1 rfl rfl)
  obtain ⟨s1, K1, w1⟩ := rds_par (rds_struct (fun x : S26 => (x.f0, x.f1, x.f2, x.f3, x.f4, x.f5)) (fun p => (⟨p.1, p.2.1, p.2.2.1, p.2.2.2.1, p.2.2.2.2.1, p.2.2.2.2.2⟩ : S26)) (fun _ => rfl) Tryd.underlying26 (by kernel_rfl) (rds_more (rds_slice (rds_struct (fun x : S45 => (x.f0, x.f1)) (fun p => (⟨p.1, p.2⟩ : S45)) (fun _ => rfl) Tryd.underlying45 (by kernel_rfl) (rds_more (rds_int Tryd.underlying3) rfl (by kernel_rfl) (rds_last (rds_int Tryd.underlying3) rfl (by kernel_rfl)))) Tryd.underlying23 (by kernel_rfl)) rfl (by kernel_rfl) (rds_more (rds_slice (rds_int Tryd.underlying3) Tryd.underlying24 (by kernel_rfl)) rfl (by kernel_rfl) (rds_more (rds_slice (rds_int Tryd.underlying3) Tryd.underlying24 (by kernel_rfl)) rfl (by kernel_rfl) (rds_more (rds_int Tryd.underlying3) rfl (by kernel_rfl) (rds_more (rds_int Tryd.underlying3) rfl (by kernel_rfl) (rds_last (rds_int Tryd.underlying3) rfl (by kernel_rfl)))))))) h1
  obtain ⟨A1_0, c1_0, A1_1, c1_1, A1_2, c1_2, e1, hc1_0, hr1_0, hc1_1, hr1_1, hc1_2, hr1_2⟩ := k26_open K1
  obtain rfl := agg_cs e1
  have lt2 : ∀ x ∈ p2, x.block < W.heap.size := by obtain ⟨m, hm⟩ := h2; exact DataW.trod_lt m _ _ _ hm
  obtain ⟨cs2, rfl, z2⟩ := okWide_struct Tryd.underlying30 (hval 2 30 v2 rfl rfl)
  obtain ⟨s2, K2, w2⟩ := rds_par (rds_struct (fun x : S30 => (x.f0, x.f1, x.f2, x.f3)) (fun p => (⟨p.1, p.2.1, p.2.2.1, p.2.2.2⟩ : S30)) (fun _ => rfl) Tryd.underlying30 (by kernel_rfl) (rds_more (rds_slice (rds_int Tryd.underlying3) Tryd.underlying24 (by kernel_rfl)) rfl (by kernel_rfl) (rds_more (rds_int Tryd.underlying3) rfl (by kernel_rfl) (rds_more (rds_int Tryd.underlying3) rfl (by kernel_rfl) (rds_last (rds_int Tryd.underlying3) rfl (by kernel_rfl)))))) h2
  obtain ⟨A2_0, c2_0, e2, hc2_0, hr2_0⟩ := k30_open K2
  obtain rfl := agg_cs e2
  have hk := P0 l0 s1 s2 w0 w1 w2
  refine (spilelaw30_RefusalTrue.calls A0 c0 l0 A1_0 c1_0 s1.f0 A1_1 c1_1 s1.f1 A1_2 c1_2 s1.f2 s1.f3 s1.f4 s1.f5 A2_0 c2_0 s2.f0 s2.f1 s2.f2 s2.f3 true W hr0 hc0 hr1_0 hc1_0 hr1_1 hc1_1 hr1_2 hc1_2 hr2_0 hc2_0 (hypA hL) (hypP hL) hk).mono ?_
  rintro e W' ⟨rfl, hd⟩
  have bel : Below W.heap.size W W' := hd
  exact ⟨_, rfl, _, _, _, [], _, [], hW', trodAll_mk1 (shut_bool Tryd.underlying4 _), (trodAll_cons_mk (Below.trod laidOut (by kernel_rfl) (of_decide_eq_true (by kernel_rfl)) h0 bel lt0) (trodAll_cons_mk (Below.trod laidOut (by kernel_rfl) (of_decide_eq_true (by kernel_rfl)) h1 bel lt1) (trodAll_cons_mk (Below.trod laidOut (by kernel_rfl) (of_decide_eq_true (by kernel_rfl)) h2 bel lt2) trodAll_mk0))), rfl, bel.frame _, fun h => by cases h⟩
theorem over (P0 : Pure) : Rows.refusalTrueRow.holds Tryd.pinned (OpenSpec.ofChange Rows.refusalTrueSpec) :=
  OpenClaim.holds_of_wide 8 Tryd.f8 rfl rfl rfl rfl rfl rfl rfl ⟨rfl, rfl, rfl, rfl, rfl⟩ rfl rfl rfl rfl rfl (by kernel_rfl) Tryd.func8 (by kernel_rfl)
    (of_decide_eq_true (by kernel_rfl)) (by unfold Func.isWrapper; first | (rw [if_pos (by decide +kernel)]; kernel_rfl) | (rw [if_neg (by decide +kernel)]; exact ⟨rfl, rfl⟩))
    (fun os started H enc _ => lifted P0 os started H enc)
set_option maxRecDepth 100000 in
theorem card (P0 : Pure) : Rows.RefusalTrueCardSaid :=
  Claim7.holds_tied_plain_at .later Rows.refusalTrueCard.alts Rows.refusalTrueCard.laidKinds true Rows.refusalTrueCard.stood.harness Rows.refusalTrueCard.stood.looks
    (over P0) (fun _ h => by cases h) (by kernel_rfl) (fun _ h => by cases h) refusalTrue_row_tie rfl ⟨rfl, rfl⟩ (by kernel_rfl) rfl
    (fun f fn hf hfn => by
      obtain rfl : f = 8 := Option.some.inj ((show Tryd.prog.funcNamed Rows.refusalTrueRow.func = some 8 by kernel_rfl).symm.trans hf) |>.symm
      obtain rfl : fn = Tryd.f8 := (Option.some.inj (Tryd.func8.symm.trans hfn)).symm
      exact ⟨by kernel_rfl, fun j t ht => by
        rw [Tryd.params8] at ht
        have hm : t ∈ Tryd.f8.params.toList := by rw [Tryd.params8]; simpa using Array.mem_of_getElem? ht
        have hall : (Tryd.f8.params.toList.all fun u => !Tryd.prog.wantsStandIn u) = true := by kernel_rfl
        exact (show Tryd.prog.wantsStandIn t = false by simpa using List.all_eq_true.1 hall t hm)⟩)
    (by kernel_rfl)
end Go.Proofs.YtcdkbciagchlgaaDoor.refusalTrue
