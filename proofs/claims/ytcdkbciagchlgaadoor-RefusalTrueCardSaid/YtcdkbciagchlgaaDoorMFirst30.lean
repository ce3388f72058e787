/- blend.first and blend.Most: a sound answer. -/
import Derived.Test.YtcdkbciagchlgaaDoorMPlans30
import Derived.Test.YtcdkbciagchlgaaDoorPF0
import Derived.Test.YtcdkbciagchlgaaDoorPF18
import Derived.Test.YtcdkbciagchlgaaDoorPF22
import Derived.Test.YtcdkbciagchlgaaDoorPF23
import Derived.Test.YtcdkbciagchlgaaDoorPF6
import Derived.Test.YtcdkbciagchlgaaDoorPF7
import Derived.Test.YtcdkbciagchlgaaDoorPF9
import Derived.RangeFuncNested
import Derived.RangeFuncBound
import Derived.RangeFuncCalls
import Derived.RangeFuncLeaves
import Derived.RangeFuncBox
import Derived.Shelf.RegionOpen
import Derived.WalkKit
import Derived.OwnWalkIn
import Derived.TacticsInMore
import Derived.LoopNIn
import Derived.LoopIn
import Derived.Sort.LoopGhostIn
import Derived.Lib.SliceRun
import Derived.Carry
import Derived.Sort.CutIn
import Derived.Deep.CutBlock
import Derived.BigRegion
import Derived.Shelf.Abstract
import Derived.StillTailTactics
import Derived.Laws.Cover3
namespace Go.Proofs.YtcdkbciagchlgaaDoor.PF
open Go.RowKit Go.Proofs.YtcdkbciagchlgaaDoorW.PrintWords Go.Proofs.YtcdkbciagchlgaaDoorW.PrintLast Go.Proofs.YtcdkbciagchlgaaDoorW.PrintMore
set_option linter.unusedVariables false
set_option linter.unusedSimpArgs false
theorem calls_inRound {n l : Nat} {P : Program} {f : FuncId} {args : Array Value} {w : World} {R R' : Ending → World → Prop} (h : Calls P f args w R) (hr : ∀ e w', R e w' → R' e w') : CallsIn (Fence.wide.inRound l) n P f args w R' :=
  ⟨trivial, fun cs _ => let ⟨e, w', fr, r, s, x⟩ := h cs; ⟨e, w', fr, hr _ _ r, comesIn_wide.2 s, x⟩⟩
theorem rows_inRound {n l : Nat} {P : Program} {row : String} {args : Array Value} {w : World} {R : Value → World → Prop} (h : Rows P row args w R) : RowsIn (Fence.wide.inRound l) n P row args w R :=
  fun c cs _ => let ⟨v, w', r, s⟩ := h c cs; ⟨v, w', r, stepsIn_wide.2 s⟩
theorem oper_inRound {n l : Nat} {P : Program} {o : Oper} {a : Act} {w : World} {K K' : Act → World → Prop} {Q Q' : Exit → Act → World → Prop} (hd : ∀ c, o.op ≠ .defer c) (hL : ¬ LetsOut Q') (hQ : ∀ e a w, Q' e a w → Q e a w) (hK : ∀ a w, K' a w → K a w)
    (h : o.wp P a w K' Q') : o.wpIn (Fence.wide.inRound l) n P a w K Q := by
  refine ⟨fun _ _ => trivial, ?_⟩
  rw [Oper.semAt_plain _ _ _ hd]
  unfold Oper.wp at h
  cases hx : (execOp a.eval o).run P w with
  | ok x w' =>
    rw [hx] at h
    cases x with
    | value v => exact hK _ _ h
    | skip => exact hK _ _ h
    | defer d => exact hK _ _ h
    | enter f args =>
      refine ⟨(fun h => (by cases h)), ?_⟩
      refine calls_inRound h ?_
      intro e w'' he
      cases e with
      | returned v => exact hK _ _ he
      | panicked c => exact hQ _ _ _ he
      | outgrown => exact absurd he hL
    | row r args => exact ⟨(fun h => (by cases h)), (rows_inRound h).mono fun _ _ h => hK _ _ h⟩
    | _ => exact h.elim
  | halt x w' =>
    rw [hx] at h
    cases x with
    | panic v => exact hQ _ _ _ h
    | _ => exact h.elim
theorem any_inRound {n l : Nat} {P : Program} {md : Region.Mode} {ops : Array Oper} {Q Q' : Exit → Act → World → Prop} (hd : ∀ (i : Nat) (o : Oper), ops[i]? = some o → ∀ c, o.op ≠ .defer c) (hL : ¬ LetsOut Q') (hQ : ∀ e a w, Q' e a w → Q e a w) :
    ∀ (fuel : Nat) (li : Array Bool) (a : Act) (w : World), wpAny P md ops Q' fuel li a w → wpAnyIn (Fence.wide.inRound l) n P md ops Q fuel li a w
  | 0, _, _, _, h => ⟨h.1, hQ _ _ _ h.2⟩
  | fuel + 1, li, a, w, h => ⟨fun e => hQ _ _ _ (h.1 e), fun i hi => by
    have h2 := h.2 i hi
    unfold wpOp at h2
    unfold wpOpIn
    cases ho : ops[i]? with
    | none => rw [ho] at h2; exact any_inRound hd hL hQ fuel _ _ _ h2
    | some o =>
      rw [ho] at h2
      dsimp only at h2 ⊢
      by_cases hw : Region.wanted o (yielded ops a.tmps) = true
      · rw [if_pos hw] at h2 ⊢
        rcases h2 with h3 | h3
        · exact oper_inRound (hd i o ho) hL hQ (fun a w h => any_inRound hd hL hQ fuel _ a w h) h3
        · exact absurd h3.2 hL
      · rw [if_neg hw] at h2 ⊢
        exact ⟨fun _ _ => trivial, any_inRound hd hL hQ fuel _ _ _ h2⟩⟩
def noDefer (ops : Array Oper) : Bool := ops.all fun o => match o.op with | .defer _ => false | _ => true
theorem noDefer_spec {ops : Array Oper} (h : noDefer ops = true) : ∀ (i : Nat) (o : Oper), ops[i]? = some o → ∀ c, o.op ≠ .defer c := by
  intro i o ho c hc
  have := Array.all_eq_true_iff_forall_mem.1 h o (Array.mem_of_getElem? ho)
  rw [hc] at this
  cases this
theorem startR_ {P : Program} {ops : Array Oper} {Q Q' : Exit → Act → World → Prop} {S : World → Prop} {ds : List Nat} {id n m r : Nat} {a : Act} {w : World} (l : Array Bool) (hm : P.follows .mixedOrders = true) (hn : ops.size = n) (hl : Array.replicate n false = l) (hd : noDefer ops = true) (hL : ¬ LetsOut Q') (hQ : ∀ e a w, Q' e a w → Q e a w) (hS : S w.drew)
    (h : S w.drew → wpAnyLast P .any ops Q' S ds n l a w.drew) : (Code.region id ops true).wpIn (Fence.wide.inRound r) m P Q a w := by
  subst hn
  subst hl
  exact wpIn_region_any hm (any_inRound (noDefer_spec hd) hL hQ _ _ _ _ (wpAny_of_last _ _ _ _ (h hS)))
theorem most1.calls (k : Nat) (A : Option Addr) (c : Nat) (l : List Int) (r : Int) (w : World) (hr : Kd.C (Kd.int .i64) w A l.length l) (hc : l.length ≤ c) (h : blend_sum.f k l = some r) :
    Calls Tryd.prog 53 #[.slice A l.length c] w fun e w' => e = .returned (.int .i64 (wrap64 (-r))) ∧ ∃ m, w' = w.drewN m := by
  have HS := Aside0.mk (blend_sum.calls k A c l r w hr hc h)
  clear hr hc h
  refine calls_of_wp Tryd.func53 rfl ?_
  simp only [Tryd.ntmps53, List.size_toArray, List.length_cons, List.length_nil, Nat.reduceAdd, Nat.reduceSub, Array.replicate_succ, Array.replicate_zero, List.push_toArray, List.append_toArray, List.nil_append, List.cons_append]
  go_wp2_with (go_at_call 54; refine HS.out.mono ?_; rintro e w1 ⟨rfl, ⟨nd, rfl⟩⟩)
  go_ret
  exact ⟨rfl, nd, rfl⟩
def HF (D0 D1 : Int) (v0 v1 v2 v3 v4 v5 vo : Value) (bd bo bb bu : Nat) (W : World) : Prop := W.cell? ⟨bd, 0, none⟩ = some (.int .i64 D0) ∧ W.cell? ⟨bd, 1, none⟩ = some (.int .i64 D1) ∧ W.cell? ⟨bo, 0, none⟩ = some v0 ∧ W.cell? ⟨bo, 1, none⟩ = some v1 ∧ W.cell? ⟨bo, 2, none⟩ = some v2 ∧ W.cell? ⟨bo, 3, none⟩ = some v3 ∧ W.cell? ⟨bo, 4, none⟩ = some v4 ∧ W.cell? ⟨bo, 5, none⟩ = some v5 ∧ W.cell? ⟨bb, 0, none⟩ = some (.func (.func 53) #[] #[]) ∧ W.cell? ⟨bu, 0, none⟩ = some vo
theorem HF.below {D0 D1 : Int} {v0 v1 v2 v3 v4 v5 vo : Value} {bd bo bb bu : Nat} {W W' : World} (h : HF D0 D1 v0 v1 v2 v3 v4 v5 vo bd bo bb bu W) (hb : Below W.heap.size W W') : HF D0 D1 v0 v1 v2 v3 v4 v5 vo bd bo bb bu W' := by
  obtain ⟨s0, s1, s2, s3, s4, s5, s6, s7, s8, s9⟩ := h
  exact ⟨pw_cell_below hb s0, pw_cell_below hb s1, pw_cell_below hb s2, pw_cell_below hb s3, pw_cell_below hb s4, pw_cell_below hb s5, pw_cell_below hb s6, pw_cell_below hb s7, pw_cell_below hb s8, pw_cell_below hb s9⟩
set_option maxHeartbeats 8000000 in
set_option maxRecDepth 100000 in
theorem first.region (k : Nat) (D0 D1 : Int) (bd bo bb bu : Nat) (A0 : Option Addr) (c0 : Nat) (l0 : List S45) (A1 : Option Addr) (c1 : Nat) (l1 : List Int) (A2 : Option Addr) (c2 : Nat) (l2 : List Int) (a3 a4 a5 : Int) (Au : Option Addr) (cu : Nat) (u : List Int) (vo : Value) (r : Bool) (W : World) (lr m : Nat) (Q : Exit → Act → World → Prop) (t0 t1 t2 t3 t6 t7 t8 t12 t13 t14 t15 t16 t17 t18 t19 t20 t21 t22 t23 t24 t25 t26 t27 t28 t29 t30 t31 t32 t33 t34 t35 t36 t37 t38 t39 t40 t41 t42 t43 t44 t45 t46 : Value)
    (hr0 : Kd.C k45 W A0 l0.length l0) (hc0 : l0.length ≤ c0) (hr1 : Kd.C (Kd.int .i64) W A1 l1.length l1) (hc1 : l1.length ≤ c1) (hr2 : Kd.C (Kd.int .i64) W A2 l2.length l2) (hc2 : l2.length ≤ c2) (hru : Kd.C (Kd.int .i64) W Au u.length u) (hcu : u.length ≤ cu)
    (hh : HF D0 D1 (.slice A0 l0.length c0) (.slice A1 l1.length c1) (.slice A2 l2.length c2) (.int .i64 a3) (.int .i64 a4) (.int .i64 a5) vo bd bo bb bu W) (hcar : blend_ends_carries.f k D0 D1 l0 l1 l2 a3 a4 a5 u = some r)
    (su : Int) (hsu : blend_sum.f k u = some su) (hvo : vo = .slice none 0 0 ∨ ∃ (go : Addr) (co : Nat) (uo : List Int) (so : Int), vo = .slice (some go) uo.length co ∧ Kd.C (Kd.int .i64) W (some go) uo.length uo ∧ uo.length ≤ co ∧ blend_sum.f k uo = some so)
    (hQ : ∀ (W' : World) (s22 s23 s24 s25 s26 s27 s28 s29 s30 s31 s32 s33 s34 s35 s36 s37 : Value) (b : Bool), (b = true → r = true) → Below W.heap.size W W' → Q .normal { tmps := #[t0, t1, t2, t3, .pointer (some ⟨bo, 0, none⟩), .pointer (some ⟨bb, 0, none⟩), t6, t7, t8, .pointer (some ⟨bd, 0, none⟩), .pointer (some ⟨bu, 0, none⟩), .slice Au u.length cu, t12, t13, t14, t15, t16, t17, t18, t19, t20, t21, s22, s23, s24, s25, s26, s27, s28, s29, s30, s31, s32, s33, s34, s35, s36, s37, .bool b, t39, t40, t41, t42, t43, t44, t45, t46], defers := [] } W') :
    (Code.region 7 (opsOf Tryd.f52 7) true).wpIn (Fence.wide.inRound lr) m Tryd.prog Q { tmps := #[t0, t1, t2, t3, .pointer (some ⟨bo, 0, none⟩), .pointer (some ⟨bb, 0, none⟩), t6, t7, t8, .pointer (some ⟨bd, 0, none⟩), .pointer (some ⟨bu, 0, none⟩), .slice Au u.length cu, t12, t13, t14, t15, t16, t17, t18, t19, t20, t21, t22, t23, t24, t25, t26, t27, t28, t29, t30, t31, t32, t33, t34, t35, t36, t37, t38, t39, t40, t41, t42, t43, t44, t45, t46], defers := [] } W := by
  have hu93 := Tryd.underlying93
  have hu26 := Tryd.underlying26
  have hu24 := Tryd.underlying24
  have eqn : ∀ (w : World) (a : Option Addr) (n c : Nat), (binOp .eql 24 (.slice a n c) (.slice none 0 0)).run Tryd.prog w = .ok (.bool a.isNone) w := fun w a n c => by
    simp only [binOp]
    simp [run_equal_slice_nil w 24 3 a n c hu24]
  have HR := Aside0.mk (⟨hr0, hr1, hr2, hru⟩ : _ ∧ _ ∧ _ ∧ _)
  have HC := Aside0.mk (⟨hc0, hc1, hc2, hcu⟩ : _ ∧ _ ∧ _ ∧ _)
  have HCAR := Aside0.mk hcar
  have HSU := Aside0.mk hsu
  have HVO := Aside0.mk hvo
  have HH := Aside0.mk (hh.below (below_drew (Below.refl _ _)))
  have HB := Aside0.mk (below_drew (Below.refl W.heap.size W))
  clear hr0 hr1 hr2 hru hc0 hc1 hc2 hcu hcar hsu hvo hh
  simp only [opsOf, Tryd.f52, opsIn, Option.bind_some, Option.getD_some, Nat.reduceBEq, Bool.false_eq_true, if_false, if_true]
  refine startR_ (Q' := fun e a w' => e = .normal ∧ ∃ s22 s23 s24 s25 s26 s27 s28 s29 s30 s31 s32 s33 s34 s35 s36 s37, ∃ b : Bool, a = { tmps := #[t0, t1, t2, t3, .pointer (some ⟨bo, 0, none⟩), .pointer (some ⟨bb, 0, none⟩), t6, t7, t8, .pointer (some ⟨bd, 0, none⟩), .pointer (some ⟨bu, 0, none⟩), .slice Au u.length cu, t12, t13, t14, t15, t16, t17, t18, t19, t20, t21, s22, s23, s24, s25, s26, s27, s28, s29, s30, s31, s32, s33, s34, s35, s36, s37, .bool b, t39, t40, t41, t42, t43, t44, t45, t46], defers := [] } ∧ (b = true → r = true) ∧ Below W.heap.size W w') (n := 17) (S := fun w' => HF D0 D1 (.slice A0 l0.length c0) (.slice A1 l1.length c1) (.slice A2 l2.length c2) (.int .i64 a3) (.int .i64 a4) (.int .i64 a5) vo bd bo bb bu w') (ds := []) #[false, false, false, false, false, false, false, false, false, false, false, false, false, false, false, false, false] (by kernel_rfl) rfl rfl (by kernel_rfl) (by rintro ⟨_, _, h⟩; cases h.1) (by rintro e a w' ⟨rfl, _, _, _, _, _, _, _, _, _, _, _, _, _, _, _, _, b, rfl, h1, h2⟩; exact hQ _ _ _ _ _ _ _ _ _ _ _ _ _ _ _ _ _ b h1 h2) HH.out (fun _ => ?_)
  clear hQ
  generalize W.drew = w1 at HH HB ⊢
  refine take_ (i := 0) (N := some 22) (v := ?_) (a' := ?_) #[true, false, false, false, false, false, false, false, false, false, false, false, false, false, false, false, false] rfl rfl (by kernel_rfl) (fun _ _ _ h => by cases h.1) (Or.inl ⟨by rfl, ?_⟩) HH.out ?_ ?_
  rotate_left
  · rintro w' ⟨s0, s1, s2, s3, s4, s5, s6, s7, s8, s9⟩; go_simp; with_reducible rfl
  rotate_left
  · simp only [Act.put, List.setIfInBounds_toArray, List.set_cons_zero, List.set_cons_succ, i64_w, i32_w]; rfl
  refine take_ (i := 1) (N := some 23) (v := ?_) (a' := ?_) #[true, true, false, false, false, false, false, false, false, false, false, false, false, false, false, false, false] rfl rfl (by kernel_rfl) (fun _ _ _ h => by cases h.1) (Or.inl ⟨by rfl, ?_⟩) HH.out ?_ ?_
  rotate_left
  · rintro w' ⟨s0, s1, s2, s3, s4, s5, s6, s7, s8, s9⟩; go_simp; with_reducible rfl
  rotate_left
  · simp only [Act.put, List.setIfInBounds_toArray, List.set_cons_zero, List.set_cons_succ, i64_w, i32_w]; rfl
  refine pure_ (i := 2) (N := some 24) (v := ?_) (a' := ?_) #[true, true, true, false, false, false, false, false, false, false, false, false, false, false, false, false, false] rfl rfl (by kernel_rfl) (fun _ _ _ h => by cases h.1) (Or.inl ⟨by rfl, ?_⟩) ?_ ?_
  rotate_left
  · intro w'; go_simp; with_reducible rfl
  rotate_left
  · simp only [Act.put, List.setIfInBounds_toArray, List.set_cons_zero, List.set_cons_succ, i64_w, i32_w]; rfl
  refine one_ (i := 3) (N := some 25) #[true, true, true, true, false, false, false, false, false, false, false, false, false, false, false, false, false] rfl rfl (by kernel_rfl) (by decide) (fun K hK => ?_)
  refine goes_ Tryd.func73 (by kernel_rfl) rfl #[.agg #[.int .i64 D0, .int .i64 D1], .agg #[.slice A0 l0.length c0, .slice A1 l1.length c1, .slice A2 l2.length c2, .int .i64 a3, .int .i64 a4, .int .i64 a5], .slice Au u.length cu] (by rfl) rfl rfl (by (try simp only [List.map_toArray, List.map_cons, List.map_nil]); first | done | rfl) ?_
  refine (blend_ends_carries.calls k D0 D1 A0 c0 l0 A1 c1 l1 A2 c2 l2 a3 a4 a5 Au cu u r w1 (Kd.C_below HR.out.1 HB.out) HC.out.1 (Kd.C_below HR.out.2.1 HB.out) HC.out.2.1 (Kd.C_below HR.out.2.2.1 HB.out) HC.out.2.2.1 (Kd.C_below HR.out.2.2.2 HB.out) HC.out.2.2.2 HCAR.out).mono ?_
  rintro e w4 ⟨rfl, hb⟩
  refine ⟨_, rfl, ?_⟩
  replace HB := Aside0.mk (below_step HB.out hb)
  replace HH := Aside0.mk (HH.out.below hb)
  refine hK.out _ _ HH.out (fun _ => ?_)
  clear hK K
  refine norm_ (a' := ?_) ?_ ?_
  rotate_left
  · show Act.put _ (some 25) _ = _
    simp only [Act.put, List.setIfInBounds_toArray, List.set_cons_zero, List.set_cons_succ, i64_w, i32_w]; rfl
  refine pure_ (i := 4) (N := some 26) (v := ?_) (a' := ?_) #[true, true, true, true, true, false, false, false, false, false, false, false, false, false, false, false, false] rfl rfl (by kernel_rfl) (fun _ _ _ h => by cases h.1) (Or.inl ⟨by rfl, ?_⟩) ?_ ?_
  rotate_left
  · intro w'; go_simp; with_reducible rfl
  rotate_left
  · simp only [Act.put, List.setIfInBounds_toArray, List.set_cons_zero, List.set_cons_succ, i64_w, i32_w]; rfl
  cases r
  · skip
    refine pure_ (i := 5) (N := some 27) (v := undef) (a' := ?_) #[true, true, true, true, true, true, false, false, false, false, false, false, false, false, false, false, false] rfl rfl (by kernel_rfl) (fun _ _ _ h => by cases h.1) (Or.inr ⟨by rfl, rfl⟩) ?_ ?_
    rotate_left
    · simp only [Act.put, List.setIfInBounds_toArray, List.set_cons_zero, List.set_cons_succ, i64_w, i32_w]; rfl
    refine pure_ (i := 6) (N := some 28) (v := undef) (a' := ?_) #[true, true, true, true, true, true, true, false, false, false, false, false, false, false, false, false, false] rfl rfl (by kernel_rfl) (fun _ _ _ h => by cases h.1) (Or.inr ⟨by rfl, rfl⟩) ?_ ?_
    rotate_left
    · simp only [Act.put, List.setIfInBounds_toArray, List.set_cons_zero, List.set_cons_succ, i64_w, i32_w]; rfl
    refine pure_ (i := 7) (N := some 29) (v := undef) (a' := ?_) #[true, true, true, true, true, true, true, true, false, false, false, false, false, false, false, false, false] rfl rfl (by kernel_rfl) (fun _ _ _ h => by cases h.1) (Or.inr ⟨by rfl, rfl⟩) ?_ ?_
    rotate_left
    · simp only [Act.put, List.setIfInBounds_toArray, List.set_cons_zero, List.set_cons_succ, i64_w, i32_w]; rfl
    refine pure_ (i := 8) (N := some 30) (v := undef) (a' := ?_) #[true, true, true, true, true, true, true, true, true, false, false, false, false, false, false, false, false] rfl rfl (by kernel_rfl) (fun _ _ _ h => by cases h.1) (Or.inr ⟨by rfl, rfl⟩) ?_ ?_
    rotate_left
    · simp only [Act.put, List.setIfInBounds_toArray, List.set_cons_zero, List.set_cons_succ, i64_w, i32_w]; rfl
    refine pure_ (i := 9) (N := some 31) (v := undef) (a' := ?_) #[true, true, true, true, true, true, true, true, true, true, false, false, false, false, false, false, false] rfl rfl (by kernel_rfl) (fun _ _ _ h => by cases h.1) (Or.inr ⟨by rfl, rfl⟩) ?_ ?_
    rotate_left
    · simp only [Act.put, List.setIfInBounds_toArray, List.set_cons_zero, List.set_cons_succ, i64_w, i32_w]; rfl
    refine pure_ (i := 10) (N := some 32) (v := undef) (a' := ?_) #[true, true, true, true, true, true, true, true, true, true, true, false, false, false, false, false, false] rfl rfl (by kernel_rfl) (fun _ _ _ h => by cases h.1) (Or.inr ⟨by rfl, rfl⟩) ?_ ?_
    rotate_left
    · simp only [Act.put, List.setIfInBounds_toArray, List.set_cons_zero, List.set_cons_succ, i64_w, i32_w]; rfl
    refine pure_ (i := 11) (N := some 33) (v := undef) (a' := ?_) #[true, true, true, true, true, true, true, true, true, true, true, true, false, false, false, false, false] rfl rfl (by kernel_rfl) (fun _ _ _ h => by cases h.1) (Or.inr ⟨by rfl, rfl⟩) ?_ ?_
    rotate_left
    · simp only [Act.put, List.setIfInBounds_toArray, List.set_cons_zero, List.set_cons_succ, i64_w, i32_w]; rfl
    refine pure_ (i := 12) (N := some 34) (v := undef) (a' := ?_) #[true, true, true, true, true, true, true, true, true, true, true, true, true, false, false, false, false] rfl rfl (by kernel_rfl) (fun _ _ _ h => by cases h.1) (Or.inr ⟨by rfl, rfl⟩) ?_ ?_
    rotate_left
    · simp only [Act.put, List.setIfInBounds_toArray, List.set_cons_zero, List.set_cons_succ, i64_w, i32_w]; rfl
    refine pure_ (i := 13) (N := some 35) (v := undef) (a' := ?_) #[true, true, true, true, true, true, true, true, true, true, true, true, true, true, false, false, false] rfl rfl (by kernel_rfl) (fun _ _ _ h => by cases h.1) (Or.inr ⟨by rfl, rfl⟩) ?_ ?_
    rotate_left
    · simp only [Act.put, List.setIfInBounds_toArray, List.set_cons_zero, List.set_cons_succ, i64_w, i32_w]; rfl
    refine pure_ (i := 14) (N := some 36) (v := undef) (a' := ?_) #[true, true, true, true, true, true, true, true, true, true, true, true, true, true, true, false, false] rfl rfl (by kernel_rfl) (fun _ _ _ h => by cases h.1) (Or.inr ⟨by rfl, rfl⟩) ?_ ?_
    rotate_left
    · simp only [Act.put, List.setIfInBounds_toArray, List.set_cons_zero, List.set_cons_succ, i64_w, i32_w]; rfl
    refine pure_ (i := 15) (N := some 37) (v := undef) (a' := ?_) #[true, true, true, true, true, true, true, true, true, true, true, true, true, true, true, true, false] rfl rfl (by kernel_rfl) (fun _ _ _ h => by cases h.1) (Or.inr ⟨by rfl, rfl⟩) ?_ ?_
    rotate_left
    · simp only [Act.put, List.setIfInBounds_toArray, List.set_cons_zero, List.set_cons_succ, i64_w, i32_w]; rfl
    refine pure_ (i := 16) (N := some 38) (v := ?_) (a' := ?_) #[true, true, true, true, true, true, true, true, true, true, true, true, true, true, true, true, true] rfl rfl (by kernel_rfl) (fun _ _ _ h => by cases h.1) (Or.inl ⟨by rfl, ?_⟩) ?_ ?_
    rotate_left
    · intro w'; go_simp; with_reducible rfl
    rotate_left
    · simp only [Act.put, List.setIfInBounds_toArray, List.set_cons_zero, List.set_cons_succ, i64_w, i32_w]; rfl
    exact done_ (by kernel_rfl) ⟨rfl, _, _, _, _, _, _, _, _, _, _, _, _, _, _, _, _, _, rfl, (by first | (intro h; cases h; done) | (intro _; rfl)), HB.out⟩
  rcases HVO.out with hv | ⟨go, co, uo, so, hv, hro, hco, hso⟩
  · subst hv
    refine take_ (i := 5) (N := some 27) (v := ?_) (a' := ?_) #[true, true, true, true, true, true, false, false, false, false, false, false, false, false, false, false, false] rfl rfl (by kernel_rfl) (fun _ _ _ h => by cases h.1) (Or.inl ⟨by rfl, ?_⟩) HH.out ?_ ?_
    rotate_left
    · rintro w' ⟨s0, s1, s2, s3, s4, s5, s6, s7, s8, s9⟩; go_simp; with_reducible rfl
    rotate_left
    · simp only [Act.put, List.setIfInBounds_toArray, List.set_cons_zero, List.set_cons_succ, i64_w, i32_w]; rfl
    refine pure_ (i := 6) (N := some 28) (v := ?_) (a' := ?_) #[true, true, true, true, true, true, true, false, false, false, false, false, false, false, false, false, false] rfl rfl (by kernel_rfl) (fun _ _ _ h => by cases h.1) (Or.inl ⟨by rfl, ?_⟩) ?_ ?_
    rotate_left
    · intro w'; go_simp; with_reducible rfl
    rotate_left
    · simp only [Act.put, List.setIfInBounds_toArray, List.set_cons_zero, List.set_cons_succ, i64_w, i32_w]; rfl
    refine pure_ (i := 7) (N := some 29) (v := ?_) (a' := ?_) #[true, true, true, true, true, true, true, true, false, false, false, false, false, false, false, false, false] rfl rfl (by kernel_rfl) (fun _ _ _ h => by cases h.1) (Or.inl ⟨by rfl, ?_⟩) ?_ ?_
    rotate_left
    · intro w'; go_simp; with_reducible rfl
    rotate_left
    · simp only [Act.put, List.setIfInBounds_toArray, List.set_cons_zero, List.set_cons_succ, i64_w, i32_w]; rfl
    refine pure_ (i := 8) (N := some 30) (v := undef) (a' := ?_) #[true, true, true, true, true, true, true, true, true, false, false, false, false, false, false, false, false] rfl rfl (by kernel_rfl) (fun _ _ _ h => by cases h.1) (Or.inr ⟨by rfl, rfl⟩) ?_ ?_
    rotate_left
    · simp only [Act.put, List.setIfInBounds_toArray, List.set_cons_zero, List.set_cons_succ, i64_w, i32_w]; rfl
    refine pure_ (i := 9) (N := some 31) (v := undef) (a' := ?_) #[true, true, true, true, true, true, true, true, true, true, false, false, false, false, false, false, false] rfl rfl (by kernel_rfl) (fun _ _ _ h => by cases h.1) (Or.inr ⟨by rfl, rfl⟩) ?_ ?_
    rotate_left
    · simp only [Act.put, List.setIfInBounds_toArray, List.set_cons_zero, List.set_cons_succ, i64_w, i32_w]; rfl
    refine pure_ (i := 10) (N := some 32) (v := undef) (a' := ?_) #[true, true, true, true, true, true, true, true, true, true, true, false, false, false, false, false, false] rfl rfl (by kernel_rfl) (fun _ _ _ h => by cases h.1) (Or.inr ⟨by rfl, rfl⟩) ?_ ?_
    rotate_left
    · simp only [Act.put, List.setIfInBounds_toArray, List.set_cons_zero, List.set_cons_succ, i64_w, i32_w]; rfl
    refine pure_ (i := 11) (N := some 33) (v := undef) (a' := ?_) #[true, true, true, true, true, true, true, true, true, true, true, true, false, false, false, false, false] rfl rfl (by kernel_rfl) (fun _ _ _ h => by cases h.1) (Or.inr ⟨by rfl, rfl⟩) ?_ ?_
    rotate_left
    · simp only [Act.put, List.setIfInBounds_toArray, List.set_cons_zero, List.set_cons_succ, i64_w, i32_w]; rfl
    refine pure_ (i := 12) (N := some 34) (v := undef) (a' := ?_) #[true, true, true, true, true, true, true, true, true, true, true, true, true, false, false, false, false] rfl rfl (by kernel_rfl) (fun _ _ _ h => by cases h.1) (Or.inr ⟨by rfl, rfl⟩) ?_ ?_
    rotate_left
    · simp only [Act.put, List.setIfInBounds_toArray, List.set_cons_zero, List.set_cons_succ, i64_w, i32_w]; rfl
    refine pure_ (i := 13) (N := some 35) (v := undef) (a' := ?_) #[true, true, true, true, true, true, true, true, true, true, true, true, true, true, false, false, false] rfl rfl (by kernel_rfl) (fun _ _ _ h => by cases h.1) (Or.inr ⟨by rfl, rfl⟩) ?_ ?_
    rotate_left
    · simp only [Act.put, List.setIfInBounds_toArray, List.set_cons_zero, List.set_cons_succ, i64_w, i32_w]; rfl
    refine pure_ (i := 14) (N := some 36) (v := undef) (a' := ?_) #[true, true, true, true, true, true, true, true, true, true, true, true, true, true, true, false, false] rfl rfl (by kernel_rfl) (fun _ _ _ h => by cases h.1) (Or.inr ⟨by rfl, rfl⟩) ?_ ?_
    rotate_left
    · simp only [Act.put, List.setIfInBounds_toArray, List.set_cons_zero, List.set_cons_succ, i64_w, i32_w]; rfl
    refine pure_ (i := 15) (N := some 37) (v := ?_) (a' := ?_) #[true, true, true, true, true, true, true, true, true, true, true, true, true, true, true, true, false] rfl rfl (by kernel_rfl) (fun _ _ _ h => by cases h.1) (Or.inl ⟨by rfl, ?_⟩) ?_ ?_
    rotate_left
    · intro w'; go_simp; with_reducible rfl
    rotate_left
    · simp only [Act.put, List.setIfInBounds_toArray, List.set_cons_zero, List.set_cons_succ, i64_w, i32_w]; rfl
    refine pure_ (i := 16) (N := some 38) (v := ?_) (a' := ?_) #[true, true, true, true, true, true, true, true, true, true, true, true, true, true, true, true, true] rfl rfl (by kernel_rfl) (fun _ _ _ h => by cases h.1) (Or.inl ⟨by rfl, ?_⟩) ?_ ?_
    rotate_left
    · intro w'; go_simp; with_reducible rfl
    rotate_left
    · simp only [Act.put, List.setIfInBounds_toArray, List.set_cons_zero, List.set_cons_succ, i64_w, i32_w]; rfl
    exact done_ (by kernel_rfl) ⟨rfl, _, _, _, _, _, _, _, _, _, _, _, _, _, _, _, _, _, rfl, (by first | (intro h; cases h; done) | (intro _; rfl)), HB.out⟩
  · subst hv
    have HRO := Aside0.mk (⟨hro, hco, hso⟩ : _ ∧ _ ∧ _)
    clear hro hco hso
    refine take_ (i := 5) (N := some 27) (v := ?_) (a' := ?_) #[true, true, true, true, true, true, false, false, false, false, false, false, false, false, false, false, false] rfl rfl (by kernel_rfl) (fun _ _ _ h => by cases h.1) (Or.inl ⟨by rfl, ?_⟩) HH.out ?_ ?_
    rotate_left
    · rintro w' ⟨s0, s1, s2, s3, s4, s5, s6, s7, s8, s9⟩; go_simp; with_reducible rfl
    rotate_left
    · simp only [Act.put, List.setIfInBounds_toArray, List.set_cons_zero, List.set_cons_succ, i64_w, i32_w]; rfl
    refine pure_ (i := 6) (N := some 28) (v := ?_) (a' := ?_) #[true, true, true, true, true, true, true, false, false, false, false, false, false, false, false, false, false] rfl rfl (by kernel_rfl) (fun _ _ _ h => by cases h.1) (Or.inl ⟨by rfl, ?_⟩) ?_ ?_
    rotate_left
    · intro w'; go_simp; with_reducible rfl
    rotate_left
    · simp only [Act.put, List.setIfInBounds_toArray, List.set_cons_zero, List.set_cons_succ, i64_w, i32_w]; rfl
    refine pure_ (i := 7) (N := some 29) (v := ?_) (a' := ?_) #[true, true, true, true, true, true, true, true, false, false, false, false, false, false, false, false, false] rfl rfl (by kernel_rfl) (fun _ _ _ h => by cases h.1) (Or.inl ⟨by rfl, ?_⟩) ?_ ?_
    rotate_left
    · intro w'; go_simp; with_reducible rfl
    rotate_left
    · simp only [Act.put, List.setIfInBounds_toArray, List.set_cons_zero, List.set_cons_succ, i64_w, i32_w]; rfl
    refine take_ (i := 8) (N := some 30) (v := ?_) (a' := ?_) #[true, true, true, true, true, true, true, true, true, false, false, false, false, false, false, false, false] rfl rfl (by kernel_rfl) (fun _ _ _ h => by cases h.1) (Or.inl ⟨by rfl, ?_⟩) HH.out ?_ ?_
    rotate_left
    · rintro w' ⟨s0, s1, s2, s3, s4, s5, s6, s7, s8, s9⟩; go_simp; with_reducible rfl
    rotate_left
    · simp only [Act.put, List.setIfInBounds_toArray, List.set_cons_zero, List.set_cons_succ, i64_w, i32_w]; rfl
    refine pure_ (i := 9) (N := some 31) (v := ?_) (a' := ?_) #[true, true, true, true, true, true, true, true, true, true, false, false, false, false, false, false, false] rfl rfl (by kernel_rfl) (fun _ _ _ h => by cases h.1) (Or.inl ⟨by rfl, ?_⟩) ?_ ?_
    rotate_left
    · intro w'; go_simp; with_reducible rfl
    rotate_left
    · simp only [Act.put, List.setIfInBounds_toArray, List.set_cons_zero, List.set_cons_succ, i64_w, i32_w]; rfl
    refine take_ (i := 11) (N := some 33) (v := ?_) (a' := ?_) #[true, true, true, true, true, true, true, true, true, true, false, true, false, false, false, false, false] rfl rfl (by kernel_rfl) (fun _ _ _ h => by cases h.1) (Or.inl ⟨by rfl, ?_⟩) HH.out ?_ ?_
    rotate_left
    · rintro w' ⟨s0, s1, s2, s3, s4, s5, s6, s7, s8, s9⟩; go_simp; with_reducible rfl
    rotate_left
    · simp only [Act.put, List.setIfInBounds_toArray, List.set_cons_zero, List.set_cons_succ, i64_w, i32_w]; rfl
    refine take_ (i := 12) (N := some 34) (v := ?_) (a' := ?_) #[true, true, true, true, true, true, true, true, true, true, false, true, true, false, false, false, false] rfl rfl (by kernel_rfl) (fun _ _ _ h => by cases h.1) (Or.inl ⟨by rfl, ?_⟩) HH.out ?_ ?_
    rotate_left
    · rintro w' ⟨s0, s1, s2, s3, s4, s5, s6, s7, s8, s9⟩; go_simp; with_reducible rfl
    rotate_left
    · simp only [Act.put, List.setIfInBounds_toArray, List.set_cons_zero, List.set_cons_succ, i64_w, i32_w]; rfl
    refine one_ (i := 10) (N := some 32) #[true, true, true, true, true, true, true, true, true, true, true, true, true, false, false, false, false] rfl rfl (by kernel_rfl) (by decide) (fun K hK => ?_)
    refine call_ 53 #[.slice Au u.length cu] (by rfl) rfl (by go_simp) ?_
    refine (most1.calls k Au cu u su _ (Kd.C_below HR.out.2.2.2 HB.out) HC.out.2.2.2 HSU.out).mono ?_
    rintro e w5 ⟨rfl, nd, rfl⟩
    refine ⟨_, rfl, ?_⟩
    replace HB := Aside0.mk (below_step HB.out (pw_below_drewN (Below.refl _ _) nd))
    replace HH := Aside0.mk (HH.out.below (pw_below_drewN (Below.refl _ _) nd))
    refine hK.out _ _ HH.out (fun _ => ?_)
    clear hK K
    refine norm_ (a' := ?_) ?_ ?_
    rotate_left
    · show Act.put _ (some 32) _ = _
      simp only [Act.put, List.setIfInBounds_toArray, List.set_cons_zero, List.set_cons_succ, i64_w, i32_w]; rfl
    refine one_ (i := 13) (N := some 35) #[true, true, true, true, true, true, true, true, true, true, true, true, true, true, false, false, false] rfl rfl (by kernel_rfl) (by decide) (fun K hK => ?_)
    refine call_ 53 #[.slice (some go) uo.length co] (by rfl) rfl (by go_simp) ?_
    refine (most1.calls k (some go) co uo so _ (Kd.C_below HRO.out.1 HB.out) HRO.out.2.1 HRO.out.2.2).mono ?_
    rintro e w5 ⟨rfl, nd, rfl⟩
    refine ⟨_, rfl, ?_⟩
    replace HB := Aside0.mk (below_step HB.out (pw_below_drewN (Below.refl _ _) nd))
    replace HH := Aside0.mk (HH.out.below (pw_below_drewN (Below.refl _ _) nd))
    refine hK.out _ _ HH.out (fun _ => ?_)
    clear hK K
    refine norm_ (a' := ?_) ?_ ?_
    rotate_left
    · show Act.put _ (some 35) _ = _
      simp only [Act.put, List.setIfInBounds_toArray, List.set_cons_zero, List.set_cons_succ, i64_w, i32_w]; rfl
    refine pure_ (i := 14) (N := some 36) (v := ?_) (a' := ?_) #[true, true, true, true, true, true, true, true, true, true, true, true, true, true, true, false, false] rfl rfl (by kernel_rfl) (fun _ _ _ h => by cases h.1) (Or.inl ⟨by rfl, ?_⟩) ?_ ?_
    rotate_left
    · intro w'; go_simp; with_reducible rfl
    rotate_left
    · simp only [Act.put, List.setIfInBounds_toArray, List.set_cons_zero, List.set_cons_succ, i64_w, i32_w]; rfl
    refine pure_ (i := 15) (N := some 37) (v := ?_) (a' := ?_) #[true, true, true, true, true, true, true, true, true, true, true, true, true, true, true, true, false] rfl rfl (by kernel_rfl) (fun _ _ _ h => by cases h.1) (Or.inl ⟨by rfl, ?_⟩) ?_ ?_
    rotate_left
    · intro w'; go_simp; with_reducible rfl
    rotate_left
    · simp only [Act.put, List.setIfInBounds_toArray, List.set_cons_zero, List.set_cons_succ, i64_w, i32_w]; rfl
    refine pure_ (i := 16) (N := some 38) (v := ?_) (a' := ?_) #[true, true, true, true, true, true, true, true, true, true, true, true, true, true, true, true, true] rfl rfl (by kernel_rfl) (fun _ _ _ h => by cases h.1) (Or.inl ⟨by rfl, ?_⟩) ?_ ?_
    rotate_left
    · intro w'; go_simp; with_reducible rfl
    rotate_left
    · simp only [Act.put, List.setIfInBounds_toArray, List.set_cons_zero, List.set_cons_succ, i64_w, i32_w]; rfl
    exact done_ (by kernel_rfl) ⟨rfl, _, _, _, _, _, _, _, _, _, _, _, _, _, _, _, _, _, rfl, fun _ => rfl, HB.out⟩
theorem RowsStay.below {X Y : World} (h : Below X.heap.size X Y) : RowsStay X Y := fun k cs hk => (h.block k (blk_lt hk)).trans hk
theorem RowsStay.other {X : World} {b t : Nat} {cs : Array Value} (hb : X.heap[b]? = some (.cells cs t (0, 0))) (ht : t ≠ 3) (i : Nat) (v : Value) : RowsStay X (X.setCell ⟨b, i, none⟩ v) := fun k cs' hk => blk_far hk (p := ⟨b, i, none⟩) (fun e => by
  have e' : k = b := e
  rw [e', hb] at hk
  injection hk with hk
  injection hk with _ h2
  exact ht h2) v
def FI (w : World) (D bp bo bb bd bu : Nat) (oc dc : Array Value) (V : List Int) (C : List Int → Prop) (pre : List Value) (W : World) : Prop :=
  Below w.heap.size w W ∧ D ≤ W.heap.size ∧ W.heap[bp]? = some (.cells oc 26 (0, 0)) ∧ W.heap[bo]? = some (.cells oc 26 (0, 0)) ∧ W.heap[bb]? = some (.cells #[.func (.func 53) #[] #[]] 80 (0, 0)) ∧ W.heap[bd]? = some (.cells dc 93 (0, 0)) ∧
  ∃ vo, W.heap[bu]? = some (.cells #[vo] 24 (0, 0)) ∧ (vo = .slice none 0 0 ∨ (pre ≠ [] ∧ ∃ (ad : Addr) (co : Nat) (uo : List Int), vo = .slice (some ad) uo.length co ∧ Kd.R (Kd.int .i64) 3 W D (fun q => ∀ x ∈ pre, x.ownBlock ≠ some q) vo uo ∧ PlOK V uo ∧ C uo))
theorem FI.below {w : World} {D bp bo bb bd bu : Nat} {oc dc : Array Value} {V : List Int} {C : List Int → Prop} {pre : List Value} {X Y : World} (h : FI w D bp bo bb bd bu oc dc V C pre X) (hb : Below X.heap.size X Y) : FI w D bp bo bb bd bu oc dc V C pre Y := by
  obtain ⟨h1, h2, h3, h4, h5, h6, vo, h7, h8⟩ := h
  refine ⟨below_step h1 hb, Nat.le_trans h2 hb.size, blk_below h3 hb, blk_below h4 hb, blk_below h5 hb, blk_below h6 hb, vo, blk_below h7 hb, ?_⟩
  rcases h8 with h | ⟨h9, ad, co, uo, e, hR, hp, hc⟩
  · exact .inl h
  · exact .inr ⟨h9, ad, co, uo, e, Kd.R_below hR hb, hp, hc⟩
theorem FI.own {w : World} {D bp bo bb bd bu : Nat} {oc dc : Array Value} {V : List Int} {C : List Int → Prop} (hD : w.heap.size ≤ D) : OwnFrom D (FI w D bp bo bb bd bu oc dc V C) := by
  intro s X Y row hs hg hr
  have hr2 : ∀ r, row = some r → ∃ o : Obj, X.heap[r]? = some o ∧ o.isCells = false := fun r e => (hr r e).2
  obtain ⟨h1, h2, h3, h4, h5, h6, vo, h7, h8⟩ := hs
  refine ⟨ownFrom_below (w₀ := w) (n₀ := w.heap.size) (B := D) (Nat.le_refl _) hD s X Y row h1 hg hr, Nat.le_trans h2 hg.size, kept_cellsR hg hr2 h3, kept_cellsR hg hr2 h4, kept_cellsR hg hr2 h5, kept_cellsR hg hr2 h6, vo, kept_cellsR hg hr2 h7, ?_⟩
  rcases h8 with h | ⟨h9, ad, co, uo, e, hR, hp, hc⟩
  · exact .inl h
  · exact .inr ⟨h9, ad, co, uo, e, kept_RR hg hr2 hR, hp, hc⟩
theorem FI.set {w : World} {D bp bo bb bd bu : Nat} {oc dc : Array Value} {V : List Int} {C : List Int → Prop} {pre : List Value} {X : World} (hD : w.heap.size ≤ D) (hl : bp < D ∧ bo < D ∧ bb < D ∧ bd < D ∧ bu < D) (g i : Nat) (v : Value) (h : FI w D bp bo bb bd bu oc dc V C pre X) (hg : D ≤ g) (ho : ∀ x ∈ pre, x.ownBlock = some g) (hne : pre ≠ []) :
    FI w D bp bo bb bd bu oc dc V C pre (X.setCell ⟨g, i, none⟩ v) := by
  obtain ⟨l1, l2, l3, l4, l5⟩ := hl
  obtain ⟨h1, h2, h3, h4, h5, h6, vo, h7, h8⟩ := h
  refine ⟨below_set h1 (by omega), by rw [World.size_setCell]; exact h2, blk_far h3 (p := ⟨g, i, none⟩) (by show bp ≠ g; omega) v, blk_far h4 (p := ⟨g, i, none⟩) (by show bo ≠ g; omega) v, blk_far h5 (p := ⟨g, i, none⟩) (by show bb ≠ g; omega) v, blk_far h6 (p := ⟨g, i, none⟩) (by show bd ≠ g; omega) v, vo, blk_far h7 (p := ⟨g, i, none⟩) (by show bu ≠ g; omega) v, ?_⟩
  rcases h8 with h | ⟨h9, ad, co, uo, e, hR, hp, hc⟩
  · exact .inl h
  · refine .inr ⟨h9, ad, co, uo, e, Kd.R_far hR (p := ⟨g, i, none⟩) (fun q hq e => ?_) v, hp, hc⟩
    obtain ⟨x, hx⟩ := List.exists_mem_of_ne_nil pre hne
    exact hq x hx (by rw [ho x hx, e])
theorem FI.push {w : World} {D bp bo bb bd bu : Nat} {oc dc : Array Value} {V : List Int} {C : List Int → Prop} {pre : List Value} {X : World} (h : FI w D bp bo bb bd bu oc dc V C pre X) (g : Nat) (x : Value) (hx : x.ownBlock = some g) (ho : ∀ y ∈ pre, y.ownBlock = some g) : FI w D bp bo bb bd bu oc dc V C (pre ++ [x]) X := by
  obtain ⟨h1, h2, h3, h4, h5, h6, vo, h7, h8⟩ := h
  refine ⟨h1, h2, h3, h4, h5, h6, vo, h7, ?_⟩
  rcases h8 with h | ⟨h9, ad, co, uo, e, hR, hp, hc⟩
  · exact .inl h
  · refine .inr ⟨by simp, ad, co, uo, e, Kd.R_mono hR (fun q hq y hy => ?_), hp, hc⟩
    rcases List.mem_append.1 hy with hy | hy
    · exact hq y hy
    · rw [List.mem_singleton.1 hy, hx]
      obtain ⟨y0, hy0⟩ := List.exists_mem_of_ne_nil pre h9
      have := hq y0 hy0
      rwa [ho y0 hy0] at this
theorem blk_ne {W : World} {g g' t t' : Nat} {cs cs' : Array Value} (h : W.heap[g]? = some (.cells cs t (0, 0))) (h' : W.heap[g']? = some (.cells cs' t' (0, 0))) (ht : t ≠ t') : g ≠ g' := fun e => by
  rw [e, h'] at h
  injection h with h
  injection h with _ h2
  exact ht h2.symm
theorem FI.best {w : World} {D bp bo bb bd bu base : Nat} {oc dc : Array Value} {V : List Int} {C : List Int → Prop} {pre : List Value} {X : World} (hD : w.heap.size ≤ D) (hl : bu < D) (hbu : w.heap.size ≤ bu) (h : FI w D bp bo bb bd bu oc dc V C pre X) (g : Nat) (x : Value) (hx : x.ownBlock = some g) (ho : ∀ y ∈ pre, y.ownBlock = some g) (v : Value) (u : List Int)
    (hR : Kd.R (Kd.int .i64) 3 X base (fun _ => True) v u) (hb : D ≤ base) (hgb : g < base) (hu : 0 < u.length) (hp : PlOK V u) (hc : C u) : FI w D bp bo bb bd bu oc dc V C (pre ++ [x]) (X.setCell ⟨bu, 0, none⟩ v) := by
  obtain ⟨h1, h2, h3, h4, h5, h6, vo, h7, h8⟩ := h
  obtain ⟨A, co, rfl⟩ := Kd.R_slice hR
  obtain ⟨ad, e, -⟩ := Kd.at_int (Kd.R_reads' hR).2.2 0 (by omega) (by omega)
  subst e
  refine ⟨below_set h1 hbu, by rw [World.size_setCell]; exact h2, blk_far h3 (p := ⟨bu, 0, none⟩) (blk_ne h3 h7 (by decide)) _, blk_far h4 (p := ⟨bu, 0, none⟩) (blk_ne h4 h7 (by decide)) _, blk_far h5 (p := ⟨bu, 0, none⟩) (blk_ne h5 h7 (by decide)) _, blk_far h6 (p := ⟨bu, 0, none⟩) (blk_ne h6 h7 (by decide)) _, _, blk_put h7 0 _ rfl, .inr ⟨by simp, ad, co, u, rfl, ?_, hp, hc⟩⟩
  have hR2 := Kd.R_mono (Kd.R_bound hR) (ok' := fun q => base ≤ q) (fun q hq => hq.2.1)
  refine Kd.R_mono (Kd.R_lower (Kd.R_far hR2 (p := ⟨bu, 0, none⟩) (fun q hq (e : q = bu) => by omega) _) hb) (fun q hq y hy e => ?_)
  have : y.ownBlock = some g := by
    rcases List.mem_append.1 hy with hy | hy
    · exact ho y hy
    · rw [List.mem_singleton.1 hy, hx]
  rw [this] at e
  cases e
  omega
def FirstR (k : Nat) (D0 D1 : Int) (l0 : List S45) (l1 l2 : List Int) (a3 a4 a5 r0 n c : Int) : Prop :=
  (r0 ≠ 0 ∧ n = 0 ∧ c = 1) ∨ (r0 = 0 ∧ n = 0 ∧ c = 20) ∨ (r0 = 0 ∧ c = 0 ∧ ∃ u s, PlOK l1 u ∧ blend_ends_carries.f k D0 D1 l0 l1 l2 a3 a4 a5 u = some true ∧ blend_sum.f k u = some s ∧ n = wrap64 (-s))
attribute [local go_sem] Oper.semAt_some
set_option maxHeartbeats 8000000 in
set_option maxRecDepth 100000 in
theorem blend_first.calls (k : Nat) (Ag : Option Addr) (cg : Nat) (lg : List S82) (A0 : Option Addr) (c0 : Nat) (l0 : List S45) (A1 : Option Addr) (c1 : Nat) (l1 : List Int) (A2 : Option Addr) (c2 : Nat) (l2 : List Int) (a3 a4 a5 D0 D1 r0 : Int) (w : World)
    (hrg : Kd.C k82 w Ag lg.length lg) (hcg : lg.length ≤ cg) (hr0 : Kd.C k45 w A0 l0.length l0) (hc0 : l0.length ≤ c0) (hr1 : Kd.C (Kd.int .i64) w A1 l1.length l1) (hc1 : l1.length ≤ c1) (hr2 : Kd.C (Kd.int .i64) w A2 l2.length l2) (hc2 : l2.length ≤ c2)
    (hf : blend_Check.f lg l0 l1 l2 a3 a4 a5 = some r0)
    (hok : r0 = 0 → blend_edge.f lg l0 l1 l2 a3 a4 a5 = some (D0, D1) ∧ 0 < l1.length ∧ l1.length ≤ 4 ∧ (∀ j : Nat, j < l1.length → 0 ≤ rd l1 (j : Int) ∧ rd l1 (j : Int) ≤ 64) ∧ (∀ u, PlOK l1 u → ∃ r, blend_ends_carries.f k D0 D1 l0 l1 l2 a3 a4 a5 u = some r) ∧ ∀ u, PlOK l1 u → ∃ s, blend_sum.f k u = some s) :
    Calls Tryd.prog 52 #[.slice Ag lg.length cg, .agg #[.slice A0 l0.length c0, .slice A1 l1.length c1, .slice A2 l2.length c2, .int .i64 a3, .int .i64 a4, .int .i64 a5], .func (.func 53) #[] #[]] w fun e w' => ∃ v n c, e = .returned (.tuple #[v, .int .i64 n, .int .i64 c]) ∧ Below w.heap.size w w' ∧ FirstR k D0 D1 l0 l1 l2 a3 a4 a5 r0 n c := by
  have hu93 := Tryd.underlying93
  have hu26 := Tryd.underlying26
  have hu24 := Tryd.underlying24
  have eqn : ∀ (w : World) (a : Option Addr) (n c : Nat), (binOp .eql 24 (.slice a n c) (.slice none 0 0)).run Tryd.prog w = .ok (.bool a.isNone) w := fun w a n c => by
    simp only [binOp]
    simp [run_equal_slice_nil w 24 3 a n c hu24]
  have HROW := Aside0.mk (fun (W : World) (hb : Below w.heap.size w W) => (⟨Kd.C_below hrg hb, Kd.C_below hr0 hb, Kd.C_below hr1 hb, Kd.C_below hr2 hb⟩ : _ ∧ _ ∧ _ ∧ _))
  have HC := Aside0.mk (⟨hcg, hc0, hc1, hc2⟩ : _ ∧ _ ∧ _ ∧ _)
  have HFA := Aside0.mk hf
  have HOK := Aside0.mk hok
  clear hrg hr0 hr1 hr2 hcg hc0 hc1 hc2 hf hok
  refine (callsIn_wide (n := 6)).1 ?_
  refine callsIn_of_wp_marks Tryd.func52 rfl trivial ?_ rfl
  simp only [Tryd.ntmps52, List.size_toArray, List.length_cons, List.length_nil, Nat.reduceAdd, Nat.reduceSub, Array.replicate_succ, Array.replicate_zero, List.push_toArray, List.append_toArray, List.nil_append, List.cons_append]
  gi_wp2_with fail
  obtain ⟨W1, hW1⟩ : ∃ W1, W1 = (w.alloc (.cells #[.slice A0 l0.length c0, .slice A1 l1.length c1, .slice A2 l2.length c2, .int .i64 a3, .int .i64 a4, .int .i64 a5] 26)).alloc (.cells #[.func (.func 53) #[] #[]] 80) := ⟨_, rfl⟩
  have HB1 := Aside0.mk (show Below w.heap.size w W1 by rw [hW1]; exact below_alloc (below_alloc (Below.refl _ _) _) _)
  have bO : W1.heap[w.heap.size]? = some (.cells #[.slice A0 l0.length c0, .slice A1 l1.length c1, .slice A2 l2.length c2, .int .i64 a3, .int .i64 a4, .int .i64 a5] 26 (0, 0)) := by rw [hW1]; exact blk_below (blk_new w _) (below_alloc (Below.refl _ _) _)
  have bB : W1.heap[w.heap.size + 1]? = some (.cells #[.func (.func 53) #[] #[]] 80 (0, 0)) := by
    have h1 := blk_new (w.alloc (.cells #[.slice A0 l0.length c0, .slice A1 l1.length c1, .slice A2 l2.length c2, .int .i64 a3, .int .i64 a4, .int .i64 a5] 26)) (.cells #[.func (.func 53) #[] #[]] 80)
    rw [World.size_alloc] at h1
    rw [hW1]; exact h1
  rw [← hW1]
  clear hW1
  obtain ⟨q0, q1, q2, q3⟩ := HROW.out W1 HB1.out
  refine ⟨trivial, (callsIn_wide.2 (blend_Check.calls Ag cg lg A0 c0 l0 A1 c1 l1 A2 c2 l2 a3 a4 a5 r0 W1 q0 HC.out.1 q1 HC.out.2.1 q2 HC.out.2.2.1 q3 HC.out.2.2.2 HFA.out)).mono ?_⟩
  clear q0 q1 q2 q3
  rintro e W2 ⟨rfl, hb⟩
  have HB2 := Aside0.mk (below_step HB1.out hb)
  have BX2 := Aside0.mk (⟨blk_below bO hb, blk_below bB hb⟩ : _ ∧ _)
  clear hb bO bB
  have s0 : W2.cell? ⟨w.heap.size, 0, none⟩ = some (.slice A0 l0.length c0) := blk_cell BX2.out.1 0
  have s1 : W2.cell? ⟨w.heap.size, 1, none⟩ = some (.slice A1 l1.length c1) := blk_cell BX2.out.1 1
  have s2 : W2.cell? ⟨w.heap.size, 2, none⟩ = some (.slice A2 l2.length c2) := blk_cell BX2.out.1 2
  have s3 : W2.cell? ⟨w.heap.size, 3, none⟩ = some (.int .i64 a3) := blk_cell BX2.out.1 3
  have s4 : W2.cell? ⟨w.heap.size, 4, none⟩ = some (.int .i64 a4) := blk_cell BX2.out.1 4
  have s5 : W2.cell? ⟨w.heap.size, 5, none⟩ = some (.int .i64 a5) := blk_cell BX2.out.1 5
  by_cases he : r0 = 0
  case neg =>
    have b1 : (r0 != 0) = true := bne_iff_ne.mpr he
    have HE := Aside0.mk he
    clear he
    gi_wp2_with fail
    refine ⟨.tuple #[.slice none 0 0, .int .i64 0, .int .i64 1], ?_, ?_⟩
    · simp [results, Tryd.f52, go_sem]
    · exact ⟨_, _, _, rfl, HB2.out, .inl ⟨HE.out, rfl, rfl⟩⟩
  subst he
  replace HOK := Aside0.mk (HOK.out rfl)
  have b1 : ((0 : Int) != 0) = false := rfl
  gi_wp2_with fail
  have hedge := HOK.out.1
  obtain ⟨q0, q1, q2, q3⟩ := HROW.out W2 HB2.out
  refine ⟨trivial, (callsIn_wide.2 (blend_edge.calls Ag cg lg A0 c0 l0 A1 c1 l1 A2 c2 l2 a3 a4 a5 D0 D1 W2 q0 HC.out.1 q1 HC.out.2.1 q2 HC.out.2.2.1 q3 HC.out.2.2.2 hedge)).mono ?_⟩
  clear q0 q1 q2 q3 hedge s0 s1 s2 s3 s4 s5
  rintro e W3 ⟨rfl, hb⟩
  have HB3 := Aside0.mk (below_step HB2.out hb)
  have BX3 := Aside0.mk (⟨blk_below BX2.out.1 hb, blk_below BX2.out.2 hb⟩ : _ ∧ _)
  clear hb
  have s0 : ∀ o o', ((W3.alloc o).alloc o').cell? ⟨w.heap.size, 0, none⟩ = some (.slice A0 l0.length c0) := fun o o' => blk_cell (blk_alloc (blk_alloc BX3.out.1 o) o') 0
  have s1 : ∀ o o', ((W3.alloc o).alloc o').cell? ⟨w.heap.size, 1, none⟩ = some (.slice A1 l1.length c1) := fun o o' => blk_cell (blk_alloc (blk_alloc BX3.out.1 o) o') 1
  have s2 : ∀ o o', ((W3.alloc o).alloc o').cell? ⟨w.heap.size, 2, none⟩ = some (.slice A2 l2.length c2) := fun o o' => blk_cell (blk_alloc (blk_alloc BX3.out.1 o) o') 2
  have s3 : ∀ o o', ((W3.alloc o).alloc o').cell? ⟨w.heap.size, 3, none⟩ = some (.int .i64 a3) := fun o o' => blk_cell (blk_alloc (blk_alloc BX3.out.1 o) o') 3
  have s4 : ∀ o o', ((W3.alloc o).alloc o').cell? ⟨w.heap.size, 4, none⟩ = some (.int .i64 a4) := fun o o' => blk_cell (blk_alloc (blk_alloc BX3.out.1 o) o') 4
  have s5 : ∀ o o', ((W3.alloc o).alloc o').cell? ⟨w.heap.size, 5, none⟩ = some (.int .i64 a5) := fun o o' => blk_cell (blk_alloc (blk_alloc BX3.out.1 o) o') 5
  gi_wp2_with fail
  clear s0 s1 s2 s3 s4 s5
  obtain ⟨W4, hW4⟩ : ∃ W4, W4 = (W3.alloc (.cells #[.int .i64 D0, .int .i64 D1] 93)).alloc (.cells #[.slice none 0 0] 24) := ⟨_, rfl⟩
  have hb34 : Below W3.heap.size W3 W4 := by rw [hW4]; exact below_alloc (below_alloc (Below.refl _ _) _) _
  have bD : W4.heap[W3.heap.size]? = some (.cells #[.int .i64 D0, .int .i64 D1] 93 (0, 0)) := by rw [hW4]; exact blk_below (blk_new W3 _) (below_alloc (Below.refl _ _) _)
  have bU : W4.heap[W3.heap.size + 1]? = some (.cells #[.slice none 0 0] 24 (0, 0)) := by
    have h1 := blk_new (W3.alloc (.cells #[.int .i64 D0, .int .i64 D1] 93)) (.cells #[.slice none 0 0] 24)
    rw [World.size_alloc] at h1
    rw [hW4]; exact h1
  rw [← hW4]
  clear hW4
  refine ⟨trivial, (callsIn_wide.2 (plans.known l1 A0 A1 A2 l0.length c0 c1 l2.length c2 a3 a4 a5 W4)).mono ?_⟩
  rintro e W5 ⟨bp, rfl, hbp, bP, hb⟩
  have HI0 := Aside0.mk (show FI w W5.heap.size bp w.heap.size (w.heap.size + 1) W3.heap.size (W3.heap.size + 1) #[.slice A0 l0.length c0, .slice A1 l1.length c1, .slice A2 l2.length c2, .int .i64 a3, .int .i64 a4, .int .i64 a5] #[.int .i64 D0, .int .i64 D1] l1 (fun u => blend_ends_carries.f k D0 D1 l0 l1 l2 a3 a4 a5 u = some true) [] W5 from
    ⟨below_step (below_step HB3.out hb34) hb, Nat.le_refl _, bP, blk_below (blk_below BX3.out.1 hb34) hb, blk_below (blk_below BX3.out.2 hb34) hb, blk_below bD hb, _, blk_below bU hb, .inl rfl⟩)
  have HLT := Aside0.mk (show bp < W5.heap.size ∧ w.heap.size < W5.heap.size ∧ w.heap.size + 1 < W5.heap.size ∧ W3.heap.size < W5.heap.size ∧ W3.heap.size + 1 < W5.heap.size from ⟨blk_lt bP, blk_lt HI0.out.2.2.2.1, blk_lt HI0.out.2.2.2.2.1, blk_lt HI0.out.2.2.2.2.2.1, blk_lt (blk_below bU hb)⟩)
  have HWD := Aside0.mk (show w.heap.size ≤ W5.heap.size from HI0.out.1.size)
  clear hb34 bD bU bP hb hbp
  gi_wp2_with fail
  refine range_g rfl (by omega) (gf := 84) (lb := #[.pointer (some ⟨bp, 0, none⟩)]) rfl trivial (enters_of Tryd.func84 (by kernel_rfl) rfl)
    (fun v => #[v]) (fun _ => True) (fun _ => True) (prodP l1 l1.length).toNat RowsStay (fun _ => True) (FI w W5.heap.size bp w.heap.size (w.heap.size + 1) W3.heap.size (W3.heap.size + 1) #[.slice A0 l0.length c0, .slice A1 l1.length c1, .slice A2 l2.length c2, .int .i64 a3, .int .i64 a4, .int .i64 a5] #[.int .i64 D0, .int .i64 D1] l1 (fun u => blend_ends_carries.f k D0 D1 l0 l1 l2 a3 a4 a5 u = some true)) (fun _ _ => False) (GP W5.heap.size l1)
    (fun pre x a' W => a' = { tmps := #[.slice Ag lg.length cg, .agg #[.slice A0 l0.length c0, .slice A1 l1.length c1, .slice A2 l2.length c2, .int .i64 a3, .int .i64 a4, .int .i64 a5], .func (.func 53) #[] #[], undef, .pointer (some ⟨w.heap.size, 0, none⟩), .pointer (some ⟨w.heap.size + 1, 0, none⟩), .slice none 0 0, .int .i64 0, .int .i64 0, .pointer (some ⟨W3.heap.size, 0, none⟩), .pointer (some ⟨W3.heap.size + 1, 0, none⟩), x, .slice Ag lg.length cg, .agg #[.slice A0 l0.length c0, .slice A1 l1.length c1, .slice A2 l2.length c2, .int .i64 a3, .int .i64 a4, .int .i64 a5], .int .i64 0, .bool false, .slice Ag lg.length cg, .agg #[.slice A0 l0.length c0, .slice A1 l1.length c1, .slice A2 l2.length c2, .int .i64 a3, .int .i64 a4, .int .i64 a5], .agg #[.int .i64 D0, .int .i64 D1], .agg #[.slice A0 l0.length c0, .slice A1 l1.length c1, .slice A2 l2.length c2, .int .i64 a3, .int .i64 a4, .int .i64 a5], .func (.func 84) #[] #[.pointer (some ⟨bp, 0, none⟩)], x, undef, undef, undef, undef, undef, undef, undef, undef, undef, undef, undef, undef, undef, undef, undef, undef, undef, undef, undef, undef, undef, undef, undef, undef, undef], defers := [] } ∧ GP W5.heap.size l1 pre x W)
    (plans.iter 5 bp W5.heap.size l1 A0 A1 A2 l0.length c0 c1 l2.length c2 a3 a4 a5 HC.out.2.2.1 HOK.out.2.1 HOK.out.2.2.1 HOK.out.2.2.2.1 _ _ (fun pre W h => ⟨h.2.2.1, (HROW.out W h.1).2.2.1, h.2.1⟩) (fun pre X Y h hb => h.below hb) (fun pre X g i v h hg ho hne => FI.set HWD.out HLT.out g i v h hg ho hne))
    (fun h1 h2 k cs hk => h2 k cs (h1 k cs hk)) (fun W l o o' _ hl ho k cs hk => ((grownBy_putObj' W l o').block k (blk_lt hk) (fun e2 => by cases e2; rw [hl] at hk; cases hk; cases ho)).trans hk) (fun _ => rfl) (FI.own HWD.out) (fun _ _ _ _ h => h.elim) ?own HI0.out (fun _ _ => trivial) ?assign ?body ?done ?stop
  case own =>
    rintro pre x a' _ X Y row ⟨h1, g, u, h2, h3, h4, h5, h6⟩ hg hr
    exact ⟨h1, g, u, h2, h3, h4, kept_RR hg (fun r e => (hr r e).2) h5, h6⟩
  case assign =>
    rintro l pre x W K hi hgp hK
    gi_wp2
    exact hK _ _ (KeepsFrom.refl _ _) (fun _ _ h => h) hi ⟨rfl, hgp⟩
  case body =>
    rintro l pre x a' W hi ⟨rfl, g, u, hx, hg0, hpl, hRu, hown⟩ hlen
    obtain ⟨ru, hcar⟩ := HOK.out.2.2.2.2.1 u hpl
    obtain ⟨su, hsu⟩ := HOK.out.2.2.2.2.2 u hpl
    have hun : u.length = l1.length := hpl.len
    have hx2 : x = .slice (some ⟨g, 0, none⟩) u.length u.length := by rw [hx, hun]
    clear hx
    subst hx2
    have HI := Aside0.mk hi
    obtain ⟨i1, i2, i3, i4, i5, i6, vo, i7, i8⟩ := hi
    have hgl : g < W.heap.size := World.block_lt_of_cell? W _ (Kd.R_celln 0 hRu 0 (by omega) (by have := HOK.out.2.1; omega)).1
    have HP := Aside0.mk (⟨hpl, hRu, hown, hcar, hgl, by rw [hun]; exact HOK.out.2.1⟩ : _ ∧ _ ∧ _ ∧ _ ∧ _ ∧ 0 < u.length)
    have HVO : Aside0 (vo = .slice none 0 0 ∨ ∃ (go : Addr) (co : Nat) (uo : List Int) (so : Int), vo = .slice (some go) uo.length co ∧ Kd.C (Kd.int .i64) W (some go) uo.length uo ∧ uo.length ≤ co ∧ blend_sum.f k uo = some so) := ⟨by
      rcases i8 with h | ⟨-, ad, co, uo, e, hR, hp, hc⟩
      · exact .inl h
      · obtain ⟨so, hso⟩ := HOK.out.2.2.2.2.2 uo hp
        rw [e] at hR
        exact .inr ⟨ad, co, uo, so, e, (Kd.R_reads' hR).2.2, (Kd.R_reads' hR).2.1, hso⟩⟩
    have HHF : Aside0 (HF D0 D1 (.slice A0 l0.length c0) (.slice A1 l1.length c1) (.slice A2 l2.length c2) (.int .i64 a3) (.int .i64 a4) (.int .i64 a5) vo W3.heap.size w.heap.size (w.heap.size + 1) (W3.heap.size + 1) W) := ⟨⟨blk_cell i6 0, blk_cell i6 1, blk_cell i4 0, blk_cell i4 1, blk_cell i4 2, blk_cell i4 3, blk_cell i4 4, blk_cell i4 5, blk_cell i5 0, blk_cell i7 0⟩⟩
    have HSU := Aside0.mk hsu
    have HBU := Aside0.mk i7
    have HB1W := Aside0.mk i1
    clear hpl hRu hown hcar hgl hsu hun i1 i2 i3 i4 i5 i6 i7 i8 hlen hg0
    gi_wp2_with fail
    refine first.region k D0 D1 W3.heap.size w.heap.size (w.heap.size + 1) (W3.heap.size + 1) A0 c0 l0 A1 c1 l1 A2 c2 l2 a3 a4 a5 (some ⟨g, 0, none⟩) u.length u vo ru W l _ _ _ _ _ _ _ _ _ _ _ _ _ _ _ _ _ _ _ _ _ _ _ _ _ _ _ _ _ _ _ _ _ _ _ _ _ _ _ _ _ _ _ _
      (HROW.out W HB1W.out).2.1 HC.out.2.1 (HROW.out W HB1W.out).2.2.1 HC.out.2.2.1 (HROW.out W HB1W.out).2.2.2 HC.out.2.2.2 (Kd.R_reads' HP.out.2.1).2.2 (Nat.le_refl _) HHF.out HP.out.2.2.2.1 su HSU.out HVO.out ?_
    intro W' s22 s23 s24 s25 s26 s27 s28 s29 s30 s31 s32 s33 s34 s35 s36 s37 b hb1 hbw
    have HBW := Aside0.mk hbw
    have HBT := Aside0.mk hb1
    clear hbw hb1
    cases b
    · gi_wp2_with fail
      exact ⟨(KeepsOthers.of_grownBy (grown_of_below HBW.out none) (fun j o h => by cases h)).from _, RowsStay.below HBW.out, (HI.out.below HBW.out).push g (.slice (some ⟨g, 0, none⟩) u.length u.length) rfl HP.out.2.2.1⟩
    · gi_wp2_with fail
      have hRW := Kd.R_below HP.out.2.1 HBW.out
      refine ⟨trivial, (CallsIn.inRound l (callsIn_wide.2 (slices_Clone_int_int.calls (some ⟨g, 0, none⟩) u.length u u W' (Kd.R_reads' hRW).2.2 (Nat.le_refl _) (by unfold slices_Clone_int_int.f; rw [if_pos (by have := HP.out.1.len; have := HOK.out.2.2.1; omega)])))).mono ?_⟩
      clear hRW
      rintro e W6 ⟨v0, rfl, hR6, hb6⟩
      obtain ⟨A6, c6, rfl⟩ := Kd.R_slice hR6
      have hbu := blk_below (blk_below HBU.out HBW.out) hb6
      have z0 : W6.cell? ⟨W3.heap.size + 1, 0, none⟩ = some vo := blk_cell hbu 0
      have z1 : W6.frozen? ⟨W3.heap.size + 1, 0, none⟩ = false := blk_frozen hbu 0
      have HR6 := Aside0.mk hR6
      have HB6 := Aside0.mk hb6
      have HU6 := Aside0.mk hbu
      clear hR6 hb6 hbu
      gi_wp2_with fail
      have hsz := HBW.out.size
      have hsz3 := HB3.out.size
      exact ⟨((KeepsOthers.of_grownBy (grown_of_below (below_step HBW.out HB6.out) none) (fun j o h => by cases h)).trans (KeepsOthers.setCell _ _ _)).from _, fun kk cs hk => RowsStay.other HU6.out (by decide) 0 (.slice A6 u.length c6) kk cs (RowsStay.below (below_step HBW.out HB6.out) kk cs hk),
        FI.best HWD.out HLT.out.2.2.2.2 (by omega) ((HI.out.below HBW.out).below HB6.out) g (.slice (some ⟨g, 0, none⟩) u.length u.length) rfl HP.out.2.2.1 (.slice A6 u.length c6) u HR6.out (by have := HI.out.2.1; omega) (by have := HP.out.2.2.2.2.1; omega) HP.out.2.2.2.2.2 HP.out.1 (by rw [HP.out.2.2.2.1, HBT.out (by first | rfl | trivial)])⟩
  case done =>
    rintro xs W - hi hK
    obtain ⟨i1, i2, -, i4, i5, -, vo, i7, i8⟩ := hi
    have HBW := Aside0.mk i1
    have z0 : W.cell? ⟨W3.heap.size + 1, 0, none⟩ = some vo := blk_cell i7 0
    have y0 : W.cell? ⟨w.heap.size + 1, 0, none⟩ = some (.func (.func 53) #[] #[]) := blk_cell i5 0
    have HK := Aside0.mk hK
    rcases i8 with e | ⟨-, ad, co, uo, e, hR, hp, hc⟩
    · subst e
      clear i1 i2 i4 i5 i7 hK
      gi_wp2_with fail
      refine ⟨by simp, .inl ⟨_, _, rfl, run_takeDeferred HK.out, ?_⟩⟩
      refine ⟨.tuple #[.slice none 0 0, .int .i64 0, .int .i64 20], by simp [results, Tryd.f52, go_sem], ?_⟩
      exact ⟨_, _, _, rfl, HBW.out.trans (belowK_b (n₀ := w.heap.size) (w := W5) HWD.out _ W5.heap.size _ _ (Nat.le_refl _) HK.out rfl rfl), .inr (.inl ⟨rfl, rfl, rfl⟩)⟩
    · subst e
      obtain ⟨so, hso⟩ := HOK.out.2.2.2.2.2 uo hp
      have HM := Aside0.mk (fun m => most1.calls k (some ad) co uo so (W.drewN m) (Kd.C_below (Kd.R_reads' hR).2.2 (pw_below_drewN (Below.refl _ _) m)) (Kd.R_reads' hR).2.1 hso)
      have HE := Aside0.mk (⟨hp, hc, hso⟩ : _ ∧ _ ∧ _)
      clear i1 i2 i4 i5 i7 hK hp hc hso hR
      gi_wp2_with fail
      refine wpIn_region_quiet_lit rfl (by kernel_rfl) (by kernel_rfl) ?_
      gi_big_quiet_step (fail)
      gi_big_quiet_step (fail)
      gi_big_quiet_step (fail)
      refine wpQuietIn_step (fun _ _ _ _ => trivial) (fun K hK => ?_)
      go_simp
      apply Exists.intro
      refine ⟨fun _ => ?_, hK _ ?_⟩
      · refine CallsIn.quiet_of (callsIn_wide.2 (HM.out _))
      clear hK K
      repeat (gi_big_quiet_step (fail))
      refine wpQuietIn_nil ?_
      intro _ hw'
      obtain ⟨nq, hw''⟩ := hw'
      subst hw''
      gi_wp2_with fail
      have hK2 : (W.drewN nq).heap[W5.heap.size]? = some (.deferred (some [])) := HK.out
      refine ⟨by simp, .inl ⟨_, _, rfl, run_takeDeferred hK2, ?_⟩⟩
      refine ⟨.tuple #[.slice (some ad) uo.length co, .int .i64 (wrap64 (-so)), .int .i64 0], by simp [results, Tryd.f52, go_sem], ?_⟩
      exact ⟨_, _, _, rfl, (pw_below_drewN HBW.out nq).trans (belowK_b (n₀ := w.heap.size) (w := W5) HWD.out _ W5.heap.size _ _ (Nat.le_refl _) hK2 rfl rfl), .inr (.inr ⟨rfl, rfl, uo, so, HE.out.1, HE.out.2.1, HE.out.2.2, rfl⟩)⟩
  case stop =>
    rintro pre W - hR hK
    exact hR.elim
theorem blend_Most.calls (k : Nat) (Ag : Option Addr) (cg : Nat) (lg : List S82) (A0 : Option Addr) (c0 : Nat) (l0 : List S45) (A1 : Option Addr) (c1 : Nat) (l1 : List Int) (A2 : Option Addr) (c2 : Nat) (l2 : List Int) (a3 a4 a5 D0 D1 r0 : Int) (w : World)
    (hrg : Kd.C k82 w Ag lg.length lg) (hcg : lg.length ≤ cg) (hr0 : Kd.C k45 w A0 l0.length l0) (hc0 : l0.length ≤ c0) (hr1 : Kd.C (Kd.int .i64) w A1 l1.length l1) (hc1 : l1.length ≤ c1) (hr2 : Kd.C (Kd.int .i64) w A2 l2.length l2) (hc2 : l2.length ≤ c2)
    (hf : blend_Check.f lg l0 l1 l2 a3 a4 a5 = some r0)
    (hok : r0 = 0 → blend_edge.f lg l0 l1 l2 a3 a4 a5 = some (D0, D1) ∧ 0 < l1.length ∧ l1.length ≤ 4 ∧ (∀ j : Nat, j < l1.length → 0 ≤ rd l1 (j : Int) ∧ rd l1 (j : Int) ≤ 64) ∧ (∀ u, PlOK l1 u → ∃ r, blend_ends_carries.f k D0 D1 l0 l1 l2 a3 a4 a5 u = some r) ∧ ∀ u, PlOK l1 u → ∃ s, blend_sum.f k u = some s) :
    Calls Tryd.prog 25 #[.slice Ag lg.length cg, .agg #[.slice A0 l0.length c0, .slice A1 l1.length c1, .slice A2 l2.length c2, .int .i64 a3, .int .i64 a4, .int .i64 a5]] w fun e w' => ∃ v n c, e = .returned (.tuple #[v, .int .i64 (wrap64 (-n)), .int .i64 c]) ∧ Below w.heap.size w w' ∧ FirstR k D0 D1 l0 l1 l2 a3 a4 a5 r0 n c := by
  have hu26 := Tryd.underlying26
  have HM := Aside0.mk (fun (W : World) (hb : Below w.heap.size w W) => blend_first.calls k Ag cg lg A0 c0 l0 A1 c1 l1 A2 c2 l2 a3 a4 a5 D0 D1 r0 W (Kd.C_below hrg hb) hcg (Kd.C_below hr0 hb) hc0 (Kd.C_below hr1 hb) hc1 (Kd.C_below hr2 hb) hc2 hf hok)
  clear hrg hr0 hr1 hr2 hcg hc0 hc1 hc2 hf hok
  refine calls_of_wp Tryd.func25 rfl ?_
  simp only [Tryd.ntmps25, List.size_toArray, List.length_cons, List.length_nil, Nat.reduceAdd, Nat.reduceSub, Array.replicate_succ, Array.replicate_zero, List.push_toArray, List.append_toArray, List.nil_append, List.cons_append]
  go_wp2_with (go_at_call 52; refine (HM.out _ (below_alloc (Below.refl _ _) _)).mono ?_; rintro e w1 ⟨v, n, c, rfl, hb, hr⟩; have HB := Aside0.mk hb; have HR := Aside0.mk hr; clear hb hr)
  refine bodyPost_ret (results_tmp3 rfl _ _ _) rfl ?_
  exact ⟨v, n, c, rfl, below_step (below_alloc (Below.refl _ _) _) HB.out, HR.out⟩
end Go.Proofs.YtcdkbciagchlgaaDoor.PF
