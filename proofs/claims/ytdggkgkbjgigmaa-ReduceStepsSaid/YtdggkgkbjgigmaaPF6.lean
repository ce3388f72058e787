-- Written by a program of this session (wip/pr.py) out of Lean's print of the translation; Lean checks it.
import Derived.Test.YtdggkgkbjgigmaaPF0
import Derived.Test.YtdggkgkbjgigmaaPF1
import Derived.Test.YtdggkgkbjgigmaaPF4
import Derived.Test.YtdggkgkbjgigmaaPF5
namespace Go.Proofs.Ytdggkgkbjgigmaa.PF
open Go.RowKit Go.Proofs.YtdggkgkbjgigmaaW.PrintWords Go.Proofs.YtdggkgkbjgigmaaW.PrintLast Go.Proofs.YtdggkgkbjgigmaaW.PrintMore
attribute [local go_sem] max2_int min2_int max_two min_two max_three min_three max_four min_four   -- for this text's walks alone
set_option linter.unusedVariables false
set_option linter.unusedSimpArgs false

/-! ### alcohol_Strength: function 18 -/
-- MAKING
set_option maxHeartbeats 4000000 in
set_option maxRecDepth 100000 in
/-- The closure of alcohol.Strength. -/
theorem alcohol_Strength.clo (bt bl : Nat) (A : Option Addr) (c : Nat) (l : List S50) (a m : Int) (i : Nat) (W : World) (hok : LiqOK l a m) (hi : i < 10001) (hcl : l.length ≤ c)
    (ht : W.cell? ⟨bt, 0, none⟩ = some (.slice A l.length c)) (ha : W.cell? ⟨bl, 0, none⟩ = some (.int .i64 a)) (hm : W.cell? ⟨bl, 1, none⟩ = some (.int .i64 m)) (hr : Kd.C k50 W A l.length l) :
    Calls Try.prog 38 (#[.int .i64 i] ++ #[.pointer (some ⟨bl, 0, none⟩), .pointer (some ⟨bt, 0, none⟩)]) W fun e w' => e = .returned (.bool (weak l a m (i : Int))) ∧ Below W.heap.size W w' := by
  have hu := Try.underlying24
  have hd := hok.right.dens_rng (s := (i : Int)) (by omega) (by omega)
  have hof := Aside0.mk (fun w' hb => alcohol_of.calls A c l (i : Int) (dens l i) w' (Kd.C_below hr hb) hcl (hok.right.of_ (by omega) (by omega)))
  have w1 : wrap64 (a * dens l i) = a * dens l i := wmul hok.a0 hok.a1 (by omega) hd.2 (by decide)
  have w2 : wrap64 (m * (i : Int)) = m * (i : Int) := wmul hok.m0 hok.m1 (by omega) (show (i : Int) ≤ 10000 by omega) (by decide)
  have W1 := Aside0.mk w1
  have W2 := Aside0.mk w2
  have HB := Aside0.mk (Below.refl W.heap.size W)
  clear w1 w2 hok hr hcl hd
  unfold weak
  generalize dens l i = d at hof W1 ⊢
  go_enter Try.func38, Try.ntmps38
  go_wp2
  go_region_held3 (fun w' => w'.cell? ⟨bt, 0, none⟩ = some (.slice A l.length c) ∧ w'.cell? ⟨bl, 0, none⟩ = some (.int .i64 a) ∧ w'.cell? ⟨bl, 1, none⟩ = some (.int .i64 m) ∧ Aside0 (Below W.heap.size W w'))
    (first | exact ⟨ht, ha, hm, ⟨below_drew1 HB.out⟩⟩ | exact ⟨pw_cell_below hb ht, pw_cell_below hb ha, pw_cell_below hb hm, ⟨below_step (below_drew1 HB.out) hb⟩⟩)
    (first | (go_at_call 39; refine (hof.out _ (below_drew1 HB.out)).mono ?_; rintro e w' ⟨rfl, hb⟩))
  have hb' := Aside0.mk (below_step (below_drew1 HB.out) hb)
  clear hb
  go_wp2
  go_ret
  exact ⟨by rw [i64_w, i64_w, W1.out, W2.out]; rfl, hb'.out⟩
theorem alcohol_Strength.eqL (d : Nat) (w : World) (x0 y0 x1 y1 : Int) :
    (Op.equalIn (d + 2) 24 (.agg #[.int .i64 x0, .int .i64 x1]) (.agg #[.int .i64 y0, .int .i64 y1])).run Try.prog w = .ok (x0 == y0 && (x1 == y1)) w := by
  refine eqA_of Try.underlying24 (by kernel_rfl) ?_
  refine eqf_cons (by rfl) (by go_simp; rfl) (by go_simp; rfl) (by go_simp) ?_
  exact eqf_last (by rfl) (by go_simp; rfl) (by go_simp; rfl) (by go_simp)
section
attribute [local go_sem high] alcohol_Strength.eqL
def alcohol_Strength.f (l0 : List S50) (a1_0 a1_1 : Int) : Option (Int × Int) := if lchk l0 a1_0 a1_1 = 0 then some (gradeS l0 a1_0 a1_1, 0) else some (0, 1)
set_option maxHeartbeats 4000000 in
set_option maxRecDepth 100000 in
theorem alcohol_Strength.calls (A0 : Option Addr) (c0 : Nat) (l0 : List S50) (a1_0 a1_1 : Int) (r1 r2 : Int) (w : World) (hr0 : Kd.C k50 w A0 l0.length l0) (hc0 : l0.length ≤ c0) (h : alcohol_Strength.f l0 a1_0 a1_1 = some (r1, r2)) :
    Calls Try.prog 18 #[.slice A0 l0.length c0, .agg #[.int .i64 a1_0, .int .i64 a1_1]] w fun e w' => e = .returned (.tuple #[.int .i64 r1, .int .i64 r2]) ∧ Below w.heap.size w w' := by
  have hu := Try.underlying24
  obtain ⟨W0, hW0⟩ : ∃ W0, W0 = (w.alloc (.cells #[.slice A0 l0.length c0] 22)).alloc (.cells #[.int .i64 a1_0, .int .i64 a1_1] 24) := ⟨_, rfl⟩
  have hsize : W0.heap.size = w.heap.size + 1 + 1 := by rw [hW0]; simp
  have hB0 : Below w.heap.size w W0 := by rw [hW0]; exact below_alloc (below_alloc (Below.refl _ _) _) _
  have ct : W0.cell? ⟨w.heap.size, 0, none⟩ = some (.slice A0 l0.length c0) := by rw [hW0]; exact pw_cell_alloc _ (pw_cell_new w _ _)
  have ca : W0.cell? ⟨w.heap.size + 1, 0, none⟩ = some (.int .i64 a1_0) := by rw [hW0]; rw [World.cell?_alloc_at _ _ _ _ (by simp)]; rfl
  have cm : W0.cell? ⟨w.heap.size + 1, 1, none⟩ = some (.int .i64 a1_1) := by rw [hW0]; rw [World.cell?_alloc_at _ _ _ _ (by simp)]; rfl
  have hr : Kd.C k50 W0 A0 l0.length l0 := Kd.C_below hr0 hB0
  have hC := Aside0.mk (fun w' hb r he => alcohol_Check_s.calls A0 c0 l0 a1_0 a1_1 r w' (Kd.C_below hr hb) hc0 he)
  unfold alcohol_Strength.f at h
  have HW0 := Aside0.mk hW0
  have HB0 := Aside0.mk hB0
  have HR := Aside0.mk hr
  clear hW0 hB0 hr hr0
  by_cases hc : lchk l0 a1_0 a1_1 = 0
  · rw [if_pos hc] at h
    obtain ⟨e1, rfl⟩ := Prod.mk.inj (Option.some.inj h)
    clear h
    have hok := (lchk_iff l0 a1_0 a1_1).1 hc
    have hC2 := Aside0.mk (hC.out W0 (Below.refl _ _) _ rfl)
    clear hC
    rw [hc] at hC2
    by_cases hm : a1_1 = 0
    · have ha : a1_0 = 0 := by
        have h1 := hok.fit
        have h2 := (hok.right.dens_rng (show (0 : Int) ≤ 10000 by decide) (by decide)).1
        have h3 := hok.a0
        rw [hm, Int.zero_mul] at h1
        rcases Int.lt_or_eq_of_le h3 with h4 | h4
        · have := Int.mul_pos h4 (show 0 < dens l0 10000 by omega); omega
        · exact h4.symm
      have e0 : r1 = 0 := by rw [← e1, gradeS, if_pos hm]
      clear e1 hc hok
      subst hm ha e0
      go_enter Try.func18, Try.ntmps18
      go_wp2_with fail
      rw [← HW0.out]
      refine hC2.out.mono ?_
      rintro e w' ⟨rfl, hb⟩
      replace ct := pw_cell_below hb ct
      replace ca := pw_cell_below hb ca
      replace cm := pw_cell_below hb cm
      have HB := Aside0.mk (below_then HB0.out HB0.out.size hb)
      clear hb HB0
      go_wp2
      go_ret2
      exact ⟨rfl, HB.out⟩
    · have hmb : (a1_1 == 0) = false := beq_eq_false_iff_ne.mpr hm
      have eg : ∀ args w, (callFunc 38 args).run Try.prog w = .ok (.enter 38 args) w := enters_of Try.func38 (by kernel_rfl) rfl
      have hS := fun w' (hb : Below W0.heap.size W0 w') => sort_Search.below 38 #[.pointer (some ⟨w.heap.size + 1, 0, none⟩), .pointer (some ⟨w.heap.size, 0, none⟩)] 10001 (fun i => weak l0 a1_0 a1_1 (i : Int)) w' eg (by decide)
        (fun W i hi hb2 => alcohol_Strength.clo w.heap.size (w.heap.size + 1) A0 c0 l0 a1_0 a1_1 i W hok hi hc0 (pw_cell_below hb2 (pw_cell_below hb ct)) (pw_cell_below hb2 (pw_cell_below hb ca)) (pw_cell_below hb2 (pw_cell_below hb cm)) (Kd.C_below (Kd.C_below HR.out hb) hb2))
        (fun a b h1 h2 h3 => hok.weak_mono (by omega) (by omega) (by omega) h3)
      have HS := Aside0.mk hS
      rw [gradeS, if_neg hm] at e1
      clear hS eg hok hc
      obtain ⟨c, hcq⟩ : ∃ c, (List.range 10001).countP (fun (i : Nat) => !(weak l0 a1_0 a1_1 (i : Int))) = c := ⟨_, rfl⟩
      have hcl : c ≤ 10001 := by rw [← hcq]; have := List.countP_le_length (p := fun (i : Nat) => !(weak l0 a1_0 a1_1 (i : Int))) (l := List.range 10001); rwa [List.length_range] at this
      simp only [hcq] at HS e1
      clear hcq
      subst e1
      have hw : IntKind.i64.wrap ((c : Int) - 1) = (c : Int) - 1 := by rw [i64_w]; exact w64_ (by omega) (by omega)
      have HWR := Aside0.mk hw
      clear hw
      go_enter Try.func18, Try.ntmps18
      go_wp2_with fail
      rw [← HW0.out]
      refine hC2.out.mono ?_
      rintro e w' ⟨rfl, hb⟩
      replace ct := pw_cell_below hb ct
      replace ca := pw_cell_below hb ca
      replace cm := pw_cell_below hb cm
      have HB := Aside0.mk (below_then HB0.out HB0.out.size hb)
      have HS2 := Aside0.mk (HS.out w' hb)
      clear hb HB0 HS HR
      go_wp2_with (refine HS2.out.mono ?_; rintro e w2 ⟨rfl, hb2⟩)
      have HB2 := Aside0.mk (below_then HB.out HB.out.size hb2)
      clear hb2 HB
      go_ret2
      exact ⟨by first | rfl | (rw [HWR.out]; rfl), HB2.out⟩
  · rw [if_neg hc] at h
    obtain ⟨rfl, rfl⟩ := Prod.mk.inj (Option.some.inj h)
    have hcb : (lchk l0 a1_0 a1_1 != 0) = true := bne_iff_ne.mpr hc
    clear h hc
    have hC2 := Aside0.mk (hC.out W0 (Below.refl _ _) _ rfl)
    clear hC
    generalize lchk l0 a1_0 a1_1 = q at hC2 hcb
    go_enter Try.func18, Try.ntmps18
    go_wp2_with fail
    rw [← HW0.out]
    refine hC2.out.mono ?_
    rintro e w' ⟨rfl, hb⟩
    have HB := Aside0.mk (below_then HB0.out HB0.out.size hb)
    clear hb HB0
    go_wp2
    go_ret2
    exact ⟨rfl, HB.out⟩
end

/-! ### api_Liquid_67: function 67 -/
-- HELPER
set_option maxHeartbeats 4000000 in
set_option maxRecDepth 1000000 in
/-- slices.IndexFunc[[]spile/api.Liquid,spile/api.Liquid] over a closure that may make memory. -/
theorem api_Liquid_67.below (g : Nat) (cb : Array Value) (A : Option Addr) (c : Nat) (l : List S24) (q : Nat → Bool) (w : World) (eg : ∀ args w, (callFunc g args).run Try.prog w = .ok (.enter g args) w) (hsz : l.length < 4611686018427387904) (hr : Kd.C k24 w A l.length l)
    (hf : ∀ (W : World) (i : Int), 0 ≤ i → i < l.length → Below w.heap.size w W → Calls Try.prog g (#[.agg #[.int .i64 (rd_T24 l i).f0, .int .i64 (rd_T24 l i).f1]] ++ cb) W fun e w' => e = .returned (.bool (q i.toNat)) ∧ Below W.heap.size W w') :
    Calls Try.prog 67 #[.slice A l.length c, .func (.func g) #[] cb] w fun e w' => e = .returned (.int .i64 (idxP q l.length 0)) ∧ Below w.heap.size w w' := by
  have hu := Try.underlying24
  have HF := Aside0.mk hf
  have HR := Aside0.mk hr
  clear hf hr
  obtain ⟨res, hres⟩ : ∃ res, idxP q l.length 0 = res := ⟨_, rfl⟩
  rw [hres]
  have HS := Aside0.mk hres
  clear hres
  go_enter Try.func67, Try.ntmps67
  go_wp2
  go_loopg [5, 8] l.length (fun kx s5 s8 wr => ∃ x : Int, s8 = .int .i64 x ∧ Aside0 (0 ≤ x ∧ x ≤ l.length ∧ l.length - x.toNat ≤ kx ∧ ∀ j, j < x.toNat → q j = false) ∧ Aside0 (Below w.heap.size w wr))
  case atStart => exact ⟨0, rfl, ⟨by omega, by omega, by omega, fun j hj => by simp at hj⟩, ⟨Below.refl _ _⟩⟩
  case round =>
    obtain ⟨x, rfl, HX, HB⟩ := hrel
    by_cases hlt : x < (l.length : Int)
    · have hltb : decide (x < (l.length : Int)) = true := decide_eq_true hlt
      have p1 : 0 ≤ x := HX.out.1
      obtain ⟨ad, e, h1, h2⟩ := at_T24 HR.out x p1 hlt
      cases e
      replace h1 := pw_cell_below HB.out h1
      replace h2 := pw_cell_below HB.out h2
      have hc := Aside0.mk (HF.out _ x p1 hlt HB.out)
      have HLT := Aside0.mk hlt
      clear hlt
      replace p1 := eq_true p1
      have p2 : (x < (l.length : Int)) = True := eq_true HLT.out
      generalize (rd_T24 l x).f0 = y0 at h1 hc
      generalize (rd_T24 l x).f1 = y1 at h2 hc
      have hw : wrap64 (x + 1) = x + 1 := by have := HX.out.1; have := HLT.out; unfold wrap64; omega
      have HW := Aside0.mk hw
      clear hw
      cases hq : q x.toNat
      · rw [hq] at hc
        have HQ := Aside0.mk hq
        clear hq
        go_wp2_with (refine hc.out.mono ?_; rintro e w' ⟨rfl, hb2⟩)
        have HB2 := Aside0.mk (below_then HB.out HB.out.size hb2)
        go_roundg (l.length - (x + 1).toNat)
        case measure => have := HX.out; have := HLT.out; omega
        case rel => exact ⟨x + 1, by rw [HW.out], ⟨by have := HX.out; omega, by have := HLT.out; omega, Nat.le_refl _, fun j hj => by
          rcases Nat.lt_or_ge j x.toNat with h | h
          · exact HX.out.2.2.2 j h
          · have e : j = x.toNat := by have := HX.out.1; omega
            rw [e]; exact HQ.out⟩, HB2⟩
      · rw [hq] at hc
        have er : x = res := by
          rw [← HS.out, idxP_found q x.toNat l.length 0 hq (fun j _ hj => HX.out.2.2.2 j hj) (Nat.zero_le _) (by have := HX.out; have := HLT.out; omega)]
          have := HX.out.1; omega
        have ER := Aside0.mk er
        clear hq er
        go_wp2_with (refine hc.out.mono ?_; rintro e w' ⟨rfl, hb2⟩)
        have HB2 := Aside0.mk (below_then HB.out HB.out.size hb2)
        go_ret
        exact ⟨by rw [← ER.out]; rfl, HB2.out⟩
    · have hltb : decide (x < (l.length : Int)) = false := decide_eq_false hlt
      have er : -1 = res := by
        rw [← HS.out]
        exact (idxP_none q l.length 0 (fun j _ hj => HX.out.2.2.2 j (by have := HX.out; omega))).symm
      have ER := Aside0.mk er
      clear hlt er
      go_wp2
      go_ret
      exact ⟨by rw [← ER.out]; rfl, HB.out⟩

/-! ### api_Liquid_59: function 59 -/
-- HELPER
set_option maxHeartbeats 4000000 in
set_option maxRecDepth 1000000 in
theorem api_Liquid_59.below (g : Nat) (cb : Array Value) (A : Option Addr) (c : Nat) (l : List S24) (q : Nat → Bool) (w : World) (eg : ∀ args w, (callFunc g args).run Try.prog w = .ok (.enter g args) w) (hsz : l.length < 4611686018427387904) (hr : Kd.C k24 w A l.length l)
    (hf : ∀ (W : World) (i : Int), 0 ≤ i → i < l.length → Below w.heap.size w W → Calls Try.prog g (#[.agg #[.int .i64 (rd_T24 l i).f0, .int .i64 (rd_T24 l i).f1]] ++ cb) W fun e w' => e = .returned (.bool (q i.toNat)) ∧ Below W.heap.size W w') :
    Calls Try.prog 59 #[.slice A l.length c, .func (.func g) #[] cb] w fun e w' => e = .returned (.bool (decide (0 ≤ idxP q l.length 0))) ∧ Below w.heap.size w w' := by
  have HC := Aside0.mk (api_Liquid_67.below g cb A c l q w eg hsz hr hf)
  clear hf hr eg
  generalize idxP q l.length 0 = r at HC ⊢
  go_enter Try.func59, Try.ntmps59
  go_wp2_with (refine HC.out.mono ?_; rintro e w' ⟨rfl, hb⟩)
  go_ret
  exact ⟨rfl, hb⟩

/-! ### mix_plain: function 61 -/
def mix_plain.f (a0_0 : Int) (a0_1 : Int) : Option (Bool) := if a0_0 ≥ 0 then (if a0_0 ≤ 10737418240000 then (if a0_1 ≥ 0 then (if a0_1 ≤ 128849018880000 then (if a0_1 > 0 then (some true) else (some (a0_0 == 0))) else (some false)) else (some false)) else (some false)) else (some false)
set_option maxHeartbeats 8000000 in
set_option maxRecDepth 100000 in
theorem mix_plain.calls (a0_0 : Int) (a0_1 : Int) (r : Bool) (w : World) (h : mix_plain.f a0_0 a0_1 = some r) :
  Calls Try.prog 61 #[.agg #[.int .i64 a0_0, .int .i64 a0_1]] w fun e w' => e = .returned (.bool r) ∧ Below w.heap.size w w' := by
 have hu24 := Try.underlying24
 have HB := Aside0.mk (Below.refl w.heap.size w)
 have H : (if a0_0 ≥ 0 then (if a0_0 ≤ 10737418240000 then (if a0_1 ≥ 0 then (if a0_1 ≤ 128849018880000 then (if a0_1 > 0 then (some true) else (some (a0_0 == 0))) else (some false)) else (some false)) else (some false)) else (some false)) = some r := h
 clear h
 by_cases c2 : a0_0 ≥ 0
 ·rw [if_pos c2] at H
  have c2b0 : decide (0 ≤ a0_0) = true := decide_eq_true c2
  clear c2
  by_cases c3 : a0_0 ≤ 10737418240000
  ·rw [if_pos c3] at H
   have c3b0 : decide (a0_0 ≤ 10737418240000) = true := decide_eq_true c3
   clear c3
   by_cases c4 : a0_1 ≥ 0
   ·rw [if_pos c4] at H
    have c4b0 : decide (0 ≤ a0_1) = true := decide_eq_true c4
    clear c4
    by_cases c5 : a0_1 ≤ 128849018880000
    ·rw [if_pos c5] at H
     have c5b0 : decide (a0_1 ≤ 128849018880000) = true := decide_eq_true c5
     clear c5
     by_cases c6 : a0_1 > 0
     ·rw [if_pos c6] at H
      have c6b0 : decide (0 < a0_1) = true := decide_eq_true c6
      clear c6
      obtain rfl := Option.some.inj H
      go_enter Try.func61, Try.ntmps61
      go_wp2_with (first | ((with_reducible refine gate_dst (N := 1) rfl ?_); refine box_event ?hg (N := 1) ?hd (cs := #[.int .i64 a0_0, .int .i64 a0_1]) (t := 24) ?hr ?_; (case hd => rfl); (case hg => rfl); (case hr => first | (go_simp; done) | (go_simp; rfl)); intro gb120 hg w7 hbox hb; have n0_ := Aside0.mk (below_step (by repeat (first | (with_reducible first | exact HB.out | apply below_alloc | apply pw_below_drewN | apply below_drew1) | exact HB.out)) hb); have n1_ := Aside0.mk (hbox); have n2_ := Aside0.mk ((by rw [hg]; exact (below_size (by repeat (first | (with_reducible first | exact HB.out | apply below_alloc | apply pw_below_drewN | apply below_drew1) | exact HB.out))) : w.heap.size ≤ gb120)); have n3_ := Aside0.mk ((by rw [hg]; exact (below_size (by repeat (first | (with_reducible first | exact HB.out | apply below_alloc | apply pw_below_drewN | apply below_drew1) | exact HB.out))) : w.heap.size ≤ gb120)); clear HB; have HB := n0_; have BK120 := n1_; have GW120 := n2_; have GE120 := n3_; clear n0_ n1_ n2_ n3_; clear hb hbox hg; have hcz8_0 : w7.cell? ⟨gb120, 0, none⟩ = some (.int .i64 a0_0) := (blk_cell BK120.out 0).trans rfl; have hcz8_1 : w7.cell? ⟨gb120, 1, none⟩ = some (.int .i64 a0_1) := (blk_cell BK120.out 1).trans rfl; have hfz8_0 := blk_frozen BK120.out 0; have hfz8_1 := blk_frozen BK120.out 1))
      go_ret
      exact ⟨by first | rfl | (simp [errW_none, errW_some] <;> rfl) | (simp [*, errW_none, errW_some] <;> rfl), by repeat (first | (with_reducible first | exact HB.out | apply below_alloc | apply pw_below_drewN | apply below_drew1 | refine below_set ?_ GE120.out) | exact HB.out)⟩
     ·rw [if_neg c6] at H
      have c6b0 : decide (0 < a0_1) = false := decide_eq_false c6
      clear c6
      obtain rfl := Option.some.inj H
      go_enter Try.func61, Try.ntmps61
      go_wp2_with (first | ((with_reducible refine gate_dst (N := 1) rfl ?_); refine box_event ?hg (N := 1) ?hd (cs := #[.int .i64 a0_0, .int .i64 a0_1]) (t := 24) ?hr ?_; (case hd => rfl); (case hg => rfl); (case hr => first | (go_simp; done) | (go_simp; rfl)); intro gb120 hg w9 hbox hb; have n0_ := Aside0.mk (below_step (by repeat (first | (with_reducible first | exact HB.out | apply below_alloc | apply pw_below_drewN | apply below_drew1) | exact HB.out)) hb); have n1_ := Aside0.mk (hbox); have n2_ := Aside0.mk ((by rw [hg]; exact (below_size (by repeat (first | (with_reducible first | exact HB.out | apply below_alloc | apply pw_below_drewN | apply below_drew1) | exact HB.out))) : w.heap.size ≤ gb120)); have n3_ := Aside0.mk ((by rw [hg]; exact (below_size (by repeat (first | (with_reducible first | exact HB.out | apply below_alloc | apply pw_below_drewN | apply below_drew1) | exact HB.out))) : w.heap.size ≤ gb120)); clear HB; have HB := n0_; have BK120 := n1_; have GW120 := n2_; have GE120 := n3_; clear n0_ n1_ n2_ n3_; clear hb hbox hg; have hcz10_0 : w9.cell? ⟨gb120, 0, none⟩ = some (.int .i64 a0_0) := (blk_cell BK120.out 0).trans rfl; have hcz10_1 : w9.cell? ⟨gb120, 1, none⟩ = some (.int .i64 a0_1) := (blk_cell BK120.out 1).trans rfl; have hfz10_0 := blk_frozen BK120.out 0; have hfz10_1 := blk_frozen BK120.out 1))
      go_ret
      exact ⟨by first | rfl | (simp [errW_none, errW_some] <;> rfl) | (simp [*, errW_none, errW_some] <;> rfl), by repeat (first | (with_reducible first | exact HB.out | apply below_alloc | apply pw_below_drewN | apply below_drew1 | refine below_set ?_ GE120.out) | exact HB.out)⟩
    ·rw [if_neg c5] at H
     have c5b0 : decide (a0_1 ≤ 128849018880000) = false := decide_eq_false c5
     clear c5
     obtain rfl := Option.some.inj H
     go_enter Try.func61, Try.ntmps61
     go_wp2_with (first | ((with_reducible refine gate_dst (N := 1) rfl ?_); refine box_event ?hg (N := 1) ?hd (cs := #[.int .i64 a0_0, .int .i64 a0_1]) (t := 24) ?hr ?_; (case hd => rfl); (case hg => rfl); (case hr => first | (go_simp; done) | (go_simp; rfl)); intro gb120 hg w11 hbox hb; have n0_ := Aside0.mk (below_step (by repeat (first | (with_reducible first | exact HB.out | apply below_alloc | apply pw_below_drewN | apply below_drew1) | exact HB.out)) hb); have n1_ := Aside0.mk (hbox); have n2_ := Aside0.mk ((by rw [hg]; exact (below_size (by repeat (first | (with_reducible first | exact HB.out | apply below_alloc | apply pw_below_drewN | apply below_drew1) | exact HB.out))) : w.heap.size ≤ gb120)); have n3_ := Aside0.mk ((by rw [hg]; exact (below_size (by repeat (first | (with_reducible first | exact HB.out | apply below_alloc | apply pw_below_drewN | apply below_drew1) | exact HB.out))) : w.heap.size ≤ gb120)); clear HB; have HB := n0_; have BK120 := n1_; have GW120 := n2_; have GE120 := n3_; clear n0_ n1_ n2_ n3_; clear hb hbox hg; have hcz12_0 : w11.cell? ⟨gb120, 0, none⟩ = some (.int .i64 a0_0) := (blk_cell BK120.out 0).trans rfl; have hcz12_1 : w11.cell? ⟨gb120, 1, none⟩ = some (.int .i64 a0_1) := (blk_cell BK120.out 1).trans rfl; have hfz12_0 := blk_frozen BK120.out 0; have hfz12_1 := blk_frozen BK120.out 1))
     go_ret
     exact ⟨by first | rfl | (simp [errW_none, errW_some] <;> rfl) | (simp [*, errW_none, errW_some] <;> rfl), by repeat (first | (with_reducible first | exact HB.out | apply below_alloc | apply pw_below_drewN | apply below_drew1 | refine below_set ?_ GE120.out) | exact HB.out)⟩
   ·rw [if_neg c4] at H
    have c4b0 : decide (0 ≤ a0_1) = false := decide_eq_false c4
    clear c4
    obtain rfl := Option.some.inj H
    go_enter Try.func61, Try.ntmps61
    go_wp2_with (first | ((with_reducible refine gate_dst (N := 1) rfl ?_); refine box_event ?hg (N := 1) ?hd (cs := #[.int .i64 a0_0, .int .i64 a0_1]) (t := 24) ?hr ?_; (case hd => rfl); (case hg => rfl); (case hr => first | (go_simp; done) | (go_simp; rfl)); intro gb120 hg w13 hbox hb; have n0_ := Aside0.mk (below_step (by repeat (first | (with_reducible first | exact HB.out | apply below_alloc | apply pw_below_drewN | apply below_drew1) | exact HB.out)) hb); have n1_ := Aside0.mk (hbox); have n2_ := Aside0.mk ((by rw [hg]; exact (below_size (by repeat (first | (with_reducible first | exact HB.out | apply below_alloc | apply pw_below_drewN | apply below_drew1) | exact HB.out))) : w.heap.size ≤ gb120)); have n3_ := Aside0.mk ((by rw [hg]; exact (below_size (by repeat (first | (with_reducible first | exact HB.out | apply below_alloc | apply pw_below_drewN | apply below_drew1) | exact HB.out))) : w.heap.size ≤ gb120)); clear HB; have HB := n0_; have BK120 := n1_; have GW120 := n2_; have GE120 := n3_; clear n0_ n1_ n2_ n3_; clear hb hbox hg; have hcz14_0 : w13.cell? ⟨gb120, 0, none⟩ = some (.int .i64 a0_0) := (blk_cell BK120.out 0).trans rfl; have hcz14_1 : w13.cell? ⟨gb120, 1, none⟩ = some (.int .i64 a0_1) := (blk_cell BK120.out 1).trans rfl; have hfz14_0 := blk_frozen BK120.out 0; have hfz14_1 := blk_frozen BK120.out 1))
    go_ret
    exact ⟨by first | rfl | (simp [errW_none, errW_some] <;> rfl) | (simp [*, errW_none, errW_some] <;> rfl), by repeat (first | (with_reducible first | exact HB.out | apply below_alloc | apply pw_below_drewN | apply below_drew1 | refine below_set ?_ GE120.out) | exact HB.out)⟩
  ·rw [if_neg c3] at H
   have c3b0 : decide (a0_0 ≤ 10737418240000) = false := decide_eq_false c3
   clear c3
   obtain rfl := Option.some.inj H
   go_enter Try.func61, Try.ntmps61
   go_wp2_with (first | ((with_reducible refine gate_dst (N := 1) rfl ?_); refine box_event ?hg (N := 1) ?hd (cs := #[.int .i64 a0_0, .int .i64 a0_1]) (t := 24) ?hr ?_; (case hd => rfl); (case hg => rfl); (case hr => first | (go_simp; done) | (go_simp; rfl)); intro gb120 hg w15 hbox hb; have n0_ := Aside0.mk (below_step (by repeat (first | (with_reducible first | exact HB.out | apply below_alloc | apply pw_below_drewN | apply below_drew1) | exact HB.out)) hb); have n1_ := Aside0.mk (hbox); have n2_ := Aside0.mk ((by rw [hg]; exact (below_size (by repeat (first | (with_reducible first | exact HB.out | apply below_alloc | apply pw_below_drewN | apply below_drew1) | exact HB.out))) : w.heap.size ≤ gb120)); have n3_ := Aside0.mk ((by rw [hg]; exact (below_size (by repeat (first | (with_reducible first | exact HB.out | apply below_alloc | apply pw_below_drewN | apply below_drew1) | exact HB.out))) : w.heap.size ≤ gb120)); clear HB; have HB := n0_; have BK120 := n1_; have GW120 := n2_; have GE120 := n3_; clear n0_ n1_ n2_ n3_; clear hb hbox hg; have hcz16_0 : w15.cell? ⟨gb120, 0, none⟩ = some (.int .i64 a0_0) := (blk_cell BK120.out 0).trans rfl; have hcz16_1 : w15.cell? ⟨gb120, 1, none⟩ = some (.int .i64 a0_1) := (blk_cell BK120.out 1).trans rfl; have hfz16_0 := blk_frozen BK120.out 0; have hfz16_1 := blk_frozen BK120.out 1))
   go_ret
   exact ⟨by first | rfl | (simp [errW_none, errW_some] <;> rfl) | (simp [*, errW_none, errW_some] <;> rfl), by repeat (first | (with_reducible first | exact HB.out | apply below_alloc | apply pw_below_drewN | apply below_drew1 | refine below_set ?_ GE120.out) | exact HB.out)⟩
 ·rw [if_neg c2] at H
  have c2b0 : decide (0 ≤ a0_0) = false := decide_eq_false c2
  clear c2
  obtain rfl := Option.some.inj H
  go_enter Try.func61, Try.ntmps61
  go_wp2_with (first | ((with_reducible refine gate_dst (N := 1) rfl ?_); refine box_event ?hg (N := 1) ?hd (cs := #[.int .i64 a0_0, .int .i64 a0_1]) (t := 24) ?hr ?_; (case hd => rfl); (case hg => rfl); (case hr => first | (go_simp; done) | (go_simp; rfl)); intro gb120 hg w17 hbox hb; have n0_ := Aside0.mk (below_step (by repeat (first | (with_reducible first | exact HB.out | apply below_alloc | apply pw_below_drewN | apply below_drew1) | exact HB.out)) hb); have n1_ := Aside0.mk (hbox); have n2_ := Aside0.mk ((by rw [hg]; exact (below_size (by repeat (first | (with_reducible first | exact HB.out | apply below_alloc | apply pw_below_drewN | apply below_drew1) | exact HB.out))) : w.heap.size ≤ gb120)); have n3_ := Aside0.mk ((by rw [hg]; exact (below_size (by repeat (first | (with_reducible first | exact HB.out | apply below_alloc | apply pw_below_drewN | apply below_drew1) | exact HB.out))) : w.heap.size ≤ gb120)); clear HB; have HB := n0_; have BK120 := n1_; have GW120 := n2_; have GE120 := n3_; clear n0_ n1_ n2_ n3_; clear hb hbox hg; have hcz18_0 : w17.cell? ⟨gb120, 0, none⟩ = some (.int .i64 a0_0) := (blk_cell BK120.out 0).trans rfl; have hcz18_1 : w17.cell? ⟨gb120, 1, none⟩ = some (.int .i64 a0_1) := (blk_cell BK120.out 1).trans rfl; have hfz18_0 := blk_frozen BK120.out 0; have hfz18_1 := blk_frozen BK120.out 1))
  go_ret
  exact ⟨by first | rfl | (simp [errW_none, errW_some] <;> rfl) | (simp [*, errW_none, errW_some] <;> rfl), by repeat (first | (with_reducible first | exact HB.out | apply below_alloc | apply pw_below_drewN | apply below_drew1 | refine below_set ?_ GE120.out) | exact HB.out)⟩

/-! ### mix_total: function 62 -/
-- MAKING
def sumsL (l : List S24) : Nat → Int × Int
  | 0 => (0, 0)
  | j + 1 => (wrap64 ((sumsL l j).1 + (rd_T24 l j).f0), wrap64 ((sumsL l j).2 + (rd_T24 l j).f1))
def mix_total.f (l0 : List S24) : Option (Int × Int) := if l0.length < 4611686018427387904 then some (sumsL l0 l0.length) else none
set_option maxHeartbeats 4000000 in
set_option maxRecDepth 100000 in
theorem mix_total.calls (A0 : Option Addr) (c0 : Nat) (l0 : List S24) (r1 r2 : Int) (w : World) (hr0 : Kd.C k24 w A0 l0.length l0) (hc0 : l0.length ≤ c0) (h : mix_total.f l0 = some (r1, r2)) :
    Calls Try.prog 62 #[.slice A0 l0.length c0] w fun e w' => e = .returned (.agg #[.int .i64 r1, .int .i64 r2]) ∧ Below w.heap.size w w' := by
  unfold mix_total.f at h
  by_cases hl : l0.length < 4611686018427387904
  case neg => rw [if_neg hl] at h; exact absurd h (by simp)
  rw [if_pos hl] at h
  have hs := Option.some.inj h
  clear h
  have HS := Aside0.mk hs
  have HR := Aside0.mk hr0
  have hu := Try.underlying24
  have hu2 := Try.underlying80
  clear hs hr0
  go_enter Try.func62, Try.ntmps62
  go_wp2
  go_loopg [8] l0.length (fun kx s8 wr => ∃ x a m : Int, s8 = .int .i64 x ∧ Aside0 (0 ≤ x ∧ x ≤ l0.length ∧ l0.length - x.toNat ≤ kx ∧ sumsL l0 x.toNat = (a, m)) ∧ Aside0 (wr.heap[w.heap.size]? = some (.cells #[.int .i64 0, .int .i64 0] 24 (0, 0))) ∧ Aside0 (wr.heap[w.heap.size + 1]? = some (.cells #[.int .i64 a, .int .i64 m] 80 (0, 0))) ∧ Aside0 (Below w.heap.size w wr) ∧ Aside0 (w.heap.size + 2 ≤ wr.heap.size))
  case atStart => exact ⟨0, 0, 0, rfl, ⟨by omega, by omega, by omega, rfl⟩, ⟨blk_alloc (blk_new w _) _⟩, ⟨by have := blk_new (w.alloc (.cells #[.int .i64 0, .int .i64 0] 24)) (.cells #[.int .i64 0, .int .i64 0] 80); rwa [World.size_alloc] at this⟩, ⟨below_alloc (below_alloc (Below.refl _ _) _) _⟩, ⟨by rw [World.size_alloc, World.size_alloc]; omega⟩⟩
  case round =>
    obtain ⟨x, a, m, rfl, HX, HD, HE, HB, HZ⟩ := hrel
    by_cases hlt : x < (l0.length : Int)
    · have hltb : decide (x < (l0.length : Int)) = true := decide_eq_true hlt
      have p1 : 0 ≤ x := HX.out.1
      obtain ⟨ad, e, h1, h2⟩ := at_T24 HR.out x p1 hlt
      cases e
      have e2 : sumsL l0 (x + 1).toNat = (wrap64 (a + (rd_T24 l0 x).f0), wrap64 (m + (rd_T24 l0 x).f1)) := by
        rw [show (x + 1).toNat = x.toNat + 1 by omega]
        simp only [sumsL, HX.out.2.2.2]
        rw [show ((x.toNat : Nat) : Int) = x by omega]
      have E2 := Aside0.mk e2
      have HLT := Aside0.mk hlt
      clear e2 hlt
      replace h1 := pw_cell_below HB.out h1
      replace h2 := pw_cell_below HB.out h2
      replace p1 := eq_true p1
      have p2 : (x < (l0.length : Int)) = True := eq_true HLT.out
      generalize (rd_T24 l0 x).f0 = y0 at h1 E2
      generalize (rd_T24 l0 x).f1 = y1 at h2 E2
      go_wp2
      have bX := Aside0.mk (blk_new wr (.cells #[.int .i64 y0, .int .i64 y1] 24))
      have bE := Aside0.mk (blk_alloc HE.out (.cells #[.int .i64 y0, .int .i64 y1] 24))
      have bD := Aside0.mk (blk_alloc HD.out (.cells #[.int .i64 y0, .int .i64 y1] 24))
      have bB := Aside0.mk (below_alloc HB.out (.cells #[.int .i64 y0, .int .i64 y1] 24))
      have hne : wr.heap.size ≠ w.heap.size + 1 := by have := HZ.out; omega
      have bZ : w.heap.size + 2 ≤ (wr.alloc (.cells #[.int .i64 y0, .int .i64 y1] 24)).heap.size := by rw [World.size_alloc]; have := HZ.out; omega
      have BZ := Aside0.mk bZ
      clear HD HE HB HZ h1 h2 bZ
      generalize wr.alloc (.cells #[.int .i64 y0, .int .i64 y1] 24) = W1 at bX bE bD bB BZ ⊢
      generalize wr.heap.size = gx at bX hne ⊢
      have k0 : W1.cell? ⟨w.heap.size + 1, 0, none⟩ = some (.int .i64 a) := (blk_cell bE.out 0).trans rfl
      have k1 : W1.cell? ⟨w.heap.size + 1, 1, none⟩ = some (.int .i64 m) := (blk_cell bE.out 1).trans rfl
      have k2 : W1.cell? ⟨gx, 0, none⟩ = some (.int .i64 y0) := (blk_cell bX.out 0).trans rfl
      have k3 : W1.cell? ⟨gx, 1, none⟩ = some (.int .i64 y1) := (blk_cell bX.out 1).trans rfl
      have f0 : W1.frozen? ⟨w.heap.size + 1, 0, none⟩ = false := blk_frozen bE.out 0
      have f1 : W1.frozen? ⟨w.heap.size + 1, 1, none⟩ = false := blk_frozen bE.out 1
      go_region
      have gE := Aside0.mk (blk_drew (blk_set (blk_set bE.out 0 (.int .i64 (wrap64 (a + y0)))) 1 (.int .i64 (wrap64 (m + y1)))))
      have gD := Aside0.mk (blk_drew (blk_far (blk_far bD.out (p := ⟨w.heap.size + 1, 0, none⟩) (by simp) (.int .i64 (wrap64 (a + y0)))) (p := ⟨w.heap.size + 1, 1, none⟩) (by simp) (.int .i64 (wrap64 (m + y1)))))
      have gB := Aside0.mk (below_drew1 (below_set (below_set bB.out (g := w.heap.size + 1) (j := 0) (v := .int .i64 (wrap64 (a + y0))) (by omega)) (g := w.heap.size + 1) (j := 1) (v := .int .i64 (wrap64 (m + y1))) (by omega)))
      have gZ := Aside0.mk (show w.heap.size + 2 ≤ ((W1.setCell ⟨w.heap.size + 1, 0, none⟩ (.int .i64 (wrap64 (a + y0)))).setCell ⟨w.heap.size + 1, 1, none⟩ (.int .i64 (wrap64 (m + y1)))).drew.heap.size by show w.heap.size + 2 ≤ ((W1.setCell ⟨w.heap.size + 1, 0, none⟩ (.int .i64 (wrap64 (a + y0)))).setCell ⟨w.heap.size + 1, 1, none⟩ (.int .i64 (wrap64 (m + y1)))).heap.size; rw [World.size_setCell, World.size_setCell]; exact BZ.out)
      have hw : wrap64 (x + 1) = x + 1 := by have := HX.out.1; have := HLT.out; unfold wrap64; omega
      have HW := Aside0.mk hw
      clear hw k0 k1 k2 k3 f0 f1
      generalize ((W1.setCell ⟨w.heap.size + 1, 0, none⟩ (.int .i64 (wrap64 (a + y0)))).setCell ⟨w.heap.size + 1, 1, none⟩ (.int .i64 (wrap64 (m + y1)))).drew = W2 at gE gD gB gZ ⊢
      go_wp2
      go_roundg (l0.length - (x + 1).toNat)
      case measure => have := HX.out; have := HLT.out; omega
      case rel => exact ⟨x + 1, wrap64 (a + y0), wrap64 (m + y1), by rw [HW.out], ⟨by have := HX.out; omega, by have := HLT.out; omega, Nat.le_refl _, E2.out⟩, gD, gE, gB, gZ⟩
    · have hltb : decide (x < (l0.length : Int)) = false := decide_eq_false hlt
      have er : (a, m) = (r1, r2) := by
        rw [← HS.out, ← HX.out.2.2.2]; congr 1; have := HX.out; omega
      obtain ⟨rfl, rfl⟩ := Prod.mk.inj er
      have k0 : wr.cell? ⟨w.heap.size + 1, 0, none⟩ = some (.int .i64 a) := (blk_cell HE.out 0).trans rfl
      have k1 : wr.cell? ⟨w.heap.size + 1, 1, none⟩ = some (.int .i64 m) := (blk_cell HE.out 1).trans rfl
      have d0 : wr.cell? ⟨w.heap.size, 0, none⟩ = some (.int .i64 0) := (blk_cell HD.out 0).trans rfl
      have d1 : wr.cell? ⟨w.heap.size, 1, none⟩ = some (.int .i64 0) := (blk_cell HD.out 1).trans rfl
      have f0 : wr.frozen? ⟨w.heap.size, 0, none⟩ = false := blk_frozen HD.out 0
      have f1 : wr.frozen? ⟨w.heap.size, 1, none⟩ = false := blk_frozen HD.out 1
      clear hlt er HE HZ HS
      go_wp2
      refine bodyPost_ret (results_cell_row rfl _ _ w.heap.size 24 #[.int .i64 a, .int .i64 m] (0, 0) _ rfl (by refine blk_put (cs := #[.int .i64 a, .int .i64 0]) ?_ 1 _ rfl; refine blk_put (cs := #[.int .i64 0, .int .i64 0]) ?_ 0 _ rfl; exact HD.out) Try.underlying24 rfl (by kernel_rfl)) rfl ?_
      exact ⟨rfl, below_set (below_set HB.out (Nat.le_refl _)) (Nat.le_refl _)⟩

/-! ### mix_Sum: function 50 -/
-- MAKING
def plainB (a m : Int) : Bool := decide (0 ≤ a ∧ a ≤ 10737418240000 ∧ 0 ≤ m ∧ m ≤ 128849018880000 ∧ (0 < m ∨ a = 0))
theorem mix_plain.plain (a m : Int) : mix_plain.f a m = some (plainB a m) := by
  unfold mix_plain.f plainB
  by_cases h0 : a ≥ 0
  case neg => rw [if_neg h0, decide_eq_false (by omega)]
  by_cases h1 : a ≤ 10737418240000
  case neg => rw [if_pos h0, if_neg h1, decide_eq_false (by omega)]
  by_cases h2 : m ≥ 0
  case neg => rw [if_pos h0, if_pos h1, if_neg h2, decide_eq_false (by omega)]
  by_cases h3 : m ≤ 128849018880000
  case neg => rw [if_pos h0, if_pos h1, if_pos h2, if_neg h3, decide_eq_false (by omega)]
  rw [if_pos h0, if_pos h1, if_pos h2, if_pos h3]
  by_cases h4 : m > 0
  · rw [if_pos h4, decide_eq_true (by omega)]
  · rw [if_neg h4]
    by_cases h5 : a = 0
    · rw [decide_eq_true (by omega), h5]; rfl
    · rw [decide_eq_false (by omega), beq_eq_false_iff_ne.mpr h5]
set_option maxHeartbeats 2000000 in
set_option maxRecDepth 100000 in
theorem mix_Sum.clo (a m : Int) (w : World) : Calls Try.prog 60 (#[.agg #[.int .i64 a, .int .i64 m]] ++ #[]) w fun e w' => e = .returned (.bool (!plainB a m)) ∧ Below w.heap.size w w' := by
  have hc := Aside0.mk (fun W => mix_plain.calls a m (plainB a m) W (mix_plain.plain a m))
  generalize plainB a m = b at hc ⊢
  have hu := Try.underlying24
  go_enter Try.func60, Try.ntmps60
  go_wp2_with (refine (hc.out _).mono ?_; rintro e w' ⟨rfl, hb⟩)
  go_ret
  exact ⟨rfl, below_step (below_alloc (Below.refl _ _) _) hb⟩
def strayL (l : List S24) (j : Nat) : Bool := !plainB (rd_T24 l (j : Int)).f0 (rd_T24 l (j : Int)).f1
def mix_Sum.f (l0 : List S24) : Option (Int × Int × Int) :=
  if (l0.length : Int) > 8 then some (0, 0, 8)
  else if 0 ≤ idxP (strayL l0) l0.length 0 then some (0, 0, 1)
  else if plainB (sumsL l0 l0.length).1 (sumsL l0 l0.length).2 = true then some ((sumsL l0 l0.length).1, (sumsL l0 l0.length).2, 0) else some (0, 0, 15)
set_option maxHeartbeats 4000000 in
set_option maxRecDepth 100000 in
theorem mix_Sum.calls (A0 : Option Addr) (c0 : Nat) (l0 : List S24) (r1 r2 r3 : Int) (w : World) (hr0 : Kd.C k24 w A0 l0.length l0) (hc0 : l0.length ≤ c0) (h : mix_Sum.f l0 = some (r1, r2, r3)) :
    Calls Try.prog 50 #[.slice A0 l0.length c0] w fun e w' => e = .returned (.tuple #[.agg #[.int .i64 r1, .int .i64 r2], .int .i64 r3]) ∧ Below w.heap.size w w' := by
  have hu := Try.underlying24
  unfold mix_Sum.f at h
  obtain ⟨W0, hW0⟩ : ∃ W0, W0 = w.alloc (.cells #[.int .i64 0, .int .i64 0] 24) := ⟨_, rfl⟩
  have HB0 := Aside0.mk (show Below w.heap.size w W0 by rw [hW0]; exact below_alloc (Below.refl _ _) _)
  have HK := Aside0.mk (show W0.heap[w.heap.size]? = some (.cells #[.int .i64 0, .int .i64 0] 24 (0, 0)) by rw [hW0]; exact blk_new w _)
  have HW0 := Aside0.mk hW0
  have HR := Aside0.mk (Kd.C_below hr0 HB0.out)
  clear hW0 hr0
  by_cases h8 : (l0.length : Int) > 8
  · rw [if_pos h8] at h
    simp only [Option.some.injEq, Prod.mk.injEq] at h
    obtain ⟨rfl, rfl, rfl⟩ := h
    have hb0 : decide (8 < (l0.length : Int)) = true := decide_eq_true h8
    have hb1 : decide (8 < l0.length) = true := decide_eq_true (by omega)
    have d0 : W0.cell? ⟨w.heap.size, 0, none⟩ = some (.int .i64 0) := (blk_cell HK.out 0).trans rfl
    have d1 : W0.cell? ⟨w.heap.size, 1, none⟩ = some (.int .i64 0) := (blk_cell HK.out 1).trans rfl
    clear h8
    go_enter Try.func50, Try.ntmps50
    go_wp2
    rw [← HW0.out]
    refine bodyPost_ret (results_ct rfl _ _ w.heap.size 24 #[.int .i64 0, .int .i64 0] (0, 0) _ rfl HK.out Try.underlying24 rfl (by kernel_rfl)) rfl ?_
    exact ⟨rfl, HB0.out⟩
  rw [if_neg h8] at h
  have hb0 : decide (8 < (l0.length : Int)) = false := decide_eq_false h8
  have hb1 : decide (8 < l0.length) = false := decide_eq_false (by omega)
  have eg : ∀ args w, (callFunc 60 args).run Try.prog w = .ok (.enter 60 args) w := enters_of Try.func60 (by kernel_rfl) rfl
  have hC := Aside0.mk (api_Liquid_59.below 60 #[] A0 c0 l0 (strayL l0) W0 eg (by omega) HR.out
    (fun W i h0 h1 hb => by
      have := mix_Sum.clo (rd_T24 l0 i).f0 (rd_T24 l0 i).f1 W
      unfold strayL
      rw [show ((i.toNat : Nat) : Int) = i by omega]
      exact this))
  clear eg
  by_cases hi : 0 ≤ idxP (strayL l0) l0.length 0
  · rw [if_pos hi] at h
    simp only [Option.some.injEq, Prod.mk.injEq] at h
    obtain ⟨rfl, rfl, rfl⟩ := h
    rw [decide_eq_true hi] at hC
    clear hi h8
    go_enter Try.func50, Try.ntmps50
    go_wp2_with fail
    rw [← HW0.out]
    refine hC.out.mono ?_
    rintro e w' ⟨rfl, hb⟩
    have HK2 := Aside0.mk (blk_below HK.out hb)
    have HB2 := Aside0.mk (below_step HB0.out hb)
    have d0 : w'.cell? ⟨w.heap.size, 0, none⟩ = some (.int .i64 0) := (blk_cell HK2.out 0).trans rfl
    have d1 : w'.cell? ⟨w.heap.size, 1, none⟩ = some (.int .i64 0) := (blk_cell HK2.out 1).trans rfl
    have f0 : w'.frozen? ⟨w.heap.size, 0, none⟩ = false := blk_frozen HK2.out 0
    have f1 : w'.frozen? ⟨w.heap.size, 1, none⟩ = false := blk_frozen HK2.out 1
    clear hb
    go_wp2
    refine bodyPost_ret (results_ct rfl _ _ w.heap.size 24 #[.int .i64 0, .int .i64 0] (0, 0) _ rfl (by refine blk_put (cs := #[.int .i64 0, .int .i64 0]) ?_ 1 _ rfl; refine blk_put (cs := #[.int .i64 0, .int .i64 0]) ?_ 0 _ rfl; exact HK2.out) Try.underlying24 rfl (by kernel_rfl)) rfl ?_
    exact ⟨rfl, below_set (below_set HB2.out (Nat.le_refl _)) (Nat.le_refl _)⟩
  rw [if_neg hi] at h
  rw [decide_eq_false hi] at hC
  obtain ⟨a, m, hs⟩ : ∃ a m, sumsL l0 l0.length = (a, m) := ⟨_, _, rfl⟩
  rw [hs] at h
  have hT := Aside0.mk (fun W hb => mix_total.calls A0 c0 l0 a m W (Kd.C_below HR.out hb) hc0 (by unfold mix_total.f; rw [if_pos (by omega), hs]))
  have hP := Aside0.mk (fun W => mix_plain.calls a m (plainB a m) W (mix_plain.plain a m))
  clear hs hi h8
  dsimp only at h
  cases hp : plainB a m
  · rw [hp] at h hP
    rw [if_neg (by decide)] at h
    simp only [Option.some.injEq, Prod.mk.injEq] at h
    obtain ⟨rfl, rfl, rfl⟩ := h
    clear hp
    go_enter Try.func50, Try.ntmps50
    go_wp2_with fail
    rw [← HW0.out]
    refine hC.out.mono ?_
    rintro e w' ⟨rfl, hb⟩
    have HK2 := Aside0.mk (blk_below HK.out hb)
    have HB2 := Aside0.mk (below_step HB0.out hb)
    have hT2 := Aside0.mk (hT.out w' hb)
    clear hb hT
    go_wp2_with fail
    refine hT2.out.mono ?_
    rintro e w2 ⟨rfl, hb⟩
    have HK3 := Aside0.mk (blk_below HK2.out hb)
    have HB3 := Aside0.mk (below_step HB2.out hb)
    clear hb HK2 HB2
    go_wp2_with fail
    refine (hP.out _).mono ?_
    rintro e w3 ⟨rfl, hb⟩
    have HK4 := Aside0.mk (blk_below (blk_alloc HK3.out _) hb)
    have HB4 := Aside0.mk (below_step (below_alloc HB3.out _) hb)
    have d0 : w3.cell? ⟨w.heap.size, 0, none⟩ = some (.int .i64 0) := (blk_cell HK4.out 0).trans rfl
    have d1 : w3.cell? ⟨w.heap.size, 1, none⟩ = some (.int .i64 0) := (blk_cell HK4.out 1).trans rfl
    have f0 : w3.frozen? ⟨w.heap.size, 0, none⟩ = false := blk_frozen HK4.out 0
    have f1 : w3.frozen? ⟨w.heap.size, 1, none⟩ = false := blk_frozen HK4.out 1
    clear hb HK3 HB3
    go_wp2
    refine bodyPost_ret (results_ct rfl _ _ w.heap.size 24 #[.int .i64 0, .int .i64 0] (0, 0) _ rfl (by refine blk_put (cs := #[.int .i64 0, .int .i64 0]) ?_ 1 _ rfl; refine blk_put (cs := #[.int .i64 0, .int .i64 0]) ?_ 0 _ rfl; exact HK4.out) Try.underlying24 rfl (by kernel_rfl)) rfl ?_
    exact ⟨rfl, below_set (below_set HB4.out (Nat.le_refl _)) (Nat.le_refl _)⟩
  · rw [hp] at h hP
    rw [if_pos rfl] at h
    simp only [Option.some.injEq, Prod.mk.injEq] at h
    obtain ⟨rfl, rfl, rfl⟩ := h
    clear hp
    go_enter Try.func50, Try.ntmps50
    go_wp2_with fail
    rw [← HW0.out]
    refine hC.out.mono ?_
    rintro e w' ⟨rfl, hb⟩
    have HK2 := Aside0.mk (blk_below HK.out hb)
    have HB2 := Aside0.mk (below_step HB0.out hb)
    have hT2 := Aside0.mk (hT.out w' hb)
    clear hb hT
    go_wp2_with fail
    refine hT2.out.mono ?_
    rintro e w2 ⟨rfl, hb⟩
    have HK3 := Aside0.mk (blk_below HK2.out hb)
    have HB3 := Aside0.mk (below_step HB2.out hb)
    clear hb HK2 HB2
    go_wp2_with fail
    refine (hP.out _).mono ?_
    rintro e w3 ⟨rfl, hb⟩
    have HK4 := Aside0.mk (blk_below (blk_alloc HK3.out _) hb)
    have HX4 := Aside0.mk (blk_below (blk_new w2 (.cells #[.int .i64 a, .int .i64 m] 24)) hb)
    have HB4 := Aside0.mk (below_step (below_alloc HB3.out _) hb)
    have d0 : w3.cell? ⟨w.heap.size, 0, none⟩ = some (.int .i64 0) := (blk_cell HK4.out 0).trans rfl
    have d1 : w3.cell? ⟨w.heap.size, 1, none⟩ = some (.int .i64 0) := (blk_cell HK4.out 1).trans rfl
    have f0 : w3.frozen? ⟨w.heap.size, 0, none⟩ = false := blk_frozen HK4.out 0
    have f1 : w3.frozen? ⟨w.heap.size, 1, none⟩ = false := blk_frozen HK4.out 1
    have x0 : w3.cell? ⟨w2.heap.size, 0, none⟩ = some (.int .i64 a) := (blk_cell HX4.out 0).trans rfl
    have x1 : w3.cell? ⟨w2.heap.size, 1, none⟩ = some (.int .i64 m) := (blk_cell HX4.out 1).trans rfl
    clear hb HK3 HB3
    go_wp2
    refine bodyPost_ret (results_ct rfl _ _ w.heap.size 24 #[.int .i64 a, .int .i64 m] (0, 0) _ rfl (by refine blk_put (cs := #[.int .i64 a, .int .i64 0]) ?_ 1 _ rfl; refine blk_put (cs := #[.int .i64 0, .int .i64 0]) ?_ 0 _ rfl; exact HK4.out) Try.underlying24 rfl (by kernel_rfl)) rfl ?_
    exact ⟨rfl, below_set (below_set HB4.out (Nat.le_refl _)) (Nat.le_refl _)⟩

/-! ### reduce_watered: function 34 -/
def reduce_watered.f (a0_0 : Int) (a0_1 : Int) (a1 : Int) : Option (Int × Int) := (mix_Sum.f (([(⟨a0_0, a0_1⟩ : S24), (⟨0, a1⟩ : S24)] : List (S24)))).bind fun bt126 => (some (bt126.1, bt126.2.1))
set_option maxHeartbeats 8000000 in
set_option maxRecDepth 100000 in
theorem reduce_watered.calls (a0_0 : Int) (a0_1 : Int) (a1 : Int) (r1 : Int) (r2 : Int) (w : World) (h : reduce_watered.f a0_0 a0_1 a1 = some (r1, r2)) :
  Calls Try.prog 34 #[.agg #[.int .i64 a0_0, .int .i64 a0_1], .int .i64 a1] w fun e w' => e = .returned (.agg #[.int .i64 r1, .int .i64 r2]) ∧ Below w.heap.size w w' := by
 have hu24 := Try.underlying24
 have HB := Aside0.mk (Below.refl w.heap.size w)
 have H : ((mix_Sum.f (([(⟨a0_0, a0_1⟩ : S24), (⟨0, a1⟩ : S24)] : List (S24)))).bind fun bt126 => (some (bt126.1, bt126.2.1))) = some (r1, r2) := h
 clear h
 obtain ⟨y123, hy123⟩ : ∃ y_ : List (S24), y_ = (([(⟨a0_0, a0_1⟩ : S24), (⟨0, a1⟩ : S24)] : List (S24))) := ⟨_, rfl⟩
 replace H : ((mix_Sum.f y123).bind fun bt126 => (some (bt126.1, bt126.2.1))) = some (r1, r2) := by first | (rw [hy123]; with_reducible exact H) | (have H2_ := (Option.bind_some _ _).symm.trans H; rw [hy123]; with_reducible exact H2_) | (have H2_ := (Option.bind_some _ _).symm.trans H; with_reducible exact H2_) | with_reducible exact H | (rw [hy123]; exact H) | exact H
 have Ny123 := Aside0.mk hy123
 clear hy123
 replace H := Option.bind_eq_some_iff.mp H
 obtain ⟨⟨t126, t127, t128⟩, A30, H⟩ := H
 replace H : (some (t126, t127)) = some (r1, r2) := H
 have A3 := Aside0.mk A30
 clear A30
 simp only [Option.some.injEq, Prod.mk.injEq] at H
 obtain ⟨rfl, rfl⟩ := H
 go_enter Try.func34, Try.ntmps34
 go_wp2_with (first | ((with_reducible refine gate_dst (N := 2) rfl ?_); refine box_event ?hg (N := 2) ?hd (cs := #[.int .i64 a0_0, .int .i64 a0_1]) (t := 24) ?hr ?_; (case hd => rfl); (case hg => rfl); (case hr => first | (go_simp; done) | (go_simp; rfl)); intro gb121 hg w4 hbox hb; have n0_ := Aside0.mk (below_step (by repeat (first | (with_reducible first | exact HB.out | apply below_alloc | apply pw_below_drewN | apply below_drew1) | exact HB.out)) hb); have n1_ := Aside0.mk (hbox); have n2_ := Aside0.mk ((by rw [hg]; exact (below_size (by repeat (first | (with_reducible first | exact HB.out | apply below_alloc | apply pw_below_drewN | apply below_drew1) | exact HB.out))) : w.heap.size ≤ gb121)); have n3_ := Aside0.mk ((by rw [hg]; exact (below_size (by repeat (first | (with_reducible first | exact HB.out | apply below_alloc | apply pw_below_drewN | apply below_drew1) | exact HB.out))) : w.heap.size ≤ gb121)); clear HB; have HB := n0_; have BK121 := n1_; have GW121 := n2_; have GE121 := n3_; clear n0_ n1_ n2_ n3_; clear hb hbox hg) | ((with_reducible refine gate_dst (N := 4) rfl ?_); refine box_event ?hg (N := 4) ?hd (cs := #[.int .i64 0, .int .i64 0]) (t := 24) ?hr ?_; (case hd => rfl); (case hg => rfl); (case hr => first | (go_simp; done) | (go_simp; rfl)); intro gb122 hg w5 hbox hb; have n0_ := Aside0.mk (blk_below (g := gb121) (o := .cells #[.int .i64 a0_0, .int .i64 a0_1] 24 (0, 0)) (by (with_reducible repeat (first | refine blk_drewN ?_ _ | refine blk_drew ?_ | refine blk_alloc ?_ _)); exact BK121.out) hb); have n1_ := Aside0.mk (below_step (by repeat (first | (with_reducible first | exact HB.out | apply below_alloc | apply pw_below_drewN | apply below_drew1 | refine below_set ?_ GE121.out) | exact HB.out)) hb); have n2_ := Aside0.mk (hbox); have n3_ := Aside0.mk ((by rw [hg]; exact (below_size (by repeat (first | (with_reducible first | exact HB.out | apply below_alloc | apply pw_below_drewN | apply below_drew1 | refine below_set ?_ GE121.out) | exact HB.out))) : w.heap.size ≤ gb122)); have n4_ := Aside0.mk ((by rw [hg]; exact (below_size (by repeat (first | (with_reducible first | exact HB.out | apply below_alloc | apply pw_below_drewN | apply below_drew1 | refine below_set ?_ GE121.out) | exact HB.out))) : w.heap.size ≤ gb122)); have n5_ := Aside0.mk ((by rw [hg]; exact Nat.ne_of_lt (blk_lt (g := gb121) (o := .cells #[.int .i64 a0_0, .int .i64 a0_1] 24 (0, 0)) (by (with_reducible repeat (first | refine blk_drewN ?_ _ | refine blk_drew ?_ | refine blk_alloc ?_ _)); exact BK121.out)) : gb121 ≠ gb122)); have n6_ := Aside0.mk ((by rw [hg]; exact Nat.ne_of_gt (blk_lt (g := gb121) (o := .cells #[.int .i64 a0_0, .int .i64 a0_1] 24 (0, 0)) (by (with_reducible repeat (first | refine blk_drewN ?_ _ | refine blk_drew ?_ | refine blk_alloc ?_ _)); exact BK121.out)) : gb122 ≠ gb121)); clear BK121; clear HB; have BK121 := n0_; have HB := n1_; have BK122 := n2_; have GW122 := n3_; have GE122 := n4_; have NB121_122 := n5_; have NB122_121 := n6_; clear n0_ n1_ n2_ n3_ n4_ n5_ n6_; clear hb hbox hg; have hnb6 := NB121_122.out; have hnc6 := NB122_121.out; have hcz7_0 : w5.cell? ⟨gb121, 0, none⟩ = some (.int .i64 a0_0) := (blk_cell BK121.out 0).trans rfl; have hcz7_1 : w5.cell? ⟨gb121, 1, none⟩ = some (.int .i64 a0_1) := (blk_cell BK121.out 1).trans rfl; have hfz7_0 := blk_frozen BK121.out 0; have hfz7_1 := blk_frozen BK121.out 1) | ((with_reducible refine gate_dst (N := 11) rfl ?_); refine Kd.R_lit k24 _ 24 ?hg (N := 11) ?hd (xs := ([(⟨a0_0, a0_1⟩ : S24), (⟨0, a1⟩ : S24)] : List (S24))) (inner := [.int .i64 a0_0, .int .i64 a0_1, .int .i64 0, .int .i64 a1]) (ok := fun _ => True) (okp := fun _ => True) ?hr ?hp (fun _ hk => hk) trivial (Below.refl _ _) (Nat.le_refl _) (by simp) ?_; (case hd => rfl); (case hg => rfl); (case hr => first | (go_simp; done) | (go_simp; rfl)); (case hp => exact (Reps.c2 (show Kd.M k24 _ _ _ (⟨a0_0, a0_1⟩ : S24) [.int .i64 a0_0, .int .i64 a0_1] from (k24_mkM _ _ _ (⟨a0_0, a0_1⟩ : S24) )) (Reps.c2 (show Kd.M k24 _ _ _ (⟨0, a1⟩ : S24) [.int .i64 0, .int .i64 a1] from (k24_mkM _ _ _ (⟨0, a1⟩ : S24) )) (Reps.none _ _)))); intro v124 w8 ho9 hb hg_ hnew_; clear hg_ hnew_; (first | rw [← Ny123.out] at ho9 | (simp only [Int.reduceToNat] at ho9; rw [← Ny123.out] at ho9)); have n0_ := Aside0.mk (Kd.R_lower (Kd.R_newB (Kd.R_newB ho9 (g := gb121) (o := .cells #[.int .i64 a0_0, .int .i64 a0_1] 24 (0, 0)) (by (with_reducible repeat (first | refine blk_drewN ?_ _ | refine blk_drew ?_ | refine blk_alloc ?_ _)); exact BK121.out)) (g := gb122) (o := .cells #[.int .i64 0, .int .i64 0] 24 (0, 0)) (by (with_reducible repeat (first | refine blk_drewN ?_ _ | refine blk_drew ?_ | refine blk_alloc ?_ _)); exact BK122.out)) (below_size (by repeat (first | (with_reducible first | exact HB.out | apply below_alloc | apply pw_below_drewN | apply below_drew1 | refine below_set ?_ GE121.out | refine below_set ?_ GE122.out) | exact HB.out)))); have n1_ := Aside0.mk (blk_below (g := gb121) (o := .cells #[.int .i64 a0_0, .int .i64 a0_1] 24 (0, 0)) (by (with_reducible repeat (first | refine blk_drewN ?_ _ | refine blk_drew ?_ | refine blk_alloc ?_ _)); exact BK121.out) hb); have n2_ := Aside0.mk (blk_below (g := gb122) (o := .cells #[.int .i64 0, .int .i64 0] 24 (0, 0)) (by (with_reducible repeat (first | refine blk_drewN ?_ _ | refine blk_drew ?_ | refine blk_alloc ?_ _)); exact BK122.out) hb); have n3_ := Aside0.mk (below_step (by repeat (first | (with_reducible first | exact HB.out | apply below_alloc | apply pw_below_drewN | apply below_drew1 | refine below_set ?_ GE121.out | refine below_set ?_ GE122.out) | exact HB.out)) hb); clear BK121; clear BK122; clear HB; have HO125 := n0_; have BK121 := n1_; have BK122 := n2_; have HB := n3_; clear n0_ n1_ n2_ n3_; clear hb ho9; obtain ⟨Ao10, co10, eo10⟩ := Kd.R_slice HO125.out; subst eo10) | ((with_reducible refine gate_callee (f := 50) rfl ?_); refine goesL_ (some 12) rfl rfl Try.func50 (by kernel_rfl) rfl #[.slice Ao10 y123.length co10] rfl (by (try simp only [List.map_toArray, List.map_cons, List.map_nil]); first | done | rfl | (simp only [List.length_drop, List.length_take]; rfl)) ?_; (with_reducible refine (mix_Sum.calls _ _ y123 t126 t127 t128 _ ?side1 ?side2 A3.out).mono ?_); (case side1 => repeat (first | exact (Kd.R_reads' HO125.out).2.2 | (with_reducible refine Kd.C_alloc ?_ _) | (with_reducible refine Kd.C_drewN ?_ _) | (with_reducible refine Kd.C_drew ?_))); (case side2 => exact (Kd.R_reads' HO125.out).2.1); rintro e w11 ⟨rfl, hb⟩; refine ⟨_, rfl, ?_⟩; have n0_ := Aside0.mk (Kd.R_below (by (with_reducible repeat (first | apply Kd.R_alloc | apply Kd.R_drewN | apply Kd.R_drew)); exact HO125.out) hb); have n1_ := Aside0.mk (blk_below (g := gb121) (o := .cells #[.int .i64 a0_0, .int .i64 a0_1] 24 (0, 0)) (by (with_reducible repeat (first | refine blk_drewN ?_ _ | refine blk_drew ?_ | refine blk_alloc ?_ _)); exact BK121.out) hb); have n2_ := Aside0.mk (blk_below (g := gb122) (o := .cells #[.int .i64 0, .int .i64 0] 24 (0, 0)) (by (with_reducible repeat (first | refine blk_drewN ?_ _ | refine blk_drew ?_ | refine blk_alloc ?_ _)); exact BK122.out) hb); have n3_ := Aside0.mk (below_step (by repeat (first | (with_reducible first | exact HB.out | apply below_alloc | apply pw_below_drewN | apply below_drew1 | refine below_set ?_ GE121.out | refine below_set ?_ GE122.out) | exact HB.out)) hb); clear HO125; clear BK121; clear BK122; clear HB; have HO125 := n0_; have BK121 := n1_; have BK122 := n2_; have HB := n3_; clear n0_ n1_ n2_ n3_; (try clear hb); (try clear hb2); (try clear hk); (try clear hi)) | ((with_reducible refine gate_dst (N := 5) rfl ?_); refine box_event ?hg (N := 5) ?hd (cs := #[.int .i64 0, .int .i64 0]) (t := 24) ?hr ?_; (case hd => rfl); (case hg => rfl); (case hr => first | (go_simp; done) | (go_simp; rfl)); intro gb129 hg w12 hbox hb; have n0_ := Aside0.mk (Kd.R_below (Kd.R_elderB (by (with_reducible repeat (first | apply Kd.R_alloc | apply Kd.R_drewN | apply Kd.R_drew)); exact HO125.out) gb129 (Nat.le_of_eq hg.symm)) hb); have n1_ := Aside0.mk (blk_below (g := gb121) (o := .cells #[.int .i64 a0_0, .int .i64 a0_1] 24 (0, 0)) (by (with_reducible repeat (first | refine blk_drewN ?_ _ | refine blk_drew ?_ | refine blk_alloc ?_ _)); exact BK121.out) hb); have n2_ := Aside0.mk (blk_below (g := gb122) (o := .cells #[.int .i64 0, .int .i64 0] 24 (0, 0)) (by (with_reducible repeat (first | refine blk_drewN ?_ _ | refine blk_drew ?_ | refine blk_alloc ?_ _)); exact BK122.out) hb); have n3_ := Aside0.mk (below_step (by repeat (first | (with_reducible first | exact HB.out | apply below_alloc | apply pw_below_drewN | apply below_drew1 | refine below_set ?_ GE121.out | refine below_set ?_ GE122.out) | exact HB.out)) hb); have n4_ := Aside0.mk (hbox); have n5_ := Aside0.mk ((by rw [hg]; exact (below_size (by repeat (first | (with_reducible first | exact HB.out | apply below_alloc | apply pw_below_drewN | apply below_drew1 | refine below_set ?_ GE121.out | refine below_set ?_ GE122.out) | exact HB.out))) : w.heap.size ≤ gb129)); have n6_ := Aside0.mk ((by rw [hg]; exact (below_size (by repeat (first | (with_reducible first | exact HB.out | apply below_alloc | apply pw_below_drewN | apply below_drew1 | refine below_set ?_ GE121.out | refine below_set ?_ GE122.out) | exact HB.out))) : w.heap.size ≤ gb129)); have n7_ := Aside0.mk ((by rw [hg]; exact Nat.ne_of_lt (blk_lt (g := gb121) (o := .cells #[.int .i64 a0_0, .int .i64 a0_1] 24 (0, 0)) (by (with_reducible repeat (first | refine blk_drewN ?_ _ | refine blk_drew ?_ | refine blk_alloc ?_ _)); exact BK121.out)) : gb121 ≠ gb129)); have n8_ := Aside0.mk ((by rw [hg]; exact Nat.ne_of_gt (blk_lt (g := gb121) (o := .cells #[.int .i64 a0_0, .int .i64 a0_1] 24 (0, 0)) (by (with_reducible repeat (first | refine blk_drewN ?_ _ | refine blk_drew ?_ | refine blk_alloc ?_ _)); exact BK121.out)) : gb129 ≠ gb121)); have n9_ := Aside0.mk ((by rw [hg]; exact Nat.ne_of_lt (blk_lt (g := gb122) (o := .cells #[.int .i64 0, .int .i64 0] 24 (0, 0)) (by (with_reducible repeat (first | refine blk_drewN ?_ _ | refine blk_drew ?_ | refine blk_alloc ?_ _)); exact BK122.out)) : gb122 ≠ gb129)); have n10_ := Aside0.mk ((by rw [hg]; exact Nat.ne_of_gt (blk_lt (g := gb122) (o := .cells #[.int .i64 0, .int .i64 0] 24 (0, 0)) (by (with_reducible repeat (first | refine blk_drewN ?_ _ | refine blk_drew ?_ | refine blk_alloc ?_ _)); exact BK122.out)) : gb129 ≠ gb122)); clear HO125; clear BK121; clear BK122; clear HB; have HO125 := n0_; have BK121 := n1_; have BK122 := n2_; have HB := n3_; have BK129 := n4_; have GW129 := n5_; have GE129 := n6_; have NB121_129 := n7_; have NB129_121 := n8_; have NB122_129 := n9_; have NB129_122 := n10_; clear n0_ n1_ n2_ n3_ n4_ n5_ n6_ n7_ n8_ n9_ n10_; clear hb hbox hg; have hnb13 := NB129_121.out; have hnc13 := NB121_129.out; have hnb14 := NB129_122.out; have hnc14 := NB122_129.out; have hcz15_0 : w12.cell? ⟨gb129, 0, none⟩ = some (.int .i64 0) := (blk_cell BK129.out 0).trans rfl; have hcz15_1 : w12.cell? ⟨gb129, 1, none⟩ = some (.int .i64 0) := (blk_cell BK129.out 1).trans rfl; have hfz15_0 := blk_frozen BK129.out 0; have hfz15_1 := blk_frozen BK129.out 1; have hcz16_0 : w12.cell? ⟨gb122, 0, none⟩ = some (.int .i64 0) := (blk_cell BK122.out 0).trans rfl; have hcz16_1 : w12.cell? ⟨gb122, 1, none⟩ = some (.int .i64 0) := (blk_cell BK122.out 1).trans rfl; have hfz16_0 := blk_frozen BK122.out 0; have hfz16_1 := blk_frozen BK122.out 1))
 refine bodyPost_ret (results_cell_row rfl _ _ gb122 24 #[.int .i64 t126, .int .i64 t127] (0, 0) _ rfl (by (with_reducible repeat (first | refine blk_drewN ?_ _ | refine blk_drew ?_ | refine blk_alloc ?_ _)); refine blk_put (cs := #[.int .i64 t126, .int .i64 0]) ?_ 1 _ rfl; (with_reducible repeat (first | refine blk_drewN ?_ _ | refine blk_drew ?_ | refine blk_alloc ?_ _)); refine blk_put (cs := #[.int .i64 0, .int .i64 0]) ?_ 0 _ rfl; (with_reducible repeat (first | refine blk_drewN ?_ _ | refine blk_drew ?_ | refine blk_alloc ?_ _)); refine blk_far ?_ NB122_129.out _; (with_reducible repeat (first | refine blk_drewN ?_ _ | refine blk_drew ?_ | refine blk_alloc ?_ _)); refine blk_far ?_ NB122_129.out _; (with_reducible repeat (first | refine blk_drewN ?_ _ | refine blk_drew ?_ | refine blk_alloc ?_ _)); exact BK122.out) Try.underlying24 rfl (by kernel_rfl)) rfl ?_
 exact ⟨by first | rfl | (simp [errW_none, errW_some] <;> rfl) | (simp [*, errW_none, errW_some] <;> rfl), by repeat (first | (with_reducible first | exact HB.out | apply below_alloc | apply pw_below_drewN | apply below_drew1 | refine below_set ?_ GE121.out | refine below_set ?_ GE122.out | refine below_set ?_ GE129.out) | exact HB.out)⟩

/-! ### reduce_least: function 28 -/
-- MAKING
theorem LiqOK.wet {l : List S50} {a m : Int} (h : LiqOK l a m) {m' : Int} (hmm : m ≤ m') (h1 : m' ≤ 128849018880000) : LiqOK l a m' :=
  ⟨h.right, h.a0, h.a1, by have := h.m0; omega, h1, by have := h.fit; omega⟩
theorem LiqOK.none_ {l : List S50} {a m : Int} (h : LiqOK l a m) (hm : m = 0) : a = 0 := by
  have h1 := h.fit
  have h2 := (h.right.dens_rng (show (0 : Int) ≤ 10000 by decide) (by decide)).1
  rw [hm, Int.zero_mul] at h1
  rcases Int.lt_or_eq_of_le h.a0 with h4 | h4
  · have := Int.mul_pos h4 (show 0 < dens l 10000 by omega); omega
  · exact h4.symm
theorem LiqOK.water_le {l : List S50} {a m : Int} (h : LiqOK l a m) {m' : Int} (hmm : m ≤ m') (h' : LiqOK l a m') : gradeS l a m' ≤ gradeS l a m := by
  obtain ⟨g0, g1, g2, g3⟩ := h.grade
  obtain ⟨k0, k1, k2, k3⟩ := h'.grade
  by_cases hm : m = 0
  · have ha := h.none_ hm
    rcases Int.lt_or_le 0 (gradeS l a m') with h1 | h1
    · have e1 := k2 _ k0 (Int.le_refl _)
      rw [ha, Int.zero_mul] at e1
      by_cases hm' : m' = 0
      · unfold gradeS at h1; rw [if_pos hm'] at h1; omega
      · have := Int.mul_pos (show 0 < m' by omega) h1
        rw [ha] at this
        omega
    · omega
  · rcases Int.lt_or_le (gradeS l a m) (gradeS l a m') with h1 | h1
    · have e1 := k2 _ k0 (Int.le_refl _)
      have e2 := g3 hm _ h1 k1
      have e3 := Int.mul_le_mul_of_nonneg_right hmm k0
      omega
    · exact h1
theorem watered_plain (a m mass : Int) (h0 : 0 ≤ a) (h1 : a ≤ 10737418240000) (h2 : 0 ≤ m) (h3 : 0 ≤ mass) (h4 : m + mass ≤ 128849018880000) (h5 : m = 0 → a = 0) : reduce_watered.f a m mass = some (a, m + mass) := by
  have e0 : wrap64 (0 + a) = a := by rw [Int.zero_add]; exact w64_ (by omega) (by omega)
  have e1 : wrap64 (0 + m) = m := by rw [Int.zero_add]; exact w64_ (by omega) (by omega)
  have e2 : wrap64 (a + 0) = a := by rw [Int.add_zero]; exact w64_ (by omega) (by omega)
  have e3 : wrap64 (m + mass) = m + mass := w64_ (by omega) (by omega)
  have p1 : plainB a m = true := decide_eq_true (by omega)
  have p2 : plainB 0 mass = true := decide_eq_true (by omega)
  have p3 : plainB a (m + mass) = true := decide_eq_true (by omega)
  unfold reduce_watered.f
  try simp only [Option.bind_some]
  have hs : mix_Sum.f [(⟨a, m⟩ : S24), (⟨0, mass⟩ : S24)] = some (a, m + mass, 0) := by
    unfold mix_Sum.f
    have q0 : strayL [(⟨a, m⟩ : S24), (⟨0, mass⟩ : S24)] 0 = false := by show (!plainB a m) = false; rw [p1]; rfl
    have q1 : strayL [(⟨a, m⟩ : S24), (⟨0, mass⟩ : S24)] 1 = false := by show (!plainB 0 mass) = false; rw [p2]; rfl
    have qi : idxP (strayL [(⟨a, m⟩ : S24), (⟨0, mass⟩ : S24)]) 2 0 = -1 := idxP_none _ _ _ (fun j _ hj => by
      rcases (show j = 0 ∨ j = 1 by omega) with rfl | rfl
      · exact q0
      · exact q1)
    have qs : sumsL [(⟨a, m⟩ : S24), (⟨0, mass⟩ : S24)] 2 = (a, m + mass) := by
      show (wrap64 (wrap64 (0 + a) + 0), wrap64 (wrap64 (0 + m) + mass)) = (a, m + mass)
      rw [e0, e1, e2, e3]
    simp only [List.length_cons, List.length_nil]
    rw [if_neg (by decide), qi, if_neg (by decide), qs]
    simp only [p3, if_true]
  first
    | (rw [hs]; rfl)
    | (change (mix_Sum.f [(⟨a, m⟩ : S24), (⟨0, mass⟩ : S24)]).bind _ = _; rw [hs]; rfl)
/-- Is the strength with so much water at most a target? -/
def wetB (l : List S50) (a m target : Int) (mass : Nat) : Bool := decide (gradeS l a (m + (mass : Int)) ≤ target)
def leastS (l : List S50) (a m target : Int) : Int := ((List.range (128849018880000 - m + 1).toNat).countP (fun i => !(wetB l a m target i)) : Nat)
theorem LiqOK.wet_mono {l : List S50} {a m : Int} (h : LiqOK l a m) (target : Int) : ∀ i j : Nat, i ≤ j → j < (128849018880000 - m + 1).toNat → wetB l a m target i = true → wetB l a m target j = true := by
  intro i j hij hj hi
  have h1 := h.wet (m' := m + (i : Int)) (by omega) (by have := h.m1; omega)
  have h2 := h.wet (m' := m + (j : Int)) (by omega) (by have := h.m1; omega)
  have h3 := h1.water_le (m' := m + (j : Int)) (by omega) h2
  unfold wetB at *
  simp only [decide_eq_true_eq] at *
  omega
theorem LiqOK.least {l : List S50} {a m : Int} (h : LiqOK l a m) (target : Int) : 0 ≤ leastS l a m target ∧ leastS l a m target ≤ 128849018880000 - m + 1 ∧
    (∀ x, 0 ≤ x → x < leastS l a m target → target < gradeS l a (m + x)) ∧ (∀ x, leastS l a m target ≤ x → x ≤ 128849018880000 - m → gradeS l a (m + x) ≤ target) := by
  have m0 := h.m0
  have m1 := h.m1
  obtain ⟨c1, c2, c3⟩ := countP_mono (128849018880000 - m + 1).toNat (wetB l a m target) (h.wet_mono target)
  unfold leastS
  generalize hc : (List.range (128849018880000 - m + 1).toNat).countP (fun i => !(wetB l a m target i)) = c at c1 c2 c3 ⊢
  refine ⟨by omega, by omega, fun x h0 h1 => ?_, fun x h0 h1 => ?_⟩
  · have h3 := c2 x.toNat (by omega)
    unfold wetB at h3
    rw [show ((x.toNat : Nat) : Int) = x by omega] at h3
    simp only [decide_eq_false_iff_not] at h3
    omega
  · have h3 := c3 x.toNat (by omega) (by omega)
    unfold wetB at h3
    rw [show ((x.toNat : Nat) : Int) = x by omega] at h3
    simpa using h3
set_option maxHeartbeats 4000000 in
set_option maxRecDepth 100000 in
theorem reduce_least.clo (bt bl bs : Nat) (A : Option Addr) (c : Nat) (l : List S50) (a m s : Int) (i : Nat) (W : World) (hok : LiqOK l a m) (hi : i < (128849018880000 - m + 1).toNat) (hcl : l.length ≤ c)
    (ht : W.cell? ⟨bt, 0, none⟩ = some (.slice A l.length c)) (ha : W.cell? ⟨bl, 0, none⟩ = some (.int .i64 a)) (hm : W.cell? ⟨bl, 1, none⟩ = some (.int .i64 m)) (hs : W.cell? ⟨bs, 0, none⟩ = some (.int .i64 s)) (hr : Kd.C k50 W A l.length l) :
    Calls Try.prog 47 (#[.int .i64 i] ++ #[.pointer (some ⟨bt, 0, none⟩), .pointer (some ⟨bl, 0, none⟩), .pointer (some ⟨bs, 0, none⟩)]) W fun e w' => e = .returned (.bool (wetB l a m s i)) ∧ Below W.heap.size W w' := by
  have hu := Try.underlying24
  have m1 := hok.m1
  have hwt := Aside0.mk (fun w' => reduce_watered.calls a m (i : Int) a (m + (i : Int)) w' (watered_plain a m i hok.a0 hok.a1 hok.m0 (by omega) (by omega) hok.none_))
  have hst := Aside0.mk (fun w' hb => alcohol_Strength.calls A c l a (m + (i : Int)) (gradeS l a (m + (i : Int))) 0 w' (Kd.C_below hr hb) hcl (by unfold alcohol_Strength.f; rw [if_pos ((lchk_iff _ _ _).2 (hok.wet (m' := m + (i : Int)) (by omega) (by omega)))]))
  have HB := Aside0.mk (Below.refl W.heap.size W)
  clear hok hr hcl hi m1
  unfold wetB
  generalize gradeS l a (m + (i : Int)) = d at hst ⊢
  generalize m + (i : Int) = m' at hwt hst
  go_enter Try.func47, Try.ntmps47
  go_wp2
  go_region_held3 (fun w' => w'.cell? ⟨bt, 0, none⟩ = some (.slice A l.length c) ∧ w'.cell? ⟨bl, 0, none⟩ = some (.int .i64 a) ∧ w'.cell? ⟨bl, 1, none⟩ = some (.int .i64 m) ∧ w'.cell? ⟨bs, 0, none⟩ = some (.int .i64 s) ∧ Aside0 (Below W.heap.size W w'))
    (first | exact ⟨ht, ha, hm, hs, ⟨below_drew1 HB.out⟩⟩ | exact ⟨pw_cell_below (below_step hb hb2) ht, pw_cell_below (below_step hb hb2) ha, pw_cell_below (below_step hb hb2) hm, pw_cell_below (below_step hb hb2) hs, ⟨below_step (below_step (below_drew1 HB.out) hb) hb2⟩⟩ | exact ⟨pw_cell_below hb ht, pw_cell_below hb ha, pw_cell_below hb hm, pw_cell_below hb hs, ⟨below_step (below_drew1 HB.out) hb⟩⟩)
    (first | (go_at_call 34; refine (hwt.out _).mono ?_; rintro e w' ⟨rfl, hb⟩) | (go_at_call 18; refine (hst.out _ (below_step (below_drew1 HB.out) hb)).mono ?_; rintro e w'' ⟨rfl, hb2⟩))
  replace hs := pw_cell_below (below_step (show Below W.drew.heap.size W.drew w' from hb) hb2) (show W.drew.cell? _ = _ from hs)
  have hb' := Aside0.mk (below_step (below_step (below_drew1 HB.out) hb) hb2)
  clear hb hb2 ht ha hm
  go_wp2
  go_ret
  exact ⟨by first | rfl | simp, hb'.out⟩
def reduce_least.f (l0 : List S50) (a1_0 a1_1 a2 : Int) : Option Int := if lchk l0 a1_0 a1_1 = 0 then some (leastS l0 a1_0 a1_1 a2) else none
set_option maxHeartbeats 4000000 in
set_option maxRecDepth 100000 in
theorem reduce_least.calls (A0 : Option Addr) (c0 : Nat) (l0 : List S50) (a1_0 a1_1 a2 : Int) (r : Int) (w : World) (hr0 : Kd.C k50 w A0 l0.length l0) (hc0 : l0.length ≤ c0) (h : reduce_least.f l0 a1_0 a1_1 a2 = some r) :
    Calls Try.prog 28 #[.slice A0 l0.length c0, .agg #[.int .i64 a1_0, .int .i64 a1_1], .int .i64 a2] w fun e w' => e = .returned (.int .i64 r) ∧ Below w.heap.size w w' := by
  have hu := Try.underlying24
  unfold reduce_least.f at h
  by_cases hc : lchk l0 a1_0 a1_1 = 0
  case neg => rw [if_neg hc] at h; exact absurd h (by simp)
  rw [if_pos hc] at h
  have e1 := Option.some.inj h
  clear h
  have hok := (lchk_iff _ _ _).1 hc
  clear hc
  have m0 := hok.m0
  have m1 := hok.m1
  obtain ⟨W0, hW0⟩ : ∃ W0, W0 = ((w.alloc (.cells #[.slice A0 l0.length c0] 22)).alloc (.cells #[.int .i64 a1_0, .int .i64 a1_1] 24)).alloc (.cells #[.int .i64 a2] 3) := ⟨_, rfl⟩
  have hB0 : Below w.heap.size w W0 := by rw [hW0]; exact below_alloc (below_alloc (below_alloc (Below.refl _ _) _) _) _
  have ct : W0.cell? ⟨w.heap.size, 0, none⟩ = some (.slice A0 l0.length c0) := by rw [hW0]; exact pw_cell_alloc _ (pw_cell_alloc _ (pw_cell_new w _ _))
  have ca : W0.cell? ⟨w.heap.size + 1, 0, none⟩ = some (.int .i64 a1_0) := by rw [hW0]; refine pw_cell_alloc _ ?_; rw [World.cell?_alloc_at _ _ _ _ (by simp)]; rfl
  have cm : W0.cell? ⟨w.heap.size + 1, 1, none⟩ = some (.int .i64 a1_1) := by rw [hW0]; refine pw_cell_alloc _ ?_; rw [World.cell?_alloc_at _ _ _ _ (by simp)]; rfl
  have cs : W0.cell? ⟨w.heap.size + 1 + 1, 0, none⟩ = some (.int .i64 a2) := by rw [hW0]; rw [World.cell?_alloc_at _ _ _ _ (by simp)]; rfl
  have hr : Kd.C k50 W0 A0 l0.length l0 := Kd.C_below hr0 hB0
  have eg : ∀ args w, (callFunc 47 args).run Try.prog w = .ok (.enter 47 args) w := enters_of Try.func47 (by kernel_rfl) rfl
  have hS := sort_Search.below 47 #[.pointer (some ⟨w.heap.size, 0, none⟩), .pointer (some ⟨w.heap.size + 1, 0, none⟩), .pointer (some ⟨w.heap.size + 1 + 1, 0, none⟩)] (128849018880000 - a1_1 + 1).toNat (wetB l0 a1_0 a1_1 a2) W0 eg (by omega)
    (fun W i hi hb => reduce_least.clo w.heap.size (w.heap.size + 1) (w.heap.size + 1 + 1) A0 c0 l0 a1_0 a1_1 a2 i W hok hi hc0 (pw_cell_below hb ct) (pw_cell_below hb ca) (pw_cell_below hb cm) (pw_cell_below hb cs) (Kd.C_below hr hb))
    (hok.wet_mono a2)
  rw [show (((128849018880000 - a1_1 + 1).toNat : Nat) : Int) = 128849018880000 - a1_1 + 1 by omega] at hS
  change Calls Try.prog 40 _ _ fun e w' => e = .returned (.int .i64 (leastS l0 a1_0 a1_1 a2)) ∧ _ at hS
  rw [e1] at hS
  have w1 : IntKind.i64.wrap (128849018880000 - a1_1) = 128849018880000 - a1_1 := by rw [i64_w]; exact w64_ (by omega) (by omega)
  have w2 : IntKind.i64.wrap (128849018880000 - a1_1 + 1) = 128849018880000 - a1_1 + 1 := by rw [i64_w]; exact w64_ (by omega) (by omega)
  have HS := Aside0.mk hS
  have HB0 := Aside0.mk hB0
  have HW0 := Aside0.mk hW0
  clear hS eg hr hr0 hB0 hW0 ct ca cm cs e1 hok
  go_enter Try.func28, Try.ntmps28
  go_wp2_with fail
  rw [← HW0.out]
  refine HS.out.mono ?_
  rintro e w' ⟨rfl, hb⟩
  have HB := Aside0.mk (below_step HB0.out hb)
  clear hb
  go_wp2
  go_ret
  exact ⟨rfl, HB.out⟩

/-! ### reduce_room: function 29 -/
def reduce_room.f (a0_0 : Int) (a0_1 : Int) : Option (Int) := some (wrap64 (128849018880000 - a0_1))
set_option maxHeartbeats 8000000 in
set_option maxRecDepth 100000 in
theorem reduce_room.calls (a0_0 : Int) (a0_1 : Int) (r : Int) (w : World) (h : reduce_room.f a0_0 a0_1 = some r) :
  Calls Try.prog 29 #[.agg #[.int .i64 a0_0, .int .i64 a0_1]] w fun e w' => e = .returned (.int .i64 r) ∧ Below w.heap.size w w' := by
 have hu24 := Try.underlying24
 have HB := Aside0.mk (Below.refl w.heap.size w)
 have H : (some (wrap64 (128849018880000 - a0_1))) = some r := h
 clear h
 obtain rfl := Option.some.inj H
 go_enter Try.func29, Try.ntmps29
 go_wp2_with (first | ((with_reducible refine gate_dst (N := 1) rfl ?_); refine box_event ?hg (N := 1) ?hd (cs := #[.int .i64 a0_0, .int .i64 a0_1]) (t := 24) ?hr ?_; (case hd => rfl); (case hg => rfl); (case hr => first | (go_simp; done) | (go_simp; rfl)); intro gb130 hg w2 hbox hb; have n0_ := Aside0.mk (below_step (by repeat (first | (with_reducible first | exact HB.out | apply below_alloc | apply pw_below_drewN | apply below_drew1) | exact HB.out)) hb); have n1_ := Aside0.mk (hbox); have n2_ := Aside0.mk ((by rw [hg]; exact (below_size (by repeat (first | (with_reducible first | exact HB.out | apply below_alloc | apply pw_below_drewN | apply below_drew1) | exact HB.out))) : w.heap.size ≤ gb130)); have n3_ := Aside0.mk ((by rw [hg]; exact (below_size (by repeat (first | (with_reducible first | exact HB.out | apply below_alloc | apply pw_below_drewN | apply below_drew1) | exact HB.out))) : w.heap.size ≤ gb130)); clear HB; have HB := n0_; have BK130 := n1_; have GW130 := n2_; have GE130 := n3_; clear n0_ n1_ n2_ n3_; clear hb hbox hg; have hcz3_0 : w2.cell? ⟨gb130, 0, none⟩ = some (.int .i64 a0_0) := (blk_cell BK130.out 0).trans rfl; have hcz3_1 : w2.cell? ⟨gb130, 1, none⟩ = some (.int .i64 a0_1) := (blk_cell BK130.out 1).trans rfl; have hfz3_0 := blk_frozen BK130.out 0; have hfz3_1 := blk_frozen BK130.out 1))
 go_ret
 exact ⟨by first | rfl | (simp [errW_none, errW_some] <;> rfl) | (simp [*, errW_none, errW_some] <;> rfl), by repeat (first | (with_reducible first | exact HB.out | apply below_alloc | apply pw_below_drewN | apply below_drew1 | refine below_set ?_ GE130.out) | exact HB.out)⟩

end Go.Proofs.Ytdggkgkbjgigmaa.PF
