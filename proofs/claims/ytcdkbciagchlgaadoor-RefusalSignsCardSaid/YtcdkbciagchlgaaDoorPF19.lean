-- Written by a program of this session (wip/pr.py) out of Lean's print of the translation; Lean checks it.
import Derived.Test.YtcdkbciagchlgaaDoorPF0
import Derived.Test.YtcdkbciagchlgaaDoorPF1
import Derived.Test.YtcdkbciagchlgaaDoorPF3
import Derived.Test.YtcdkbciagchlgaaDoorPF4
import Derived.Test.YtcdkbciagchlgaaDoorPF9
import Derived.Test.YtcdkbciagchlgaaDoorPF10
import Derived.Test.YtcdkbciagchlgaaDoorPF16
namespace Go.Proofs.YtcdkbciagchlgaaDoor.PF
open Go.RowKit Go.Proofs.YtcdkbciagchlgaaDoorW.PrintWords Go.Proofs.YtcdkbciagchlgaaDoorW.PrintLast Go.Proofs.YtcdkbciagchlgaaDoorW.PrintMore
attribute [local go_sem] max2_int min2_int max_two min_two max_three min_three max_four min_four   -- for this text's walks alone
set_option linter.unusedVariables false
set_option linter.unusedSimpArgs false

/-! ### alcohol_Strength: function 22 -/
-- MAKING
set_option maxHeartbeats 4000000 in
set_option maxRecDepth 100000 in
/-- The closure of alcohol.Strength. -/
theorem alcohol_Strength.clo (bt bl : Nat) (A : Option Addr) (c : Nat) (l : List S82) (a m : Int) (i : Nat) (W : World) (hok : LiqOK l a m) (hi : i < 10001) (hcl : l.length ≤ c)
    (ht : W.cell? ⟨bt, 0, none⟩ = some (.slice A l.length c)) (ha : W.cell? ⟨bl, 0, none⟩ = some (.int .i64 a)) (hm : W.cell? ⟨bl, 1, none⟩ = some (.int .i64 m)) (hr : Kd.C k82 W A l.length l) :
    Calls Tryd.prog 42 (#[.int .i64 i] ++ #[.pointer (some ⟨bl, 0, none⟩), .pointer (some ⟨bt, 0, none⟩)]) W fun e w' => e = .returned (.bool (weak l a m (i : Int))) ∧ Below W.heap.size W w' := by
  have hu := Tryd.underlying45
  have hd := hok.right.dens_rng (s := (i : Int)) (by omega) (by omega)
  have hof := Aside0.mk (fun w' hb => alcohol_of.calls A c l (i : Int) (dens l i) w' (Kd.C_below hr hb) hcl (hok.right.of_ (by omega) (by omega)))
  have w1 : wrap64 (a * dens l i) = a * dens l i := wmul hok.a0 hok.a1 (by omega) hd.2 (by decide)
  have w2 : wrap64 (m * (i : Int)) = m * (i : Int) := wmul hok.m0 hok.m1 (by omega) (show (i : Int) ≤ 10000 by omega) (by decide)
  have W1 := Aside0.mk w1
  have W2 := Aside0.mk w2
  have HB := Aside0.mk (Below.refl W.heap.size W)
  clear w1 w2 hok hr hcl hd
  unfold weak
  generalize dens l i = d at hof W1 ⊢
  go_enter Tryd.func42, Tryd.ntmps42
  go_wp2
  go_region_held3 (fun w' => w'.cell? ⟨bt, 0, none⟩ = some (.slice A l.length c) ∧ w'.cell? ⟨bl, 0, none⟩ = some (.int .i64 a) ∧ w'.cell? ⟨bl, 1, none⟩ = some (.int .i64 m) ∧ Aside0 (Below W.heap.size W w'))
    (first | exact ⟨ht, ha, hm, ⟨below_drew1 HB.out⟩⟩ | exact ⟨pw_cell_below hb ht, pw_cell_below hb ha, pw_cell_below hb hm, ⟨below_step (below_drew1 HB.out) hb⟩⟩)
    (first | (go_at_call 43; refine (hof.out _ (below_drew1 HB.out)).mono ?_; rintro e w' ⟨rfl, hb⟩))
  have hb' := Aside0.mk (below_step (below_drew1 HB.out) hb)
  clear hb
  go_wp2
  go_ret
  exact ⟨by rw [i64_w, i64_w, W1.out, W2.out]; rfl, hb'.out⟩
theorem alcohol_Strength.eqL (d : Nat) (w : World) (x0 y0 x1 y1 : Int) :
    (Op.equalIn (d + 2) 45 (.agg #[.int .i64 x0, .int .i64 x1]) (.agg #[.int .i64 y0, .int .i64 y1])).run Tryd.prog w = .ok (x0 == y0 && (x1 == y1)) w := by
  refine eqA_of Tryd.underlying45 (by kernel_rfl) ?_
  refine eqf_cons (by rfl) (by go_simp; rfl) (by go_simp; rfl) (by go_simp) ?_
  exact eqf_last (by rfl) (by go_simp; rfl) (by go_simp; rfl) (by go_simp)
section
attribute [local go_sem high] alcohol_Strength.eqL
def alcohol_Strength.f (l0 : List S82) (a1_0 a1_1 : Int) : Option (Int × Int) := if lchk l0 a1_0 a1_1 = 0 then some (gradeS l0 a1_0 a1_1, 0) else some (0, 1)
set_option maxHeartbeats 4000000 in
set_option maxRecDepth 100000 in
theorem alcohol_Strength.calls (A0 : Option Addr) (c0 : Nat) (l0 : List S82) (a1_0 a1_1 : Int) (r1 r2 : Int) (w : World) (hr0 : Kd.C k82 w A0 l0.length l0) (hc0 : l0.length ≤ c0) (h : alcohol_Strength.f l0 a1_0 a1_1 = some (r1, r2)) :
    Calls Tryd.prog 22 #[.slice A0 l0.length c0, .agg #[.int .i64 a1_0, .int .i64 a1_1]] w fun e w' => e = .returned (.tuple #[.int .i64 r1, .int .i64 r2]) ∧ Below w.heap.size w w' := by
  have hu := Tryd.underlying45
  obtain ⟨W0, hW0⟩ : ∃ W0, W0 = (w.alloc (.cells #[.slice A0 l0.length c0] 22)).alloc (.cells #[.int .i64 a1_0, .int .i64 a1_1] 45) := ⟨_, rfl⟩
  have hsize : W0.heap.size = w.heap.size + 1 + 1 := by rw [hW0]; simp
  have hB0 : Below w.heap.size w W0 := by rw [hW0]; exact below_alloc (below_alloc (Below.refl _ _) _) _
  have ct : W0.cell? ⟨w.heap.size, 0, none⟩ = some (.slice A0 l0.length c0) := by rw [hW0]; exact pw_cell_alloc _ (pw_cell_new w _ _)
  have ca : W0.cell? ⟨w.heap.size + 1, 0, none⟩ = some (.int .i64 a1_0) := by rw [hW0]; rw [World.cell?_alloc_at _ _ _ _ (by simp)]; rfl
  have cm : W0.cell? ⟨w.heap.size + 1, 1, none⟩ = some (.int .i64 a1_1) := by rw [hW0]; rw [World.cell?_alloc_at _ _ _ _ (by simp)]; rfl
  have hr : Kd.C k82 W0 A0 l0.length l0 := Kd.C_below hr0 hB0
  have hC := Aside0.mk (fun w' hb r he => alcohol_Check_s.calls A0 c0 l0 a1_0 a1_1 r w' (Kd.C_below hr hb) hc0 he)
  unfold alcohol_Strength.f at h
  have HW0 := Aside0.mk hW0
  have HB0 := Aside0.mk hB0
  have HR := Aside0.mk hr
  clear hW0 hB0 hr hr0
  by_cases hc : lchk l0 a1_0 a1_1 = 0
  · rw [if_pos hc] at h
    obtain ⟨e1, rfl⟩ := Prod.mk.inj (Option.some.inj h)
    clear h
    have hok := (lchk_iff l0 a1_0 a1_1).1 hc
    have hC2 := Aside0.mk (hC.out W0 (Below.refl _ _) _ rfl)
    clear hC
    rw [hc] at hC2
    by_cases hm : a1_1 = 0
    · have ha : a1_0 = 0 := by
        have h1 := hok.fit
        have h2 := (hok.right.dens_rng (show (0 : Int) ≤ 10000 by decide) (by decide)).1
        have h3 := hok.a0
        rw [hm, Int.zero_mul] at h1
        rcases Int.lt_or_eq_of_le h3 with h4 | h4
        · have := Int.mul_pos h4 (show 0 < dens l0 10000 by omega); omega
        · exact h4.symm
      have e0 : r1 = 0 := by rw [← e1, gradeS, if_pos hm]
      clear e1 hc hok
      subst hm ha e0
      go_enter Tryd.func22, Tryd.ntmps22
      go_wp2_with fail
      rw [← HW0.out]
      refine hC2.out.mono ?_
      rintro e w' ⟨rfl, hb⟩
      replace ct := pw_cell_below hb ct
      replace ca := pw_cell_below hb ca
      replace cm := pw_cell_below hb cm
      have HB := Aside0.mk (below_then HB0.out HB0.out.size hb)
      clear hb HB0
      go_wp2
      go_ret2
      exact ⟨rfl, HB.out⟩
    · have hmb : (a1_1 == 0) = false := beq_eq_false_iff_ne.mpr hm
      have eg : ∀ args w, (callFunc 42 args).run Tryd.prog w = .ok (.enter 42 args) w := enters_of Tryd.func42 (by kernel_rfl) rfl
      have hS := fun w' (hb : Below W0.heap.size W0 w') => sort_Search.below 42 #[.pointer (some ⟨w.heap.size + 1, 0, none⟩), .pointer (some ⟨w.heap.size, 0, none⟩)] 10001 (fun i => weak l0 a1_0 a1_1 (i : Int)) w' eg (by decide)
        (fun W i hi hb2 => alcohol_Strength.clo w.heap.size (w.heap.size + 1) A0 c0 l0 a1_0 a1_1 i W hok hi hc0 (pw_cell_below hb2 (pw_cell_below hb ct)) (pw_cell_below hb2 (pw_cell_below hb ca)) (pw_cell_below hb2 (pw_cell_below hb cm)) (Kd.C_below (Kd.C_below HR.out hb) hb2))
        (fun a b h1 h2 h3 => hok.weak_mono (by omega) (by omega) (by omega) h3)
      have HS := Aside0.mk hS
      rw [gradeS, if_neg hm] at e1
      clear hS eg hok hc
      obtain ⟨c, hcq⟩ : ∃ c, (List.range 10001).countP (fun (i : Nat) => !(weak l0 a1_0 a1_1 (i : Int))) = c := ⟨_, rfl⟩
      have hcl : c ≤ 10001 := by rw [← hcq]; have := List.countP_le_length (p := fun (i : Nat) => !(weak l0 a1_0 a1_1 (i : Int))) (l := List.range 10001); rwa [List.length_range] at this
      simp only [hcq] at HS e1
      clear hcq
      subst e1
      have hw : IntKind.i64.wrap ((c : Int) - 1) = (c : Int) - 1 := by rw [i64_w]; exact w64_ (by omega) (by omega)
      have HWR := Aside0.mk hw
      clear hw
      go_enter Tryd.func22, Tryd.ntmps22
      go_wp2_with fail
      rw [← HW0.out]
      refine hC2.out.mono ?_
      rintro e w' ⟨rfl, hb⟩
      replace ct := pw_cell_below hb ct
      replace ca := pw_cell_below hb ca
      replace cm := pw_cell_below hb cm
      have HB := Aside0.mk (below_then HB0.out HB0.out.size hb)
      have HS2 := Aside0.mk (HS.out w' hb)
      clear hb HB0 HS HR
      go_wp2_with (refine HS2.out.mono ?_; rintro e w2 ⟨rfl, hb2⟩)
      have HB2 := Aside0.mk (below_then HB.out HB.out.size hb2)
      clear hb2 HB
      go_ret2
      exact ⟨by first | rfl | (rw [HWR.out]; rfl), HB2.out⟩
  · rw [if_neg hc] at h
    obtain ⟨rfl, rfl⟩ := Prod.mk.inj (Option.some.inj h)
    have hcb : (lchk l0 a1_0 a1_1 != 0) = true := bne_iff_ne.mpr hc
    clear h hc
    have hC2 := Aside0.mk (hC.out W0 (Below.refl _ _) _ rfl)
    clear hC
    generalize lchk l0 a1_0 a1_1 = q at hC2 hcb
    go_enter Tryd.func22, Tryd.ntmps22
    go_wp2_with fail
    rw [← HW0.out]
    refine hC2.out.mono ?_
    rintro e w' ⟨rfl, hb⟩
    have HB := Aside0.mk (below_then HB0.out HB0.out.size hb)
    clear hb HB0
    go_wp2
    go_ret2
    exact ⟨rfl, HB.out⟩
end

/-! ### spilelaw30_RefusalFew: function 6 -/
def spilelaw30_RefusalFew.l0 : Nat → List (S82) → Int → Int → Bool → Bool → List (S45) → Int → Int → List (S45) → List Int → List Int → Int → Int → Int → List Int → Int → Int → Int → Option (Bool)
 | 0, _, _, _, _, _, _, _, _, _, _, _, _, _, _, _, _, _, _ => none
 | k + 1, x0, x6, x7, x8, x9, x33, x34, x35, x328000, x328001, x328002, x328003, x328004, x328005, x338000, x338001, x338002, x338003 => if x35 < x34 then (if 0 ≤ x35 then (if x35 < (x33.length : Int) then (if x35 ≥ (x328001.length : Int) then (some false) else ((alcohol_Strength.f x0 ((rd_T45 x33 x35).f0) ((rd_T45 x33 x35).f1)).bind fun bt341 => (if bt341.2 = 0 then (if x35 < (x328001.length : Int) then (if x8 = true then (if x9 = true then (spilelaw30_RefusalFew.l0 k x0 x6 (wrap64 (x7 + (rd x328001 x35))) (decide (bt341.1 < x328003)) (decide (bt341.1 > x328004)) x33 x34 (wrap64 (x35 + 1)) x328000 x328001 x328002 x328003 x328004 x328005 x338000 x338001 x338002 x338003) else (spilelaw30_RefusalFew.l0 k x0 x6 (wrap64 (x7 + (rd x328001 x35))) (decide (bt341.1 < x328003)) false x33 x34 (wrap64 (x35 + 1)) x328000 x328001 x328002 x328003 x328004 x328005 x338000 x338001 x338002 x338003)) else (if x9 = true then (spilelaw30_RefusalFew.l0 k x0 x6 (wrap64 (x7 + (rd x328001 x35))) false (decide (bt341.1 > x328004)) x33 x34 (wrap64 (x35 + 1)) x328000 x328001 x328002 x328003 x328004 x328005 x338000 x338001 x338002 x338003) else (spilelaw30_RefusalFew.l0 k x0 x6 (wrap64 (x7 + (rd x328001 x35))) false false x33 x34 (wrap64 (x35 + 1)) x328000 x328001 x328002 x328003 x328004 x328005 x338000 x338001 x338002 x338003))) else (none)) else (some false)))) else (none)) else (none)) else (if x7 < x328005 then (if x6 = 0 then (if x338001 = 0 then (if x338002 = 0 then (some (x338003 == 1)) else (some false)) else (some false)) else (some false)) else (if x8 = true then (some (x6 == 0)) else (if x9 = true then (some (x6 == 0)) else (some true))))
def spilelaw30_RefusalFew.f (k : Nat) (l0 : List (S82)) (l1_0 : List (S45)) (l1_1 : List Int) (l1_2 : List Int) (a1_3 : Int) (a1_4 : Int) (a1_5 : Int) : Option (Bool) := (spilelaw30_awake.f).bind fun t328 => (if t328 = true then ((spilelaw30_few.f l0 l1_0 l1_1 l1_2 a1_3 a1_4 a1_5 ([] : List Int) 0 0 0).bind fun t329 => (if t329 = true then ((refusal_Refuse.f k l0 l1_0 l1_1 l1_2 a1_3 a1_4 a1_5).bind fun bt330 => (if bt330.2.2.2.2 = 1 then ((spileref30_Same.f k bt330.1 bt330.2.1 bt330.2.2.1 bt330.2.2.2.1 ([] : List Int) 0 0 0).bind fun t338 => (some t338)) else (spilelaw30_RefusalFew.l0 k l0 bt330.2.2.2.2 0 true true l1_0 (l1_0.length : Int) 0 l1_0 l1_1 l1_2 a1_3 a1_4 a1_5 bt330.1 bt330.2.1 bt330.2.2.1 bt330.2.2.2.1))) else (some true))) else (some false))
theorem spilelaw30_RefusalFew.mono_l : ∀ k, (∀ y0 y1 y2 y3 y4 y5 y6 y7 y8 y9 y10 y11 y12 y13 y14 y15 y16 y17, LeO (spilelaw30_RefusalFew.l0 k y0 y1 y2 y3 y4 y5 y6 y7 y8 y9 y10 y11 y12 y13 y14 y15 y16 y17) (spilelaw30_RefusalFew.l0 (k + 1) y0 y1 y2 y3 y4 y5 y6 y7 y8 y9 y10 y11 y12 y13 y14 y15 y16 y17))
 | 0 => fun _ _ _ _ _ _ _ _ _ _ _ _ _ _ _ _ _ _ r h => by simp [spilelaw30_RefusalFew.l0] at h
 | k + 1 => by
  have ih0 := spilelaw30_RefusalFew.mono_l k
  ·intro y0 y1 y2 y3 y4 y5 y6 y7 y8 y9 y10 y11 y12 y13 y14 y15 y16 y17
   unfold spilelaw30_RefusalFew.l0
   repeat' first
   | (with_reducible exact ih0 _ _ _ _ _ _ _ _ _ _ _ _ _ _ _ _ _ _)
   | (with_reducible exact refusal_Refuse.mono _ _ _ _ _ _ _ _)
   | (with_reducible exact spileref30_Same.mono _ _ _ _ _ _ _ _ _)
   | (with_reducible exact LeO.refl _)
   | (with_reducible exact LeO.none _)
   | (with_reducible refine LeO.ite ?_ ?_)
   | (with_reducible refine LeO.bind ?_ (fun _ => ?_))
   | exact ih0 _ _ _ _ _ _ _ _ _ _ _ _ _ _ _ _ _ _
   | exact refusal_Refuse.mono _ _ _ _ _ _ _ _
   | exact spileref30_Same.mono _ _ _ _ _ _ _ _ _
   | exact LeO.none _
   | refine LeO.ite ?_ ?_
   | refine LeO.bind ?_ (fun _ => ?_)
theorem spilelaw30_RefusalFew.mono : ∀ a0 a1 a2 a3 a4 a5 a6 k, LeO (spilelaw30_RefusalFew.f k a0 a1 a2 a3 a4 a5 a6) (spilelaw30_RefusalFew.f (k + 1) a0 a1 a2 a3 a4 a5 a6) := by
 intro a0 a1 a2 a3 a4 a5 a6 k
 have ih0 := spilelaw30_RefusalFew.mono_l k
 unfold spilelaw30_RefusalFew.f
 repeat' first
   | (with_reducible exact ih0 _ _ _ _ _ _ _ _ _ _ _ _ _ _ _ _ _ _)
   | (with_reducible exact refusal_Refuse.mono _ _ _ _ _ _ _ _)
   | (with_reducible exact spileref30_Same.mono _ _ _ _ _ _ _ _ _)
   | (with_reducible exact LeO.refl _)
   | (with_reducible exact LeO.none _)
   | (with_reducible refine LeO.ite ?_ ?_)
   | (with_reducible refine LeO.bind ?_ (fun _ => ?_))
   | exact ih0 _ _ _ _ _ _ _ _ _ _ _ _ _ _ _ _ _ _
   | exact refusal_Refuse.mono _ _ _ _ _ _ _ _
   | exact spileref30_Same.mono _ _ _ _ _ _ _ _ _
   | exact LeO.none _
   | refine LeO.ite ?_ ?_
   | refine LeO.bind ?_ (fun _ => ?_)
set_option maxHeartbeats 8000000 in
set_option maxRecDepth 100000 in
theorem spilelaw30_RefusalFew.calls (k : Nat) (A0 : Option Addr) (c0 : Nat) (l0 : List (S82)) (A1_0 : Option Addr) (c1_0 : Nat) (l1_0 : List (S45)) (A1_1 : Option Addr) (c1_1 : Nat) (l1_1 : List Int) (A1_2 : Option Addr) (c1_2 : Nat) (l1_2 : List Int) (a1_3 : Int) (a1_4 : Int) (a1_5 : Int) (r : Bool) (w : World) (hr0 : Kd.C k82 w A0 l0.length l0) (hc0 : l0.length ≤ c0) (hr1_0 : Kd.C k45 w A1_0 l1_0.length l1_0) (hc1_0 : l1_0.length ≤ c1_0) (hr1_1 : Kd.C (Kd.int .i64) w A1_1 l1_1.length l1_1) (hc1_1 : l1_1.length ≤ c1_1) (hr1_2 : Kd.C (Kd.int .i64) w A1_2 l1_2.length l1_2) (hc1_2 : l1_2.length ≤ c1_2) (hA_ : Aside0 (∀ w1, Below w.heap.size w w1 → AwakeOK w1)) (hP_ : Aside0 (∀ w1, Below w.heap.size w w1 → WhyOK w1)) (h : spilelaw30_RefusalFew.f k l0 l1_0 l1_1 l1_2 a1_3 a1_4 a1_5 = some r) :
  Calls Tryd.prog 6 #[.slice A0 l0.length c0, .agg #[.slice A1_0 l1_0.length c1_0, .slice A1_1 l1_1.length c1_1, .slice A1_2 l1_2.length c1_2, .int .i64 a1_3, .int .i64 a1_4, .int .i64 a1_5]] w fun e w' => e = .returned (.bool r) ∧ Below w.heap.size w w' := by
 have hu26 := Tryd.underlying26
 have hu30 := Tryd.underlying30
 have hu45 := Tryd.underlying45
 have HR0 := Aside0.mk hr0
 have HC0 := Aside0.mk hc0
 clear hr0 hc0
 have HR1_0 := Aside0.mk hr1_0
 have HC1_0 := Aside0.mk hc1_0
 clear hr1_0 hc1_0
 have HR1_1 := Aside0.mk hr1_1
 have HC1_1 := Aside0.mk hc1_1
 clear hr1_1 hc1_1
 have HR1_2 := Aside0.mk hr1_2
 have HC1_2 := Aside0.mk hc1_2
 clear hr1_2 hc1_2
 have HB := Aside0.mk (Below.refl w.heap.size w)
 have H : ((spilelaw30_awake.f).bind fun t328 => (if t328 = true then ((spilelaw30_few.f l0 l1_0 l1_1 l1_2 a1_3 a1_4 a1_5 ([] : List Int) 0 0 0).bind fun t329 => (if t329 = true then ((refusal_Refuse.f k l0 l1_0 l1_1 l1_2 a1_3 a1_4 a1_5).bind fun bt330 => (if bt330.2.2.2.2 = 1 then ((spileref30_Same.f k bt330.1 bt330.2.1 bt330.2.2.1 bt330.2.2.2.1 ([] : List Int) 0 0 0).bind fun t338 => (some t338)) else (spilelaw30_RefusalFew.l0 k l0 bt330.2.2.2.2 0 true true l1_0 (l1_0.length : Int) 0 l1_0 l1_1 l1_2 a1_3 a1_4 a1_5 bt330.1 bt330.2.1 bt330.2.2.1 bt330.2.2.2.1))) else (some true))) else (some false))) = some r := h
 clear h
 replace H := Option.bind_eq_some_iff.mp H
 obtain ⟨t328, A30, H⟩ := H
 replace H : (if t328 = true then ((spilelaw30_few.f l0 l1_0 l1_1 l1_2 a1_3 a1_4 a1_5 ([] : List Int) 0 0 0).bind fun t329 => (if t329 = true then ((refusal_Refuse.f k l0 l1_0 l1_1 l1_2 a1_3 a1_4 a1_5).bind fun bt330 => (if bt330.2.2.2.2 = 1 then ((spileref30_Same.f k bt330.1 bt330.2.1 bt330.2.2.1 bt330.2.2.2.1 ([] : List Int) 0 0 0).bind fun t338 => (some t338)) else (spilelaw30_RefusalFew.l0 k l0 bt330.2.2.2.2 0 true true l1_0 (l1_0.length : Int) 0 l1_0 l1_1 l1_2 a1_3 a1_4 a1_5 bt330.1 bt330.2.1 bt330.2.2.1 bt330.2.2.2.1))) else (some true))) else (some false)) = some r := H
 have A3 := Aside0.mk A30
 clear A30
 by_cases c4 : t328 = true
 ·subst c4
  have H1 : ((spilelaw30_few.f l0 l1_0 l1_1 l1_2 a1_3 a1_4 a1_5 ([] : List Int) 0 0 0).bind fun t329 => (if t329 = true then ((refusal_Refuse.f k l0 l1_0 l1_1 l1_2 a1_3 a1_4 a1_5).bind fun bt330 => (if bt330.2.2.2.2 = 1 then ((spileref30_Same.f k bt330.1 bt330.2.1 bt330.2.2.1 bt330.2.2.2.1 ([] : List Int) 0 0 0).bind fun t338 => (some t338)) else (spilelaw30_RefusalFew.l0 k l0 bt330.2.2.2.2 0 true true l1_0 (l1_0.length : Int) 0 l1_0 l1_1 l1_2 a1_3 a1_4 a1_5 bt330.1 bt330.2.1 bt330.2.2.1 bt330.2.2.2.1))) else (some true))) = some r := by rw [if_pos rfl] at H; exact H
  clear H
  have H := H1
  clear H1
  replace H := Option.bind_eq_some_iff.mp H
  obtain ⟨t329, A50, H⟩ := H
  replace H : (if t329 = true then ((refusal_Refuse.f k l0 l1_0 l1_1 l1_2 a1_3 a1_4 a1_5).bind fun bt330 => (if bt330.2.2.2.2 = 1 then ((spileref30_Same.f k bt330.1 bt330.2.1 bt330.2.2.1 bt330.2.2.2.1 ([] : List Int) 0 0 0).bind fun t338 => (some t338)) else (spilelaw30_RefusalFew.l0 k l0 bt330.2.2.2.2 0 true true l1_0 (l1_0.length : Int) 0 l1_0 l1_1 l1_2 a1_3 a1_4 a1_5 bt330.1 bt330.2.1 bt330.2.2.1 bt330.2.2.2.1))) else (some true)) = some r := H
  have A5 := Aside0.mk A50
  clear A50
  by_cases c6 : t329 = true
  ·subst c6
   have H1 : ((refusal_Refuse.f k l0 l1_0 l1_1 l1_2 a1_3 a1_4 a1_5).bind fun bt330 => (if bt330.2.2.2.2 = 1 then ((spileref30_Same.f k bt330.1 bt330.2.1 bt330.2.2.1 bt330.2.2.2.1 ([] : List Int) 0 0 0).bind fun t338 => (some t338)) else (spilelaw30_RefusalFew.l0 k l0 bt330.2.2.2.2 0 true true l1_0 (l1_0.length : Int) 0 l1_0 l1_1 l1_2 a1_3 a1_4 a1_5 bt330.1 bt330.2.1 bt330.2.2.1 bt330.2.2.2.1))) = some r := by rw [if_pos rfl] at H; exact H
   clear H
   have H := H1
   clear H1
   replace H := Option.bind_eq_some_iff.mp H
   obtain ⟨⟨t330, t333, t334, t335, t336⟩, A70, H⟩ := H
   replace H : (if t336 = 1 then ((spileref30_Same.f k t330 t333 t334 t335 ([] : List Int) 0 0 0).bind fun t338 => (some t338)) else (spilelaw30_RefusalFew.l0 k l0 t336 0 true true l1_0 (l1_0.length : Int) 0 l1_0 l1_1 l1_2 a1_3 a1_4 a1_5 t330 t333 t334 t335)) = some r := H
   have A7 := Aside0.mk A70
   clear A70
   by_cases c8 : t336 = 1
   ·rw [if_pos c8] at H
    have c8b0 : (t336 == 1) = true := beq_iff_eq.mpr c8
    have c8b1 : (t336 != 1) = false := bne_eq_false_iff_eq.mpr c8
    clear c8
    replace H := Option.bind_eq_some_iff.mp H
    obtain ⟨t338, A90, H⟩ := H
    replace H : (some t338) = some r := H
    have A9 := Aside0.mk A90
    clear A90
    obtain rfl := Option.some.inj H
    go_enter Tryd.func6, Tryd.ntmps6
    go_wp2_with (first | ((with_reducible refine gate_dst (N := 3) rfl ?_); refine be_ (N := 3) (cs := #[.slice A1_0 l1_0.length c1_0, .slice A1_1 l1_1.length c1_1, .slice A1_2 l1_2.length c1_2, .int .i64 a1_3, .int .i64 a1_4, .int .i64 a1_5]) (t := 26) ?_; intro gb327 hg w10 hbox hb; have n0_ := Aside0.mk (below_step bl_ hb); have n1_ := Aside0.mk (hbox); have n2_ := Aside0.mk ((by rw [hg]; exact (below_size bl_) : w.heap.size ≤ gb327)); have n3_ := Aside0.mk ((by rw [hg]; exact (below_size bl_) : w.heap.size ≤ gb327)); clear HB; have HB := n0_; have BK327 := n1_; have GW327 := n2_; have GE327 := n3_; clear n0_ n1_ n2_ n3_; clear hb hbox hg) | ((with_reducible refine gate_callee (f := 9) rfl ?_); refine gl_ (some 14) Tryd.func9 #[] ?_; (with_reducible refine (spilelaw30_awake.calls  true _ A3.out).mono ?_); rintro e w11 ⟨rfl, hb⟩; refine ⟨_, rfl, ?_⟩; have n0_ := Aside0.mk (blk_below (bkt_ BK327) hb); have n1_ := Aside0.mk (below_step bls_ hb); clear BK327; clear HB; have BK327 := n0_; have HB := n1_; clear n0_ n1_; (try clear hb); (try clear hb2); (try clear hk); (try clear hi); obtain ⟨hcz12_0, hcz12_1, hcz12_2, hcz12_3, hcz12_4, hcz12_5⟩ := bc6_ BK327; obtain ⟨hfz12_0, hfz12_1, hfz12_2, hfz12_3, hfz12_4⟩ := bf5_ BK327; have hfz12_5 := blk_frozen BK327.out 5) | ((with_reducible refine gate_callee (f := 10) rfl ?_); refine gl_ (some 19) Tryd.func10 #[.slice A0 l0.length c0, .agg #[.slice A1_0 l1_0.length c1_0, .slice A1_1 l1_1.length c1_1, .slice A1_2 l1_2.length c1_2, .int .i64 a1_3, .int .i64 a1_4, .int .i64 a1_5], .agg #[.slice none 0 0, .int .i64 0, .int .i64 0, .int .i64 0]] ?_; (refine (spilelaw30_few.calls _ _ l0 _ _ l1_0 _ _ l1_1 _ _ l1_2 a1_3 a1_4 a1_5 _ _ ([] : List Int) 0 0 0 true _ ?side1 ?side2 ?side3 ?side4 ?side5 ?side6 ?side7 ?side8 ?side9 ?side10 A5.out).mono ?_); (case side1 => exact kc_ HR0); (case side2 => exact HC0.out); (case side3 => exact kc_ HR1_0); (case side4 => exact HC1_0.out); (case side5 => exact kc_ HR1_1); (case side6 => exact HC1_1.out); (case side7 => exact kc_ HR1_2); (case side8 => exact HC1_2.out); (case side9 => exact Kd.C_nil _ _); (case side10 => exact Nat.le_refl _); rintro e w13 ⟨rfl, hb⟩; refine ⟨_, rfl, ?_⟩; have n0_ := Aside0.mk (blk_below (bkt_ BK327) hb); have n1_ := Aside0.mk (below_step bls_ hb); clear BK327; clear HB; have BK327 := n0_; have HB := n1_; clear n0_ n1_; (try clear hb); (try clear hb2); (try clear hk); (try clear hi); obtain ⟨hcz14_0, hcz14_1, hcz14_2, hcz14_3, hcz14_4, hcz14_5⟩ := bc6_ BK327; obtain ⟨hfz14_0, hfz14_1, hfz14_2, hfz14_3, hfz14_4⟩ := bf5_ BK327; have hfz14_5 := blk_frozen BK327.out 5) | ((with_reducible refine gate_callee (f := 13) rfl ?_); refine gl_ (some 24) Tryd.func13 #[.slice A0 l0.length c0, .agg #[.slice A1_0 l1_0.length c1_0, .slice A1_1 l1_1.length c1_1, .slice A1_2 l1_2.length c1_2, .int .i64 a1_3, .int .i64 a1_4, .int .i64 a1_5]] ?_; (with_reducible refine (refusal_Refuse.calls k _ _ l0 _ _ l1_0 _ _ l1_1 _ _ l1_2 a1_3 a1_4 a1_5 t330 t333 t334 t335 t336 _ ?side1 ?side2 ?side3 ?side4 ?side5 ?side6 ?side7 ?side8 A7.out).mono ?_); (case side1 => exact kc_ HR0); (case side2 => exact HC0.out); (case side3 => exact kc_ HR1_0); (case side4 => exact HC1_0.out); (case side5 => exact kc_ HR1_1); (case side6 => exact HC1_1.out); (case side7 => exact kc_ HR1_2); (case side8 => exact HC1_2.out); rintro e w15 ⟨v331, rfl, ho0, hb⟩; refine ⟨_, rfl, ?_⟩; have n0_ := Aside0.mk (Kd.R_lower ho0 (below_size bls_)); have n1_ := Aside0.mk (blk_below (bkt_ BK327) hb); have n2_ := Aside0.mk (below_step bls_ hb); clear BK327; clear HB; have HO332 := n0_; have BK327 := n1_; have HB := n2_; clear n0_ n1_ n2_; (try clear hb); (try clear hb2); (try clear hk); (try clear hi); (try clear ho0)) | ((with_reducible refine gate_dst (N := 5) rfl ?_); refine be_ (N := 5) (cs := #[.slice none 0 0, .int .i64 0, .int .i64 0, .int .i64 0]) (t := 30) ?_; intro gb337 hg w16 hbox hb; have n0_ := Aside0.mk (Kd.R_below (kr_ HO332) hb); have n1_ := Aside0.mk (blk_below (bkt_ BK327) hb); have n2_ := Aside0.mk (below_step bls_ hb); have n3_ := Aside0.mk (hbox); have n4_ := Aside0.mk ((by rw [hg]; exact (below_size bls_) : w.heap.size ≤ gb337)); have n5_ := Aside0.mk ((by rw [hg]; exact (below_size bls_) : w.heap.size ≤ gb337)); have n6_ := Aside0.mk ((by rw [hg]; exact Nat.ne_of_lt (blk_lt (bkt_ BK327)) : gb327 ≠ gb337)); have n7_ := Aside0.mk ((by rw [hg]; exact Nat.ne_of_gt (blk_lt (bkt_ BK327)) : gb337 ≠ gb327)); clear HO332; clear BK327; clear HB; have HO332 := n0_; have BK327 := n1_; have HB := n2_; have BK337 := n3_; have GW337 := n4_; have GE337 := n5_; have NB327_337 := n6_; have NB337_327 := n7_; clear n0_ n1_ n2_ n3_ n4_ n5_ n6_ n7_; clear hb hbox hg; obtain ⟨Ao17, co17, eo17⟩ := Kd.R_slice HO332.out; subst eo17; have hnb18 := NB337_327.out; have hnc18 := NB327_337.out; obtain ⟨hcz19_0, hcz19_1, hcz19_2, hcz19_3⟩ := bc4_ BK337; obtain ⟨hfz19_0, hfz19_1, hfz19_2⟩ := bf3_ BK337; have hfz19_3 := blk_frozen BK337.out 3) | ((with_reducible refine gate_callee (f := 16) rfl ?_); refine gl_ (some 31) Tryd.func16 #[.agg #[.slice Ao17 t330.length co17, .int .i64 t333, .int .i64 t334, .int .i64 t335], .agg #[.slice none 0 0, .int .i64 0, .int .i64 0, .int .i64 0]] ?_; (refine (spileref30_Same.calls k _ _ t330 t333 t334 t335 _ _ ([] : List Int) 0 0 0 t338 _ ?side1 ?side2 ?side3 ?side4 A9.out).mono ?_); (case side1 => refine (Kd.R_reads' (e := 3) (base := w.heap.size) (ok := fun k_ => True) (n := t330.length) (c := co17) ?_).2.2; exact (by (with_reducible repeat (first | apply Kd.R_alloc | apply Kd.R_drewN | apply Kd.R_drew)); exact (Kd.R_mono (Kd.R_far (p := ⟨gb337, 3, none⟩) (Kd.R_far (p := ⟨gb337, 2, none⟩) (Kd.R_far (p := ⟨gb337, 1, none⟩) (Kd.R_far (p := ⟨gb337, 0, none⟩) (Kd.R_types HO332.out BK337.out (by decide)) (fun _ hk => hk.2) (.slice Ao17 t330.length co17)) (fun _ hk => hk.2) (.int .i64 t333)) (fun _ hk => hk.2) (.int .i64 t334)) (fun _ hk => hk.2) (.int .i64 t335)) (fun _ h_ => h_.1)))); (case side2 => exact (Kd.R_reads' HO332.out).2.1); (case side3 => exact Kd.C_nil _ _); (case side4 => exact Nat.le_refl _); rintro e w20 ⟨rfl, hb⟩; refine ⟨_, rfl, ?_⟩; have n0_ := Aside0.mk (Kd.R_below (by (with_reducible repeat (first | apply Kd.R_alloc | apply Kd.R_drewN | apply Kd.R_drew)); exact (Kd.R_mono (Kd.R_far (p := ⟨gb337, 3, none⟩) (Kd.R_far (p := ⟨gb337, 2, none⟩) (Kd.R_far (p := ⟨gb337, 1, none⟩) (Kd.R_far (p := ⟨gb337, 0, none⟩) (Kd.R_types HO332.out BK337.out (by decide)) (fun _ hk => hk.2) (.slice Ao17 t330.length co17)) (fun _ hk => hk.2) (.int .i64 t333)) (fun _ hk => hk.2) (.int .i64 t334)) (fun _ hk => hk.2) (.int .i64 t335)) (fun _ h_ => h_.1))) hb); have n1_ := Aside0.mk (blk_below (g := gb327) (o := .cells #[.slice A1_0 l1_0.length c1_0, .slice A1_1 l1_1.length c1_1, .slice A1_2 l1_2.length c1_2, .int .i64 a1_3, .int .i64 a1_4, .int .i64 a1_5] 26 (0, 0)) (by (with_reducible repeat (first | refine blk_drewN ?_ _ | refine blk_drew ?_ | refine blk_alloc ?_ _)); refine blk_far ?_ NB327_337.out _; (with_reducible repeat (first | refine blk_drewN ?_ _ | refine blk_drew ?_ | refine blk_alloc ?_ _)); refine blk_far ?_ NB327_337.out _; (with_reducible repeat (first | refine blk_drewN ?_ _ | refine blk_drew ?_ | refine blk_alloc ?_ _)); refine blk_far ?_ NB327_337.out _; (with_reducible repeat (first | refine blk_drewN ?_ _ | refine blk_drew ?_ | refine blk_alloc ?_ _)); refine blk_far ?_ NB327_337.out _; (with_reducible repeat (first | refine blk_drewN ?_ _ | refine blk_drew ?_ | refine blk_alloc ?_ _)); exact BK327.out) hb); have n2_ := Aside0.mk (blk_below (g := gb337) (o := .cells #[.slice Ao17 t330.length co17, .int .i64 t333, .int .i64 t334, .int .i64 t335] 30 (0, 0)) (by (with_reducible repeat (first | refine blk_drewN ?_ _ | refine blk_drew ?_ | refine blk_alloc ?_ _)); refine blk_put (cs := #[.slice Ao17 t330.length co17, .int .i64 t333, .int .i64 t334, .int .i64 0]) ?_ 3 _ rfl; (with_reducible repeat (first | refine blk_drewN ?_ _ | refine blk_drew ?_ | refine blk_alloc ?_ _)); refine blk_put (cs := #[.slice Ao17 t330.length co17, .int .i64 t333, .int .i64 0, .int .i64 0]) ?_ 2 _ rfl; (with_reducible repeat (first | refine blk_drewN ?_ _ | refine blk_drew ?_ | refine blk_alloc ?_ _)); refine blk_put (cs := #[.slice Ao17 t330.length co17, .int .i64 0, .int .i64 0, .int .i64 0]) ?_ 1 _ rfl; (with_reducible repeat (first | refine blk_drewN ?_ _ | refine blk_drew ?_ | refine blk_alloc ?_ _)); refine blk_put (cs := #[.slice none 0 0, .int .i64 0, .int .i64 0, .int .i64 0]) ?_ 0 _ rfl; (with_reducible repeat (first | refine blk_drewN ?_ _ | refine blk_drew ?_ | refine blk_alloc ?_ _)); exact BK337.out) hb); have n3_ := Aside0.mk (below_step bls_ hb); clear HO332; clear BK327; clear BK337; clear HB; have HO332 := n0_; have BK327 := n1_; have BK337 := n2_; have HB := n3_; clear n0_ n1_ n2_ n3_; (try clear hb); (try clear hb2); (try clear hk); (try clear hi)))
    go_ret
    exact ⟨fin_, bls_⟩
   ·rw [if_neg c8] at H
    have c8b0 : (t336 == 1) = false := beq_eq_false_iff_ne.mpr c8
    have c8b1 : (t336 != 1) = true := bne_iff_ne.mpr c8
    have H' := Aside0.mk H
    clear H
    go_enter Tryd.func6, Tryd.ntmps6
    go_wp2_with (first | ((with_reducible refine gate_dst (N := 3) rfl ?_); refine be_ (N := 3) (cs := #[.slice A1_0 l1_0.length c1_0, .slice A1_1 l1_1.length c1_1, .slice A1_2 l1_2.length c1_2, .int .i64 a1_3, .int .i64 a1_4, .int .i64 a1_5]) (t := 26) ?_; intro gb327 hg w21 hbox hb; have n0_ := Aside0.mk (below_step bl_ hb); have n1_ := Aside0.mk (hbox); have n2_ := Aside0.mk ((by rw [hg]; exact (below_size bl_) : w.heap.size ≤ gb327)); have n3_ := Aside0.mk ((by rw [hg]; exact (below_size bl_) : w.heap.size ≤ gb327)); clear HB; have HB := n0_; have BK327 := n1_; have GW327 := n2_; have GE327 := n3_; clear n0_ n1_ n2_ n3_; clear hb hbox hg) | ((with_reducible refine gate_callee (f := 9) rfl ?_); refine gl_ (some 14) Tryd.func9 #[] ?_; (with_reducible refine (spilelaw30_awake.calls  true _ A3.out).mono ?_); rintro e w22 ⟨rfl, hb⟩; refine ⟨_, rfl, ?_⟩; have n0_ := Aside0.mk (blk_below (bkt_ BK327) hb); have n1_ := Aside0.mk (below_step bls_ hb); clear BK327; clear HB; have BK327 := n0_; have HB := n1_; clear n0_ n1_; (try clear hb); (try clear hb2); (try clear hk); (try clear hi); obtain ⟨hcz23_0, hcz23_1, hcz23_2, hcz23_3, hcz23_4, hcz23_5⟩ := bc6_ BK327; obtain ⟨hfz23_0, hfz23_1, hfz23_2, hfz23_3, hfz23_4⟩ := bf5_ BK327; have hfz23_5 := blk_frozen BK327.out 5) | ((with_reducible refine gate_callee (f := 10) rfl ?_); refine gl_ (some 19) Tryd.func10 #[.slice A0 l0.length c0, .agg #[.slice A1_0 l1_0.length c1_0, .slice A1_1 l1_1.length c1_1, .slice A1_2 l1_2.length c1_2, .int .i64 a1_3, .int .i64 a1_4, .int .i64 a1_5], .agg #[.slice none 0 0, .int .i64 0, .int .i64 0, .int .i64 0]] ?_; (refine (spilelaw30_few.calls _ _ l0 _ _ l1_0 _ _ l1_1 _ _ l1_2 a1_3 a1_4 a1_5 _ _ ([] : List Int) 0 0 0 true _ ?side1 ?side2 ?side3 ?side4 ?side5 ?side6 ?side7 ?side8 ?side9 ?side10 A5.out).mono ?_); (case side1 => exact kc_ HR0); (case side2 => exact HC0.out); (case side3 => exact kc_ HR1_0); (case side4 => exact HC1_0.out); (case side5 => exact kc_ HR1_1); (case side6 => exact HC1_1.out); (case side7 => exact kc_ HR1_2); (case side8 => exact HC1_2.out); (case side9 => exact Kd.C_nil _ _); (case side10 => exact Nat.le_refl _); rintro e w24 ⟨rfl, hb⟩; refine ⟨_, rfl, ?_⟩; have n0_ := Aside0.mk (blk_below (bkt_ BK327) hb); have n1_ := Aside0.mk (below_step bls_ hb); clear BK327; clear HB; have BK327 := n0_; have HB := n1_; clear n0_ n1_; (try clear hb); (try clear hb2); (try clear hk); (try clear hi); obtain ⟨hcz25_0, hcz25_1, hcz25_2, hcz25_3, hcz25_4, hcz25_5⟩ := bc6_ BK327; obtain ⟨hfz25_0, hfz25_1, hfz25_2, hfz25_3, hfz25_4⟩ := bf5_ BK327; have hfz25_5 := blk_frozen BK327.out 5) | ((with_reducible refine gate_callee (f := 13) rfl ?_); refine gl_ (some 24) Tryd.func13 #[.slice A0 l0.length c0, .agg #[.slice A1_0 l1_0.length c1_0, .slice A1_1 l1_1.length c1_1, .slice A1_2 l1_2.length c1_2, .int .i64 a1_3, .int .i64 a1_4, .int .i64 a1_5]] ?_; (with_reducible refine (refusal_Refuse.calls k _ _ l0 _ _ l1_0 _ _ l1_1 _ _ l1_2 a1_3 a1_4 a1_5 t330 t333 t334 t335 t336 _ ?side1 ?side2 ?side3 ?side4 ?side5 ?side6 ?side7 ?side8 A7.out).mono ?_); (case side1 => exact kc_ HR0); (case side2 => exact HC0.out); (case side3 => exact kc_ HR1_0); (case side4 => exact HC1_0.out); (case side5 => exact kc_ HR1_1); (case side6 => exact HC1_1.out); (case side7 => exact kc_ HR1_2); (case side8 => exact HC1_2.out); rintro e w26 ⟨v331, rfl, ho0, hb⟩; refine ⟨_, rfl, ?_⟩; have n0_ := Aside0.mk (Kd.R_lower ho0 (below_size bls_)); have n1_ := Aside0.mk (blk_below (bkt_ BK327) hb); have n2_ := Aside0.mk (below_step bls_ hb); clear BK327; clear HB; have HO332 := n0_; have BK327 := n1_; have HB := n2_; clear n0_ n1_ n2_; (try clear hb); (try clear hb2); (try clear hk); (try clear hi); (try clear ho0)) | ((with_reducible refine gate_dst (N := 5) rfl ?_); refine be_ (N := 5) (cs := #[.slice none 0 0, .int .i64 0, .int .i64 0, .int .i64 0]) (t := 30) ?_; intro gb337 hg w27 hbox hb; have n0_ := Aside0.mk (Kd.R_below (kr_ HO332) hb); have n1_ := Aside0.mk (blk_below (bkt_ BK327) hb); have n2_ := Aside0.mk (below_step bls_ hb); have n3_ := Aside0.mk (hbox); have n4_ := Aside0.mk ((by rw [hg]; exact (below_size bls_) : w.heap.size ≤ gb337)); have n5_ := Aside0.mk ((by rw [hg]; exact (below_size bls_) : w.heap.size ≤ gb337)); have n6_ := Aside0.mk ((by rw [hg]; exact Nat.ne_of_lt (blk_lt (bkt_ BK327)) : gb327 ≠ gb337)); have n7_ := Aside0.mk ((by rw [hg]; exact Nat.ne_of_gt (blk_lt (bkt_ BK327)) : gb337 ≠ gb327)); clear HO332; clear BK327; clear HB; have HO332 := n0_; have BK327 := n1_; have HB := n2_; have BK337 := n3_; have GW337 := n4_; have GE337 := n5_; have NB327_337 := n6_; have NB337_327 := n7_; clear n0_ n1_ n2_ n3_ n4_ n5_ n6_ n7_; clear hb hbox hg; obtain ⟨Ao28, co28, eo28⟩ := Kd.R_slice HO332.out; subst eo28; have hnb29 := NB337_327.out; have hnc29 := NB327_337.out; obtain ⟨hcz30_0, hcz30_1, hcz30_2, hcz30_3⟩ := bc4_ BK337; obtain ⟨hfz30_0, hfz30_1, hfz30_2, hfz30_3⟩ := bf4_ BK337; obtain ⟨hcz31_0, hcz31_1, hcz31_2, hcz31_3, hcz31_4, hcz31_5⟩ := bc6_ BK327; obtain ⟨hfz31_0, hfz31_1, hfz31_2, hfz31_3, hfz31_4⟩ := bf5_ BK327; have hfz31_5 := blk_frozen BK327.out 5))
    go_loopg [7, 8, 9, 35] k (fun kq v7 v8 v9 v35 w' => ∃ (x7_1 : Int) (x8_1 : Bool) (x9_1 : Bool) (x35_1 : Int), v7 = .int .i64 x7_1 ∧ v8 = .bool x8_1 ∧ v9 = .bool x9_1 ∧ v35 = .int .i64 x35_1 ∧ Aside0 (spilelaw30_RefusalFew.l0 kq l0 t336 x7_1 x8_1 x9_1 l1_0 (l1_0.length : Int) x35_1 l1_0 l1_1 l1_2 a1_3 a1_4 a1_5 t330 t333 t334 t335 = some r) ∧ Aside0 (kq ≤ k) ∧ Aside0 (Kd.R (Kd.int .i64) 3 w' w.heap.size (fun _ => True) (.slice Ao28 t330.length co28) t330) ∧ Aside0 (w'.heap[gb327]? = some (.cells #[(.slice A1_0 l1_0.length c1_0), (.slice A1_1 l1_1.length c1_1), (.slice A1_2 l1_2.length c1_2), .int .i64 a1_3, .int .i64 a1_4, .int .i64 a1_5] 26 (0, 0))) ∧ Aside0 (w'.heap[gb337]? = some (.cells #[(.slice Ao28 t330.length co28), .int .i64 t333, .int .i64 t334, .int .i64 t335] 30 (0, 0))) ∧ Aside0 (Below w.heap.size w w'))
    case atStart => exact ⟨(0), (true), (true), (0), sm_, sm_, sm_, sm_, H', ⟨Nat.le_refl _⟩, ⟨by (with_reducible repeat (first | apply Kd.R_alloc | apply Kd.R_drewN | apply Kd.R_drew)); exact Kd.R_mono (Kd.R_far (p := ⟨gb337, 3, none⟩) (Kd.R_far (p := ⟨gb337, 2, none⟩) (Kd.R_far (p := ⟨gb337, 1, none⟩) (Kd.R_far (p := ⟨gb337, 0, none⟩) (Kd.R_types HO332.out BK337.out (by decide)) (fun _ hk => hk.2) (.slice Ao28 t330.length co28)) (fun _ hk => hk.2) (.int .i64 t333)) (fun _ hk => hk.2) (.int .i64 t334)) (fun _ hk => hk.2) (.int .i64 t335)) (fun _ hk => trivial)⟩, ⟨by (with_reducible repeat (first | refine blk_drewN ?_ _ | refine blk_drew ?_ | refine blk_alloc ?_ _)); refine blk_far ?_ NB327_337.out _; (with_reducible repeat (first | refine blk_drewN ?_ _ | refine blk_drew ?_ | refine blk_alloc ?_ _)); refine blk_far ?_ NB327_337.out _; (with_reducible repeat (first | refine blk_drewN ?_ _ | refine blk_drew ?_ | refine blk_alloc ?_ _)); refine blk_far ?_ NB327_337.out _; (with_reducible repeat (first | refine blk_drewN ?_ _ | refine blk_drew ?_ | refine blk_alloc ?_ _)); refine blk_far ?_ NB327_337.out _; (with_reducible repeat (first | refine blk_drewN ?_ _ | refine blk_drew ?_ | refine blk_alloc ?_ _)); exact BK327.out⟩, ⟨by (with_reducible repeat (first | refine blk_drewN ?_ _ | refine blk_drew ?_ | refine blk_alloc ?_ _)); refine blk_put (cs := #[.slice Ao28 t330.length co28, .int .i64 t333, .int .i64 t334, .int .i64 0]) ?_ 3 _ rfl; (with_reducible repeat (first | refine blk_drewN ?_ _ | refine blk_drew ?_ | refine blk_alloc ?_ _)); refine blk_put (cs := #[.slice Ao28 t330.length co28, .int .i64 t333, .int .i64 0, .int .i64 0]) ?_ 2 _ rfl; (with_reducible repeat (first | refine blk_drewN ?_ _ | refine blk_drew ?_ | refine blk_alloc ?_ _)); refine blk_put (cs := #[.slice Ao28 t330.length co28, .int .i64 0, .int .i64 0, .int .i64 0]) ?_ 1 _ rfl; (with_reducible repeat (first | refine blk_drewN ?_ _ | refine blk_drew ?_ | refine blk_alloc ?_ _)); refine blk_put (cs := #[.slice none 0 0, .int .i64 0, .int .i64 0, .int .i64 0]) ?_ 0 _ rfl; (with_reducible repeat (first | refine blk_drewN ?_ _ | refine blk_drew ?_ | refine blk_alloc ?_ _)); exact BK337.out⟩, ⟨bls_⟩⟩
    case round =>
     clear H'
     try clear c1
     try clear c2
     try clear p2
     try clear c4
     try clear c6
     try clear c8
     try clear c8b0
     try clear c8b1
     try clear c9
     try clear c10
     try clear c13
     try clear c16
     try clear c18
     try clear c29
     try clear hcz12_0
     try clear hcz12_1
     try clear hcz12_2
     try clear hcz12_3
     try clear hcz12_4
     try clear hcz12_5
     try clear hcz14_0
     try clear hcz14_1
     try clear hcz14_2
     try clear hcz14_3
     try clear hcz14_4
     try clear hcz14_5
     try clear hcz19_0
     try clear hcz19_1
     try clear hcz19_2
     try clear hcz19_3
     try clear hcz23_0
     try clear hcz23_1
     try clear hcz23_2
     try clear hcz23_3
     try clear hcz23_4
     try clear hcz23_5
     try clear hcz25_0
     try clear hcz25_1
     try clear hcz25_2
     try clear hcz25_3
     try clear hcz25_4
     try clear hcz25_5
     try clear hcz30_0
     try clear hcz30_1
     try clear hcz30_2
     try clear hcz30_3
     try clear hcz31_0
     try clear hcz31_1
     try clear hcz31_2
     try clear hcz31_3
     try clear hcz31_4
     try clear hcz31_5
     try clear hfz12_0
     try clear hfz12_1
     try clear hfz12_2
     try clear hfz12_3
     try clear hfz12_4
     try clear hfz12_5
     try clear hfz14_0
     try clear hfz14_1
     try clear hfz14_2
     try clear hfz14_3
     try clear hfz14_4
     try clear hfz14_5
     try clear hfz19_0
     try clear hfz19_1
     try clear hfz19_2
     try clear hfz19_3
     try clear hfz23_0
     try clear hfz23_1
     try clear hfz23_2
     try clear hfz23_3
     try clear hfz23_4
     try clear hfz23_5
     try clear hfz25_0
     try clear hfz25_1
     try clear hfz25_2
     try clear hfz25_3
     try clear hfz25_4
     try clear hfz25_5
     try clear hfz30_0
     try clear hfz30_1
     try clear hfz30_2
     try clear hfz30_3
     try clear hfz31_0
     try clear hfz31_1
     try clear hfz31_2
     try clear hfz31_3
     try clear hfz31_4
     try clear hfz31_5
     obtain ⟨x7_1, x8_1, x9_1, x35_1, rfl, rfl, rfl, rfl, HA, HK1, HO_338000, BK327, BK337, HB⟩ := hrel
     cases gk with
     | zero => exact absurd HA.out (by simp [spilelaw30_RefusalFew.l0])
     | succ k1 =>
      have H := HA.out
      clear HA
      simp only [spilelaw30_RefusalFew.l0] at H
      by_cases c32 : x35_1 < (l1_0.length : Int)
      ·rw [if_pos c32] at H
       have c32b0 : decide (x35_1 < (l1_0.length : Int)) = true := decide_eq_true c32
       clear c32
       by_cases c33 : 0 ≤ x35_1
       ·rw [if_pos c33] at H
        have c33b0 : decide (0 ≤ x35_1) = true := decide_eq_true c33
        clear c33
        by_cases c34 : x35_1 < (l1_0.length : Int)
        ·rw [if_pos c34] at H
         have c34b0 : decide (x35_1 < (l1_0.length : Int)) = true := decide_eq_true c34
         clear c34
         by_cases c35 : x35_1 ≥ (l1_1.length : Int)
         ·rw [if_pos c35] at H
          have c35b0 : decide ((l1_1.length : Int) ≤ x35_1) = true := decide_eq_true c35
          clear c35
          obtain rfl := Option.some.inj H
          have p339 : 0 ≤ (x35_1 : Int) := of_decide_eq_true as_
          have q339 : x35_1 < (l1_0.length : Int) := of_decide_eq_true as_
          obtain ⟨ad339, e339, hx339_0, hx339_1⟩ := at_T45 HR1_0.out x35_1 p339 q339
          cases e339
          replace hx339_0 := (HB.out.cell (World.block_lt_of_cell? w _ hx339_0)).trans hx339_0
          replace hx339_1 := (HB.out.cell (World.block_lt_of_cell? w _ hx339_1)).trans hx339_1
          replace p339 := eq_true p339
          replace q339 := eq_true q339
          go_wp2_with (first | ((with_reducible refine gate_dst (N := 11) rfl ?_); refine be_ (N := 11) (cs := #[.int .i64 0, .int .i64 0]) (t := 45) ?_; intro gb340 hg w36 hbox hb; have n0_ := Aside0.mk (Kd.R_below (kr_ HO_338000) hb); have n1_ := Aside0.mk (blk_below (bkt_ BK327) hb); have n2_ := Aside0.mk (blk_below (bkt_ BK337) hb); have n3_ := Aside0.mk (below_step bls_ hb); have n4_ := Aside0.mk (hbox); have n5_ := Aside0.mk ((by rw [hg]; exact (below_size bls_) : w.heap.size ≤ gb340)); have n6_ := Aside0.mk ((by rw [hg]; exact (below_size bls_) : w.heap.size ≤ gb340)); have n7_ := Aside0.mk ((by rw [hg]; exact Nat.ne_of_lt (blk_lt (bkt_ BK327)) : gb327 ≠ gb340)); have n8_ := Aside0.mk ((by rw [hg]; exact Nat.ne_of_gt (blk_lt (bkt_ BK327)) : gb340 ≠ gb327)); have n9_ := Aside0.mk ((by rw [hg]; exact Nat.ne_of_lt (blk_lt (bkt_ BK337)) : gb337 ≠ gb340)); have n10_ := Aside0.mk ((by rw [hg]; exact Nat.ne_of_gt (blk_lt (bkt_ BK337)) : gb340 ≠ gb337)); clear HO_338000; clear BK327; clear BK337; clear HB; have HO_338000 := n0_; have BK327 := n1_; have BK337 := n2_; have HB := n3_; have BK340 := n4_; have GW340 := n5_; have GE340 := n6_; have NB327_340 := n7_; have NB340_327 := n8_; have NB337_340 := n9_; have NB340_337 := n10_; clear n0_ n1_ n2_ n3_ n4_ n5_ n6_ n7_ n8_ n9_ n10_; clear hb hbox hg; have hnb37 := NB340_327.out; have hnc37 := NB327_340.out; have hnb38 := NB340_337.out; have hnc38 := NB337_340.out; obtain ⟨hcz39_0, hcz39_1⟩ := bc2_ BK340; obtain ⟨hfz39_0, hfz39_1⟩ := bf2_ BK340; have hnb40 := NB327_337.out; have hnc40 := NB337_327.out; obtain ⟨hcz41_0, hcz41_1, hcz41_2, hcz41_3, hcz41_4, hcz41_5⟩ := bc6_ BK327; obtain ⟨hfz41_0, hfz41_1, hfz41_2, hfz41_3, hfz41_4⟩ := bf5_ BK327; have hfz41_5 := blk_frozen BK327.out 5))
          go_ret
          exact ⟨fin_, bls_⟩
         ·rw [if_neg c35] at H
          have c35b0 : decide ((l1_1.length : Int) ≤ x35_1) = false := decide_eq_false c35
          clear c35
          replace H := Option.bind_eq_some_iff.mp H
          obtain ⟨⟨t341, t342⟩, A420, H⟩ := H
          replace H : (if t342 = 0 then (if x35_1 < (l1_1.length : Int) then (if x8_1 = true then (if x9_1 = true then (spilelaw30_RefusalFew.l0 k1 l0 t336 (wrap64 (x7_1 + (rd l1_1 x35_1))) (decide (t341 < a1_3)) (decide (t341 > a1_4)) l1_0 (l1_0.length : Int) (wrap64 (x35_1 + 1)) l1_0 l1_1 l1_2 a1_3 a1_4 a1_5 t330 t333 t334 t335) else (spilelaw30_RefusalFew.l0 k1 l0 t336 (wrap64 (x7_1 + (rd l1_1 x35_1))) (decide (t341 < a1_3)) false l1_0 (l1_0.length : Int) (wrap64 (x35_1 + 1)) l1_0 l1_1 l1_2 a1_3 a1_4 a1_5 t330 t333 t334 t335)) else (if x9_1 = true then (spilelaw30_RefusalFew.l0 k1 l0 t336 (wrap64 (x7_1 + (rd l1_1 x35_1))) false (decide (t341 > a1_4)) l1_0 (l1_0.length : Int) (wrap64 (x35_1 + 1)) l1_0 l1_1 l1_2 a1_3 a1_4 a1_5 t330 t333 t334 t335) else (spilelaw30_RefusalFew.l0 k1 l0 t336 (wrap64 (x7_1 + (rd l1_1 x35_1))) false false l1_0 (l1_0.length : Int) (wrap64 (x35_1 + 1)) l1_0 l1_1 l1_2 a1_3 a1_4 a1_5 t330 t333 t334 t335))) else (none)) else (some false)) = some r := H
          have A42 := Aside0.mk A420
          clear A420
          by_cases c43 : t342 = 0
          ·rw [if_pos c43] at H
           have c43b0 : (t342 == 0) = true := beq_iff_eq.mpr c43
           have c43b1 : (t342 != 0) = false := bne_eq_false_iff_eq.mpr c43
           clear c43
           by_cases c44 : x35_1 < (l1_1.length : Int)
           ·rw [if_pos c44] at H
            have c44b0 : decide (x35_1 < (l1_1.length : Int)) = true := decide_eq_true c44
            clear c44
            by_cases c45 : x8_1 = true
            ·subst c45
             have H1 : (if x9_1 = true then (spilelaw30_RefusalFew.l0 k1 l0 t336 (wrap64 (x7_1 + (rd l1_1 x35_1))) (decide (t341 < a1_3)) (decide (t341 > a1_4)) l1_0 (l1_0.length : Int) (wrap64 (x35_1 + 1)) l1_0 l1_1 l1_2 a1_3 a1_4 a1_5 t330 t333 t334 t335) else (spilelaw30_RefusalFew.l0 k1 l0 t336 (wrap64 (x7_1 + (rd l1_1 x35_1))) (decide (t341 < a1_3)) false l1_0 (l1_0.length : Int) (wrap64 (x35_1 + 1)) l1_0 l1_1 l1_2 a1_3 a1_4 a1_5 t330 t333 t334 t335)) = some r := by rw [if_pos rfl] at H; exact H
             clear H
             have H := H1
             clear H1
             by_cases c46 : x9_1 = true
             ·subst c46
              have H1 : (spilelaw30_RefusalFew.l0 k1 l0 t336 (wrap64 (x7_1 + (rd l1_1 x35_1))) (decide (t341 < a1_3)) (decide (t341 > a1_4)) l1_0 (l1_0.length : Int) (wrap64 (x35_1 + 1)) l1_0 l1_1 l1_2 a1_3 a1_4 a1_5 t330 t333 t334 t335) = some r := by rw [if_pos rfl] at H; exact H
              clear H
              have H := H1
              clear H1
              have H' := Aside0.mk H
              clear H
              have p339 : 0 ≤ (x35_1 : Int) := of_decide_eq_true as_
              have q339 : x35_1 < (l1_0.length : Int) := of_decide_eq_true as_
              obtain ⟨ad339, e339, hx339_0, hx339_1⟩ := at_T45 HR1_0.out x35_1 p339 q339
              cases e339
              replace hx339_0 := (HB.out.cell (World.block_lt_of_cell? w _ hx339_0)).trans hx339_0
              replace hx339_1 := (HB.out.cell (World.block_lt_of_cell? w _ hx339_1)).trans hx339_1
              replace p339 := eq_true p339
              replace q339 := eq_true q339
              go_wp2_with (first | ((with_reducible refine gate_dst (N := 11) rfl ?_); refine be_ (N := 11) (cs := #[.int .i64 0, .int .i64 0]) (t := 45) ?_; intro gb340 hg w47 hbox hb; have n0_ := Aside0.mk (Kd.R_below (kr_ HO_338000) hb); have n1_ := Aside0.mk (blk_below (bkt_ BK327) hb); have n2_ := Aside0.mk (blk_below (bkt_ BK337) hb); have n3_ := Aside0.mk (below_step bls_ hb); have n4_ := Aside0.mk (hbox); have n5_ := Aside0.mk ((by rw [hg]; exact (below_size bls_) : w.heap.size ≤ gb340)); have n6_ := Aside0.mk ((by rw [hg]; exact (below_size bls_) : w.heap.size ≤ gb340)); have n7_ := Aside0.mk ((by rw [hg]; exact Nat.ne_of_lt (blk_lt (bkt_ BK327)) : gb327 ≠ gb340)); have n8_ := Aside0.mk ((by rw [hg]; exact Nat.ne_of_gt (blk_lt (bkt_ BK327)) : gb340 ≠ gb327)); have n9_ := Aside0.mk ((by rw [hg]; exact Nat.ne_of_lt (blk_lt (bkt_ BK337)) : gb337 ≠ gb340)); have n10_ := Aside0.mk ((by rw [hg]; exact Nat.ne_of_gt (blk_lt (bkt_ BK337)) : gb340 ≠ gb337)); clear HO_338000; clear BK327; clear BK337; clear HB; have HO_338000 := n0_; have BK327 := n1_; have BK337 := n2_; have HB := n3_; have BK340 := n4_; have GW340 := n5_; have GE340 := n6_; have NB327_340 := n7_; have NB340_327 := n8_; have NB337_340 := n9_; have NB340_337 := n10_; clear n0_ n1_ n2_ n3_ n4_ n5_ n6_ n7_ n8_ n9_ n10_; clear hb hbox hg; have hnb48 := NB340_327.out; have hnc48 := NB327_340.out; have hnb49 := NB340_337.out; have hnc49 := NB337_340.out; obtain ⟨hcz50_0, hcz50_1⟩ := bc2_ BK340; obtain ⟨hfz50_0, hfz50_1⟩ := bf2_ BK340; have hnb51 := NB327_337.out; have hnc51 := NB337_327.out; obtain ⟨hcz52_0, hcz52_1, hcz52_2, hcz52_3, hcz52_4, hcz52_5⟩ := bc6_ BK327; obtain ⟨hfz52_0, hfz52_1, hfz52_2, hfz52_3, hfz52_4⟩ := bf5_ BK327; have hfz52_5 := blk_frozen BK327.out 5) | ((with_reducible refine gate_callee (f := 22) rfl ?_); refine gl_ (some 48) Tryd.func22 #[.slice A0 l0.length c0, .agg #[.int .i64 ((rd_T45 l1_0 x35_1).f0), .int .i64 ((rd_T45 l1_0 x35_1).f1)]] ?_; (with_reducible refine (alcohol_Strength.calls _ _ l0 ((rd_T45 l1_0 x35_1).f0) ((rd_T45 l1_0 x35_1).f1) t341 t342 _ ?side1 ?side2 A42.out).mono ?_); (case side1 => exact Kd.C_below HR0.out bls_); (case side2 => exact HC0.out); rintro e w53 ⟨rfl, hb⟩; refine ⟨_, rfl, ?_⟩; have n0_ := Aside0.mk (Kd.R_below (by (with_reducible repeat (first | apply Kd.R_alloc | apply Kd.R_drewN | apply Kd.R_drew)); exact (Kd.R_mono (Kd.R_far (p := ⟨gb340, 1, none⟩) (Kd.R_far (p := ⟨gb340, 0, none⟩) (Kd.R_types HO_338000.out BK340.out (by decide)) (fun _ hk => hk.2) (.int .i64 ((rd_T45 l1_0 x35_1).f0))) (fun _ hk => hk.2) (.int .i64 ((rd_T45 l1_0 x35_1).f1))) (fun _ h_ => h_.1))) hb); have n1_ := Aside0.mk (blk_below (g := gb327) (o := .cells #[.slice (some ad339) l1_0.length c1_0, .slice A1_1 l1_1.length c1_1, .slice A1_2 l1_2.length c1_2, .int .i64 a1_3, .int .i64 a1_4, .int .i64 a1_5] 26 (0, 0)) (by (with_reducible repeat (first | refine blk_drewN ?_ _ | refine blk_drew ?_ | refine blk_alloc ?_ _)); refine blk_far ?_ NB327_340.out _; (with_reducible repeat (first | refine blk_drewN ?_ _ | refine blk_drew ?_ | refine blk_alloc ?_ _)); refine blk_far ?_ NB327_340.out _; (with_reducible repeat (first | refine blk_drewN ?_ _ | refine blk_drew ?_ | refine blk_alloc ?_ _)); exact BK327.out) hb); have n2_ := Aside0.mk (blk_below (g := gb337) (o := .cells #[.slice Ao28 t330.length co28, .int .i64 t333, .int .i64 t334, .int .i64 t335] 30 (0, 0)) (by (with_reducible repeat (first | refine blk_drewN ?_ _ | refine blk_drew ?_ | refine blk_alloc ?_ _)); refine blk_far ?_ NB337_340.out _; (with_reducible repeat (first | refine blk_drewN ?_ _ | refine blk_drew ?_ | refine blk_alloc ?_ _)); refine blk_far ?_ NB337_340.out _; (with_reducible repeat (first | refine blk_drewN ?_ _ | refine blk_drew ?_ | refine blk_alloc ?_ _)); exact BK337.out) hb); have n3_ := Aside0.mk (blk_below (g := gb340) (o := .cells #[.int .i64 ((rd_T45 l1_0 x35_1).f0), .int .i64 ((rd_T45 l1_0 x35_1).f1)] 45 (0, 0)) (by (with_reducible repeat (first | refine blk_drewN ?_ _ | refine blk_drew ?_ | refine blk_alloc ?_ _)); refine blk_put (cs := #[.int .i64 ((rd_T45 l1_0 x35_1).f0), .int .i64 0]) ?_ 1 _ rfl; (with_reducible repeat (first | refine blk_drewN ?_ _ | refine blk_drew ?_ | refine blk_alloc ?_ _)); refine blk_put (cs := #[.int .i64 0, .int .i64 0]) ?_ 0 _ rfl; (with_reducible repeat (first | refine blk_drewN ?_ _ | refine blk_drew ?_ | refine blk_alloc ?_ _)); exact BK340.out) hb); have n4_ := Aside0.mk (below_step bls_ hb); clear HO_338000; clear BK327; clear BK337; clear BK340; clear HB; have HO_338000 := n0_; have BK327 := n1_; have BK337 := n2_; have BK340 := n3_; have HB := n4_; clear n0_ n1_ n2_ n3_ n4_; (try clear hb); (try clear hb2); (try clear hk); (try clear hi); obtain ⟨hcz54_0, hcz54_1, hcz54_2, hcz54_3, hcz54_4, hcz54_5⟩ := bc6_ BK327; obtain ⟨hfz54_0, hfz54_1, hfz54_2, hfz54_3, hfz54_4, hfz54_5⟩ := bf6_ BK327; have p343 : 0 ≤ (x35_1 : Int) := of_decide_eq_true as_; have q343 : x35_1 < (l1_1.length : Int) := of_decide_eq_true as_; obtain ⟨ad343, e343, hx343_0⟩ := Kd.at_int HR1_1.out x35_1 p343 q343; cases e343; replace hx343_0 := (HB.out.cell (World.block_lt_of_cell? w _ hx343_0)).trans hx343_0; replace p343 := eq_true p343; replace q343 := eq_true q343))
              go_roundg k1
              case measure => have := HK1.out; omega
              case rel => exact ⟨(wrap64 (x7_1 + (rd l1_1 x35_1))), (decide (t341 < a1_3)), (decide (t341 > a1_4)), (wrap64 (x35_1 + 1)), sm_, sm_, sm_, sm_, H', ⟨by have := HK1.out; omega⟩, ⟨by (with_reducible repeat (first | apply Kd.R_alloc | apply Kd.R_drewN | apply Kd.R_drew)); exact HO_338000.out⟩, ⟨bkt_ BK327⟩, ⟨bkt_ BK337⟩, ⟨bls_⟩⟩
             ·replace c46 := Bool.eq_false_iff.mpr c46
              subst c46
              have H1 : (spilelaw30_RefusalFew.l0 k1 l0 t336 (wrap64 (x7_1 + (rd l1_1 x35_1))) (decide (t341 < a1_3)) false l1_0 (l1_0.length : Int) (wrap64 (x35_1 + 1)) l1_0 l1_1 l1_2 a1_3 a1_4 a1_5 t330 t333 t334 t335) = some r := by rw [if_neg (show ¬ (false = true) by decide)] at H; exact H
              clear H
              have H := H1
              clear H1
              have H' := Aside0.mk H
              clear H
              have p339 : 0 ≤ (x35_1 : Int) := of_decide_eq_true as_
              have q339 : x35_1 < (l1_0.length : Int) := of_decide_eq_true as_
              obtain ⟨ad339, e339, hx339_0, hx339_1⟩ := at_T45 HR1_0.out x35_1 p339 q339
              cases e339
              replace hx339_0 := (HB.out.cell (World.block_lt_of_cell? w _ hx339_0)).trans hx339_0
              replace hx339_1 := (HB.out.cell (World.block_lt_of_cell? w _ hx339_1)).trans hx339_1
              replace p339 := eq_true p339
              replace q339 := eq_true q339
              go_wp2_with (first | ((with_reducible refine gate_dst (N := 11) rfl ?_); refine be_ (N := 11) (cs := #[.int .i64 0, .int .i64 0]) (t := 45) ?_; intro gb340 hg w55 hbox hb; have n0_ := Aside0.mk (Kd.R_below (kr_ HO_338000) hb); have n1_ := Aside0.mk (blk_below (bkt_ BK327) hb); have n2_ := Aside0.mk (blk_below (bkt_ BK337) hb); have n3_ := Aside0.mk (below_step bls_ hb); have n4_ := Aside0.mk (hbox); have n5_ := Aside0.mk ((by rw [hg]; exact (below_size bls_) : w.heap.size ≤ gb340)); have n6_ := Aside0.mk ((by rw [hg]; exact (below_size bls_) : w.heap.size ≤ gb340)); have n7_ := Aside0.mk ((by rw [hg]; exact Nat.ne_of_lt (blk_lt (bkt_ BK327)) : gb327 ≠ gb340)); have n8_ := Aside0.mk ((by rw [hg]; exact Nat.ne_of_gt (blk_lt (bkt_ BK327)) : gb340 ≠ gb327)); have n9_ := Aside0.mk ((by rw [hg]; exact Nat.ne_of_lt (blk_lt (bkt_ BK337)) : gb337 ≠ gb340)); have n10_ := Aside0.mk ((by rw [hg]; exact Nat.ne_of_gt (blk_lt (bkt_ BK337)) : gb340 ≠ gb337)); clear HO_338000; clear BK327; clear BK337; clear HB; have HO_338000 := n0_; have BK327 := n1_; have BK337 := n2_; have HB := n3_; have BK340 := n4_; have GW340 := n5_; have GE340 := n6_; have NB327_340 := n7_; have NB340_327 := n8_; have NB337_340 := n9_; have NB340_337 := n10_; clear n0_ n1_ n2_ n3_ n4_ n5_ n6_ n7_ n8_ n9_ n10_; clear hb hbox hg; have hnb56 := NB340_327.out; have hnc56 := NB327_340.out; have hnb57 := NB340_337.out; have hnc57 := NB337_340.out; obtain ⟨hcz58_0, hcz58_1⟩ := bc2_ BK340; obtain ⟨hfz58_0, hfz58_1⟩ := bf2_ BK340; have hnb59 := NB327_337.out; have hnc59 := NB337_327.out; obtain ⟨hcz60_0, hcz60_1, hcz60_2, hcz60_3, hcz60_4, hcz60_5⟩ := bc6_ BK327; obtain ⟨hfz60_0, hfz60_1, hfz60_2, hfz60_3, hfz60_4⟩ := bf5_ BK327; have hfz60_5 := blk_frozen BK327.out 5) | ((with_reducible refine gate_callee (f := 22) rfl ?_); refine gl_ (some 48) Tryd.func22 #[.slice A0 l0.length c0, .agg #[.int .i64 ((rd_T45 l1_0 x35_1).f0), .int .i64 ((rd_T45 l1_0 x35_1).f1)]] ?_; (with_reducible refine (alcohol_Strength.calls _ _ l0 ((rd_T45 l1_0 x35_1).f0) ((rd_T45 l1_0 x35_1).f1) t341 t342 _ ?side1 ?side2 A42.out).mono ?_); (case side1 => exact Kd.C_below HR0.out bls_); (case side2 => exact HC0.out); rintro e w61 ⟨rfl, hb⟩; refine ⟨_, rfl, ?_⟩; have n0_ := Aside0.mk (Kd.R_below (by (with_reducible repeat (first | apply Kd.R_alloc | apply Kd.R_drewN | apply Kd.R_drew)); exact (Kd.R_mono (Kd.R_far (p := ⟨gb340, 1, none⟩) (Kd.R_far (p := ⟨gb340, 0, none⟩) (Kd.R_types HO_338000.out BK340.out (by decide)) (fun _ hk => hk.2) (.int .i64 ((rd_T45 l1_0 x35_1).f0))) (fun _ hk => hk.2) (.int .i64 ((rd_T45 l1_0 x35_1).f1))) (fun _ h_ => h_.1))) hb); have n1_ := Aside0.mk (blk_below (g := gb327) (o := .cells #[.slice (some ad339) l1_0.length c1_0, .slice A1_1 l1_1.length c1_1, .slice A1_2 l1_2.length c1_2, .int .i64 a1_3, .int .i64 a1_4, .int .i64 a1_5] 26 (0, 0)) (by (with_reducible repeat (first | refine blk_drewN ?_ _ | refine blk_drew ?_ | refine blk_alloc ?_ _)); refine blk_far ?_ NB327_340.out _; (with_reducible repeat (first | refine blk_drewN ?_ _ | refine blk_drew ?_ | refine blk_alloc ?_ _)); refine blk_far ?_ NB327_340.out _; (with_reducible repeat (first | refine blk_drewN ?_ _ | refine blk_drew ?_ | refine blk_alloc ?_ _)); exact BK327.out) hb); have n2_ := Aside0.mk (blk_below (g := gb337) (o := .cells #[.slice Ao28 t330.length co28, .int .i64 t333, .int .i64 t334, .int .i64 t335] 30 (0, 0)) (by (with_reducible repeat (first | refine blk_drewN ?_ _ | refine blk_drew ?_ | refine blk_alloc ?_ _)); refine blk_far ?_ NB337_340.out _; (with_reducible repeat (first | refine blk_drewN ?_ _ | refine blk_drew ?_ | refine blk_alloc ?_ _)); refine blk_far ?_ NB337_340.out _; (with_reducible repeat (first | refine blk_drewN ?_ _ | refine blk_drew ?_ | refine blk_alloc ?_ _)); exact BK337.out) hb); have n3_ := Aside0.mk (blk_below (g := gb340) (o := .cells #[.int .i64 ((rd_T45 l1_0 x35_1).f0), .int .i64 ((rd_T45 l1_0 x35_1).f1)] 45 (0, 0)) (by (with_reducible repeat (first | refine blk_drewN ?_ _ | refine blk_drew ?_ | refine blk_alloc ?_ _)); refine blk_put (cs := #[.int .i64 ((rd_T45 l1_0 x35_1).f0), .int .i64 0]) ?_ 1 _ rfl; (with_reducible repeat (first | refine blk_drewN ?_ _ | refine blk_drew ?_ | refine blk_alloc ?_ _)); refine blk_put (cs := #[.int .i64 0, .int .i64 0]) ?_ 0 _ rfl; (with_reducible repeat (first | refine blk_drewN ?_ _ | refine blk_drew ?_ | refine blk_alloc ?_ _)); exact BK340.out) hb); have n4_ := Aside0.mk (below_step bls_ hb); clear HO_338000; clear BK327; clear BK337; clear BK340; clear HB; have HO_338000 := n0_; have BK327 := n1_; have BK337 := n2_; have BK340 := n3_; have HB := n4_; clear n0_ n1_ n2_ n3_ n4_; (try clear hb); (try clear hb2); (try clear hk); (try clear hi); obtain ⟨hcz62_0, hcz62_1, hcz62_2, hcz62_3, hcz62_4, hcz62_5⟩ := bc6_ BK327; obtain ⟨hfz62_0, hfz62_1, hfz62_2, hfz62_3, hfz62_4, hfz62_5⟩ := bf6_ BK327; have p343 : 0 ≤ (x35_1 : Int) := of_decide_eq_true as_; have q343 : x35_1 < (l1_1.length : Int) := of_decide_eq_true as_; obtain ⟨ad343, e343, hx343_0⟩ := Kd.at_int HR1_1.out x35_1 p343 q343; cases e343; replace hx343_0 := (HB.out.cell (World.block_lt_of_cell? w _ hx343_0)).trans hx343_0; replace p343 := eq_true p343; replace q343 := eq_true q343))
              go_roundg k1
              case measure => have := HK1.out; omega
              case rel => exact ⟨(wrap64 (x7_1 + (rd l1_1 x35_1))), (decide (t341 < a1_3)), (false), (wrap64 (x35_1 + 1)), sm_, sm_, sm_, sm_, H', ⟨by have := HK1.out; omega⟩, ⟨by (with_reducible repeat (first | apply Kd.R_alloc | apply Kd.R_drewN | apply Kd.R_drew)); exact HO_338000.out⟩, ⟨bkt_ BK327⟩, ⟨bkt_ BK337⟩, ⟨bls_⟩⟩
            ·replace c45 := Bool.eq_false_iff.mpr c45
             subst c45
             have H1 : (if x9_1 = true then (spilelaw30_RefusalFew.l0 k1 l0 t336 (wrap64 (x7_1 + (rd l1_1 x35_1))) false (decide (t341 > a1_4)) l1_0 (l1_0.length : Int) (wrap64 (x35_1 + 1)) l1_0 l1_1 l1_2 a1_3 a1_4 a1_5 t330 t333 t334 t335) else (spilelaw30_RefusalFew.l0 k1 l0 t336 (wrap64 (x7_1 + (rd l1_1 x35_1))) false false l1_0 (l1_0.length : Int) (wrap64 (x35_1 + 1)) l1_0 l1_1 l1_2 a1_3 a1_4 a1_5 t330 t333 t334 t335)) = some r := by rw [if_neg (show ¬ (false = true) by decide)] at H; exact H
             clear H
             have H := H1
             clear H1
             by_cases c63 : x9_1 = true
             ·subst c63
              have H1 : (spilelaw30_RefusalFew.l0 k1 l0 t336 (wrap64 (x7_1 + (rd l1_1 x35_1))) false (decide (t341 > a1_4)) l1_0 (l1_0.length : Int) (wrap64 (x35_1 + 1)) l1_0 l1_1 l1_2 a1_3 a1_4 a1_5 t330 t333 t334 t335) = some r := by rw [if_pos rfl] at H; exact H
              clear H
              have H := H1
              clear H1
              have H' := Aside0.mk H
              clear H
              have p339 : 0 ≤ (x35_1 : Int) := of_decide_eq_true as_
              have q339 : x35_1 < (l1_0.length : Int) := of_decide_eq_true as_
              obtain ⟨ad339, e339, hx339_0, hx339_1⟩ := at_T45 HR1_0.out x35_1 p339 q339
              cases e339
              replace hx339_0 := (HB.out.cell (World.block_lt_of_cell? w _ hx339_0)).trans hx339_0
              replace hx339_1 := (HB.out.cell (World.block_lt_of_cell? w _ hx339_1)).trans hx339_1
              replace p339 := eq_true p339
              replace q339 := eq_true q339
              go_wp2_with (first | ((with_reducible refine gate_dst (N := 11) rfl ?_); refine be_ (N := 11) (cs := #[.int .i64 0, .int .i64 0]) (t := 45) ?_; intro gb340 hg w64 hbox hb; have n0_ := Aside0.mk (Kd.R_below (kr_ HO_338000) hb); have n1_ := Aside0.mk (blk_below (bkt_ BK327) hb); have n2_ := Aside0.mk (blk_below (bkt_ BK337) hb); have n3_ := Aside0.mk (below_step bls_ hb); have n4_ := Aside0.mk (hbox); have n5_ := Aside0.mk ((by rw [hg]; exact (below_size bls_) : w.heap.size ≤ gb340)); have n6_ := Aside0.mk ((by rw [hg]; exact (below_size bls_) : w.heap.size ≤ gb340)); have n7_ := Aside0.mk ((by rw [hg]; exact Nat.ne_of_lt (blk_lt (bkt_ BK327)) : gb327 ≠ gb340)); have n8_ := Aside0.mk ((by rw [hg]; exact Nat.ne_of_gt (blk_lt (bkt_ BK327)) : gb340 ≠ gb327)); have n9_ := Aside0.mk ((by rw [hg]; exact Nat.ne_of_lt (blk_lt (bkt_ BK337)) : gb337 ≠ gb340)); have n10_ := Aside0.mk ((by rw [hg]; exact Nat.ne_of_gt (blk_lt (bkt_ BK337)) : gb340 ≠ gb337)); clear HO_338000; clear BK327; clear BK337; clear HB; have HO_338000 := n0_; have BK327 := n1_; have BK337 := n2_; have HB := n3_; have BK340 := n4_; have GW340 := n5_; have GE340 := n6_; have NB327_340 := n7_; have NB340_327 := n8_; have NB337_340 := n9_; have NB340_337 := n10_; clear n0_ n1_ n2_ n3_ n4_ n5_ n6_ n7_ n8_ n9_ n10_; clear hb hbox hg; have hnb65 := NB340_327.out; have hnc65 := NB327_340.out; have hnb66 := NB340_337.out; have hnc66 := NB337_340.out; obtain ⟨hcz67_0, hcz67_1⟩ := bc2_ BK340; obtain ⟨hfz67_0, hfz67_1⟩ := bf2_ BK340; have hnb68 := NB327_337.out; have hnc68 := NB337_327.out; obtain ⟨hcz69_0, hcz69_1, hcz69_2, hcz69_3, hcz69_4, hcz69_5⟩ := bc6_ BK327; obtain ⟨hfz69_0, hfz69_1, hfz69_2, hfz69_3, hfz69_4⟩ := bf5_ BK327; have hfz69_5 := blk_frozen BK327.out 5) | ((with_reducible refine gate_callee (f := 22) rfl ?_); refine gl_ (some 48) Tryd.func22 #[.slice A0 l0.length c0, .agg #[.int .i64 ((rd_T45 l1_0 x35_1).f0), .int .i64 ((rd_T45 l1_0 x35_1).f1)]] ?_; (with_reducible refine (alcohol_Strength.calls _ _ l0 ((rd_T45 l1_0 x35_1).f0) ((rd_T45 l1_0 x35_1).f1) t341 t342 _ ?side1 ?side2 A42.out).mono ?_); (case side1 => exact Kd.C_below HR0.out bls_); (case side2 => exact HC0.out); rintro e w70 ⟨rfl, hb⟩; refine ⟨_, rfl, ?_⟩; have n0_ := Aside0.mk (Kd.R_below (by (with_reducible repeat (first | apply Kd.R_alloc | apply Kd.R_drewN | apply Kd.R_drew)); exact (Kd.R_mono (Kd.R_far (p := ⟨gb340, 1, none⟩) (Kd.R_far (p := ⟨gb340, 0, none⟩) (Kd.R_types HO_338000.out BK340.out (by decide)) (fun _ hk => hk.2) (.int .i64 ((rd_T45 l1_0 x35_1).f0))) (fun _ hk => hk.2) (.int .i64 ((rd_T45 l1_0 x35_1).f1))) (fun _ h_ => h_.1))) hb); have n1_ := Aside0.mk (blk_below (g := gb327) (o := .cells #[.slice (some ad339) l1_0.length c1_0, .slice A1_1 l1_1.length c1_1, .slice A1_2 l1_2.length c1_2, .int .i64 a1_3, .int .i64 a1_4, .int .i64 a1_5] 26 (0, 0)) (by (with_reducible repeat (first | refine blk_drewN ?_ _ | refine blk_drew ?_ | refine blk_alloc ?_ _)); refine blk_far ?_ NB327_340.out _; (with_reducible repeat (first | refine blk_drewN ?_ _ | refine blk_drew ?_ | refine blk_alloc ?_ _)); refine blk_far ?_ NB327_340.out _; (with_reducible repeat (first | refine blk_drewN ?_ _ | refine blk_drew ?_ | refine blk_alloc ?_ _)); exact BK327.out) hb); have n2_ := Aside0.mk (blk_below (g := gb337) (o := .cells #[.slice Ao28 t330.length co28, .int .i64 t333, .int .i64 t334, .int .i64 t335] 30 (0, 0)) (by (with_reducible repeat (first | refine blk_drewN ?_ _ | refine blk_drew ?_ | refine blk_alloc ?_ _)); refine blk_far ?_ NB337_340.out _; (with_reducible repeat (first | refine blk_drewN ?_ _ | refine blk_drew ?_ | refine blk_alloc ?_ _)); refine blk_far ?_ NB337_340.out _; (with_reducible repeat (first | refine blk_drewN ?_ _ | refine blk_drew ?_ | refine blk_alloc ?_ _)); exact BK337.out) hb); have n3_ := Aside0.mk (blk_below (g := gb340) (o := .cells #[.int .i64 ((rd_T45 l1_0 x35_1).f0), .int .i64 ((rd_T45 l1_0 x35_1).f1)] 45 (0, 0)) (by (with_reducible repeat (first | refine blk_drewN ?_ _ | refine blk_drew ?_ | refine blk_alloc ?_ _)); refine blk_put (cs := #[.int .i64 ((rd_T45 l1_0 x35_1).f0), .int .i64 0]) ?_ 1 _ rfl; (with_reducible repeat (first | refine blk_drewN ?_ _ | refine blk_drew ?_ | refine blk_alloc ?_ _)); refine blk_put (cs := #[.int .i64 0, .int .i64 0]) ?_ 0 _ rfl; (with_reducible repeat (first | refine blk_drewN ?_ _ | refine blk_drew ?_ | refine blk_alloc ?_ _)); exact BK340.out) hb); have n4_ := Aside0.mk (below_step bls_ hb); clear HO_338000; clear BK327; clear BK337; clear BK340; clear HB; have HO_338000 := n0_; have BK327 := n1_; have BK337 := n2_; have BK340 := n3_; have HB := n4_; clear n0_ n1_ n2_ n3_ n4_; (try clear hb); (try clear hb2); (try clear hk); (try clear hi); obtain ⟨hcz71_0, hcz71_1, hcz71_2, hcz71_3, hcz71_4, hcz71_5⟩ := bc6_ BK327; obtain ⟨hfz71_0, hfz71_1, hfz71_2, hfz71_3, hfz71_4, hfz71_5⟩ := bf6_ BK327; have p343 : 0 ≤ (x35_1 : Int) := of_decide_eq_true as_; have q343 : x35_1 < (l1_1.length : Int) := of_decide_eq_true as_; obtain ⟨ad343, e343, hx343_0⟩ := Kd.at_int HR1_1.out x35_1 p343 q343; cases e343; replace hx343_0 := (HB.out.cell (World.block_lt_of_cell? w _ hx343_0)).trans hx343_0; replace p343 := eq_true p343; replace q343 := eq_true q343))
              go_roundg k1
              case measure => have := HK1.out; omega
              case rel => exact ⟨(wrap64 (x7_1 + (rd l1_1 x35_1))), (false), (decide (t341 > a1_4)), (wrap64 (x35_1 + 1)), sm_, sm_, sm_, sm_, H', ⟨by have := HK1.out; omega⟩, ⟨by (with_reducible repeat (first | apply Kd.R_alloc | apply Kd.R_drewN | apply Kd.R_drew)); exact HO_338000.out⟩, ⟨bkt_ BK327⟩, ⟨bkt_ BK337⟩, ⟨bls_⟩⟩
             ·replace c63 := Bool.eq_false_iff.mpr c63
              subst c63
              have H1 : (spilelaw30_RefusalFew.l0 k1 l0 t336 (wrap64 (x7_1 + (rd l1_1 x35_1))) false false l1_0 (l1_0.length : Int) (wrap64 (x35_1 + 1)) l1_0 l1_1 l1_2 a1_3 a1_4 a1_5 t330 t333 t334 t335) = some r := by rw [if_neg (show ¬ (false = true) by decide)] at H; exact H
              clear H
              have H := H1
              clear H1
              have H' := Aside0.mk H
              clear H
              have p339 : 0 ≤ (x35_1 : Int) := of_decide_eq_true as_
              have q339 : x35_1 < (l1_0.length : Int) := of_decide_eq_true as_
              obtain ⟨ad339, e339, hx339_0, hx339_1⟩ := at_T45 HR1_0.out x35_1 p339 q339
              cases e339
              replace hx339_0 := (HB.out.cell (World.block_lt_of_cell? w _ hx339_0)).trans hx339_0
              replace hx339_1 := (HB.out.cell (World.block_lt_of_cell? w _ hx339_1)).trans hx339_1
              replace p339 := eq_true p339
              replace q339 := eq_true q339
              go_wp2_with (first | ((with_reducible refine gate_dst (N := 11) rfl ?_); refine be_ (N := 11) (cs := #[.int .i64 0, .int .i64 0]) (t := 45) ?_; intro gb340 hg w72 hbox hb; have n0_ := Aside0.mk (Kd.R_below (kr_ HO_338000) hb); have n1_ := Aside0.mk (blk_below (bkt_ BK327) hb); have n2_ := Aside0.mk (blk_below (bkt_ BK337) hb); have n3_ := Aside0.mk (below_step bls_ hb); have n4_ := Aside0.mk (hbox); have n5_ := Aside0.mk ((by rw [hg]; exact (below_size bls_) : w.heap.size ≤ gb340)); have n6_ := Aside0.mk ((by rw [hg]; exact (below_size bls_) : w.heap.size ≤ gb340)); have n7_ := Aside0.mk ((by rw [hg]; exact Nat.ne_of_lt (blk_lt (bkt_ BK327)) : gb327 ≠ gb340)); have n8_ := Aside0.mk ((by rw [hg]; exact Nat.ne_of_gt (blk_lt (bkt_ BK327)) : gb340 ≠ gb327)); have n9_ := Aside0.mk ((by rw [hg]; exact Nat.ne_of_lt (blk_lt (bkt_ BK337)) : gb337 ≠ gb340)); have n10_ := Aside0.mk ((by rw [hg]; exact Nat.ne_of_gt (blk_lt (bkt_ BK337)) : gb340 ≠ gb337)); clear HO_338000; clear BK327; clear BK337; clear HB; have HO_338000 := n0_; have BK327 := n1_; have BK337 := n2_; have HB := n3_; have BK340 := n4_; have GW340 := n5_; have GE340 := n6_; have NB327_340 := n7_; have NB340_327 := n8_; have NB337_340 := n9_; have NB340_337 := n10_; clear n0_ n1_ n2_ n3_ n4_ n5_ n6_ n7_ n8_ n9_ n10_; clear hb hbox hg; have hnb73 := NB340_327.out; have hnc73 := NB327_340.out; have hnb74 := NB340_337.out; have hnc74 := NB337_340.out; obtain ⟨hcz75_0, hcz75_1⟩ := bc2_ BK340; obtain ⟨hfz75_0, hfz75_1⟩ := bf2_ BK340; have hnb76 := NB327_337.out; have hnc76 := NB337_327.out; obtain ⟨hcz77_0, hcz77_1, hcz77_2, hcz77_3, hcz77_4, hcz77_5⟩ := bc6_ BK327; obtain ⟨hfz77_0, hfz77_1, hfz77_2, hfz77_3, hfz77_4⟩ := bf5_ BK327; have hfz77_5 := blk_frozen BK327.out 5) | ((with_reducible refine gate_callee (f := 22) rfl ?_); refine gl_ (some 48) Tryd.func22 #[.slice A0 l0.length c0, .agg #[.int .i64 ((rd_T45 l1_0 x35_1).f0), .int .i64 ((rd_T45 l1_0 x35_1).f1)]] ?_; (with_reducible refine (alcohol_Strength.calls _ _ l0 ((rd_T45 l1_0 x35_1).f0) ((rd_T45 l1_0 x35_1).f1) t341 t342 _ ?side1 ?side2 A42.out).mono ?_); (case side1 => exact Kd.C_below HR0.out bls_); (case side2 => exact HC0.out); rintro e w78 ⟨rfl, hb⟩; refine ⟨_, rfl, ?_⟩; have n0_ := Aside0.mk (Kd.R_below (by (with_reducible repeat (first | apply Kd.R_alloc | apply Kd.R_drewN | apply Kd.R_drew)); exact (Kd.R_mono (Kd.R_far (p := ⟨gb340, 1, none⟩) (Kd.R_far (p := ⟨gb340, 0, none⟩) (Kd.R_types HO_338000.out BK340.out (by decide)) (fun _ hk => hk.2) (.int .i64 ((rd_T45 l1_0 x35_1).f0))) (fun _ hk => hk.2) (.int .i64 ((rd_T45 l1_0 x35_1).f1))) (fun _ h_ => h_.1))) hb); have n1_ := Aside0.mk (blk_below (g := gb327) (o := .cells #[.slice (some ad339) l1_0.length c1_0, .slice A1_1 l1_1.length c1_1, .slice A1_2 l1_2.length c1_2, .int .i64 a1_3, .int .i64 a1_4, .int .i64 a1_5] 26 (0, 0)) (by (with_reducible repeat (first | refine blk_drewN ?_ _ | refine blk_drew ?_ | refine blk_alloc ?_ _)); refine blk_far ?_ NB327_340.out _; (with_reducible repeat (first | refine blk_drewN ?_ _ | refine blk_drew ?_ | refine blk_alloc ?_ _)); refine blk_far ?_ NB327_340.out _; (with_reducible repeat (first | refine blk_drewN ?_ _ | refine blk_drew ?_ | refine blk_alloc ?_ _)); exact BK327.out) hb); have n2_ := Aside0.mk (blk_below (g := gb337) (o := .cells #[.slice Ao28 t330.length co28, .int .i64 t333, .int .i64 t334, .int .i64 t335] 30 (0, 0)) (by (with_reducible repeat (first | refine blk_drewN ?_ _ | refine blk_drew ?_ | refine blk_alloc ?_ _)); refine blk_far ?_ NB337_340.out _; (with_reducible repeat (first | refine blk_drewN ?_ _ | refine blk_drew ?_ | refine blk_alloc ?_ _)); refine blk_far ?_ NB337_340.out _; (with_reducible repeat (first | refine blk_drewN ?_ _ | refine blk_drew ?_ | refine blk_alloc ?_ _)); exact BK337.out) hb); have n3_ := Aside0.mk (blk_below (g := gb340) (o := .cells #[.int .i64 ((rd_T45 l1_0 x35_1).f0), .int .i64 ((rd_T45 l1_0 x35_1).f1)] 45 (0, 0)) (by (with_reducible repeat (first | refine blk_drewN ?_ _ | refine blk_drew ?_ | refine blk_alloc ?_ _)); refine blk_put (cs := #[.int .i64 ((rd_T45 l1_0 x35_1).f0), .int .i64 0]) ?_ 1 _ rfl; (with_reducible repeat (first | refine blk_drewN ?_ _ | refine blk_drew ?_ | refine blk_alloc ?_ _)); refine blk_put (cs := #[.int .i64 0, .int .i64 0]) ?_ 0 _ rfl; (with_reducible repeat (first | refine blk_drewN ?_ _ | refine blk_drew ?_ | refine blk_alloc ?_ _)); exact BK340.out) hb); have n4_ := Aside0.mk (below_step bls_ hb); clear HO_338000; clear BK327; clear BK337; clear BK340; clear HB; have HO_338000 := n0_; have BK327 := n1_; have BK337 := n2_; have BK340 := n3_; have HB := n4_; clear n0_ n1_ n2_ n3_ n4_; (try clear hb); (try clear hb2); (try clear hk); (try clear hi); obtain ⟨hcz79_0, hcz79_1, hcz79_2, hcz79_3, hcz79_4, hcz79_5⟩ := bc6_ BK327; obtain ⟨hfz79_0, hfz79_1, hfz79_2, hfz79_3, hfz79_4, hfz79_5⟩ := bf6_ BK327; have p343 : 0 ≤ (x35_1 : Int) := of_decide_eq_true as_; have q343 : x35_1 < (l1_1.length : Int) := of_decide_eq_true as_; obtain ⟨ad343, e343, hx343_0⟩ := Kd.at_int HR1_1.out x35_1 p343 q343; cases e343; replace hx343_0 := (HB.out.cell (World.block_lt_of_cell? w _ hx343_0)).trans hx343_0; replace p343 := eq_true p343; replace q343 := eq_true q343))
              go_roundg k1
              case measure => have := HK1.out; omega
              case rel => exact ⟨(wrap64 (x7_1 + (rd l1_1 x35_1))), (false), (false), (wrap64 (x35_1 + 1)), sm_, sm_, sm_, sm_, H', ⟨by have := HK1.out; omega⟩, ⟨by (with_reducible repeat (first | apply Kd.R_alloc | apply Kd.R_drewN | apply Kd.R_drew)); exact HO_338000.out⟩, ⟨bkt_ BK327⟩, ⟨bkt_ BK337⟩, ⟨bls_⟩⟩
           ·rw [if_neg c44] at H
            exact absurd H (by simp)
          ·rw [if_neg c43] at H
           have c43b0 : (t342 == 0) = false := beq_eq_false_iff_ne.mpr c43
           have c43b1 : (t342 != 0) = true := bne_iff_ne.mpr c43
           obtain rfl := Option.some.inj H
           have p339 : 0 ≤ (x35_1 : Int) := of_decide_eq_true as_
           have q339 : x35_1 < (l1_0.length : Int) := of_decide_eq_true as_
           obtain ⟨ad339, e339, hx339_0, hx339_1⟩ := at_T45 HR1_0.out x35_1 p339 q339
           cases e339
           replace hx339_0 := (HB.out.cell (World.block_lt_of_cell? w _ hx339_0)).trans hx339_0
           replace hx339_1 := (HB.out.cell (World.block_lt_of_cell? w _ hx339_1)).trans hx339_1
           replace p339 := eq_true p339
           replace q339 := eq_true q339
           go_wp2_with (first | ((with_reducible refine gate_dst (N := 11) rfl ?_); refine be_ (N := 11) (cs := #[.int .i64 0, .int .i64 0]) (t := 45) ?_; intro gb340 hg w80 hbox hb; have n0_ := Aside0.mk (Kd.R_below (kr_ HO_338000) hb); have n1_ := Aside0.mk (blk_below (bkt_ BK327) hb); have n2_ := Aside0.mk (blk_below (bkt_ BK337) hb); have n3_ := Aside0.mk (below_step bls_ hb); have n4_ := Aside0.mk (hbox); have n5_ := Aside0.mk ((by rw [hg]; exact (below_size bls_) : w.heap.size ≤ gb340)); have n6_ := Aside0.mk ((by rw [hg]; exact (below_size bls_) : w.heap.size ≤ gb340)); have n7_ := Aside0.mk ((by rw [hg]; exact Nat.ne_of_lt (blk_lt (bkt_ BK327)) : gb327 ≠ gb340)); have n8_ := Aside0.mk ((by rw [hg]; exact Nat.ne_of_gt (blk_lt (bkt_ BK327)) : gb340 ≠ gb327)); have n9_ := Aside0.mk ((by rw [hg]; exact Nat.ne_of_lt (blk_lt (bkt_ BK337)) : gb337 ≠ gb340)); have n10_ := Aside0.mk ((by rw [hg]; exact Nat.ne_of_gt (blk_lt (bkt_ BK337)) : gb340 ≠ gb337)); clear HO_338000; clear BK327; clear BK337; clear HB; have HO_338000 := n0_; have BK327 := n1_; have BK337 := n2_; have HB := n3_; have BK340 := n4_; have GW340 := n5_; have GE340 := n6_; have NB327_340 := n7_; have NB340_327 := n8_; have NB337_340 := n9_; have NB340_337 := n10_; clear n0_ n1_ n2_ n3_ n4_ n5_ n6_ n7_ n8_ n9_ n10_; clear hb hbox hg; have hnb81 := NB340_327.out; have hnc81 := NB327_340.out; have hnb82 := NB340_337.out; have hnc82 := NB337_340.out; obtain ⟨hcz83_0, hcz83_1⟩ := bc2_ BK340; obtain ⟨hfz83_0, hfz83_1⟩ := bf2_ BK340; have hnb84 := NB327_337.out; have hnc84 := NB337_327.out; obtain ⟨hcz85_0, hcz85_1, hcz85_2, hcz85_3, hcz85_4, hcz85_5⟩ := bc6_ BK327; obtain ⟨hfz85_0, hfz85_1, hfz85_2, hfz85_3, hfz85_4⟩ := bf5_ BK327; have hfz85_5 := blk_frozen BK327.out 5) | ((with_reducible refine gate_callee (f := 22) rfl ?_); refine gl_ (some 48) Tryd.func22 #[.slice A0 l0.length c0, .agg #[.int .i64 ((rd_T45 l1_0 x35_1).f0), .int .i64 ((rd_T45 l1_0 x35_1).f1)]] ?_; (with_reducible refine (alcohol_Strength.calls _ _ l0 ((rd_T45 l1_0 x35_1).f0) ((rd_T45 l1_0 x35_1).f1) t341 t342 _ ?side1 ?side2 A42.out).mono ?_); (case side1 => exact Kd.C_below HR0.out bls_); (case side2 => exact HC0.out); rintro e w86 ⟨rfl, hb⟩; refine ⟨_, rfl, ?_⟩; have n0_ := Aside0.mk (Kd.R_below (by (with_reducible repeat (first | apply Kd.R_alloc | apply Kd.R_drewN | apply Kd.R_drew)); exact (Kd.R_mono (Kd.R_far (p := ⟨gb340, 1, none⟩) (Kd.R_far (p := ⟨gb340, 0, none⟩) (Kd.R_types HO_338000.out BK340.out (by decide)) (fun _ hk => hk.2) (.int .i64 ((rd_T45 l1_0 x35_1).f0))) (fun _ hk => hk.2) (.int .i64 ((rd_T45 l1_0 x35_1).f1))) (fun _ h_ => h_.1))) hb); have n1_ := Aside0.mk (blk_below (g := gb327) (o := .cells #[.slice (some ad339) l1_0.length c1_0, .slice A1_1 l1_1.length c1_1, .slice A1_2 l1_2.length c1_2, .int .i64 a1_3, .int .i64 a1_4, .int .i64 a1_5] 26 (0, 0)) (by (with_reducible repeat (first | refine blk_drewN ?_ _ | refine blk_drew ?_ | refine blk_alloc ?_ _)); refine blk_far ?_ NB327_340.out _; (with_reducible repeat (first | refine blk_drewN ?_ _ | refine blk_drew ?_ | refine blk_alloc ?_ _)); refine blk_far ?_ NB327_340.out _; (with_reducible repeat (first | refine blk_drewN ?_ _ | refine blk_drew ?_ | refine blk_alloc ?_ _)); exact BK327.out) hb); have n2_ := Aside0.mk (blk_below (g := gb337) (o := .cells #[.slice Ao28 t330.length co28, .int .i64 t333, .int .i64 t334, .int .i64 t335] 30 (0, 0)) (by (with_reducible repeat (first | refine blk_drewN ?_ _ | refine blk_drew ?_ | refine blk_alloc ?_ _)); refine blk_far ?_ NB337_340.out _; (with_reducible repeat (first | refine blk_drewN ?_ _ | refine blk_drew ?_ | refine blk_alloc ?_ _)); refine blk_far ?_ NB337_340.out _; (with_reducible repeat (first | refine blk_drewN ?_ _ | refine blk_drew ?_ | refine blk_alloc ?_ _)); exact BK337.out) hb); have n3_ := Aside0.mk (blk_below (g := gb340) (o := .cells #[.int .i64 ((rd_T45 l1_0 x35_1).f0), .int .i64 ((rd_T45 l1_0 x35_1).f1)] 45 (0, 0)) (by (with_reducible repeat (first | refine blk_drewN ?_ _ | refine blk_drew ?_ | refine blk_alloc ?_ _)); refine blk_put (cs := #[.int .i64 ((rd_T45 l1_0 x35_1).f0), .int .i64 0]) ?_ 1 _ rfl; (with_reducible repeat (first | refine blk_drewN ?_ _ | refine blk_drew ?_ | refine blk_alloc ?_ _)); refine blk_put (cs := #[.int .i64 0, .int .i64 0]) ?_ 0 _ rfl; (with_reducible repeat (first | refine blk_drewN ?_ _ | refine blk_drew ?_ | refine blk_alloc ?_ _)); exact BK340.out) hb); have n4_ := Aside0.mk (below_step bls_ hb); clear HO_338000; clear BK327; clear BK337; clear BK340; clear HB; have HO_338000 := n0_; have BK327 := n1_; have BK337 := n2_; have BK340 := n3_; have HB := n4_; clear n0_ n1_ n2_ n3_ n4_; (try clear hb); (try clear hb2); (try clear hk); (try clear hi)))
           go_ret
           exact ⟨fin_, bls_⟩
        ·rw [if_neg c34] at H
         exact absurd H (by simp)
       ·rw [if_neg c33] at H
        exact absurd H (by simp)
      ·rw [if_neg c32] at H
       have c32b0 : decide (x35_1 < (l1_0.length : Int)) = false := decide_eq_false c32
       clear c32
       by_cases c87 : x7_1 < a1_5
       ·rw [if_pos c87] at H
        have c87b0 : decide (x7_1 < a1_5) = true := decide_eq_true c87
        clear c87
        by_cases c88 : t336 = 0
        ·rw [if_pos c88] at H
         have c88b0 : (t336 == 0) = true := beq_iff_eq.mpr c88
         have c88b1 : (t336 != 0) = false := bne_eq_false_iff_eq.mpr c88
         clear c88
         by_cases c89 : t333 = 0
         ·rw [if_pos c89] at H
          have c89b0 : (t333 == 0) = true := beq_iff_eq.mpr c89
          have c89b1 : (t333 != 0) = false := bne_eq_false_iff_eq.mpr c89
          clear c89
          by_cases c90 : t334 = 0
          ·rw [if_pos c90] at H
           have c90b0 : (t334 == 0) = true := beq_iff_eq.mpr c90
           have c90b1 : (t334 != 0) = false := bne_eq_false_iff_eq.mpr c90
           clear c90
           obtain rfl := Option.some.inj H
           have hnb91 := NB327_337.out
           have hnc91 := NB337_327.out
           obtain ⟨hcz92_0, hcz92_1, hcz92_2, hcz92_3, hcz92_4, hcz92_5⟩ := bc6_ BK327
           obtain ⟨hfz92_0, hfz92_1, hfz92_2, hfz92_3, hfz92_4, hfz92_5⟩ := bf6_ BK327
           obtain ⟨hcz93_0, hcz93_1, hcz93_2, hcz93_3⟩ := bc4_ BK337
           obtain ⟨hfz93_0, hfz93_1, hfz93_2, hfz93_3⟩ := bf4_ BK337
           go_wp2
           go_ret
           exact ⟨fin_, bls_⟩
          ·rw [if_neg c90] at H
           have c90b0 : (t334 == 0) = false := beq_eq_false_iff_ne.mpr c90
           have c90b1 : (t334 != 0) = true := bne_iff_ne.mpr c90
           obtain rfl := Option.some.inj H
           have hnb94 := NB327_337.out
           have hnc94 := NB337_327.out
           obtain ⟨hcz95_0, hcz95_1, hcz95_2, hcz95_3, hcz95_4, hcz95_5⟩ := bc6_ BK327
           obtain ⟨hfz95_0, hfz95_1, hfz95_2, hfz95_3, hfz95_4, hfz95_5⟩ := bf6_ BK327
           obtain ⟨hcz96_0, hcz96_1, hcz96_2, hcz96_3⟩ := bc4_ BK337
           obtain ⟨hfz96_0, hfz96_1, hfz96_2, hfz96_3⟩ := bf4_ BK337
           go_wp2
           go_ret
           exact ⟨fin_, bls_⟩
         ·rw [if_neg c89] at H
          have c89b0 : (t333 == 0) = false := beq_eq_false_iff_ne.mpr c89
          have c89b1 : (t333 != 0) = true := bne_iff_ne.mpr c89
          obtain rfl := Option.some.inj H
          have hnb97 := NB327_337.out
          have hnc97 := NB337_327.out
          obtain ⟨hcz98_0, hcz98_1, hcz98_2, hcz98_3, hcz98_4, hcz98_5⟩ := bc6_ BK327
          obtain ⟨hfz98_0, hfz98_1, hfz98_2, hfz98_3, hfz98_4, hfz98_5⟩ := bf6_ BK327
          obtain ⟨hcz99_0, hcz99_1, hcz99_2, hcz99_3⟩ := bc4_ BK337
          obtain ⟨hfz99_0, hfz99_1, hfz99_2, hfz99_3⟩ := bf4_ BK337
          go_wp2
          go_ret
          exact ⟨fin_, bls_⟩
        ·rw [if_neg c88] at H
         have c88b0 : (t336 == 0) = false := beq_eq_false_iff_ne.mpr c88
         have c88b1 : (t336 != 0) = true := bne_iff_ne.mpr c88
         obtain rfl := Option.some.inj H
         have hnb100 := NB327_337.out
         have hnc100 := NB337_327.out
         obtain ⟨hcz101_0, hcz101_1, hcz101_2, hcz101_3, hcz101_4, hcz101_5⟩ := bc6_ BK327
         obtain ⟨hfz101_0, hfz101_1, hfz101_2, hfz101_3, hfz101_4, hfz101_5⟩ := bf6_ BK327
         go_wp2
         go_ret
         exact ⟨fin_, bls_⟩
       ·rw [if_neg c87] at H
        have c87b0 : decide (x7_1 < a1_5) = false := decide_eq_false c87
        clear c87
        by_cases c102 : x8_1 = true
        ·subst c102
         have H1 : (some (t336 == 0)) = some r := by rw [if_pos rfl] at H; exact H
         clear H
         have H := H1
         clear H1
         obtain rfl := Option.some.inj H
         have hnb103 := NB327_337.out
         have hnc103 := NB337_327.out
         obtain ⟨hcz104_0, hcz104_1, hcz104_2, hcz104_3, hcz104_4, hcz104_5⟩ := bc6_ BK327
         obtain ⟨hfz104_0, hfz104_1, hfz104_2, hfz104_3, hfz104_4, hfz104_5⟩ := bf6_ BK327
         go_wp2
         go_ret
         exact ⟨fin_, bls_⟩
        ·replace c102 := Bool.eq_false_iff.mpr c102
         subst c102
         have H1 : (if x9_1 = true then (some (t336 == 0)) else (some true)) = some r := by rw [if_neg (show ¬ (false = true) by decide)] at H; exact H
         clear H
         have H := H1
         clear H1
         by_cases c105 : x9_1 = true
         ·subst c105
          have H1 : (some (t336 == 0)) = some r := by rw [if_pos rfl] at H; exact H
          clear H
          have H := H1
          clear H1
          obtain rfl := Option.some.inj H
          have hnb106 := NB327_337.out
          have hnc106 := NB337_327.out
          obtain ⟨hcz107_0, hcz107_1, hcz107_2, hcz107_3, hcz107_4, hcz107_5⟩ := bc6_ BK327
          obtain ⟨hfz107_0, hfz107_1, hfz107_2, hfz107_3, hfz107_4, hfz107_5⟩ := bf6_ BK327
          go_wp2
          go_ret
          exact ⟨fin_, bls_⟩
         ·replace c105 := Bool.eq_false_iff.mpr c105
          subst c105
          have H1 : (some true) = some r := by rw [if_neg (show ¬ (false = true) by decide)] at H; exact H
          clear H
          have H := H1
          clear H1
          obtain rfl := Option.some.inj H
          have hnb108 := NB327_337.out
          have hnc108 := NB337_327.out
          obtain ⟨hcz109_0, hcz109_1, hcz109_2, hcz109_3, hcz109_4, hcz109_5⟩ := bc6_ BK327
          obtain ⟨hfz109_0, hfz109_1, hfz109_2, hfz109_3, hfz109_4, hfz109_5⟩ := bf6_ BK327
          go_wp2
          go_ret
          exact ⟨fin_, bls_⟩
  ·replace c6 := Bool.eq_false_iff.mpr c6
   subst c6
   have H1 : (some true) = some r := by rw [if_neg (show ¬ (false = true) by decide)] at H; exact H
   clear H
   have H := H1
   clear H1
   obtain rfl := Option.some.inj H
   go_enter Tryd.func6, Tryd.ntmps6
   go_wp2_with (first | ((with_reducible refine gate_dst (N := 3) rfl ?_); refine be_ (N := 3) (cs := #[.slice A1_0 l1_0.length c1_0, .slice A1_1 l1_1.length c1_1, .slice A1_2 l1_2.length c1_2, .int .i64 a1_3, .int .i64 a1_4, .int .i64 a1_5]) (t := 26) ?_; intro gb327 hg w110 hbox hb; have n0_ := Aside0.mk (below_step bl_ hb); have n1_ := Aside0.mk (hbox); have n2_ := Aside0.mk ((by rw [hg]; exact (below_size bl_) : w.heap.size ≤ gb327)); have n3_ := Aside0.mk ((by rw [hg]; exact (below_size bl_) : w.heap.size ≤ gb327)); clear HB; have HB := n0_; have BK327 := n1_; have GW327 := n2_; have GE327 := n3_; clear n0_ n1_ n2_ n3_; clear hb hbox hg) | ((with_reducible refine gate_callee (f := 9) rfl ?_); refine gl_ (some 14) Tryd.func9 #[] ?_; (with_reducible refine (spilelaw30_awake.calls  true _ A3.out).mono ?_); rintro e w111 ⟨rfl, hb⟩; refine ⟨_, rfl, ?_⟩; have n0_ := Aside0.mk (blk_below (bkt_ BK327) hb); have n1_ := Aside0.mk (below_step bls_ hb); clear BK327; clear HB; have BK327 := n0_; have HB := n1_; clear n0_ n1_; (try clear hb); (try clear hb2); (try clear hk); (try clear hi); obtain ⟨hcz112_0, hcz112_1, hcz112_2, hcz112_3, hcz112_4, hcz112_5⟩ := bc6_ BK327; obtain ⟨hfz112_0, hfz112_1, hfz112_2, hfz112_3, hfz112_4⟩ := bf5_ BK327; have hfz112_5 := blk_frozen BK327.out 5) | ((with_reducible refine gate_callee (f := 10) rfl ?_); refine gl_ (some 19) Tryd.func10 #[.slice A0 l0.length c0, .agg #[.slice A1_0 l1_0.length c1_0, .slice A1_1 l1_1.length c1_1, .slice A1_2 l1_2.length c1_2, .int .i64 a1_3, .int .i64 a1_4, .int .i64 a1_5], .agg #[.slice none 0 0, .int .i64 0, .int .i64 0, .int .i64 0]] ?_; (refine (spilelaw30_few.calls _ _ l0 _ _ l1_0 _ _ l1_1 _ _ l1_2 a1_3 a1_4 a1_5 _ _ ([] : List Int) 0 0 0 false _ ?side1 ?side2 ?side3 ?side4 ?side5 ?side6 ?side7 ?side8 ?side9 ?side10 A5.out).mono ?_); (case side1 => exact kc_ HR0); (case side2 => exact HC0.out); (case side3 => exact kc_ HR1_0); (case side4 => exact HC1_0.out); (case side5 => exact kc_ HR1_1); (case side6 => exact HC1_1.out); (case side7 => exact kc_ HR1_2); (case side8 => exact HC1_2.out); (case side9 => exact Kd.C_nil _ _); (case side10 => exact Nat.le_refl _); rintro e w113 ⟨rfl, hb⟩; refine ⟨_, rfl, ?_⟩; have n0_ := Aside0.mk (blk_below (bkt_ BK327) hb); have n1_ := Aside0.mk (below_step bls_ hb); clear BK327; clear HB; have BK327 := n0_; have HB := n1_; clear n0_ n1_; (try clear hb); (try clear hb2); (try clear hk); (try clear hi)))
   go_ret
   exact ⟨fin_, bls_⟩
 ·replace c4 := Bool.eq_false_iff.mpr c4
  subst c4
  have H1 : (some false) = some r := by rw [if_neg (show ¬ (false = true) by decide)] at H; exact H
  clear H
  have H := H1
  clear H1
  obtain rfl := Option.some.inj H
  go_enter Tryd.func6, Tryd.ntmps6
  go_wp2_with (first | ((with_reducible refine gate_dst (N := 3) rfl ?_); refine be_ (N := 3) (cs := #[.slice A1_0 l1_0.length c1_0, .slice A1_1 l1_1.length c1_1, .slice A1_2 l1_2.length c1_2, .int .i64 a1_3, .int .i64 a1_4, .int .i64 a1_5]) (t := 26) ?_; intro gb327 hg w114 hbox hb; have n0_ := Aside0.mk (below_step bl_ hb); have n1_ := Aside0.mk (hbox); have n2_ := Aside0.mk ((by rw [hg]; exact (below_size bl_) : w.heap.size ≤ gb327)); have n3_ := Aside0.mk ((by rw [hg]; exact (below_size bl_) : w.heap.size ≤ gb327)); clear HB; have HB := n0_; have BK327 := n1_; have GW327 := n2_; have GE327 := n3_; clear n0_ n1_ n2_ n3_; clear hb hbox hg) | ((with_reducible refine gate_callee (f := 9) rfl ?_); refine gl_ (some 14) Tryd.func9 #[] ?_; (with_reducible refine (spilelaw30_awake.calls  false _ A3.out).mono ?_); rintro e w115 ⟨rfl, hb⟩; refine ⟨_, rfl, ?_⟩; have n0_ := Aside0.mk (blk_below (bkt_ BK327) hb); have n1_ := Aside0.mk (below_step bls_ hb); clear BK327; clear HB; have BK327 := n0_; have HB := n1_; clear n0_ n1_; (try clear hb); (try clear hb2); (try clear hk); (try clear hi)))
  go_ret
  exact ⟨fin_, bls_⟩

/-! ### mix_plain: function 82 -/
def mix_plain.f (a0_0 : Int) (a0_1 : Int) : Option (Bool) := if a0_0 ≥ 0 then (if a0_0 ≤ 10737418240000 then (if a0_1 ≥ 0 then (if a0_1 ≤ 128849018880000 then (if a0_1 > 0 then (some true) else (some (a0_0 == 0))) else (some false)) else (some false)) else (some false)) else (some false)
set_option maxHeartbeats 8000000 in
set_option maxRecDepth 100000 in
theorem mix_plain.calls (a0_0 : Int) (a0_1 : Int) (r : Bool) (w : World) (h : mix_plain.f a0_0 a0_1 = some r) :
  Calls Tryd.prog 82 #[.agg #[.int .i64 a0_0, .int .i64 a0_1]] w fun e w' => e = .returned (.bool r) ∧ Below w.heap.size w w' := by
 have hu45 := Tryd.underlying45
 have HB := Aside0.mk (Below.refl w.heap.size w)
 have H : (if a0_0 ≥ 0 then (if a0_0 ≤ 10737418240000 then (if a0_1 ≥ 0 then (if a0_1 ≤ 128849018880000 then (if a0_1 > 0 then (some true) else (some (a0_0 == 0))) else (some false)) else (some false)) else (some false)) else (some false)) = some r := h
 clear h
 by_cases c2 : a0_0 ≥ 0
 ·rw [if_pos c2] at H
  have c2b0 : decide (0 ≤ a0_0) = true := decide_eq_true c2
  clear c2
  by_cases c3 : a0_0 ≤ 10737418240000
  ·rw [if_pos c3] at H
   have c3b0 : decide (a0_0 ≤ 10737418240000) = true := decide_eq_true c3
   clear c3
   by_cases c4 : a0_1 ≥ 0
   ·rw [if_pos c4] at H
    have c4b0 : decide (0 ≤ a0_1) = true := decide_eq_true c4
    clear c4
    by_cases c5 : a0_1 ≤ 128849018880000
    ·rw [if_pos c5] at H
     have c5b0 : decide (a0_1 ≤ 128849018880000) = true := decide_eq_true c5
     clear c5
     by_cases c6 : a0_1 > 0
     ·rw [if_pos c6] at H
      have c6b0 : decide (0 < a0_1) = true := decide_eq_true c6
      clear c6
      obtain rfl := Option.some.inj H
      go_enter Tryd.func82, Tryd.ntmps82
      go_wp2_with (first | ((with_reducible refine gate_dst (N := 1) rfl ?_); refine be_ (N := 1) (cs := #[.int .i64 a0_0, .int .i64 a0_1]) (t := 45) ?_; intro gb344 hg w7 hbox hb; have n0_ := Aside0.mk (below_step bl_ hb); have n1_ := Aside0.mk (hbox); have n2_ := Aside0.mk ((by rw [hg]; exact (below_size bl_) : w.heap.size ≤ gb344)); have n3_ := Aside0.mk ((by rw [hg]; exact (below_size bl_) : w.heap.size ≤ gb344)); clear HB; have HB := n0_; have BK344 := n1_; have GW344 := n2_; have GE344 := n3_; clear n0_ n1_ n2_ n3_; clear hb hbox hg; obtain ⟨hcz8_0, hcz8_1⟩ := bc2_ BK344; have hfz8_0 := blk_frozen BK344.out 0; have hfz8_1 := blk_frozen BK344.out 1))
      go_ret
      exact ⟨fin_, bls_⟩
     ·rw [if_neg c6] at H
      have c6b0 : decide (0 < a0_1) = false := decide_eq_false c6
      clear c6
      obtain rfl := Option.some.inj H
      go_enter Tryd.func82, Tryd.ntmps82
      go_wp2_with (first | ((with_reducible refine gate_dst (N := 1) rfl ?_); refine be_ (N := 1) (cs := #[.int .i64 a0_0, .int .i64 a0_1]) (t := 45) ?_; intro gb344 hg w9 hbox hb; have n0_ := Aside0.mk (below_step bl_ hb); have n1_ := Aside0.mk (hbox); have n2_ := Aside0.mk ((by rw [hg]; exact (below_size bl_) : w.heap.size ≤ gb344)); have n3_ := Aside0.mk ((by rw [hg]; exact (below_size bl_) : w.heap.size ≤ gb344)); clear HB; have HB := n0_; have BK344 := n1_; have GW344 := n2_; have GE344 := n3_; clear n0_ n1_ n2_ n3_; clear hb hbox hg; obtain ⟨hcz10_0, hcz10_1⟩ := bc2_ BK344; have hfz10_0 := blk_frozen BK344.out 0; have hfz10_1 := blk_frozen BK344.out 1))
      go_ret
      exact ⟨fin_, bls_⟩
    ·rw [if_neg c5] at H
     have c5b0 : decide (a0_1 ≤ 128849018880000) = false := decide_eq_false c5
     clear c5
     obtain rfl := Option.some.inj H
     go_enter Tryd.func82, Tryd.ntmps82
     go_wp2_with (first | ((with_reducible refine gate_dst (N := 1) rfl ?_); refine be_ (N := 1) (cs := #[.int .i64 a0_0, .int .i64 a0_1]) (t := 45) ?_; intro gb344 hg w11 hbox hb; have n0_ := Aside0.mk (below_step bl_ hb); have n1_ := Aside0.mk (hbox); have n2_ := Aside0.mk ((by rw [hg]; exact (below_size bl_) : w.heap.size ≤ gb344)); have n3_ := Aside0.mk ((by rw [hg]; exact (below_size bl_) : w.heap.size ≤ gb344)); clear HB; have HB := n0_; have BK344 := n1_; have GW344 := n2_; have GE344 := n3_; clear n0_ n1_ n2_ n3_; clear hb hbox hg; obtain ⟨hcz12_0, hcz12_1⟩ := bc2_ BK344; have hfz12_0 := blk_frozen BK344.out 0; have hfz12_1 := blk_frozen BK344.out 1))
     go_ret
     exact ⟨fin_, bls_⟩
   ·rw [if_neg c4] at H
    have c4b0 : decide (0 ≤ a0_1) = false := decide_eq_false c4
    clear c4
    obtain rfl := Option.some.inj H
    go_enter Tryd.func82, Tryd.ntmps82
    go_wp2_with (first | ((with_reducible refine gate_dst (N := 1) rfl ?_); refine be_ (N := 1) (cs := #[.int .i64 a0_0, .int .i64 a0_1]) (t := 45) ?_; intro gb344 hg w13 hbox hb; have n0_ := Aside0.mk (below_step bl_ hb); have n1_ := Aside0.mk (hbox); have n2_ := Aside0.mk ((by rw [hg]; exact (below_size bl_) : w.heap.size ≤ gb344)); have n3_ := Aside0.mk ((by rw [hg]; exact (below_size bl_) : w.heap.size ≤ gb344)); clear HB; have HB := n0_; have BK344 := n1_; have GW344 := n2_; have GE344 := n3_; clear n0_ n1_ n2_ n3_; clear hb hbox hg; obtain ⟨hcz14_0, hcz14_1⟩ := bc2_ BK344; have hfz14_0 := blk_frozen BK344.out 0; have hfz14_1 := blk_frozen BK344.out 1))
    go_ret
    exact ⟨fin_, bls_⟩
  ·rw [if_neg c3] at H
   have c3b0 : decide (a0_0 ≤ 10737418240000) = false := decide_eq_false c3
   clear c3
   obtain rfl := Option.some.inj H
   go_enter Tryd.func82, Tryd.ntmps82
   go_wp2_with (first | ((with_reducible refine gate_dst (N := 1) rfl ?_); refine be_ (N := 1) (cs := #[.int .i64 a0_0, .int .i64 a0_1]) (t := 45) ?_; intro gb344 hg w15 hbox hb; have n0_ := Aside0.mk (below_step bl_ hb); have n1_ := Aside0.mk (hbox); have n2_ := Aside0.mk ((by rw [hg]; exact (below_size bl_) : w.heap.size ≤ gb344)); have n3_ := Aside0.mk ((by rw [hg]; exact (below_size bl_) : w.heap.size ≤ gb344)); clear HB; have HB := n0_; have BK344 := n1_; have GW344 := n2_; have GE344 := n3_; clear n0_ n1_ n2_ n3_; clear hb hbox hg; obtain ⟨hcz16_0, hcz16_1⟩ := bc2_ BK344; have hfz16_0 := blk_frozen BK344.out 0; have hfz16_1 := blk_frozen BK344.out 1))
   go_ret
   exact ⟨fin_, bls_⟩
 ·rw [if_neg c2] at H
  have c2b0 : decide (0 ≤ a0_0) = false := decide_eq_false c2
  clear c2
  obtain rfl := Option.some.inj H
  go_enter Tryd.func82, Tryd.ntmps82
  go_wp2_with (first | ((with_reducible refine gate_dst (N := 1) rfl ?_); refine be_ (N := 1) (cs := #[.int .i64 a0_0, .int .i64 a0_1]) (t := 45) ?_; intro gb344 hg w17 hbox hb; have n0_ := Aside0.mk (below_step bl_ hb); have n1_ := Aside0.mk (hbox); have n2_ := Aside0.mk ((by rw [hg]; exact (below_size bl_) : w.heap.size ≤ gb344)); have n3_ := Aside0.mk ((by rw [hg]; exact (below_size bl_) : w.heap.size ≤ gb344)); clear HB; have HB := n0_; have BK344 := n1_; have GW344 := n2_; have GE344 := n3_; clear n0_ n1_ n2_ n3_; clear hb hbox hg; obtain ⟨hcz18_0, hcz18_1⟩ := bc2_ BK344; have hfz18_0 := blk_frozen BK344.out 0; have hfz18_1 := blk_frozen BK344.out 1))
  go_ret
  exact ⟨fin_, bls_⟩

/-! ### mix_total: function 83 -/
-- MAKING
def sumsL (l : List S45) : Nat → Int × Int
  | 0 => (0, 0)
  | j + 1 => (wrap64 ((sumsL l j).1 + (rd_T45 l j).f0), wrap64 ((sumsL l j).2 + (rd_T45 l j).f1))
def mix_total.f (l0 : List S45) : Option (Int × Int) := if l0.length < 4611686018427387904 then some (sumsL l0 l0.length) else none
set_option maxHeartbeats 4000000 in
set_option maxRecDepth 100000 in
theorem mix_total.calls (A0 : Option Addr) (c0 : Nat) (l0 : List S45) (r1 r2 : Int) (w : World) (hr0 : Kd.C k45 w A0 l0.length l0) (hc0 : l0.length ≤ c0) (h : mix_total.f l0 = some (r1, r2)) :
    Calls Tryd.prog 83 #[.slice A0 l0.length c0] w fun e w' => e = .returned (.agg #[.int .i64 r1, .int .i64 r2]) ∧ Below w.heap.size w w' := by
  unfold mix_total.f at h
  by_cases hl : l0.length < 4611686018427387904
  case neg => rw [if_neg hl] at h; exact absurd h (by simp)
  rw [if_pos hl] at h
  have hs := Option.some.inj h
  clear h
  have HS := Aside0.mk hs
  have HR := Aside0.mk hr0
  have hu := Tryd.underlying45
  have hu2 := Tryd.underlying92
  clear hs hr0
  go_enter Tryd.func83, Tryd.ntmps83
  go_wp2
  go_loopg [8] l0.length (fun kx s8 wr => ∃ x a m : Int, s8 = .int .i64 x ∧ Aside0 (0 ≤ x ∧ x ≤ l0.length ∧ l0.length - x.toNat ≤ kx ∧ sumsL l0 x.toNat = (a, m)) ∧ Aside0 (wr.heap[w.heap.size]? = some (.cells #[.int .i64 0, .int .i64 0] 45 (0, 0))) ∧ Aside0 (wr.heap[w.heap.size + 1]? = some (.cells #[.int .i64 a, .int .i64 m] 92 (0, 0))) ∧ Aside0 (Below w.heap.size w wr) ∧ Aside0 (w.heap.size + 2 ≤ wr.heap.size))
  case atStart => exact ⟨0, 0, 0, rfl, ⟨by omega, by omega, by omega, rfl⟩, ⟨blk_alloc (blk_new w _) _⟩, ⟨by have := blk_new (w.alloc (.cells #[.int .i64 0, .int .i64 0] 45)) (.cells #[.int .i64 0, .int .i64 0] 92); rwa [World.size_alloc] at this⟩, ⟨below_alloc (below_alloc (Below.refl _ _) _) _⟩, ⟨by rw [World.size_alloc, World.size_alloc]; omega⟩⟩
  case round =>
    obtain ⟨x, a, m, rfl, HX, HD, HE, HB, HZ⟩ := hrel
    by_cases hlt : x < (l0.length : Int)
    · have hltb : decide (x < (l0.length : Int)) = true := decide_eq_true hlt
      have p1 : 0 ≤ x := HX.out.1
      obtain ⟨ad, e, h1, h2⟩ := at_T45 HR.out x p1 hlt
      cases e
      have e2 : sumsL l0 (x + 1).toNat = (wrap64 (a + (rd_T45 l0 x).f0), wrap64 (m + (rd_T45 l0 x).f1)) := by
        rw [show (x + 1).toNat = x.toNat + 1 by omega]
        simp only [sumsL, HX.out.2.2.2]
        rw [show ((x.toNat : Nat) : Int) = x by omega]
      have E2 := Aside0.mk e2
      have HLT := Aside0.mk hlt
      clear e2 hlt
      replace h1 := pw_cell_below HB.out h1
      replace h2 := pw_cell_below HB.out h2
      replace p1 := eq_true p1
      have p2 : (x < (l0.length : Int)) = True := eq_true HLT.out
      generalize (rd_T45 l0 x).f0 = y0 at h1 E2
      generalize (rd_T45 l0 x).f1 = y1 at h2 E2
      go_wp2
      have bX := Aside0.mk (blk_new wr (.cells #[.int .i64 y0, .int .i64 y1] 45))
      have bE := Aside0.mk (blk_alloc HE.out (.cells #[.int .i64 y0, .int .i64 y1] 45))
      have bD := Aside0.mk (blk_alloc HD.out (.cells #[.int .i64 y0, .int .i64 y1] 45))
      have bB := Aside0.mk (below_alloc HB.out (.cells #[.int .i64 y0, .int .i64 y1] 45))
      have hne : wr.heap.size ≠ w.heap.size + 1 := by have := HZ.out; omega
      have bZ : w.heap.size + 2 ≤ (wr.alloc (.cells #[.int .i64 y0, .int .i64 y1] 45)).heap.size := by rw [World.size_alloc]; have := HZ.out; omega
      have BZ := Aside0.mk bZ
      clear HD HE HB HZ h1 h2 bZ
      generalize wr.alloc (.cells #[.int .i64 y0, .int .i64 y1] 45) = W1 at bX bE bD bB BZ ⊢
      generalize wr.heap.size = gx at bX hne ⊢
      have k0 : W1.cell? ⟨w.heap.size + 1, 0, none⟩ = some (.int .i64 a) := (blk_cell bE.out 0).trans rfl
      have k1 : W1.cell? ⟨w.heap.size + 1, 1, none⟩ = some (.int .i64 m) := (blk_cell bE.out 1).trans rfl
      have k2 : W1.cell? ⟨gx, 0, none⟩ = some (.int .i64 y0) := (blk_cell bX.out 0).trans rfl
      have k3 : W1.cell? ⟨gx, 1, none⟩ = some (.int .i64 y1) := (blk_cell bX.out 1).trans rfl
      have f0 : W1.frozen? ⟨w.heap.size + 1, 0, none⟩ = false := blk_frozen bE.out 0
      have f1 : W1.frozen? ⟨w.heap.size + 1, 1, none⟩ = false := blk_frozen bE.out 1
      go_region
      have gE := Aside0.mk (blk_drew (blk_set (blk_set bE.out 0 (.int .i64 (wrap64 (a + y0)))) 1 (.int .i64 (wrap64 (m + y1)))))
      have gD := Aside0.mk (blk_drew (blk_far (blk_far bD.out (p := ⟨w.heap.size + 1, 0, none⟩) (by simp) (.int .i64 (wrap64 (a + y0)))) (p := ⟨w.heap.size + 1, 1, none⟩) (by simp) (.int .i64 (wrap64 (m + y1)))))
      have gB := Aside0.mk (below_drew1 (below_set (below_set bB.out (g := w.heap.size + 1) (j := 0) (v := .int .i64 (wrap64 (a + y0))) (by omega)) (g := w.heap.size + 1) (j := 1) (v := .int .i64 (wrap64 (m + y1))) (by omega)))
      have gZ := Aside0.mk (show w.heap.size + 2 ≤ ((W1.setCell ⟨w.heap.size + 1, 0, none⟩ (.int .i64 (wrap64 (a + y0)))).setCell ⟨w.heap.size + 1, 1, none⟩ (.int .i64 (wrap64 (m + y1)))).drew.heap.size by show w.heap.size + 2 ≤ ((W1.setCell ⟨w.heap.size + 1, 0, none⟩ (.int .i64 (wrap64 (a + y0)))).setCell ⟨w.heap.size + 1, 1, none⟩ (.int .i64 (wrap64 (m + y1)))).heap.size; rw [World.size_setCell, World.size_setCell]; exact BZ.out)
      have hw : wrap64 (x + 1) = x + 1 := by have := HX.out.1; have := HLT.out; unfold wrap64; omega
      have HW := Aside0.mk hw
      clear hw k0 k1 k2 k3 f0 f1
      generalize ((W1.setCell ⟨w.heap.size + 1, 0, none⟩ (.int .i64 (wrap64 (a + y0)))).setCell ⟨w.heap.size + 1, 1, none⟩ (.int .i64 (wrap64 (m + y1)))).drew = W2 at gE gD gB gZ ⊢
      go_wp2
      go_roundg (l0.length - (x + 1).toNat)
      case measure => have := HX.out; have := HLT.out; omega
      case rel => exact ⟨x + 1, wrap64 (a + y0), wrap64 (m + y1), by rw [HW.out], ⟨by have := HX.out; omega, by have := HLT.out; omega, Nat.le_refl _, E2.out⟩, gD, gE, gB, gZ⟩
    · have hltb : decide (x < (l0.length : Int)) = false := decide_eq_false hlt
      have er : (a, m) = (r1, r2) := by
        rw [← HS.out, ← HX.out.2.2.2]; congr 1; have := HX.out; omega
      obtain ⟨rfl, rfl⟩ := Prod.mk.inj er
      have k0 : wr.cell? ⟨w.heap.size + 1, 0, none⟩ = some (.int .i64 a) := (blk_cell HE.out 0).trans rfl
      have k1 : wr.cell? ⟨w.heap.size + 1, 1, none⟩ = some (.int .i64 m) := (blk_cell HE.out 1).trans rfl
      have d0 : wr.cell? ⟨w.heap.size, 0, none⟩ = some (.int .i64 0) := (blk_cell HD.out 0).trans rfl
      have d1 : wr.cell? ⟨w.heap.size, 1, none⟩ = some (.int .i64 0) := (blk_cell HD.out 1).trans rfl
      have f0 : wr.frozen? ⟨w.heap.size, 0, none⟩ = false := blk_frozen HD.out 0
      have f1 : wr.frozen? ⟨w.heap.size, 1, none⟩ = false := blk_frozen HD.out 1
      clear hlt er HE HZ HS
      go_wp2
      refine bodyPost_ret (results_cell_row rfl _ _ w.heap.size 45 #[.int .i64 a, .int .i64 m] (0, 0) _ rfl (by refine blk_put (cs := #[.int .i64 a, .int .i64 0]) ?_ 1 _ rfl; refine blk_put (cs := #[.int .i64 0, .int .i64 0]) ?_ 0 _ rfl; exact HD.out) Tryd.underlying45 rfl (by kernel_rfl)) rfl ?_
      exact ⟨rfl, below_set (below_set HB.out (Nat.le_refl _)) (Nat.le_refl _)⟩

end Go.Proofs.YtcdkbciagchlgaaDoor.PF
