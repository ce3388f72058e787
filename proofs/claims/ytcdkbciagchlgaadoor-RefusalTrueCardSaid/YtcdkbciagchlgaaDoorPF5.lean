-- Written by a program of this session (wip/pr.py) out of Lean's print of the translation; Lean checks it.
import Derived.Test.YtcdkbciagchlgaaDoorPF0
import Derived.Test.YtcdkbciagchlgaaDoorPF1
import Derived.Test.YtcdkbciagchlgaaDoorPF4
namespace Go.Proofs.YtcdkbciagchlgaaDoor.PF
open Go.RowKit Go.Proofs.YtcdkbciagchlgaaDoorW.PrintWords Go.Proofs.YtcdkbciagchlgaaDoorW.PrintLast Go.Proofs.YtcdkbciagchlgaaDoorW.PrintMore
attribute [local go_sem] max2_int min2_int max_two min_two max_three min_three max_four min_four   
set_option linter.unusedVariables false
set_option linter.unusedSimpArgs false
def outB (M n : Int) : Bool := decide (n < 0 ∨ n > M)
def strB (l : List S82) (a m : Int) : Bool := decide (lchk l a m ≠ 0 ∨ m < 1 ∨ m > 1000000000)
def prodU : List Int → Int
  | [] => 1
  | u :: r => (u + 1) * prodU r
def faultO (l : List S82) (L : List S45) (U C : List Int) (lo hi al : Int) : Int :=
  if L.length = 0 then 9 else if 4 < L.length then 8 else if U.length ≠ L.length ∨ C.length ≠ L.length then 10
  else if 0 ≤ idxP (fun j => strB l (rd_T45 L (j : Int)).f0 (rd_T45 L (j : Int)).f1) L.length 0 then 1
  else if 0 ≤ idxP (fun j => outB 64 (rd U (j : Int))) U.length 0 ∨ 0 ≤ idxP (fun j => outB 1000000 (rd C (j : Int))) C.length 0 then 2
  else if 0 ≤ idxP (fun j => outB 10000 (rd [lo, hi] (j : Int))) 2 0 ∨ lo > hi ∨ al < 1 ∨ al > 256 then 2
  else if prodU U > 4096 then 8 else 0
set_option maxHeartbeats 4000000 in
set_option maxRecDepth 100000 in
theorem blend_outside.clo (M n : Int) (bm : Nat) (W : World) (hm : W.cell? ⟨bm, 0, none⟩ = some (.int .i64 M)) :
    Calls Tryd.prog 70 (#[.int .i64 n] ++ #[.pointer (some ⟨bm, 0, none⟩)]) W fun e w' => e = .returned (.bool (outB M n)) ∧ Below W.heap.size W w' := by
  have HB := Aside0.mk (Below.refl W.heap.size W)
  by_cases h1 : n < 0
  · have b1 : decide (n < 0) = true := decide_eq_true h1
    have e : outB M n = true := decide_eq_true (Or.inl h1)
    rw [e]
    clear h1 e
    go_enter Tryd.func70, Tryd.ntmps70
    go_wp2
    go_ret
    exact ⟨rfl, HB.out⟩
  · have b1 : decide (n < 0) = false := decide_eq_false h1
    have e : outB M n = decide (M < n) := by unfold outB; rw [decide_eq_decide]; omega
    rw [e]
    clear h1 e
    go_enter Tryd.func70, Tryd.ntmps70
    go_wp2
    go_ret
    exact ⟨rfl, HB.out⟩
set_option maxHeartbeats 4000000 in
set_option maxRecDepth 100000 in
theorem blend_fault.clo (bt : Nat) (A : Option Addr) (c : Nat) (l : List S82) (a m : Int) (W : World) (hcl : l.length ≤ c) (ht : W.cell? ⟨bt, 0, none⟩ = some (.slice A l.length c)) (hr : Kd.C k82 W A l.length l) :
    Calls Tryd.prog 75 (#[.agg #[.int .i64 a, .int .i64 m]] ++ #[.pointer (some ⟨bt, 0, none⟩)]) W fun e w' => e = .returned (.bool (strB l a m)) ∧ Below W.heap.size W w' := by
  have HC := Aside0.mk (fun w' (hb : Below W.heap.size W w') => alcohol_Check_s.calls A c l a m (lchk l a m) w' (Kd.C_below hr hb) hcl rfl)
  have HT := Aside0.mk (fun w' (hb : Below W.heap.size W w') => pw_cell_below hb ht)
  have HB := Aside0.mk (Below.refl W.heap.size W)
  have hu := Tryd.underlying45
  have ht2 : (W.alloc (Obj.cells #[Value.int IntKind.i64 a, Value.int IntKind.i64 m] 45)).cell? ⟨bt, 0, none⟩ = some (.slice A l.length c) := pw_cell_below (below_alloc (Below.refl _ _) _) ht
  have d0 : (W.alloc (Obj.cells #[Value.int IntKind.i64 a, Value.int IntKind.i64 m] 45)).cell? ⟨W.heap.size, 0, none⟩ = some (.int .i64 a) := by rw [World.cell?_alloc_new]; rfl
  have d1 : (W.alloc (Obj.cells #[Value.int IntKind.i64 a, Value.int IntKind.i64 m] 45)).cell? ⟨W.heap.size, 1, none⟩ = some (.int .i64 m) := by rw [World.cell?_alloc_new]; rfl
  have HB2 := Aside0.mk (below_alloc (Below.refl W.heap.size W) (Obj.cells #[Value.int IntKind.i64 a, Value.int IntKind.i64 m] 45))
  clear hr ht hcl
  unfold strB
  generalize lchk l a m = q at HC ⊢
  by_cases h1 : q = 0
  · have b1 : (q != 0) = false := bne_eq_false_iff_eq.mpr h1
    by_cases h2 : m < 1
    · have b2 : decide (m < 1) = true := decide_eq_true h2
      rw [decide_eq_true (show q ≠ 0 ∨ m < 1 ∨ m > 1000000000 from Or.inr (Or.inl h2))]
      clear h1 h2
      go_enter Tryd.func75, Tryd.ntmps75
      go_wp2_with (go_at_call 41; refine (HC.out _ HB2.out).mono ?_; rintro e w' ⟨rfl, hb⟩; replace d1 := pw_cell_below hb d1)
      go_ret
      exact ⟨rfl, below_step HB2.out hb⟩
    · have b2 : decide (m < 1) = false := decide_eq_false h2
      rw [show decide (q ≠ 0 ∨ m < 1 ∨ m > 1000000000) = decide (1000000000 < m) by rw [decide_eq_decide]; omega]
      clear h1 h2
      go_enter Tryd.func75, Tryd.ntmps75
      go_wp2_with (go_at_call 41; refine (HC.out _ HB2.out).mono ?_; rintro e w' ⟨rfl, hb⟩; replace d1 := pw_cell_below hb d1)
      go_ret
      exact ⟨rfl, below_step HB2.out hb⟩
  · have b1 : (q != 0) = true := bne_iff_ne.mpr h1
    rw [decide_eq_true (show q ≠ 0 ∨ m < 1 ∨ m > 1000000000 from Or.inl h1)]
    clear h1
    go_enter Tryd.func75, Tryd.ntmps75
    go_wp2_with (go_at_call 41; refine (HC.out _ HB2.out).mono ?_; rintro e w' ⟨rfl, hb⟩; replace d1 := pw_cell_below hb d1)
    go_ret
    exact ⟨rfl, below_step HB2.out hb⟩
theorem blend_outside.calls (M : Int) (w : World) :
    Calls Tryd.prog 50 #[.int .i64 M] w fun e w' => ∃ bm, e = .returned (.func (.func 70) #[] #[.pointer (some ⟨bm, 0, none⟩)]) ∧ w'.cell? ⟨bm, 0, none⟩ = some (.int .i64 M) ∧ Below w.heap.size w w' := by
  have HB := Aside0.mk (Below.refl w.heap.size w)
  go_enter Tryd.func50, Tryd.ntmps50
  go_wp2
  go_ret
  exact ⟨_, rfl, by rw [World.cell?_alloc_new]; rfl, below_alloc HB.out _⟩
theorem prod_step {U : List Int} {i : Nat} {p : Int} (hi : i < U.length) (h4 : U.length ≤ 4) (hu : 0 ≤ rd U (i : Int) ∧ rd U (i : Int) ≤ 64) (h : p * prodU (U.drop i) = prodU U) (h0 : 1 ≤ p) (h1 : p ≤ 65 ^ i) :
    wrap64 (p * (rd U (i : Int) + 1)) = p * (rd U (i : Int) + 1) ∧ (p * (rd U (i : Int) + 1)) * prodU (U.drop (i + 1)) = prodU U ∧ 1 ≤ p * (rd U (i : Int) + 1) ∧ p * (rd U (i : Int) + 1) ≤ 65 ^ (i + 1) := by
  have e : rd U (i : Int) = U[i] := by unfold rd; rw [Int.toNat_natCast, List.getD_eq_getElem?_getD, List.getElem?_eq_getElem hi]; rfl
  rw [List.drop_eq_getElem_cons hi] at h
  rw [← e] at h
  have hp : (65 : Int) ^ i ≤ 274625 := by
    have : i = 0 ∨ i = 1 ∨ i = 2 ∨ i = 3 := by omega
    rcases this with rfl | rfl | rfl | rfl <;> decide
  have a : p * (rd U (i : Int) + 1) ≤ 65 ^ i * 65 := Int.mul_le_mul h1 (by omega) (by omega) (by omega)
  have b : 1 * 1 ≤ p * (rd U (i : Int) + 1) := Int.mul_le_mul h0 (by omega) (by omega) (by omega)
  refine ⟨w64_ (by omega) (by omega), ?_, by omega, by rw [Int.pow_succ]; exact a⟩
  rw [← h]
  show p * (rd U (i : Int) + 1) * prodU (U.drop (i + 1)) = p * ((rd U (i : Int) + 1) * prodU (U.drop (i + 1)))
  rw [Int.mul_assoc]
def blend_fault.f (l0 : List S82) (l1_0 : List S45) (l1_1 l1_2 : List Int) (a1_3 a1_4 a1_5 : Int) : Option Int := some (faultO l0 l1_0 l1_1 l1_2 a1_3 a1_4 a1_5)
set_option maxHeartbeats 8000000 in
set_option maxRecDepth 100000 in
theorem blend_fault.calls (A0 : Option Addr) (c0 : Nat) (l0 : List S82) (A1_0 : Option Addr) (c1_0 : Nat) (l1_0 : List S45) (A1_1 : Option Addr) (c1_1 : Nat) (l1_1 : List Int) (A1_2 : Option Addr) (c1_2 : Nat) (l1_2 : List Int) (a1_3 a1_4 a1_5 : Int) (r : Int) (w : World) (hr0 : Kd.C k82 w A0 l0.length l0) (hc0 : l0.length ≤ c0) (hr1_0 : Kd.C k45 w A1_0 l1_0.length l1_0) (hc1_0 : l1_0.length ≤ c1_0) (hr1_1 : Kd.C (Kd.int .i64) w A1_1 l1_1.length l1_1) (hc1_1 : l1_1.length ≤ c1_1) (hr1_2 : Kd.C (Kd.int .i64) w A1_2 l1_2.length l1_2) (hc1_2 : l1_2.length ≤ c1_2) (h : blend_fault.f l0 l1_0 l1_1 l1_2 a1_3 a1_4 a1_5 = some r) :
    Calls Tryd.prog 56 #[.slice A0 l0.length c0, .agg #[.slice A1_0 l1_0.length c1_0, .slice A1_1 l1_1.length c1_1, .slice A1_2 l1_2.length c1_2, .int .i64 a1_3, .int .i64 a1_4, .int .i64 a1_5]] w fun e w' => e = .returned (.int .i64 r) ∧ Below w.heap.size w w' := by
  obtain ⟨r0, HF0⟩ : ∃ r0, faultO l0 l1_0 l1_1 l1_2 a1_3 a1_4 a1_5 = r0 := ⟨_, rfl⟩
  obtain rfl : r0 = r := HF0.symm.trans (Option.some.inj h)
  have HF := Aside0.mk HF0
  clear h HF0
  have HB := Aside0.mk (Below.refl w.heap.size w)
  have e75 : ∀ args w, (callFunc 75 args).run Tryd.prog w = .ok (.enter 75 args) w := enters_of Tryd.func75 (by kernel_rfl) rfl
  have e70 : ∀ args w, (callFunc 70 args).run Tryd.prog w = .ok (.enter 70 args) w := enters_of Tryd.func70 (by kernel_rfl) rfl
  have hu := Tryd.underlying26
  obtain ⟨b1, hb1⟩ : ∃ b, decide (0 ≤ idxP (fun j => strB l0 (rd_T45 l1_0 (j : Int)).f0 (rd_T45 l1_0 (j : Int)).f1) l1_0.length 0) = b := ⟨_, rfl⟩
  obtain ⟨b2, hb2⟩ : ∃ b, decide (0 ≤ idxP (fun j => outB 64 (rd l1_1 (j : Int))) l1_1.length 0) = b := ⟨_, rfl⟩
  obtain ⟨b3, hb3⟩ : ∃ b, decide (0 ≤ idxP (fun j => outB 1000000 (rd l1_2 (j : Int))) l1_2.length 0) = b := ⟨_, rfl⟩
  obtain ⟨b4, hb4⟩ : ∃ b, decide (0 ≤ idxP (fun j => outB 10000 (rd [a1_3, a1_4] (j : Int))) 2 0) = b := ⟨_, rfl⟩
  have HF1 : Aside0 (r0 = if l1_0.length = 0 then 9 else if 4 < l1_0.length then 8 else if l1_1.length ≠ l1_0.length ∨ l1_2.length ≠ l1_0.length then 10 else if b1 = true then 1 else if b2 = true ∨ b3 = true then 2 else if b4 = true ∨ a1_3 > a1_4 ∨ a1_5 < 1 ∨ a1_5 > 256 then 2 else if prodU l1_1 > 4096 then 8 else 0) := ⟨by
    rw [← HF.out, ← hb1, ← hb2, ← hb3, ← hb4]
    simp only [decide_eq_true_eq]
    rfl⟩
  clear HF
  have HU : Aside0 (l1_1.length ≤ 4 → ∀ bm W, W.cell? ⟨bm, 0, none⟩ = some (.int .i64 64) → Below w.heap.size w W → Calls Tryd.prog 49 #[.slice A1_1 l1_1.length c1_1, .func (.func 70) #[] #[.pointer (some ⟨bm, 0, none⟩)]] W fun e w' => e = .returned (.bool b2) ∧ Below W.heap.size W w') := ⟨fun h4 bm W hm hb => by
    rw [← hb2]
    exact slices_ContainsFunc_int_int.below 70 #[.pointer (some ⟨bm, 0, none⟩)] A1_1 c1_1 l1_1 (fun j => outB 64 (rd l1_1 (j : Int))) W e70 (by omega) (Kd.C_below hr1_1 hb) (fun W' i h0 h1 hb' => by
      have := blend_outside.clo 64 (rd l1_1 i) bm W' (pw_cell_below hb' hm)
      rwa [show outB 64 (rd l1_1 i) = (fun j : Nat => outB 64 (rd l1_1 (j : Int))) i.toNat by show _ = outB 64 (rd l1_1 ((i.toNat : Nat) : Int)); rw [Int.toNat_of_nonneg h0]] at this)⟩
  have HC : Aside0 (l1_2.length ≤ 4 → ∀ bm W, W.cell? ⟨bm, 0, none⟩ = some (.int .i64 1000000) → Below w.heap.size w W → Calls Tryd.prog 49 #[.slice A1_2 l1_2.length c1_2, .func (.func 70) #[] #[.pointer (some ⟨bm, 0, none⟩)]] W fun e w' => e = .returned (.bool b3) ∧ Below W.heap.size W w') := ⟨fun h4 bm W hm hb => by
    rw [← hb3]
    exact slices_ContainsFunc_int_int.below 70 #[.pointer (some ⟨bm, 0, none⟩)] A1_2 c1_2 l1_2 (fun j => outB 1000000 (rd l1_2 (j : Int))) W e70 (by omega) (Kd.C_below hr1_2 hb) (fun W' i h0 h1 hb' => by
      have := blend_outside.clo 1000000 (rd l1_2 i) bm W' (pw_cell_below hb' hm)
      rwa [show outB 1000000 (rd l1_2 i) = (fun j : Nat => outB 1000000 (rd l1_2 (j : Int))) i.toNat by show _ = outB 1000000 (rd l1_2 ((i.toNat : Nat) : Int)); rw [Int.toNat_of_nonneg h0]] at this)⟩
  have HL : Aside0 (l1_0.length ≤ 4 → ∀ bm W, W.cell? ⟨bm, 0, none⟩ = some (.slice A0 l0.length c0) → Below w.heap.size w W → Calls Tryd.prog 45 #[.slice A1_0 l1_0.length c1_0, .func (.func 75) #[] #[.pointer (some ⟨bm, 0, none⟩)]] W fun e w' => e = .returned (.bool b1) ∧ Below W.heap.size W w') := ⟨fun h4 bm W hm hb => by
    rw [← hb1]
    exact api_Liquid_45.below 75 #[.pointer (some ⟨bm, 0, none⟩)] A1_0 c1_0 l1_0 (fun j => strB l0 (rd_T45 l1_0 (j : Int)).f0 (rd_T45 l1_0 (j : Int)).f1) W e75 (by omega) (Kd.C_below hr1_0 hb) (fun W' i h0 h1 hb' => by
      have := blend_fault.clo bm A0 c0 l0 (rd_T45 l1_0 i).f0 (rd_T45 l1_0 i).f1 W' hc0 (pw_cell_below hb' hm) (Kd.C_below (Kd.C_below hr0 hb) hb')
      rwa [show strB l0 (rd_T45 l1_0 i).f0 (rd_T45 l1_0 i).f1 = (fun j : Nat => strB l0 (rd_T45 l1_0 (j : Int)).f0 (rd_T45 l1_0 (j : Int)).f1) i.toNat by show _ = strB l0 (rd_T45 l1_0 ((i.toNat : Nat) : Int)).f0 (rd_T45 l1_0 ((i.toNat : Nat) : Int)).f1; rw [Int.toNat_of_nonneg h0]] at this)⟩
  have HS : Aside0 (∀ gs bm W, W.cell? ⟨gs, 0, none⟩ = some (.int .i64 a1_3) → W.cell? ⟨gs, 1, none⟩ = some (.int .i64 a1_4) → W.cell? ⟨bm, 0, none⟩ = some (.int .i64 10000) → Below w.heap.size w W → Calls Tryd.prog 49 #[.slice (some ⟨gs, 0, none⟩) 2 2, .func (.func 70) #[] #[.pointer (some ⟨bm, 0, none⟩)]] W fun e w' => e = .returned (.bool b4) ∧ Below W.heap.size W w') := ⟨fun gs bm W h0 h1 hm hb => by
    rw [← hb4]
    have hrow : Kd.C (Kd.int .i64) W (some ⟨gs, 0, none⟩) 2 [a1_3, a1_4] := by
      refine ⟨rfl, by decide, fun _ => ⟨_, rfl, fun j p hj => ?_⟩⟩
      match j with
      | 0 =>
        obtain rfl : a1_3 = p := by simpa using hj
        exact ⟨[.int .i64 a1_3], rfl, rfl, fun i u hi => by
          match i with
          | 0 => simp only [List.getElem?_cons_zero, Option.some.injEq] at hi; rw [← hi]; exact h0
          | i + 1 => simp at hi⟩
      | 1 =>
        obtain rfl : a1_4 = p := by simpa using hj
        exact ⟨[.int .i64 a1_4], rfl, rfl, fun i u hi => by
          match i with
          | 0 => simp only [List.getElem?_cons_zero, Option.some.injEq] at hi; rw [← hi]; exact h1
          | i + 1 => simp at hi⟩
      | j + 2 => simp at hj
    exact slices_ContainsFunc_int_int.below 70 #[.pointer (some ⟨bm, 0, none⟩)] (some ⟨gs, 0, none⟩) 2 [a1_3, a1_4] (fun j => outB 10000 (rd [a1_3, a1_4] (j : Int))) W e70 (show 2 < _ by decide) hrow (fun W' i h0 h1 hb' => by
      have := blend_outside.clo 10000 (rd [a1_3, a1_4] i) bm W' (pw_cell_below hb' hm)
      rwa [show outB 10000 (rd [a1_3, a1_4] i) = (fun j : Nat => outB 10000 (rd [a1_3, a1_4] (j : Int))) i.toNat by show _ = outB 10000 (rd [a1_3, a1_4] ((i.toNat : Nat) : Int)); rw [Int.toNat_of_nonneg h0]] at this)⟩
  have HZ : Aside0 (b2 = false → ∀ i : Nat, i < l1_1.length → 0 ≤ rd l1_1 (i : Int) ∧ rd l1_1 (i : Int) ≤ 64) := ⟨fun hb i hi => by
    rw [hb] at hb2
    have hn := of_decide_eq_false hb2
    rw [idxP_any] at hn
    have hq : outB 64 (rd l1_1 (i : Int)) = false := by
      cases hq : outB 64 (rd l1_1 (i : Int))
      · rfl
      · exact absurd ⟨i, Nat.zero_le _, by omega, hq⟩ hn
    unfold outB at hq
    have := of_decide_eq_false hq
    omega⟩
  have HR := Aside0.mk hr1_1
  clear hr0 hr1_0 hr1_1 hr1_2 hb1 hb2 hb3 hb4
  go_enter Tryd.func56, Tryd.ntmps56
  go_upto_region 2 with fail
  have hsz : (w.alloc (Obj.cells #[Value.slice A0 l0.length c0] 22)).heap.size = w.heap.size + 1 := World.size_alloc w _
  have dt : ((w.alloc (Obj.cells #[Value.slice A0 l0.length c0] 22)).alloc (Obj.cells #[Value.slice A1_0 l1_0.length c1_0, Value.slice A1_1 l1_1.length c1_1, Value.slice A1_2 l1_2.length c1_2, Value.int IntKind.i64 a1_3, Value.int IntKind.i64 a1_4, Value.int IntKind.i64 a1_5] 26)).cell? ⟨w.heap.size, 0, none⟩ = some (.slice A0 l0.length c0) := pw_cell_below (below_alloc (Below.refl _ _) _) (by rw [World.cell?_alloc_new]; rfl)
  have hn := blk_new (w.alloc (Obj.cells #[Value.slice A0 l0.length c0] 22)) (Obj.cells #[Value.slice A1_0 l1_0.length c1_0, Value.slice A1_1 l1_1.length c1_1, Value.slice A1_2 l1_2.length c1_2, Value.int IntKind.i64 a1_3, Value.int IntKind.i64 a1_4, Value.int IntKind.i64 a1_5] 26)
  rw [hsz] at hn
  replace HB := Aside0.mk (below_alloc (below_alloc HB.out (Obj.cells #[Value.slice A0 l0.length c0] 22)) (Obj.cells #[Value.slice A1_0 l1_0.length c1_0, Value.slice A1_1 l1_1.length c1_1, Value.slice A1_2 l1_2.length c1_2, Value.int IntKind.i64 a1_3, Value.int IntKind.i64 a1_4, Value.int IntKind.i64 a1_5] 26))
  generalize ((w.alloc (Obj.cells #[Value.slice A0 l0.length c0] 22)).alloc (Obj.cells #[Value.slice A1_0 l1_0.length c1_0, Value.slice A1_1 l1_1.length c1_1, Value.slice A1_2 l1_2.length c1_2, Value.int IntKind.i64 a1_3, Value.int IntKind.i64 a1_4, Value.int IntKind.i64 a1_5] 26)) = W at dt hn HB ⊢
  have d0 : W.cell? ⟨w.heap.size + 1, 0, none⟩ = some (.slice A1_0 l1_0.length c1_0) := (blk_cell hn 0).trans rfl
  have d1 : W.cell? ⟨w.heap.size + 1, 1, none⟩ = some (.slice A1_1 l1_1.length c1_1) := (blk_cell hn 1).trans rfl
  have d2 : W.cell? ⟨w.heap.size + 1, 2, none⟩ = some (.slice A1_2 l1_2.length c1_2) := (blk_cell hn 2).trans rfl
  have d3 : W.cell? ⟨w.heap.size + 1, 3, none⟩ = some (.int .i64 a1_3) := (blk_cell hn 3).trans rfl
  have d4 : W.cell? ⟨w.heap.size + 1, 4, none⟩ = some (.int .i64 a1_4) := (blk_cell hn 4).trans rfl
  have d5 : W.cell? ⟨w.heap.size + 1, 5, none⟩ = some (.int .i64 a1_5) := (blk_cell hn 5).trans rfl
  clear hn hsz
  generalize w.heap.size + 1 = ob at d0 d1 d2 d3 d4 d5 ⊢
  by_cases x1 : l1_0.length = 0
  · have q1 : ((l1_0.length : Int) == 0) = true := beq_iff_eq.mpr (by omega)
    obtain rfl : r0 = 9 := by rw [HF1.out, if_pos x1]
    clear x1
    go_wp2
    go_ret
    exact ⟨rfl, HB.out⟩
  have q1 : ((l1_0.length : Int) == 0) = false := beq_eq_false_iff_ne.mpr (by omega)
  by_cases x2 : 4 < l1_0.length
  · have q2 : decide (4 < (l1_0.length : Int)) = true := decide_eq_true (by omega)
    obtain rfl : r0 = 8 := by rw [HF1.out, if_neg x1, if_pos x2]
    clear x1 x2
    go_wp2
    go_ret
    exact ⟨rfl, HB.out⟩
  have q2 : decide (4 < (l1_0.length : Int)) = false := decide_eq_false (by omega)
  by_cases x3 : l1_1.length = l1_0.length
  case neg =>
    have q3 : ((l1_1.length : Int) != (l1_0.length : Int)) = true := bne_iff_ne.mpr (by omega)
    obtain rfl : r0 = 10 := by rw [HF1.out, if_neg x1, if_neg x2, if_pos (Or.inl x3)]
    clear x1 x2 x3
    go_wp2
    go_ret
    exact ⟨rfl, HB.out⟩
  have q3 : ((l1_1.length : Int) != (l1_0.length : Int)) = false := bne_eq_false_iff_eq.mpr (by omega)
  by_cases x4 : l1_2.length = l1_0.length
  case neg =>
    have q4 : ((l1_2.length : Int) != (l1_0.length : Int)) = true := bne_iff_ne.mpr (by omega)
    obtain rfl : r0 = 10 := by rw [HF1.out, if_neg x1, if_neg x2, if_pos (Or.inr x4)]
    clear x1 x2 x3 x4
    go_wp2
    go_ret
    exact ⟨rfl, HB.out⟩
  have q4 : ((l1_2.length : Int) != (l1_0.length : Int)) = false := bne_eq_false_iff_eq.mpr (by omega)
  have HF2 : Aside0 (r0 = if b1 = true then 1 else if b2 = true ∨ b3 = true then 2 else if b4 = true ∨ a1_3 > a1_4 ∨ a1_5 < 1 ∨ a1_5 > 256 then 2 else if prodU l1_1 > 4096 then 8 else 0) := ⟨by rw [HF1.out, if_neg x1, if_neg x2, if_neg (by omega)]⟩
  have HX := Aside0.mk (show l1_1.length ≤ 4 by omega)
  have HX2 := Aside0.mk (show l1_0.length ≤ 4 ∧ l1_2.length ≤ 4 by omega)
  clear HF1 x1 x2 x3 x4
  replace HU := Aside0.mk (HU.out HX.out)
  replace HC := Aside0.mk (HC.out HX2.out.2)
  replace HL := Aside0.mk (HL.out HX2.out.1)
  cases b1
  case true =>
    obtain rfl : r0 = 1 := by rw [HF2.out, if_pos rfl]
    go_wp2_with (go_at_call 45; refine (HL.out _ _ dt HB.out).mono ?_; rintro e w2 ⟨rfl, hb⟩)
    go_ret
    exact ⟨rfl, below_step HB.out hb⟩
  have HF3 : Aside0 (r0 = if b2 = true ∨ b3 = true then 2 else if b4 = true ∨ a1_3 > a1_4 ∨ a1_5 < 1 ∨ a1_5 > 256 then 2 else if prodU l1_1 > 4096 then 8 else 0) := ⟨by rw [HF2.out, if_neg (by decide)]⟩
  clear HF2
  go_upto_region 10 with (go_at_call 45; refine (HL.out _ _ dt HB.out).mono ?_; rintro e w2 ⟨rfl, hb⟩; replace HB := Aside0.mk (below_step HB.out hb); replace dt := pw_cell_below hb dt; replace d0 := pw_cell_below hb d0; replace d1 := pw_cell_below hb d1; replace d2 := pw_cell_below hb d2; replace d3 := pw_cell_below hb d3; replace d4 := pw_cell_below hb d4; replace d5 := pw_cell_below hb d5;  clear hb)
  cases b2
  case true =>
    obtain rfl : r0 = 2 := by rw [HF3.out, if_pos (Or.inl rfl)]
    refine start_ (n := 11) (S := fun w' => w'.cell? ⟨ob, 0, none⟩ = some (.slice A1_0 l1_0.length c1_0) ∧ w'.cell? ⟨ob, 1, none⟩ = some (.slice A1_1 l1_1.length c1_1) ∧ w'.cell? ⟨ob, 2, none⟩ = some (.slice A1_2 l1_2.length c1_2) ∧ w'.cell? ⟨ob, 3, none⟩ = some (.int .i64 a1_3) ∧ w'.cell? ⟨ob, 4, none⟩ = some (.int .i64 a1_4) ∧ w'.cell? ⟨ob, 5, none⟩ = some (.int .i64 a1_5)) (ds := []) #[false, false, false, false, false, false, false, false, false, false, false] (by kernel_rfl) rfl rfl ⟨d0, d1, d2, d3, d4, d5⟩ (fun hHeld => ?_)
    replace HB := Aside0.mk (below_drew1 HB.out)
    replace d0 : (World.drew _).cell? _ = _ := d0
    replace d1 : (World.drew _).cell? _ = _ := d1
    replace d2 : (World.drew _).cell? _ = _ := d2
    replace d3 : (World.drew _).cell? _ = _ := d3
    replace d4 : (World.drew _).cell? _ = _ := d4
    replace d5 : (World.drew _).cell? _ = _ := d5
    generalize World.drew _ = wd at d0 d1 d2 d3 d4 d5 HB hHeld ⊢
    refine pure_ (i := 0) (N := some 43) (v := ?_) (a' := ?_) #[true, false, false, false, false, false, false, false, false, false, false] rfl rfl (by kernel_rfl) (fun _ _ _ h => h) (Or.inl ⟨by rfl, ?_⟩) ?_ ?_
    rotate_left
    · intro w'
      go_simp
      with_reducible rfl
    rotate_left
    · simp only [Act.put, List.setIfInBounds_toArray, List.set_cons_zero, List.set_cons_succ, i64_w, i32_w]
      rfl
    refine take_ (i := 1) (N := some 44) (v := ?_) (a' := ?_) #[true, true, false, false, false, false, false, false, false, false, false] rfl rfl (by kernel_rfl) (fun _ _ _ h => h) (Or.inl ⟨by rfl, ?_⟩) hHeld ?_ ?_
    rotate_left
    · rintro w' ⟨s0, s1, s2, s3, s4, s5⟩
      go_simp
      with_reducible rfl
    rotate_left
    · simp only [Act.put, List.setIfInBounds_toArray, List.set_cons_zero, List.set_cons_succ, i64_w, i32_w]
      rfl
    refine one_ (i := 2) (N := some 45) #[true, true, true, false, false, false, false, false, false, false, false] rfl rfl (by kernel_rfl) (by decide) (fun K hK => ?_)
    refine call_ 50 #[.int .i64 64] (by rfl) rfl (by go_simp) ?_
    refine (blend_outside.calls _ _).mono ?_
    rintro e' wz1 ⟨bm, rfl, hbm, hb⟩
    refine ⟨_, rfl, ?_⟩
    replace d0 := pw_cell_below hb d0
    replace d1 := pw_cell_below hb d1
    replace d2 := pw_cell_below hb d2
    replace d3 := pw_cell_below hb d3
    replace d4 := pw_cell_below hb d4
    replace d5 := pw_cell_below hb d5
    replace HB := Aside0.mk (below_step HB.out hb)
    clear hb
    refine hK.out _ _ ⟨d0, d1, d2, d3, d4, d5⟩ (fun hHeld => ?_)
    clear hK K
    refine norm_ (a' := ?_) ?_ ?_
    rotate_left
    · show Act.put _ (some 45) _ = _
      simp only [Act.put, List.setIfInBounds_toArray, List.set_cons_zero, List.set_cons_succ, i64_w, i32_w]
      rfl
    refine one_ (i := 3) (N := some 46) #[true, true, true, true, false, false, false, false, false, false, false] rfl rfl (by kernel_rfl) (by decide) (fun K hK => ?_)
    refine call_ 49 #[.slice A1_1 l1_1.length c1_1, .func (.func 70) #[] #[.pointer (some ⟨bm, 0, none⟩)]] (by rfl) rfl (by go_simp) ?_
    refine (HU.out _ _ hbm HB.out).mono ?_
    rintro e' wz2 ⟨rfl, hb⟩
    refine ⟨_, rfl, ?_⟩
    replace d0 := pw_cell_below hb d0
    replace d1 := pw_cell_below hb d1
    replace d2 := pw_cell_below hb d2
    replace d3 := pw_cell_below hb d3
    replace d4 := pw_cell_below hb d4
    replace d5 := pw_cell_below hb d5
    replace HB := Aside0.mk (below_step HB.out hb)
    clear hb
    refine hK.out _ _ ⟨d0, d1, d2, d3, d4, d5⟩ (fun hHeld => ?_)
    clear hK K
    refine norm_ (a' := ?_) ?_ ?_
    rotate_left
    · show Act.put _ (some 46) _ = _
      simp only [Act.put, List.setIfInBounds_toArray, List.set_cons_zero, List.set_cons_succ, i64_w, i32_w]
      rfl
    refine pure_ (i := 4) (N := some 47) (v := ?_) (a' := ?_) #[true, true, true, true, true, false, false, false, false, false, false] rfl rfl (by kernel_rfl) (fun _ _ _ h => h) (Or.inl ⟨by rfl, ?_⟩) ?_ ?_
    rotate_left
    · intro w'
      go_simp
      with_reducible rfl
    rotate_left
    · simp only [Act.put, List.setIfInBounds_toArray, List.set_cons_zero, List.set_cons_succ, i64_w, i32_w]
      rfl
    refine pure_ (i := 5) (N := some 48) (v := undef) (a' := ?_) #[true, true, true, true, true, true, false, false, false, false, false] rfl rfl (by kernel_rfl) (fun _ _ _ h => h) (Or.inr ⟨by rfl, rfl⟩) ?_ ?_
    rotate_left
    · simp only [Act.put, List.setIfInBounds_toArray, List.set_cons_zero, List.set_cons_succ, i64_w, i32_w]
      rfl
    refine pure_ (i := 6) (N := some 49) (v := undef) (a' := ?_) #[true, true, true, true, true, true, true, false, false, false, false] rfl rfl (by kernel_rfl) (fun _ _ _ h => h) (Or.inr ⟨by rfl, rfl⟩) ?_ ?_
    rotate_left
    · simp only [Act.put, List.setIfInBounds_toArray, List.set_cons_zero, List.set_cons_succ, i64_w, i32_w]
      rfl
    refine pure_ (i := 7) (N := some 50) (v := undef) (a' := ?_) #[true, true, true, true, true, true, true, true, false, false, false] rfl rfl (by kernel_rfl) (fun _ _ _ h => h) (Or.inr ⟨by rfl, rfl⟩) ?_ ?_
    rotate_left
    · simp only [Act.put, List.setIfInBounds_toArray, List.set_cons_zero, List.set_cons_succ, i64_w, i32_w]
      rfl
    refine pure_ (i := 8) (N := some 51) (v := undef) (a' := ?_) #[true, true, true, true, true, true, true, true, true, false, false] rfl rfl (by kernel_rfl) (fun _ _ _ h => h) (Or.inr ⟨by rfl, rfl⟩) ?_ ?_
    rotate_left
    · simp only [Act.put, List.setIfInBounds_toArray, List.set_cons_zero, List.set_cons_succ, i64_w, i32_w]
      rfl
    refine pure_ (i := 9) (N := some 52) (v := ?_) (a' := ?_) #[true, true, true, true, true, true, true, true, true, true, false] rfl rfl (by kernel_rfl) (fun _ _ _ h => h) (Or.inl ⟨by rfl, ?_⟩) ?_ ?_
    rotate_left
    · intro w'
      go_simp
      with_reducible rfl
    rotate_left
    · simp only [Act.put, List.setIfInBounds_toArray, List.set_cons_zero, List.set_cons_succ, i64_w, i32_w]
      rfl
    refine pure_ (i := 10) (N := some 42) (v := ?_) (a' := ?_) #[true, true, true, true, true, true, true, true, true, true, true] rfl rfl (by kernel_rfl) (fun _ _ _ h => h) (Or.inl ⟨by rfl, ?_⟩) ?_ ?_
    rotate_left
    · intro w'
      go_simp
      with_reducible rfl
    rotate_left
    · simp only [Act.put, List.setIfInBounds_toArray, List.set_cons_zero, List.set_cons_succ, i64_w, i32_w]
      rfl
    refine done_ (by kernel_rfl) ?_
    go_wp2
    go_ret
    exact ⟨rfl, HB.out⟩
  cases b3
  case true =>
    obtain rfl : r0 = 2 := by rw [HF3.out, if_pos (Or.inr rfl)]
    refine start_ (n := 11) (S := fun w' => w'.cell? ⟨ob, 0, none⟩ = some (.slice A1_0 l1_0.length c1_0) ∧ w'.cell? ⟨ob, 1, none⟩ = some (.slice A1_1 l1_1.length c1_1) ∧ w'.cell? ⟨ob, 2, none⟩ = some (.slice A1_2 l1_2.length c1_2) ∧ w'.cell? ⟨ob, 3, none⟩ = some (.int .i64 a1_3) ∧ w'.cell? ⟨ob, 4, none⟩ = some (.int .i64 a1_4) ∧ w'.cell? ⟨ob, 5, none⟩ = some (.int .i64 a1_5)) (ds := []) #[false, false, false, false, false, false, false, false, false, false, false] (by kernel_rfl) rfl rfl ⟨d0, d1, d2, d3, d4, d5⟩ (fun hHeld => ?_)
    replace HB := Aside0.mk (below_drew1 HB.out)
    replace d0 : (World.drew _).cell? _ = _ := d0
    replace d1 : (World.drew _).cell? _ = _ := d1
    replace d2 : (World.drew _).cell? _ = _ := d2
    replace d3 : (World.drew _).cell? _ = _ := d3
    replace d4 : (World.drew _).cell? _ = _ := d4
    replace d5 : (World.drew _).cell? _ = _ := d5
    generalize World.drew _ = wd at d0 d1 d2 d3 d4 d5 HB hHeld ⊢
    refine pure_ (i := 0) (N := some 43) (v := ?_) (a' := ?_) #[true, false, false, false, false, false, false, false, false, false, false] rfl rfl (by kernel_rfl) (fun _ _ _ h => h) (Or.inl ⟨by rfl, ?_⟩) ?_ ?_
    rotate_left
    · intro w'
      go_simp
      with_reducible rfl
    rotate_left
    · simp only [Act.put, List.setIfInBounds_toArray, List.set_cons_zero, List.set_cons_succ, i64_w, i32_w]
      rfl
    refine take_ (i := 1) (N := some 44) (v := ?_) (a' := ?_) #[true, true, false, false, false, false, false, false, false, false, false] rfl rfl (by kernel_rfl) (fun _ _ _ h => h) (Or.inl ⟨by rfl, ?_⟩) hHeld ?_ ?_
    rotate_left
    · rintro w' ⟨s0, s1, s2, s3, s4, s5⟩
      go_simp
      with_reducible rfl
    rotate_left
    · simp only [Act.put, List.setIfInBounds_toArray, List.set_cons_zero, List.set_cons_succ, i64_w, i32_w]
      rfl
    refine one_ (i := 2) (N := some 45) #[true, true, true, false, false, false, false, false, false, false, false] rfl rfl (by kernel_rfl) (by decide) (fun K hK => ?_)
    refine call_ 50 #[.int .i64 64] (by rfl) rfl (by go_simp) ?_
    refine (blend_outside.calls _ _).mono ?_
    rintro e' wz3 ⟨bm, rfl, hbm, hb⟩
    refine ⟨_, rfl, ?_⟩
    replace d0 := pw_cell_below hb d0
    replace d1 := pw_cell_below hb d1
    replace d2 := pw_cell_below hb d2
    replace d3 := pw_cell_below hb d3
    replace d4 := pw_cell_below hb d4
    replace d5 := pw_cell_below hb d5
    replace HB := Aside0.mk (below_step HB.out hb)
    clear hb
    refine hK.out _ _ ⟨d0, d1, d2, d3, d4, d5⟩ (fun hHeld => ?_)
    clear hK K
    refine norm_ (a' := ?_) ?_ ?_
    rotate_left
    · show Act.put _ (some 45) _ = _
      simp only [Act.put, List.setIfInBounds_toArray, List.set_cons_zero, List.set_cons_succ, i64_w, i32_w]
      rfl
    refine one_ (i := 3) (N := some 46) #[true, true, true, true, false, false, false, false, false, false, false] rfl rfl (by kernel_rfl) (by decide) (fun K hK => ?_)
    refine call_ 49 #[.slice A1_1 l1_1.length c1_1, .func (.func 70) #[] #[.pointer (some ⟨bm, 0, none⟩)]] (by rfl) rfl (by go_simp) ?_
    refine (HU.out _ _ hbm HB.out).mono ?_
    rintro e' wz4 ⟨rfl, hb⟩
    refine ⟨_, rfl, ?_⟩
    replace d0 := pw_cell_below hb d0
    replace d1 := pw_cell_below hb d1
    replace d2 := pw_cell_below hb d2
    replace d3 := pw_cell_below hb d3
    replace d4 := pw_cell_below hb d4
    replace d5 := pw_cell_below hb d5
    replace HB := Aside0.mk (below_step HB.out hb)
    clear hb
    refine hK.out _ _ ⟨d0, d1, d2, d3, d4, d5⟩ (fun hHeld => ?_)
    clear hK K
    refine norm_ (a' := ?_) ?_ ?_
    rotate_left
    · show Act.put _ (some 46) _ = _
      simp only [Act.put, List.setIfInBounds_toArray, List.set_cons_zero, List.set_cons_succ, i64_w, i32_w]
      rfl
    refine pure_ (i := 4) (N := some 47) (v := ?_) (a' := ?_) #[true, true, true, true, true, false, false, false, false, false, false] rfl rfl (by kernel_rfl) (fun _ _ _ h => h) (Or.inl ⟨by rfl, ?_⟩) ?_ ?_
    rotate_left
    · intro w'
      go_simp
      with_reducible rfl
    rotate_left
    · simp only [Act.put, List.setIfInBounds_toArray, List.set_cons_zero, List.set_cons_succ, i64_w, i32_w]
      rfl
    refine pure_ (i := 5) (N := some 48) (v := ?_) (a' := ?_) #[true, true, true, true, true, true, false, false, false, false, false] rfl rfl (by kernel_rfl) (fun _ _ _ h => h) (Or.inl ⟨by rfl, ?_⟩) ?_ ?_
    rotate_left
    · intro w'
      go_simp
      with_reducible rfl
    rotate_left
    · simp only [Act.put, List.setIfInBounds_toArray, List.set_cons_zero, List.set_cons_succ, i64_w, i32_w]
      rfl
    refine take_ (i := 6) (N := some 49) (v := ?_) (a' := ?_) #[true, true, true, true, true, true, true, false, false, false, false] rfl rfl (by kernel_rfl) (fun _ _ _ h => h) (Or.inl ⟨by rfl, ?_⟩) hHeld ?_ ?_
    rotate_left
    · rintro w' ⟨s0, s1, s2, s3, s4, s5⟩
      go_simp
      with_reducible rfl
    rotate_left
    · simp only [Act.put, List.setIfInBounds_toArray, List.set_cons_zero, List.set_cons_succ, i64_w, i32_w]
      rfl
    refine one_ (i := 7) (N := some 50) #[true, true, true, true, true, true, true, true, false, false, false] rfl rfl (by kernel_rfl) (by decide) (fun K hK => ?_)
    refine call_ 50 #[.int .i64 1000000] (by rfl) rfl (by go_simp) ?_
    refine (blend_outside.calls _ _).mono ?_
    rintro e' wz5 ⟨bm, rfl, hbm, hb⟩
    refine ⟨_, rfl, ?_⟩
    replace d0 := pw_cell_below hb d0
    replace d1 := pw_cell_below hb d1
    replace d2 := pw_cell_below hb d2
    replace d3 := pw_cell_below hb d3
    replace d4 := pw_cell_below hb d4
    replace d5 := pw_cell_below hb d5
    replace HB := Aside0.mk (below_step HB.out hb)
    clear hb
    refine hK.out _ _ ⟨d0, d1, d2, d3, d4, d5⟩ (fun hHeld => ?_)
    clear hK K
    refine norm_ (a' := ?_) ?_ ?_
    rotate_left
    · show Act.put _ (some 50) _ = _
      simp only [Act.put, List.setIfInBounds_toArray, List.set_cons_zero, List.set_cons_succ, i64_w, i32_w]
      rfl
    refine one_ (i := 8) (N := some 51) #[true, true, true, true, true, true, true, true, true, false, false] rfl rfl (by kernel_rfl) (by decide) (fun K hK => ?_)
    refine call_ 49 #[.slice A1_2 l1_2.length c1_2, .func (.func 70) #[] #[.pointer (some ⟨bm, 0, none⟩)]] (by rfl) rfl (by go_simp) ?_
    refine (HC.out _ _ hbm HB.out).mono ?_
    rintro e' wz6 ⟨rfl, hb⟩
    refine ⟨_, rfl, ?_⟩
    replace d0 := pw_cell_below hb d0
    replace d1 := pw_cell_below hb d1
    replace d2 := pw_cell_below hb d2
    replace d3 := pw_cell_below hb d3
    replace d4 := pw_cell_below hb d4
    replace d5 := pw_cell_below hb d5
    replace HB := Aside0.mk (below_step HB.out hb)
    clear hb
    refine hK.out _ _ ⟨d0, d1, d2, d3, d4, d5⟩ (fun hHeld => ?_)
    clear hK K
    refine norm_ (a' := ?_) ?_ ?_
    rotate_left
    · show Act.put _ (some 51) _ = _
      simp only [Act.put, List.setIfInBounds_toArray, List.set_cons_zero, List.set_cons_succ, i64_w, i32_w]
      rfl
    refine pure_ (i := 9) (N := some 52) (v := ?_) (a' := ?_) #[true, true, true, true, true, true, true, true, true, true, false] rfl rfl (by kernel_rfl) (fun _ _ _ h => h) (Or.inl ⟨by rfl, ?_⟩) ?_ ?_
    rotate_left
    · intro w'
      go_simp
      with_reducible rfl
    rotate_left
    · simp only [Act.put, List.setIfInBounds_toArray, List.set_cons_zero, List.set_cons_succ, i64_w, i32_w]
      rfl
    refine pure_ (i := 10) (N := some 42) (v := ?_) (a' := ?_) #[true, true, true, true, true, true, true, true, true, true, true] rfl rfl (by kernel_rfl) (fun _ _ _ h => h) (Or.inl ⟨by rfl, ?_⟩) ?_ ?_
    rotate_left
    · intro w'
      go_simp
      with_reducible rfl
    rotate_left
    · simp only [Act.put, List.setIfInBounds_toArray, List.set_cons_zero, List.set_cons_succ, i64_w, i32_w]
      rfl
    refine done_ (by kernel_rfl) ?_
    go_wp2
    go_ret
    exact ⟨rfl, HB.out⟩
  refine start_ (n := 11) (S := fun w' => w'.cell? ⟨ob, 0, none⟩ = some (.slice A1_0 l1_0.length c1_0) ∧ w'.cell? ⟨ob, 1, none⟩ = some (.slice A1_1 l1_1.length c1_1) ∧ w'.cell? ⟨ob, 2, none⟩ = some (.slice A1_2 l1_2.length c1_2) ∧ w'.cell? ⟨ob, 3, none⟩ = some (.int .i64 a1_3) ∧ w'.cell? ⟨ob, 4, none⟩ = some (.int .i64 a1_4) ∧ w'.cell? ⟨ob, 5, none⟩ = some (.int .i64 a1_5)) (ds := []) #[false, false, false, false, false, false, false, false, false, false, false] (by kernel_rfl) rfl rfl ⟨d0, d1, d2, d3, d4, d5⟩ (fun hHeld => ?_)
  replace HB := Aside0.mk (below_drew1 HB.out)
  replace d0 : (World.drew _).cell? _ = _ := d0
  replace d1 : (World.drew _).cell? _ = _ := d1
  replace d2 : (World.drew _).cell? _ = _ := d2
  replace d3 : (World.drew _).cell? _ = _ := d3
  replace d4 : (World.drew _).cell? _ = _ := d4
  replace d5 : (World.drew _).cell? _ = _ := d5
  generalize World.drew _ = wd at d0 d1 d2 d3 d4 d5 HB hHeld ⊢
  refine pure_ (i := 0) (N := some 43) (v := ?_) (a' := ?_) #[true, false, false, false, false, false, false, false, false, false, false] rfl rfl (by kernel_rfl) (fun _ _ _ h => h) (Or.inl ⟨by rfl, ?_⟩) ?_ ?_
  rotate_left
  · intro w'
    go_simp
    with_reducible rfl
  rotate_left
  · simp only [Act.put, List.setIfInBounds_toArray, List.set_cons_zero, List.set_cons_succ, i64_w, i32_w]
    rfl
  refine take_ (i := 1) (N := some 44) (v := ?_) (a' := ?_) #[true, true, false, false, false, false, false, false, false, false, false] rfl rfl (by kernel_rfl) (fun _ _ _ h => h) (Or.inl ⟨by rfl, ?_⟩) hHeld ?_ ?_
  rotate_left
  · rintro w' ⟨s0, s1, s2, s3, s4, s5⟩
    go_simp
    with_reducible rfl
  rotate_left
  · simp only [Act.put, List.setIfInBounds_toArray, List.set_cons_zero, List.set_cons_succ, i64_w, i32_w]
    rfl
  refine one_ (i := 2) (N := some 45) #[true, true, true, false, false, false, false, false, false, false, false] rfl rfl (by kernel_rfl) (by decide) (fun K hK => ?_)
  refine call_ 50 #[.int .i64 64] (by rfl) rfl (by go_simp) ?_
  refine (blend_outside.calls _ _).mono ?_
  rintro e' wz7 ⟨bm, rfl, hbm, hb⟩
  refine ⟨_, rfl, ?_⟩
  replace d0 := pw_cell_below hb d0
  replace d1 := pw_cell_below hb d1
  replace d2 := pw_cell_below hb d2
  replace d3 := pw_cell_below hb d3
  replace d4 := pw_cell_below hb d4
  replace d5 := pw_cell_below hb d5
  replace HB := Aside0.mk (below_step HB.out hb)
  clear hb
  refine hK.out _ _ ⟨d0, d1, d2, d3, d4, d5⟩ (fun hHeld => ?_)
  clear hK K
  refine norm_ (a' := ?_) ?_ ?_
  rotate_left
  · show Act.put _ (some 45) _ = _
    simp only [Act.put, List.setIfInBounds_toArray, List.set_cons_zero, List.set_cons_succ, i64_w, i32_w]
    rfl
  refine one_ (i := 3) (N := some 46) #[true, true, true, true, false, false, false, false, false, false, false] rfl rfl (by kernel_rfl) (by decide) (fun K hK => ?_)
  refine call_ 49 #[.slice A1_1 l1_1.length c1_1, .func (.func 70) #[] #[.pointer (some ⟨bm, 0, none⟩)]] (by rfl) rfl (by go_simp) ?_
  refine (HU.out _ _ hbm HB.out).mono ?_
  rintro e' wz8 ⟨rfl, hb⟩
  refine ⟨_, rfl, ?_⟩
  replace d0 := pw_cell_below hb d0
  replace d1 := pw_cell_below hb d1
  replace d2 := pw_cell_below hb d2
  replace d3 := pw_cell_below hb d3
  replace d4 := pw_cell_below hb d4
  replace d5 := pw_cell_below hb d5
  replace HB := Aside0.mk (below_step HB.out hb)
  clear hb
  refine hK.out _ _ ⟨d0, d1, d2, d3, d4, d5⟩ (fun hHeld => ?_)
  clear hK K
  refine norm_ (a' := ?_) ?_ ?_
  rotate_left
  · show Act.put _ (some 46) _ = _
    simp only [Act.put, List.setIfInBounds_toArray, List.set_cons_zero, List.set_cons_succ, i64_w, i32_w]
    rfl
  refine pure_ (i := 4) (N := some 47) (v := ?_) (a' := ?_) #[true, true, true, true, true, false, false, false, false, false, false] rfl rfl (by kernel_rfl) (fun _ _ _ h => h) (Or.inl ⟨by rfl, ?_⟩) ?_ ?_
  rotate_left
  · intro w'
    go_simp
    with_reducible rfl
  rotate_left
  · simp only [Act.put, List.setIfInBounds_toArray, List.set_cons_zero, List.set_cons_succ, i64_w, i32_w]
    rfl
  refine pure_ (i := 5) (N := some 48) (v := ?_) (a' := ?_) #[true, true, true, true, true, true, false, false, false, false, false] rfl rfl (by kernel_rfl) (fun _ _ _ h => h) (Or.inl ⟨by rfl, ?_⟩) ?_ ?_
  rotate_left
  · intro w'
    go_simp
    with_reducible rfl
  rotate_left
  · simp only [Act.put, List.setIfInBounds_toArray, List.set_cons_zero, List.set_cons_succ, i64_w, i32_w]
    rfl
  refine take_ (i := 6) (N := some 49) (v := ?_) (a' := ?_) #[true, true, true, true, true, true, true, false, false, false, false] rfl rfl (by kernel_rfl) (fun _ _ _ h => h) (Or.inl ⟨by rfl, ?_⟩) hHeld ?_ ?_
  rotate_left
  · rintro w' ⟨s0, s1, s2, s3, s4, s5⟩
    go_simp
    with_reducible rfl
  rotate_left
  · simp only [Act.put, List.setIfInBounds_toArray, List.set_cons_zero, List.set_cons_succ, i64_w, i32_w]
    rfl
  refine one_ (i := 7) (N := some 50) #[true, true, true, true, true, true, true, true, false, false, false] rfl rfl (by kernel_rfl) (by decide) (fun K hK => ?_)
  refine call_ 50 #[.int .i64 1000000] (by rfl) rfl (by go_simp) ?_
  refine (blend_outside.calls _ _).mono ?_
  rintro e' wz9 ⟨bm, rfl, hbm, hb⟩
  refine ⟨_, rfl, ?_⟩
  replace d0 := pw_cell_below hb d0
  replace d1 := pw_cell_below hb d1
  replace d2 := pw_cell_below hb d2
  replace d3 := pw_cell_below hb d3
  replace d4 := pw_cell_below hb d4
  replace d5 := pw_cell_below hb d5
  replace HB := Aside0.mk (below_step HB.out hb)
  clear hb
  refine hK.out _ _ ⟨d0, d1, d2, d3, d4, d5⟩ (fun hHeld => ?_)
  clear hK K
  refine norm_ (a' := ?_) ?_ ?_
  rotate_left
  · show Act.put _ (some 50) _ = _
    simp only [Act.put, List.setIfInBounds_toArray, List.set_cons_zero, List.set_cons_succ, i64_w, i32_w]
    rfl
  refine one_ (i := 8) (N := some 51) #[true, true, true, true, true, true, true, true, true, false, false] rfl rfl (by kernel_rfl) (by decide) (fun K hK => ?_)
  refine call_ 49 #[.slice A1_2 l1_2.length c1_2, .func (.func 70) #[] #[.pointer (some ⟨bm, 0, none⟩)]] (by rfl) rfl (by go_simp) ?_
  refine (HC.out _ _ hbm HB.out).mono ?_
  rintro e' wz10 ⟨rfl, hb⟩
  refine ⟨_, rfl, ?_⟩
  replace d0 := pw_cell_below hb d0
  replace d1 := pw_cell_below hb d1
  replace d2 := pw_cell_below hb d2
  replace d3 := pw_cell_below hb d3
  replace d4 := pw_cell_below hb d4
  replace d5 := pw_cell_below hb d5
  replace HB := Aside0.mk (below_step HB.out hb)
  clear hb
  refine hK.out _ _ ⟨d0, d1, d2, d3, d4, d5⟩ (fun hHeld => ?_)
  clear hK K
  refine norm_ (a' := ?_) ?_ ?_
  rotate_left
  · show Act.put _ (some 51) _ = _
    simp only [Act.put, List.setIfInBounds_toArray, List.set_cons_zero, List.set_cons_succ, i64_w, i32_w]
    rfl
  refine pure_ (i := 9) (N := some 52) (v := ?_) (a' := ?_) #[true, true, true, true, true, true, true, true, true, true, false] rfl rfl (by kernel_rfl) (fun _ _ _ h => h) (Or.inl ⟨by rfl, ?_⟩) ?_ ?_
  rotate_left
  · intro w'
    go_simp
    with_reducible rfl
  rotate_left
  · simp only [Act.put, List.setIfInBounds_toArray, List.set_cons_zero, List.set_cons_succ, i64_w, i32_w]
    rfl
  refine pure_ (i := 10) (N := some 42) (v := ?_) (a' := ?_) #[true, true, true, true, true, true, true, true, true, true, true] rfl rfl (by kernel_rfl) (fun _ _ _ h => h) (Or.inl ⟨by rfl, ?_⟩) ?_ ?_
  rotate_left
  · intro w'
    go_simp
    with_reducible rfl
  rotate_left
  · simp only [Act.put, List.setIfInBounds_toArray, List.set_cons_zero, List.set_cons_succ, i64_w, i32_w]
    rfl
  refine done_ (by kernel_rfl) ?_
  have HF4 : Aside0 (r0 = if b4 = true ∨ a1_3 > a1_4 ∨ a1_5 < 1 ∨ a1_5 > 256 then 2 else if prodU l1_1 > 4096 then 8 else 0) := ⟨by rw [HF3.out, if_neg (by decide)]⟩
  clear HF3 HU HC
  go_upto_region 12 with fail
  cases b4
  case true =>
    obtain rfl : r0 = 2 := by rw [HF4.out, if_pos (Or.inl rfl)]
    refine start_ (n := 25) (S := fun w' => w'.cell? ⟨ob, 0, none⟩ = some (.slice A1_0 l1_0.length c1_0) ∧ w'.cell? ⟨ob, 1, none⟩ = some (.slice A1_1 l1_1.length c1_1) ∧ w'.cell? ⟨ob, 2, none⟩ = some (.slice A1_2 l1_2.length c1_2) ∧ w'.cell? ⟨ob, 3, none⟩ = some (.int .i64 a1_3) ∧ w'.cell? ⟨ob, 4, none⟩ = some (.int .i64 a1_4) ∧ w'.cell? ⟨ob, 5, none⟩ = some (.int .i64 a1_5)) (ds := []) #[false, false, false, false, false, false, false, false, false, false, false, false, false, false, false, false, false, false, false, false, false, false, false, false, false] (by kernel_rfl) rfl rfl ⟨d0, d1, d2, d3, d4, d5⟩ (fun hHeld => ?_)
    replace HB := Aside0.mk (below_drew1 HB.out)
    replace d0 : (World.drew _).cell? _ = _ := d0
    replace d1 : (World.drew _).cell? _ = _ := d1
    replace d2 : (World.drew _).cell? _ = _ := d2
    replace d3 : (World.drew _).cell? _ = _ := d3
    replace d4 : (World.drew _).cell? _ = _ := d4
    replace d5 : (World.drew _).cell? _ = _ := d5
    generalize World.drew _ = wd at d0 d1 d2 d3 d4 d5 HB hHeld ⊢
    refine pure_ (i := 0) (N := some 54) (v := ?_) (a' := ?_) #[true, false, false, false, false, false, false, false, false, false, false, false, false, false, false, false, false, false, false, false, false, false, false, false, false] rfl rfl (by kernel_rfl) (fun _ _ _ h => h) (Or.inl ⟨by rfl, ?_⟩) ?_ ?_
    rotate_left
    · intro w'
      go_simp
      with_reducible rfl
    rotate_left
    · simp only [Act.put, List.setIfInBounds_toArray, List.set_cons_zero, List.set_cons_succ, i64_w, i32_w]
      rfl
    refine pure_ (i := 2) (N := some 56) (v := ?_) (a' := ?_) #[true, false, true, false, false, false, false, false, false, false, false, false, false, false, false, false, false, false, false, false, false, false, false, false, false] rfl rfl (by kernel_rfl) (fun _ _ _ h => h) (Or.inl ⟨by rfl, ?_⟩) ?_ ?_
    rotate_left
    · intro w'
      go_simp
      with_reducible rfl
    rotate_left
    · simp only [Act.put, List.setIfInBounds_toArray, List.set_cons_zero, List.set_cons_succ, i64_w, i32_w]
      rfl
    refine take_ (i := 1) (N := some 55) (v := ?_) (a' := ?_) #[true, true, true, false, false, false, false, false, false, false, false, false, false, false, false, false, false, false, false, false, false, false, false, false, false] rfl rfl (by kernel_rfl) (fun _ _ _ h => h) (Or.inl ⟨by rfl, ?_⟩) hHeld ?_ ?_
    rotate_left
    · rintro w' ⟨s0, s1, s2, s3, s4, s5⟩
      go_simp
      with_reducible rfl
    rotate_left
    · simp only [Act.put, List.setIfInBounds_toArray, List.set_cons_zero, List.set_cons_succ, i64_w, i32_w]
      rfl
    refine take_ (i := 3) (N := some 57) (v := ?_) (a' := ?_) #[true, true, true, true, false, false, false, false, false, false, false, false, false, false, false, false, false, false, false, false, false, false, false, false, false] rfl rfl (by kernel_rfl) (fun _ _ _ h => h) (Or.inl ⟨by rfl, ?_⟩) hHeld ?_ ?_
    rotate_left
    · rintro w' ⟨s0, s1, s2, s3, s4, s5⟩
      go_simp
      with_reducible rfl
    rotate_left
    · simp only [Act.put, List.setIfInBounds_toArray, List.set_cons_zero, List.set_cons_succ, i64_w, i32_w]
      rfl
    refine join_ (σ := Nat × Nat) 19 #[true, true, true, true, true, true, false, false, false, false, false, false, false, false, false, false, false, false, false, false, false, false, false, false, false] (fun s => [(58, .slice (some ⟨s.1, 0, none⟩) 2 2), (59, .func (.func 70) #[] #[.pointer (some ⟨s.2, 0, none⟩)])]) (fun s w' => (w'.cell? ⟨ob, 0, none⟩ = some (.slice A1_0 l1_0.length c1_0) ∧ w'.cell? ⟨ob, 1, none⟩ = some (.slice A1_1 l1_1.length c1_1) ∧ w'.cell? ⟨ob, 2, none⟩ = some (.slice A1_2 l1_2.length c1_2) ∧ w'.cell? ⟨ob, 3, none⟩ = some (.int .i64 a1_3) ∧ w'.cell? ⟨ob, 4, none⟩ = some (.int .i64 a1_4) ∧ w'.cell? ⟨ob, 5, none⟩ = some (.int .i64 a1_5)) ∧ w'.cell? ⟨s.1, 0, none⟩ = some (.int .i64 a1_3) ∧ w'.cell? ⟨s.1, 1, none⟩ = some (.int .i64 a1_4) ∧ w'.cell? ⟨s.2, 0, none⟩ = some (.int .i64 10000) ∧ Aside0 (Below w.heap.size w w')) ?_ ?_
    rotate_left
    · intro hCont
      refine two_ (i := 4) (j := 5) (Ni := some 58) (Nj := some 59) #[true, true, true, true, true, false, false, false, false, false, false, false, false, false, false, false, false, false, false, false, false, false, false, false, false] #[true, true, true, true, false, true, false, false, false, false, false, false, false, false, false, false, false, false, false, false, false, false, false, false, false] rfl rfl rfl rfl (by kernel_rfl) (by decide) (by decide) (fun K hK => ?_) (fun K hK => ?_)
      · skip
        refine value_ (w1 := ?_) (v := ?_) (by rfl) rfl ?_ ?_
        rotate_left 2
        · go_simp
          constructor
          · rfl
          · rfl
        have hb : Below wd.heap.size wd (wd.alloc (Obj.cells #[Value.int IntKind.i64 a1_3, Value.int IntKind.i64 a1_4] 3)) := below_alloc (Below.refl _ _) _
        have hs0 : (wd.alloc (Obj.cells #[Value.int IntKind.i64 a1_3, Value.int IntKind.i64 a1_4] 3)).cell? ⟨wd.heap.size, 0, none⟩ = some (.int .i64 a1_3) := by rw [World.cell?_alloc_new]; rfl
        have hs1 : (wd.alloc (Obj.cells #[Value.int IntKind.i64 a1_3, Value.int IntKind.i64 a1_4] 3)).cell? ⟨wd.heap.size, 1, none⟩ = some (.int .i64 a1_4) := by rw [World.cell?_alloc_new]; rfl
        replace d0 := pw_cell_below hb d0
        replace d1 := pw_cell_below hb d1
        replace d2 := pw_cell_below hb d2
        replace d3 := pw_cell_below hb d3
        replace d4 := pw_cell_below hb d4
        replace d5 := pw_cell_below hb d5
        replace HB := Aside0.mk (below_step HB.out hb)
        clear hb
        generalize wd.alloc (Obj.cells #[Value.int IntKind.i64 a1_3, Value.int IntKind.i64 a1_4] 3) = wy at hs0 hs1 d0 d1 d2 d3 d4 d5 HB ⊢
        generalize wd.heap.size = gs at hs0 hs1 ⊢
        refine hK.out _ _ ⟨d0, d1, d2, d3, d4, d5⟩ (fun hHeld => ?_)
        clear hK K
        refine norm_ (a' := ?_) ?_ ?_
        rotate_left
        · show Act.put _ (some 58) _ = _
          simp only [Act.put, List.setIfInBounds_toArray, List.set_cons_zero, List.set_cons_succ, i64_w, i32_w]
          rfl
        refine one_ (i := 5) (N := some 59) #[true, true, true, true, true, true, false, false, false, false, false, false, false, false, false, false, false, false, false, false, false, false, false, false, false] rfl rfl (by kernel_rfl) (by decide) (fun K hK => ?_)
        refine call_ 50 #[.int .i64 10000] (by rfl) rfl (by go_simp) ?_
        refine (blend_outside.calls _ _).mono ?_
        rintro e' wq ⟨bm, rfl, hbm, hb⟩
        refine ⟨_, rfl, ?_⟩
        replace d0 := pw_cell_below hb d0
        replace d1 := pw_cell_below hb d1
        replace d2 := pw_cell_below hb d2
        replace d3 := pw_cell_below hb d3
        replace d4 := pw_cell_below hb d4
        replace d5 := pw_cell_below hb d5
        replace HB := Aside0.mk (below_step HB.out hb)
        replace hs0 := pw_cell_below hb hs0
        replace hs1 := pw_cell_below hb hs1
        clear hb
        refine hK.out _ _ ⟨d0, d1, d2, d3, d4, d5⟩ (fun hHeld => ?_)
        clear hK K
        refine norm_ (a' := ?_) ?_ ?_
        rotate_left
        · show Act.put _ (some 59) _ = _
          simp only [Act.put, List.setIfInBounds_toArray, List.set_cons_zero, List.set_cons_succ, i64_w, i32_w]
          rfl
        exact norm_ (by simp only [putAll, Act.put, List.setIfInBounds_toArray, List.set_cons_zero, List.set_cons_succ]) (hCont (gs, bm) _ ⟨⟨d0, d1, d2, d3, d4, d5⟩, hs0, hs1, hbm, HB⟩)
      · skip
        refine call_ 50 #[.int .i64 10000] (by rfl) rfl (by go_simp) ?_
        refine (blend_outside.calls _ _).mono ?_
        rintro e' wq ⟨bm, rfl, hbm, hb⟩
        refine ⟨_, rfl, ?_⟩
        replace d0 := pw_cell_below hb d0
        replace d1 := pw_cell_below hb d1
        replace d2 := pw_cell_below hb d2
        replace d3 := pw_cell_below hb d3
        replace d4 := pw_cell_below hb d4
        replace d5 := pw_cell_below hb d5
        replace HB := Aside0.mk (below_step HB.out hb)
        clear hb
        refine hK.out _ _ ⟨d0, d1, d2, d3, d4, d5⟩ (fun hHeld => ?_)
        clear hK K
        refine norm_ (a' := ?_) ?_ ?_
        rotate_left
        · show Act.put _ (some 59) _ = _
          simp only [Act.put, List.setIfInBounds_toArray, List.set_cons_zero, List.set_cons_succ, i64_w, i32_w]
          rfl
        refine one_ (i := 4) (N := some 58) #[true, true, true, true, true, true, false, false, false, false, false, false, false, false, false, false, false, false, false, false, false, false, false, false, false] rfl rfl (by kernel_rfl) (by decide) (fun K hK => ?_)
        refine value_ (w1 := ?_) (v := ?_) (by rfl) rfl ?_ ?_
        rotate_left 2
        · go_simp
          constructor
          · rfl
          · rfl
        have hb : Below wq.heap.size wq (wq.alloc (Obj.cells #[Value.int IntKind.i64 a1_3, Value.int IntKind.i64 a1_4] 3)) := below_alloc (Below.refl _ _) _
        have hs0 : (wq.alloc (Obj.cells #[Value.int IntKind.i64 a1_3, Value.int IntKind.i64 a1_4] 3)).cell? ⟨wq.heap.size, 0, none⟩ = some (.int .i64 a1_3) := by rw [World.cell?_alloc_new]; rfl
        have hs1 : (wq.alloc (Obj.cells #[Value.int IntKind.i64 a1_3, Value.int IntKind.i64 a1_4] 3)).cell? ⟨wq.heap.size, 1, none⟩ = some (.int .i64 a1_4) := by rw [World.cell?_alloc_new]; rfl
        replace hbm := pw_cell_below hb hbm
        replace d0 := pw_cell_below hb d0
        replace d1 := pw_cell_below hb d1
        replace d2 := pw_cell_below hb d2
        replace d3 := pw_cell_below hb d3
        replace d4 := pw_cell_below hb d4
        replace d5 := pw_cell_below hb d5
        replace HB := Aside0.mk (below_step HB.out hb)
        clear hb
        generalize wq.alloc (Obj.cells #[Value.int IntKind.i64 a1_3, Value.int IntKind.i64 a1_4] 3) = wy at hs0 hs1 d0 d1 d2 d3 d4 d5 HB hbm ⊢
        generalize wq.heap.size = gs at hs0 hs1 ⊢
        refine hK.out _ _ ⟨d0, d1, d2, d3, d4, d5⟩ (fun hHeld => ?_)
        clear hK K
        refine norm_ (a' := ?_) ?_ ?_
        rotate_left
        · show Act.put _ (some 58) _ = _
          simp only [Act.put, List.setIfInBounds_toArray, List.set_cons_zero, List.set_cons_succ, i64_w, i32_w]
          rfl
        exact norm_ (by simp only [putAll, Act.put, List.setIfInBounds_toArray, List.set_cons_zero, List.set_cons_succ]) (hCont (gs, bm) _ ⟨⟨d0, d1, d2, d3, d4, d5⟩, hs0, hs1, hbm, HB⟩)
    clear d0 d1 d2 d3 d4 d5 HB hHeld
    rintro ⟨gs, bm⟩ w9 ⟨⟨d0, d1, d2, d3, d4, d5⟩, hs0, hs1, hbm, HB⟩
    dsimp only at hs0 hs1 hbm
    have hHeld : w9.cell? ⟨ob, 0, none⟩ = some (.slice A1_0 l1_0.length c1_0) ∧ w9.cell? ⟨ob, 1, none⟩ = some (.slice A1_1 l1_1.length c1_1) ∧ w9.cell? ⟨ob, 2, none⟩ = some (.slice A1_2 l1_2.length c1_2) ∧ w9.cell? ⟨ob, 3, none⟩ = some (.int .i64 a1_3) ∧ w9.cell? ⟨ob, 4, none⟩ = some (.int .i64 a1_4) ∧ w9.cell? ⟨ob, 5, none⟩ = some (.int .i64 a1_5) := ⟨d0, d1, d2, d3, d4, d5⟩
    refine norm_ (a' := ?_) ?_ ?_
    rotate_left
    · simp only [putAll, Act.put, List.setIfInBounds_toArray, List.set_cons_zero, List.set_cons_succ]
      rfl
    refine one_ (i := 6) (N := some 60) #[true, true, true, true, true, true, true, false, false, false, false, false, false, false, false, false, false, false, false, false, false, false, false, false, false] rfl rfl (by kernel_rfl) (by decide) (fun K hK => ?_)
    refine call_ 49 #[.slice (some ⟨gs, 0, none⟩) 2 2, .func (.func 70) #[] #[.pointer (some ⟨bm, 0, none⟩)]] (by rfl) rfl (by go_simp) ?_
    refine (HS.out _ _ _ hs0 hs1 hbm HB.out).mono ?_
    rintro e' wz11 ⟨rfl, hb⟩
    refine ⟨_, rfl, ?_⟩
    replace d0 := pw_cell_below hb d0
    replace d1 := pw_cell_below hb d1
    replace d2 := pw_cell_below hb d2
    replace d3 := pw_cell_below hb d3
    replace d4 := pw_cell_below hb d4
    replace d5 := pw_cell_below hb d5
    replace HB := Aside0.mk (below_step HB.out hb)
    clear hb
    refine hK.out _ _ ⟨d0, d1, d2, d3, d4, d5⟩ (fun hHeld => ?_)
    clear hK K
    refine norm_ (a' := ?_) ?_ ?_
    rotate_left
    · show Act.put _ (some 60) _ = _
      simp only [Act.put, List.setIfInBounds_toArray, List.set_cons_zero, List.set_cons_succ, i64_w, i32_w]
      rfl
    refine pure_ (i := 7) (N := some 61) (v := ?_) (a' := ?_) #[true, true, true, true, true, true, true, true, false, false, false, false, false, false, false, false, false, false, false, false, false, false, false, false, false] rfl rfl (by kernel_rfl) (fun _ _ _ h => h) (Or.inl ⟨by rfl, ?_⟩) ?_ ?_
    rotate_left
    · intro w'
      go_simp
      with_reducible rfl
    rotate_left
    · simp only [Act.put, List.setIfInBounds_toArray, List.set_cons_zero, List.set_cons_succ, i64_w, i32_w]
      rfl
    refine pure_ (i := 8) (N := some 62) (v := undef) (a' := ?_) #[true, true, true, true, true, true, true, true, true, false, false, false, false, false, false, false, false, false, false, false, false, false, false, false, false] rfl rfl (by kernel_rfl) (fun _ _ _ h => h) (Or.inr ⟨by rfl, rfl⟩) ?_ ?_
    rotate_left
    · simp only [Act.put, List.setIfInBounds_toArray, List.set_cons_zero, List.set_cons_succ, i64_w, i32_w]
      rfl
    refine pure_ (i := 9) (N := some 63) (v := undef) (a' := ?_) #[true, true, true, true, true, true, true, true, true, true, false, false, false, false, false, false, false, false, false, false, false, false, false, false, false] rfl rfl (by kernel_rfl) (fun _ _ _ h => h) (Or.inr ⟨by rfl, rfl⟩) ?_ ?_
    rotate_left
    · simp only [Act.put, List.setIfInBounds_toArray, List.set_cons_zero, List.set_cons_succ, i64_w, i32_w]
      rfl
    refine pure_ (i := 10) (N := some 64) (v := undef) (a' := ?_) #[true, true, true, true, true, true, true, true, true, true, true, false, false, false, false, false, false, false, false, false, false, false, false, false, false] rfl rfl (by kernel_rfl) (fun _ _ _ h => h) (Or.inr ⟨by rfl, rfl⟩) ?_ ?_
    rotate_left
    · simp only [Act.put, List.setIfInBounds_toArray, List.set_cons_zero, List.set_cons_succ, i64_w, i32_w]
      rfl
    refine pure_ (i := 11) (N := some 65) (v := undef) (a' := ?_) #[true, true, true, true, true, true, true, true, true, true, true, true, false, false, false, false, false, false, false, false, false, false, false, false, false] rfl rfl (by kernel_rfl) (fun _ _ _ h => h) (Or.inr ⟨by rfl, rfl⟩) ?_ ?_
    rotate_left
    · simp only [Act.put, List.setIfInBounds_toArray, List.set_cons_zero, List.set_cons_succ, i64_w, i32_w]
      rfl
    refine pure_ (i := 12) (N := some 66) (v := undef) (a' := ?_) #[true, true, true, true, true, true, true, true, true, true, true, true, true, false, false, false, false, false, false, false, false, false, false, false, false] rfl rfl (by kernel_rfl) (fun _ _ _ h => h) (Or.inr ⟨by rfl, rfl⟩) ?_ ?_
    rotate_left
    · simp only [Act.put, List.setIfInBounds_toArray, List.set_cons_zero, List.set_cons_succ, i64_w, i32_w]
      rfl
    refine pure_ (i := 13) (N := some 67) (v := ?_) (a' := ?_) #[true, true, true, true, true, true, true, true, true, true, true, true, true, true, false, false, false, false, false, false, false, false, false, false, false] rfl rfl (by kernel_rfl) (fun _ _ _ h => h) (Or.inl ⟨by rfl, ?_⟩) ?_ ?_
    rotate_left
    · intro w'
      go_simp
      with_reducible rfl
    rotate_left
    · simp only [Act.put, List.setIfInBounds_toArray, List.set_cons_zero, List.set_cons_succ, i64_w, i32_w]
      rfl
    refine pure_ (i := 14) (N := some 68) (v := ?_) (a' := ?_) #[true, true, true, true, true, true, true, true, true, true, true, true, true, true, true, false, false, false, false, false, false, false, false, false, false] rfl rfl (by kernel_rfl) (fun _ _ _ h => h) (Or.inl ⟨by rfl, ?_⟩) ?_ ?_
    rotate_left
    · intro w'
      go_simp
      with_reducible rfl
    rotate_left
    · simp only [Act.put, List.setIfInBounds_toArray, List.set_cons_zero, List.set_cons_succ, i64_w, i32_w]
      rfl
    refine pure_ (i := 15) (N := some 69) (v := undef) (a' := ?_) #[true, true, true, true, true, true, true, true, true, true, true, true, true, true, true, true, false, false, false, false, false, false, false, false, false] rfl rfl (by kernel_rfl) (fun _ _ _ h => h) (Or.inr ⟨by rfl, rfl⟩) ?_ ?_
    rotate_left
    · simp only [Act.put, List.setIfInBounds_toArray, List.set_cons_zero, List.set_cons_succ, i64_w, i32_w]
      rfl
    refine pure_ (i := 16) (N := some 70) (v := undef) (a' := ?_) #[true, true, true, true, true, true, true, true, true, true, true, true, true, true, true, true, true, false, false, false, false, false, false, false, false] rfl rfl (by kernel_rfl) (fun _ _ _ h => h) (Or.inr ⟨by rfl, rfl⟩) ?_ ?_
    rotate_left
    · simp only [Act.put, List.setIfInBounds_toArray, List.set_cons_zero, List.set_cons_succ, i64_w, i32_w]
      rfl
    refine pure_ (i := 17) (N := some 71) (v := undef) (a' := ?_) #[true, true, true, true, true, true, true, true, true, true, true, true, true, true, true, true, true, true, false, false, false, false, false, false, false] rfl rfl (by kernel_rfl) (fun _ _ _ h => h) (Or.inr ⟨by rfl, rfl⟩) ?_ ?_
    rotate_left
    · simp only [Act.put, List.setIfInBounds_toArray, List.set_cons_zero, List.set_cons_succ, i64_w, i32_w]
      rfl
    refine pure_ (i := 18) (N := some 72) (v := ?_) (a' := ?_) #[true, true, true, true, true, true, true, true, true, true, true, true, true, true, true, true, true, true, true, false, false, false, false, false, false] rfl rfl (by kernel_rfl) (fun _ _ _ h => h) (Or.inl ⟨by rfl, ?_⟩) ?_ ?_
    rotate_left
    · intro w'
      go_simp
      with_reducible rfl
    rotate_left
    · simp only [Act.put, List.setIfInBounds_toArray, List.set_cons_zero, List.set_cons_succ, i64_w, i32_w]
      rfl
    refine pure_ (i := 19) (N := some 73) (v := ?_) (a' := ?_) #[true, true, true, true, true, true, true, true, true, true, true, true, true, true, true, true, true, true, true, true, false, false, false, false, false] rfl rfl (by kernel_rfl) (fun _ _ _ h => h) (Or.inl ⟨by rfl, ?_⟩) ?_ ?_
    rotate_left
    · intro w'
      go_simp
      with_reducible rfl
    rotate_left
    · simp only [Act.put, List.setIfInBounds_toArray, List.set_cons_zero, List.set_cons_succ, i64_w, i32_w]
      rfl
    refine pure_ (i := 20) (N := some 74) (v := undef) (a' := ?_) #[true, true, true, true, true, true, true, true, true, true, true, true, true, true, true, true, true, true, true, true, true, false, false, false, false] rfl rfl (by kernel_rfl) (fun _ _ _ h => h) (Or.inr ⟨by rfl, rfl⟩) ?_ ?_
    rotate_left
    · simp only [Act.put, List.setIfInBounds_toArray, List.set_cons_zero, List.set_cons_succ, i64_w, i32_w]
      rfl
    refine pure_ (i := 21) (N := some 75) (v := undef) (a' := ?_) #[true, true, true, true, true, true, true, true, true, true, true, true, true, true, true, true, true, true, true, true, true, true, false, false, false] rfl rfl (by kernel_rfl) (fun _ _ _ h => h) (Or.inr ⟨by rfl, rfl⟩) ?_ ?_
    rotate_left
    · simp only [Act.put, List.setIfInBounds_toArray, List.set_cons_zero, List.set_cons_succ, i64_w, i32_w]
      rfl
    refine pure_ (i := 22) (N := some 76) (v := undef) (a' := ?_) #[true, true, true, true, true, true, true, true, true, true, true, true, true, true, true, true, true, true, true, true, true, true, true, false, false] rfl rfl (by kernel_rfl) (fun _ _ _ h => h) (Or.inr ⟨by rfl, rfl⟩) ?_ ?_
    rotate_left
    · simp only [Act.put, List.setIfInBounds_toArray, List.set_cons_zero, List.set_cons_succ, i64_w, i32_w]
      rfl
    refine pure_ (i := 23) (N := some 77) (v := ?_) (a' := ?_) #[true, true, true, true, true, true, true, true, true, true, true, true, true, true, true, true, true, true, true, true, true, true, true, true, false] rfl rfl (by kernel_rfl) (fun _ _ _ h => h) (Or.inl ⟨by rfl, ?_⟩) ?_ ?_
    rotate_left
    · intro w'
      go_simp
      with_reducible rfl
    rotate_left
    · simp only [Act.put, List.setIfInBounds_toArray, List.set_cons_zero, List.set_cons_succ, i64_w, i32_w]
      rfl
    refine pure_ (i := 24) (N := some 53) (v := ?_) (a' := ?_) #[true, true, true, true, true, true, true, true, true, true, true, true, true, true, true, true, true, true, true, true, true, true, true, true, true] rfl rfl (by kernel_rfl) (fun _ _ _ h => h) (Or.inl ⟨by rfl, ?_⟩) ?_ ?_
    rotate_left
    · intro w'
      go_simp
      with_reducible rfl
    rotate_left
    · simp only [Act.put, List.setIfInBounds_toArray, List.set_cons_zero, List.set_cons_succ, i64_w, i32_w]
      rfl
    refine done_ (by kernel_rfl) ?_
    go_wp2
    go_ret
    exact ⟨rfl, HB.out⟩
  by_cases y1 : a1_3 > a1_4
  case pos =>
    have z1 : decide (a1_4 < a1_3) = true := decide_eq_true y1
    obtain rfl : r0 = 2 := by rw [HF4.out, if_pos (Or.inr (Or.inl y1))]
    clear y1
    refine start_ (n := 25) (S := fun w' => w'.cell? ⟨ob, 0, none⟩ = some (.slice A1_0 l1_0.length c1_0) ∧ w'.cell? ⟨ob, 1, none⟩ = some (.slice A1_1 l1_1.length c1_1) ∧ w'.cell? ⟨ob, 2, none⟩ = some (.slice A1_2 l1_2.length c1_2) ∧ w'.cell? ⟨ob, 3, none⟩ = some (.int .i64 a1_3) ∧ w'.cell? ⟨ob, 4, none⟩ = some (.int .i64 a1_4) ∧ w'.cell? ⟨ob, 5, none⟩ = some (.int .i64 a1_5)) (ds := []) #[false, false, false, false, false, false, false, false, false, false, false, false, false, false, false, false, false, false, false, false, false, false, false, false, false] (by kernel_rfl) rfl rfl ⟨d0, d1, d2, d3, d4, d5⟩ (fun hHeld => ?_)
    replace HB := Aside0.mk (below_drew1 HB.out)
    replace d0 : (World.drew _).cell? _ = _ := d0
    replace d1 : (World.drew _).cell? _ = _ := d1
    replace d2 : (World.drew _).cell? _ = _ := d2
    replace d3 : (World.drew _).cell? _ = _ := d3
    replace d4 : (World.drew _).cell? _ = _ := d4
    replace d5 : (World.drew _).cell? _ = _ := d5
    generalize World.drew _ = wd at d0 d1 d2 d3 d4 d5 HB hHeld ⊢
    refine pure_ (i := 0) (N := some 54) (v := ?_) (a' := ?_) #[true, false, false, false, false, false, false, false, false, false, false, false, false, false, false, false, false, false, false, false, false, false, false, false, false] rfl rfl (by kernel_rfl) (fun _ _ _ h => h) (Or.inl ⟨by rfl, ?_⟩) ?_ ?_
    rotate_left
    · intro w'
      go_simp
      with_reducible rfl
    rotate_left
    · simp only [Act.put, List.setIfInBounds_toArray, List.set_cons_zero, List.set_cons_succ, i64_w, i32_w]
      rfl
    refine pure_ (i := 2) (N := some 56) (v := ?_) (a' := ?_) #[true, false, true, false, false, false, false, false, false, false, false, false, false, false, false, false, false, false, false, false, false, false, false, false, false] rfl rfl (by kernel_rfl) (fun _ _ _ h => h) (Or.inl ⟨by rfl, ?_⟩) ?_ ?_
    rotate_left
    · intro w'
      go_simp
      with_reducible rfl
    rotate_left
    · simp only [Act.put, List.setIfInBounds_toArray, List.set_cons_zero, List.set_cons_succ, i64_w, i32_w]
      rfl
    refine take_ (i := 1) (N := some 55) (v := ?_) (a' := ?_) #[true, true, true, false, false, false, false, false, false, false, false, false, false, false, false, false, false, false, false, false, false, false, false, false, false] rfl rfl (by kernel_rfl) (fun _ _ _ h => h) (Or.inl ⟨by rfl, ?_⟩) hHeld ?_ ?_
    rotate_left
    · rintro w' ⟨s0, s1, s2, s3, s4, s5⟩
      go_simp
      with_reducible rfl
    rotate_left
    · simp only [Act.put, List.setIfInBounds_toArray, List.set_cons_zero, List.set_cons_succ, i64_w, i32_w]
      rfl
    refine take_ (i := 3) (N := some 57) (v := ?_) (a' := ?_) #[true, true, true, true, false, false, false, false, false, false, false, false, false, false, false, false, false, false, false, false, false, false, false, false, false] rfl rfl (by kernel_rfl) (fun _ _ _ h => h) (Or.inl ⟨by rfl, ?_⟩) hHeld ?_ ?_
    rotate_left
    · rintro w' ⟨s0, s1, s2, s3, s4, s5⟩
      go_simp
      with_reducible rfl
    rotate_left
    · simp only [Act.put, List.setIfInBounds_toArray, List.set_cons_zero, List.set_cons_succ, i64_w, i32_w]
      rfl
    refine join_ (σ := Nat × Nat) 19 #[true, true, true, true, true, true, false, false, false, false, false, false, false, false, false, false, false, false, false, false, false, false, false, false, false] (fun s => [(58, .slice (some ⟨s.1, 0, none⟩) 2 2), (59, .func (.func 70) #[] #[.pointer (some ⟨s.2, 0, none⟩)])]) (fun s w' => (w'.cell? ⟨ob, 0, none⟩ = some (.slice A1_0 l1_0.length c1_0) ∧ w'.cell? ⟨ob, 1, none⟩ = some (.slice A1_1 l1_1.length c1_1) ∧ w'.cell? ⟨ob, 2, none⟩ = some (.slice A1_2 l1_2.length c1_2) ∧ w'.cell? ⟨ob, 3, none⟩ = some (.int .i64 a1_3) ∧ w'.cell? ⟨ob, 4, none⟩ = some (.int .i64 a1_4) ∧ w'.cell? ⟨ob, 5, none⟩ = some (.int .i64 a1_5)) ∧ w'.cell? ⟨s.1, 0, none⟩ = some (.int .i64 a1_3) ∧ w'.cell? ⟨s.1, 1, none⟩ = some (.int .i64 a1_4) ∧ w'.cell? ⟨s.2, 0, none⟩ = some (.int .i64 10000) ∧ Aside0 (Below w.heap.size w w')) ?_ ?_
    rotate_left
    · intro hCont
      refine two_ (i := 4) (j := 5) (Ni := some 58) (Nj := some 59) #[true, true, true, true, true, false, false, false, false, false, false, false, false, false, false, false, false, false, false, false, false, false, false, false, false] #[true, true, true, true, false, true, false, false, false, false, false, false, false, false, false, false, false, false, false, false, false, false, false, false, false] rfl rfl rfl rfl (by kernel_rfl) (by decide) (by decide) (fun K hK => ?_) (fun K hK => ?_)
      · skip
        refine value_ (w1 := ?_) (v := ?_) (by rfl) rfl ?_ ?_
        rotate_left 2
        · go_simp
          constructor
          · rfl
          · rfl
        have hb : Below wd.heap.size wd (wd.alloc (Obj.cells #[Value.int IntKind.i64 a1_3, Value.int IntKind.i64 a1_4] 3)) := below_alloc (Below.refl _ _) _
        have hs0 : (wd.alloc (Obj.cells #[Value.int IntKind.i64 a1_3, Value.int IntKind.i64 a1_4] 3)).cell? ⟨wd.heap.size, 0, none⟩ = some (.int .i64 a1_3) := by rw [World.cell?_alloc_new]; rfl
        have hs1 : (wd.alloc (Obj.cells #[Value.int IntKind.i64 a1_3, Value.int IntKind.i64 a1_4] 3)).cell? ⟨wd.heap.size, 1, none⟩ = some (.int .i64 a1_4) := by rw [World.cell?_alloc_new]; rfl
        replace d0 := pw_cell_below hb d0
        replace d1 := pw_cell_below hb d1
        replace d2 := pw_cell_below hb d2
        replace d3 := pw_cell_below hb d3
        replace d4 := pw_cell_below hb d4
        replace d5 := pw_cell_below hb d5
        replace HB := Aside0.mk (below_step HB.out hb)
        clear hb
        generalize wd.alloc (Obj.cells #[Value.int IntKind.i64 a1_3, Value.int IntKind.i64 a1_4] 3) = wy at hs0 hs1 d0 d1 d2 d3 d4 d5 HB ⊢
        generalize wd.heap.size = gs at hs0 hs1 ⊢
        refine hK.out _ _ ⟨d0, d1, d2, d3, d4, d5⟩ (fun hHeld => ?_)
        clear hK K
        refine norm_ (a' := ?_) ?_ ?_
        rotate_left
        · show Act.put _ (some 58) _ = _
          simp only [Act.put, List.setIfInBounds_toArray, List.set_cons_zero, List.set_cons_succ, i64_w, i32_w]
          rfl
        refine one_ (i := 5) (N := some 59) #[true, true, true, true, true, true, false, false, false, false, false, false, false, false, false, false, false, false, false, false, false, false, false, false, false] rfl rfl (by kernel_rfl) (by decide) (fun K hK => ?_)
        refine call_ 50 #[.int .i64 10000] (by rfl) rfl (by go_simp) ?_
        refine (blend_outside.calls _ _).mono ?_
        rintro e' wq ⟨bm, rfl, hbm, hb⟩
        refine ⟨_, rfl, ?_⟩
        replace d0 := pw_cell_below hb d0
        replace d1 := pw_cell_below hb d1
        replace d2 := pw_cell_below hb d2
        replace d3 := pw_cell_below hb d3
        replace d4 := pw_cell_below hb d4
        replace d5 := pw_cell_below hb d5
        replace HB := Aside0.mk (below_step HB.out hb)
        replace hs0 := pw_cell_below hb hs0
        replace hs1 := pw_cell_below hb hs1
        clear hb
        refine hK.out _ _ ⟨d0, d1, d2, d3, d4, d5⟩ (fun hHeld => ?_)
        clear hK K
        refine norm_ (a' := ?_) ?_ ?_
        rotate_left
        · show Act.put _ (some 59) _ = _
          simp only [Act.put, List.setIfInBounds_toArray, List.set_cons_zero, List.set_cons_succ, i64_w, i32_w]
          rfl
        exact norm_ (by simp only [putAll, Act.put, List.setIfInBounds_toArray, List.set_cons_zero, List.set_cons_succ]) (hCont (gs, bm) _ ⟨⟨d0, d1, d2, d3, d4, d5⟩, hs0, hs1, hbm, HB⟩)
      · skip
        refine call_ 50 #[.int .i64 10000] (by rfl) rfl (by go_simp) ?_
        refine (blend_outside.calls _ _).mono ?_
        rintro e' wq ⟨bm, rfl, hbm, hb⟩
        refine ⟨_, rfl, ?_⟩
        replace d0 := pw_cell_below hb d0
        replace d1 := pw_cell_below hb d1
        replace d2 := pw_cell_below hb d2
        replace d3 := pw_cell_below hb d3
        replace d4 := pw_cell_below hb d4
        replace d5 := pw_cell_below hb d5
        replace HB := Aside0.mk (below_step HB.out hb)
        clear hb
        refine hK.out _ _ ⟨d0, d1, d2, d3, d4, d5⟩ (fun hHeld => ?_)
        clear hK K
        refine norm_ (a' := ?_) ?_ ?_
        rotate_left
        · show Act.put _ (some 59) _ = _
          simp only [Act.put, List.setIfInBounds_toArray, List.set_cons_zero, List.set_cons_succ, i64_w, i32_w]
          rfl
        refine one_ (i := 4) (N := some 58) #[true, true, true, true, true, true, false, false, false, false, false, false, false, false, false, false, false, false, false, false, false, false, false, false, false] rfl rfl (by kernel_rfl) (by decide) (fun K hK => ?_)
        refine value_ (w1 := ?_) (v := ?_) (by rfl) rfl ?_ ?_
        rotate_left 2
        · go_simp
          constructor
          · rfl
          · rfl
        have hb : Below wq.heap.size wq (wq.alloc (Obj.cells #[Value.int IntKind.i64 a1_3, Value.int IntKind.i64 a1_4] 3)) := below_alloc (Below.refl _ _) _
        have hs0 : (wq.alloc (Obj.cells #[Value.int IntKind.i64 a1_3, Value.int IntKind.i64 a1_4] 3)).cell? ⟨wq.heap.size, 0, none⟩ = some (.int .i64 a1_3) := by rw [World.cell?_alloc_new]; rfl
        have hs1 : (wq.alloc (Obj.cells #[Value.int IntKind.i64 a1_3, Value.int IntKind.i64 a1_4] 3)).cell? ⟨wq.heap.size, 1, none⟩ = some (.int .i64 a1_4) := by rw [World.cell?_alloc_new]; rfl
        replace hbm := pw_cell_below hb hbm
        replace d0 := pw_cell_below hb d0
        replace d1 := pw_cell_below hb d1
        replace d2 := pw_cell_below hb d2
        replace d3 := pw_cell_below hb d3
        replace d4 := pw_cell_below hb d4
        replace d5 := pw_cell_below hb d5
        replace HB := Aside0.mk (below_step HB.out hb)
        clear hb
        generalize wq.alloc (Obj.cells #[Value.int IntKind.i64 a1_3, Value.int IntKind.i64 a1_4] 3) = wy at hs0 hs1 d0 d1 d2 d3 d4 d5 HB hbm ⊢
        generalize wq.heap.size = gs at hs0 hs1 ⊢
        refine hK.out _ _ ⟨d0, d1, d2, d3, d4, d5⟩ (fun hHeld => ?_)
        clear hK K
        refine norm_ (a' := ?_) ?_ ?_
        rotate_left
        · show Act.put _ (some 58) _ = _
          simp only [Act.put, List.setIfInBounds_toArray, List.set_cons_zero, List.set_cons_succ, i64_w, i32_w]
          rfl
        exact norm_ (by simp only [putAll, Act.put, List.setIfInBounds_toArray, List.set_cons_zero, List.set_cons_succ]) (hCont (gs, bm) _ ⟨⟨d0, d1, d2, d3, d4, d5⟩, hs0, hs1, hbm, HB⟩)
    clear d0 d1 d2 d3 d4 d5 HB hHeld
    rintro ⟨gs, bm⟩ w9 ⟨⟨d0, d1, d2, d3, d4, d5⟩, hs0, hs1, hbm, HB⟩
    dsimp only at hs0 hs1 hbm
    have hHeld : w9.cell? ⟨ob, 0, none⟩ = some (.slice A1_0 l1_0.length c1_0) ∧ w9.cell? ⟨ob, 1, none⟩ = some (.slice A1_1 l1_1.length c1_1) ∧ w9.cell? ⟨ob, 2, none⟩ = some (.slice A1_2 l1_2.length c1_2) ∧ w9.cell? ⟨ob, 3, none⟩ = some (.int .i64 a1_3) ∧ w9.cell? ⟨ob, 4, none⟩ = some (.int .i64 a1_4) ∧ w9.cell? ⟨ob, 5, none⟩ = some (.int .i64 a1_5) := ⟨d0, d1, d2, d3, d4, d5⟩
    refine norm_ (a' := ?_) ?_ ?_
    rotate_left
    · simp only [putAll, Act.put, List.setIfInBounds_toArray, List.set_cons_zero, List.set_cons_succ]
      rfl
    refine one_ (i := 6) (N := some 60) #[true, true, true, true, true, true, true, false, false, false, false, false, false, false, false, false, false, false, false, false, false, false, false, false, false] rfl rfl (by kernel_rfl) (by decide) (fun K hK => ?_)
    refine call_ 49 #[.slice (some ⟨gs, 0, none⟩) 2 2, .func (.func 70) #[] #[.pointer (some ⟨bm, 0, none⟩)]] (by rfl) rfl (by go_simp) ?_
    refine (HS.out _ _ _ hs0 hs1 hbm HB.out).mono ?_
    rintro e' wz14 ⟨rfl, hb⟩
    refine ⟨_, rfl, ?_⟩
    replace d0 := pw_cell_below hb d0
    replace d1 := pw_cell_below hb d1
    replace d2 := pw_cell_below hb d2
    replace d3 := pw_cell_below hb d3
    replace d4 := pw_cell_below hb d4
    replace d5 := pw_cell_below hb d5
    replace HB := Aside0.mk (below_step HB.out hb)
    clear hb
    refine hK.out _ _ ⟨d0, d1, d2, d3, d4, d5⟩ (fun hHeld => ?_)
    clear hK K
    refine norm_ (a' := ?_) ?_ ?_
    rotate_left
    · show Act.put _ (some 60) _ = _
      simp only [Act.put, List.setIfInBounds_toArray, List.set_cons_zero, List.set_cons_succ, i64_w, i32_w]
      rfl
    refine pure_ (i := 7) (N := some 61) (v := ?_) (a' := ?_) #[true, true, true, true, true, true, true, true, false, false, false, false, false, false, false, false, false, false, false, false, false, false, false, false, false] rfl rfl (by kernel_rfl) (fun _ _ _ h => h) (Or.inl ⟨by rfl, ?_⟩) ?_ ?_
    rotate_left
    · intro w'
      go_simp
      with_reducible rfl
    rotate_left
    · simp only [Act.put, List.setIfInBounds_toArray, List.set_cons_zero, List.set_cons_succ, i64_w, i32_w]
      rfl
    refine pure_ (i := 8) (N := some 62) (v := ?_) (a' := ?_) #[true, true, true, true, true, true, true, true, true, false, false, false, false, false, false, false, false, false, false, false, false, false, false, false, false] rfl rfl (by kernel_rfl) (fun _ _ _ h => h) (Or.inl ⟨by rfl, ?_⟩) ?_ ?_
    rotate_left
    · intro w'
      go_simp
      with_reducible rfl
    rotate_left
    · simp only [Act.put, List.setIfInBounds_toArray, List.set_cons_zero, List.set_cons_succ, i64_w, i32_w]
      rfl
    refine pure_ (i := 10) (N := some 64) (v := ?_) (a' := ?_) #[true, true, true, true, true, true, true, true, true, false, true, false, false, false, false, false, false, false, false, false, false, false, false, false, false] rfl rfl (by kernel_rfl) (fun _ _ _ h => h) (Or.inl ⟨by rfl, ?_⟩) ?_ ?_
    rotate_left
    · intro w'
      go_simp
      with_reducible rfl
    rotate_left
    · simp only [Act.put, List.setIfInBounds_toArray, List.set_cons_zero, List.set_cons_succ, i64_w, i32_w]
      rfl
    refine take_ (i := 9) (N := some 63) (v := ?_) (a' := ?_) #[true, true, true, true, true, true, true, true, true, true, true, false, false, false, false, false, false, false, false, false, false, false, false, false, false] rfl rfl (by kernel_rfl) (fun _ _ _ h => h) (Or.inl ⟨by rfl, ?_⟩) hHeld ?_ ?_
    rotate_left
    · rintro w' ⟨s0, s1, s2, s3, s4, s5⟩
      go_simp
      with_reducible rfl
    rotate_left
    · simp only [Act.put, List.setIfInBounds_toArray, List.set_cons_zero, List.set_cons_succ, i64_w, i32_w]
      rfl
    refine take_ (i := 11) (N := some 65) (v := ?_) (a' := ?_) #[true, true, true, true, true, true, true, true, true, true, true, true, false, false, false, false, false, false, false, false, false, false, false, false, false] rfl rfl (by kernel_rfl) (fun _ _ _ h => h) (Or.inl ⟨by rfl, ?_⟩) hHeld ?_ ?_
    rotate_left
    · rintro w' ⟨s0, s1, s2, s3, s4, s5⟩
      go_simp
      with_reducible rfl
    rotate_left
    · simp only [Act.put, List.setIfInBounds_toArray, List.set_cons_zero, List.set_cons_succ, i64_w, i32_w]
      rfl
    refine pure_ (i := 12) (N := some 66) (v := ?_) (a' := ?_) #[true, true, true, true, true, true, true, true, true, true, true, true, true, false, false, false, false, false, false, false, false, false, false, false, false] rfl rfl (by kernel_rfl) (fun _ _ _ h => h) (Or.inl ⟨by rfl, ?_⟩) ?_ ?_
    rotate_left
    · intro w'
      go_simp
      with_reducible rfl
    rotate_left
    · simp only [Act.put, List.setIfInBounds_toArray, List.set_cons_zero, List.set_cons_succ, i64_w, i32_w]
      rfl
    refine pure_ (i := 13) (N := some 67) (v := ?_) (a' := ?_) #[true, true, true, true, true, true, true, true, true, true, true, true, true, true, false, false, false, false, false, false, false, false, false, false, false] rfl rfl (by kernel_rfl) (fun _ _ _ h => h) (Or.inl ⟨by rfl, ?_⟩) ?_ ?_
    rotate_left
    · intro w'
      go_simp
      with_reducible rfl
    rotate_left
    · simp only [Act.put, List.setIfInBounds_toArray, List.set_cons_zero, List.set_cons_succ, i64_w, i32_w]
      rfl
    refine pure_ (i := 14) (N := some 68) (v := ?_) (a' := ?_) #[true, true, true, true, true, true, true, true, true, true, true, true, true, true, true, false, false, false, false, false, false, false, false, false, false] rfl rfl (by kernel_rfl) (fun _ _ _ h => h) (Or.inl ⟨by rfl, ?_⟩) ?_ ?_
    rotate_left
    · intro w'
      go_simp
      with_reducible rfl
    rotate_left
    · simp only [Act.put, List.setIfInBounds_toArray, List.set_cons_zero, List.set_cons_succ, i64_w, i32_w]
      rfl
    refine pure_ (i := 15) (N := some 69) (v := undef) (a' := ?_) #[true, true, true, true, true, true, true, true, true, true, true, true, true, true, true, true, false, false, false, false, false, false, false, false, false] rfl rfl (by kernel_rfl) (fun _ _ _ h => h) (Or.inr ⟨by rfl, rfl⟩) ?_ ?_
    rotate_left
    · simp only [Act.put, List.setIfInBounds_toArray, List.set_cons_zero, List.set_cons_succ, i64_w, i32_w]
      rfl
    refine pure_ (i := 16) (N := some 70) (v := undef) (a' := ?_) #[true, true, true, true, true, true, true, true, true, true, true, true, true, true, true, true, true, false, false, false, false, false, false, false, false] rfl rfl (by kernel_rfl) (fun _ _ _ h => h) (Or.inr ⟨by rfl, rfl⟩) ?_ ?_
    rotate_left
    · simp only [Act.put, List.setIfInBounds_toArray, List.set_cons_zero, List.set_cons_succ, i64_w, i32_w]
      rfl
    refine pure_ (i := 17) (N := some 71) (v := undef) (a' := ?_) #[true, true, true, true, true, true, true, true, true, true, true, true, true, true, true, true, true, true, false, false, false, false, false, false, false] rfl rfl (by kernel_rfl) (fun _ _ _ h => h) (Or.inr ⟨by rfl, rfl⟩) ?_ ?_
    rotate_left
    · simp only [Act.put, List.setIfInBounds_toArray, List.set_cons_zero, List.set_cons_succ, i64_w, i32_w]
      rfl
    refine pure_ (i := 18) (N := some 72) (v := ?_) (a' := ?_) #[true, true, true, true, true, true, true, true, true, true, true, true, true, true, true, true, true, true, true, false, false, false, false, false, false] rfl rfl (by kernel_rfl) (fun _ _ _ h => h) (Or.inl ⟨by rfl, ?_⟩) ?_ ?_
    rotate_left
    · intro w'
      go_simp
      with_reducible rfl
    rotate_left
    · simp only [Act.put, List.setIfInBounds_toArray, List.set_cons_zero, List.set_cons_succ, i64_w, i32_w]
      rfl
    refine pure_ (i := 19) (N := some 73) (v := ?_) (a' := ?_) #[true, true, true, true, true, true, true, true, true, true, true, true, true, true, true, true, true, true, true, true, false, false, false, false, false] rfl rfl (by kernel_rfl) (fun _ _ _ h => h) (Or.inl ⟨by rfl, ?_⟩) ?_ ?_
    rotate_left
    · intro w'
      go_simp
      with_reducible rfl
    rotate_left
    · simp only [Act.put, List.setIfInBounds_toArray, List.set_cons_zero, List.set_cons_succ, i64_w, i32_w]
      rfl
    refine pure_ (i := 20) (N := some 74) (v := undef) (a' := ?_) #[true, true, true, true, true, true, true, true, true, true, true, true, true, true, true, true, true, true, true, true, true, false, false, false, false] rfl rfl (by kernel_rfl) (fun _ _ _ h => h) (Or.inr ⟨by rfl, rfl⟩) ?_ ?_
    rotate_left
    · simp only [Act.put, List.setIfInBounds_toArray, List.set_cons_zero, List.set_cons_succ, i64_w, i32_w]
      rfl
    refine pure_ (i := 21) (N := some 75) (v := undef) (a' := ?_) #[true, true, true, true, true, true, true, true, true, true, true, true, true, true, true, true, true, true, true, true, true, true, false, false, false] rfl rfl (by kernel_rfl) (fun _ _ _ h => h) (Or.inr ⟨by rfl, rfl⟩) ?_ ?_
    rotate_left
    · simp only [Act.put, List.setIfInBounds_toArray, List.set_cons_zero, List.set_cons_succ, i64_w, i32_w]
      rfl
    refine pure_ (i := 22) (N := some 76) (v := undef) (a' := ?_) #[true, true, true, true, true, true, true, true, true, true, true, true, true, true, true, true, true, true, true, true, true, true, true, false, false] rfl rfl (by kernel_rfl) (fun _ _ _ h => h) (Or.inr ⟨by rfl, rfl⟩) ?_ ?_
    rotate_left
    · simp only [Act.put, List.setIfInBounds_toArray, List.set_cons_zero, List.set_cons_succ, i64_w, i32_w]
      rfl
    refine pure_ (i := 23) (N := some 77) (v := ?_) (a' := ?_) #[true, true, true, true, true, true, true, true, true, true, true, true, true, true, true, true, true, true, true, true, true, true, true, true, false] rfl rfl (by kernel_rfl) (fun _ _ _ h => h) (Or.inl ⟨by rfl, ?_⟩) ?_ ?_
    rotate_left
    · intro w'
      go_simp
      with_reducible rfl
    rotate_left
    · simp only [Act.put, List.setIfInBounds_toArray, List.set_cons_zero, List.set_cons_succ, i64_w, i32_w]
      rfl
    refine pure_ (i := 24) (N := some 53) (v := ?_) (a' := ?_) #[true, true, true, true, true, true, true, true, true, true, true, true, true, true, true, true, true, true, true, true, true, true, true, true, true] rfl rfl (by kernel_rfl) (fun _ _ _ h => h) (Or.inl ⟨by rfl, ?_⟩) ?_ ?_
    rotate_left
    · intro w'
      go_simp
      with_reducible rfl
    rotate_left
    · simp only [Act.put, List.setIfInBounds_toArray, List.set_cons_zero, List.set_cons_succ, i64_w, i32_w]
      rfl
    refine done_ (by kernel_rfl) ?_
    go_wp2
    go_ret
    exact ⟨rfl, HB.out⟩
  have z1 : decide (a1_4 < a1_3) = false := decide_eq_false y1
  by_cases y2 : a1_5 < 1
  case pos =>
    have z2 : decide (a1_5 < 1) = true := decide_eq_true y2
    obtain rfl : r0 = 2 := by rw [HF4.out, if_pos (Or.inr (Or.inr (Or.inl y2)))]
    clear y1 y2
    refine start_ (n := 25) (S := fun w' => w'.cell? ⟨ob, 0, none⟩ = some (.slice A1_0 l1_0.length c1_0) ∧ w'.cell? ⟨ob, 1, none⟩ = some (.slice A1_1 l1_1.length c1_1) ∧ w'.cell? ⟨ob, 2, none⟩ = some (.slice A1_2 l1_2.length c1_2) ∧ w'.cell? ⟨ob, 3, none⟩ = some (.int .i64 a1_3) ∧ w'.cell? ⟨ob, 4, none⟩ = some (.int .i64 a1_4) ∧ w'.cell? ⟨ob, 5, none⟩ = some (.int .i64 a1_5)) (ds := []) #[false, false, false, false, false, false, false, false, false, false, false, false, false, false, false, false, false, false, false, false, false, false, false, false, false] (by kernel_rfl) rfl rfl ⟨d0, d1, d2, d3, d4, d5⟩ (fun hHeld => ?_)
    replace HB := Aside0.mk (below_drew1 HB.out)
    replace d0 : (World.drew _).cell? _ = _ := d0
    replace d1 : (World.drew _).cell? _ = _ := d1
    replace d2 : (World.drew _).cell? _ = _ := d2
    replace d3 : (World.drew _).cell? _ = _ := d3
    replace d4 : (World.drew _).cell? _ = _ := d4
    replace d5 : (World.drew _).cell? _ = _ := d5
    generalize World.drew _ = wd at d0 d1 d2 d3 d4 d5 HB hHeld ⊢
    refine pure_ (i := 0) (N := some 54) (v := ?_) (a' := ?_) #[true, false, false, false, false, false, false, false, false, false, false, false, false, false, false, false, false, false, false, false, false, false, false, false, false] rfl rfl (by kernel_rfl) (fun _ _ _ h => h) (Or.inl ⟨by rfl, ?_⟩) ?_ ?_
    rotate_left
    · intro w'
      go_simp
      with_reducible rfl
    rotate_left
    · simp only [Act.put, List.setIfInBounds_toArray, List.set_cons_zero, List.set_cons_succ, i64_w, i32_w]
      rfl
    refine pure_ (i := 2) (N := some 56) (v := ?_) (a' := ?_) #[true, false, true, false, false, false, false, false, false, false, false, false, false, false, false, false, false, false, false, false, false, false, false, false, false] rfl rfl (by kernel_rfl) (fun _ _ _ h => h) (Or.inl ⟨by rfl, ?_⟩) ?_ ?_
    rotate_left
    · intro w'
      go_simp
      with_reducible rfl
    rotate_left
    · simp only [Act.put, List.setIfInBounds_toArray, List.set_cons_zero, List.set_cons_succ, i64_w, i32_w]
      rfl
    refine take_ (i := 1) (N := some 55) (v := ?_) (a' := ?_) #[true, true, true, false, false, false, false, false, false, false, false, false, false, false, false, false, false, false, false, false, false, false, false, false, false] rfl rfl (by kernel_rfl) (fun _ _ _ h => h) (Or.inl ⟨by rfl, ?_⟩) hHeld ?_ ?_
    rotate_left
    · rintro w' ⟨s0, s1, s2, s3, s4, s5⟩
      go_simp
      with_reducible rfl
    rotate_left
    · simp only [Act.put, List.setIfInBounds_toArray, List.set_cons_zero, List.set_cons_succ, i64_w, i32_w]
      rfl
    refine take_ (i := 3) (N := some 57) (v := ?_) (a' := ?_) #[true, true, true, true, false, false, false, false, false, false, false, false, false, false, false, false, false, false, false, false, false, false, false, false, false] rfl rfl (by kernel_rfl) (fun _ _ _ h => h) (Or.inl ⟨by rfl, ?_⟩) hHeld ?_ ?_
    rotate_left
    · rintro w' ⟨s0, s1, s2, s3, s4, s5⟩
      go_simp
      with_reducible rfl
    rotate_left
    · simp only [Act.put, List.setIfInBounds_toArray, List.set_cons_zero, List.set_cons_succ, i64_w, i32_w]
      rfl
    refine join_ (σ := Nat × Nat) 19 #[true, true, true, true, true, true, false, false, false, false, false, false, false, false, false, false, false, false, false, false, false, false, false, false, false] (fun s => [(58, .slice (some ⟨s.1, 0, none⟩) 2 2), (59, .func (.func 70) #[] #[.pointer (some ⟨s.2, 0, none⟩)])]) (fun s w' => (w'.cell? ⟨ob, 0, none⟩ = some (.slice A1_0 l1_0.length c1_0) ∧ w'.cell? ⟨ob, 1, none⟩ = some (.slice A1_1 l1_1.length c1_1) ∧ w'.cell? ⟨ob, 2, none⟩ = some (.slice A1_2 l1_2.length c1_2) ∧ w'.cell? ⟨ob, 3, none⟩ = some (.int .i64 a1_3) ∧ w'.cell? ⟨ob, 4, none⟩ = some (.int .i64 a1_4) ∧ w'.cell? ⟨ob, 5, none⟩ = some (.int .i64 a1_5)) ∧ w'.cell? ⟨s.1, 0, none⟩ = some (.int .i64 a1_3) ∧ w'.cell? ⟨s.1, 1, none⟩ = some (.int .i64 a1_4) ∧ w'.cell? ⟨s.2, 0, none⟩ = some (.int .i64 10000) ∧ Aside0 (Below w.heap.size w w')) ?_ ?_
    rotate_left
    · intro hCont
      refine two_ (i := 4) (j := 5) (Ni := some 58) (Nj := some 59) #[true, true, true, true, true, false, false, false, false, false, false, false, false, false, false, false, false, false, false, false, false, false, false, false, false] #[true, true, true, true, false, true, false, false, false, false, false, false, false, false, false, false, false, false, false, false, false, false, false, false, false] rfl rfl rfl rfl (by kernel_rfl) (by decide) (by decide) (fun K hK => ?_) (fun K hK => ?_)
      · skip
        refine value_ (w1 := ?_) (v := ?_) (by rfl) rfl ?_ ?_
        rotate_left 2
        · go_simp
          constructor
          · rfl
          · rfl
        have hb : Below wd.heap.size wd (wd.alloc (Obj.cells #[Value.int IntKind.i64 a1_3, Value.int IntKind.i64 a1_4] 3)) := below_alloc (Below.refl _ _) _
        have hs0 : (wd.alloc (Obj.cells #[Value.int IntKind.i64 a1_3, Value.int IntKind.i64 a1_4] 3)).cell? ⟨wd.heap.size, 0, none⟩ = some (.int .i64 a1_3) := by rw [World.cell?_alloc_new]; rfl
        have hs1 : (wd.alloc (Obj.cells #[Value.int IntKind.i64 a1_3, Value.int IntKind.i64 a1_4] 3)).cell? ⟨wd.heap.size, 1, none⟩ = some (.int .i64 a1_4) := by rw [World.cell?_alloc_new]; rfl
        replace d0 := pw_cell_below hb d0
        replace d1 := pw_cell_below hb d1
        replace d2 := pw_cell_below hb d2
        replace d3 := pw_cell_below hb d3
        replace d4 := pw_cell_below hb d4
        replace d5 := pw_cell_below hb d5
        replace HB := Aside0.mk (below_step HB.out hb)
        clear hb
        generalize wd.alloc (Obj.cells #[Value.int IntKind.i64 a1_3, Value.int IntKind.i64 a1_4] 3) = wy at hs0 hs1 d0 d1 d2 d3 d4 d5 HB ⊢
        generalize wd.heap.size = gs at hs0 hs1 ⊢
        refine hK.out _ _ ⟨d0, d1, d2, d3, d4, d5⟩ (fun hHeld => ?_)
        clear hK K
        refine norm_ (a' := ?_) ?_ ?_
        rotate_left
        · show Act.put _ (some 58) _ = _
          simp only [Act.put, List.setIfInBounds_toArray, List.set_cons_zero, List.set_cons_succ, i64_w, i32_w]
          rfl
        refine one_ (i := 5) (N := some 59) #[true, true, true, true, true, true, false, false, false, false, false, false, false, false, false, false, false, false, false, false, false, false, false, false, false] rfl rfl (by kernel_rfl) (by decide) (fun K hK => ?_)
        refine call_ 50 #[.int .i64 10000] (by rfl) rfl (by go_simp) ?_
        refine (blend_outside.calls _ _).mono ?_
        rintro e' wq ⟨bm, rfl, hbm, hb⟩
        refine ⟨_, rfl, ?_⟩
        replace d0 := pw_cell_below hb d0
        replace d1 := pw_cell_below hb d1
        replace d2 := pw_cell_below hb d2
        replace d3 := pw_cell_below hb d3
        replace d4 := pw_cell_below hb d4
        replace d5 := pw_cell_below hb d5
        replace HB := Aside0.mk (below_step HB.out hb)
        replace hs0 := pw_cell_below hb hs0
        replace hs1 := pw_cell_below hb hs1
        clear hb
        refine hK.out _ _ ⟨d0, d1, d2, d3, d4, d5⟩ (fun hHeld => ?_)
        clear hK K
        refine norm_ (a' := ?_) ?_ ?_
        rotate_left
        · show Act.put _ (some 59) _ = _
          simp only [Act.put, List.setIfInBounds_toArray, List.set_cons_zero, List.set_cons_succ, i64_w, i32_w]
          rfl
        exact norm_ (by simp only [putAll, Act.put, List.setIfInBounds_toArray, List.set_cons_zero, List.set_cons_succ]) (hCont (gs, bm) _ ⟨⟨d0, d1, d2, d3, d4, d5⟩, hs0, hs1, hbm, HB⟩)
      · skip
        refine call_ 50 #[.int .i64 10000] (by rfl) rfl (by go_simp) ?_
        refine (blend_outside.calls _ _).mono ?_
        rintro e' wq ⟨bm, rfl, hbm, hb⟩
        refine ⟨_, rfl, ?_⟩
        replace d0 := pw_cell_below hb d0
        replace d1 := pw_cell_below hb d1
        replace d2 := pw_cell_below hb d2
        replace d3 := pw_cell_below hb d3
        replace d4 := pw_cell_below hb d4
        replace d5 := pw_cell_below hb d5
        replace HB := Aside0.mk (below_step HB.out hb)
        clear hb
        refine hK.out _ _ ⟨d0, d1, d2, d3, d4, d5⟩ (fun hHeld => ?_)
        clear hK K
        refine norm_ (a' := ?_) ?_ ?_
        rotate_left
        · show Act.put _ (some 59) _ = _
          simp only [Act.put, List.setIfInBounds_toArray, List.set_cons_zero, List.set_cons_succ, i64_w, i32_w]
          rfl
        refine one_ (i := 4) (N := some 58) #[true, true, true, true, true, true, false, false, false, false, false, false, false, false, false, false, false, false, false, false, false, false, false, false, false] rfl rfl (by kernel_rfl) (by decide) (fun K hK => ?_)
        refine value_ (w1 := ?_) (v := ?_) (by rfl) rfl ?_ ?_
        rotate_left 2
        · go_simp
          constructor
          · rfl
          · rfl
        have hb : Below wq.heap.size wq (wq.alloc (Obj.cells #[Value.int IntKind.i64 a1_3, Value.int IntKind.i64 a1_4] 3)) := below_alloc (Below.refl _ _) _
        have hs0 : (wq.alloc (Obj.cells #[Value.int IntKind.i64 a1_3, Value.int IntKind.i64 a1_4] 3)).cell? ⟨wq.heap.size, 0, none⟩ = some (.int .i64 a1_3) := by rw [World.cell?_alloc_new]; rfl
        have hs1 : (wq.alloc (Obj.cells #[Value.int IntKind.i64 a1_3, Value.int IntKind.i64 a1_4] 3)).cell? ⟨wq.heap.size, 1, none⟩ = some (.int .i64 a1_4) := by rw [World.cell?_alloc_new]; rfl
        replace hbm := pw_cell_below hb hbm
        replace d0 := pw_cell_below hb d0
        replace d1 := pw_cell_below hb d1
        replace d2 := pw_cell_below hb d2
        replace d3 := pw_cell_below hb d3
        replace d4 := pw_cell_below hb d4
        replace d5 := pw_cell_below hb d5
        replace HB := Aside0.mk (below_step HB.out hb)
        clear hb
        generalize wq.alloc (Obj.cells #[Value.int IntKind.i64 a1_3, Value.int IntKind.i64 a1_4] 3) = wy at hs0 hs1 d0 d1 d2 d3 d4 d5 HB hbm ⊢
        generalize wq.heap.size = gs at hs0 hs1 ⊢
        refine hK.out _ _ ⟨d0, d1, d2, d3, d4, d5⟩ (fun hHeld => ?_)
        clear hK K
        refine norm_ (a' := ?_) ?_ ?_
        rotate_left
        · show Act.put _ (some 58) _ = _
          simp only [Act.put, List.setIfInBounds_toArray, List.set_cons_zero, List.set_cons_succ, i64_w, i32_w]
          rfl
        exact norm_ (by simp only [putAll, Act.put, List.setIfInBounds_toArray, List.set_cons_zero, List.set_cons_succ]) (hCont (gs, bm) _ ⟨⟨d0, d1, d2, d3, d4, d5⟩, hs0, hs1, hbm, HB⟩)
    clear d0 d1 d2 d3 d4 d5 HB hHeld
    rintro ⟨gs, bm⟩ w9 ⟨⟨d0, d1, d2, d3, d4, d5⟩, hs0, hs1, hbm, HB⟩
    dsimp only at hs0 hs1 hbm
    have hHeld : w9.cell? ⟨ob, 0, none⟩ = some (.slice A1_0 l1_0.length c1_0) ∧ w9.cell? ⟨ob, 1, none⟩ = some (.slice A1_1 l1_1.length c1_1) ∧ w9.cell? ⟨ob, 2, none⟩ = some (.slice A1_2 l1_2.length c1_2) ∧ w9.cell? ⟨ob, 3, none⟩ = some (.int .i64 a1_3) ∧ w9.cell? ⟨ob, 4, none⟩ = some (.int .i64 a1_4) ∧ w9.cell? ⟨ob, 5, none⟩ = some (.int .i64 a1_5) := ⟨d0, d1, d2, d3, d4, d5⟩
    refine norm_ (a' := ?_) ?_ ?_
    rotate_left
    · simp only [putAll, Act.put, List.setIfInBounds_toArray, List.set_cons_zero, List.set_cons_succ]
      rfl
    refine one_ (i := 6) (N := some 60) #[true, true, true, true, true, true, true, false, false, false, false, false, false, false, false, false, false, false, false, false, false, false, false, false, false] rfl rfl (by kernel_rfl) (by decide) (fun K hK => ?_)
    refine call_ 49 #[.slice (some ⟨gs, 0, none⟩) 2 2, .func (.func 70) #[] #[.pointer (some ⟨bm, 0, none⟩)]] (by rfl) rfl (by go_simp) ?_
    refine (HS.out _ _ _ hs0 hs1 hbm HB.out).mono ?_
    rintro e' wz17 ⟨rfl, hb⟩
    refine ⟨_, rfl, ?_⟩
    replace d0 := pw_cell_below hb d0
    replace d1 := pw_cell_below hb d1
    replace d2 := pw_cell_below hb d2
    replace d3 := pw_cell_below hb d3
    replace d4 := pw_cell_below hb d4
    replace d5 := pw_cell_below hb d5
    replace HB := Aside0.mk (below_step HB.out hb)
    clear hb
    refine hK.out _ _ ⟨d0, d1, d2, d3, d4, d5⟩ (fun hHeld => ?_)
    clear hK K
    refine norm_ (a' := ?_) ?_ ?_
    rotate_left
    · show Act.put _ (some 60) _ = _
      simp only [Act.put, List.setIfInBounds_toArray, List.set_cons_zero, List.set_cons_succ, i64_w, i32_w]
      rfl
    refine pure_ (i := 7) (N := some 61) (v := ?_) (a' := ?_) #[true, true, true, true, true, true, true, true, false, false, false, false, false, false, false, false, false, false, false, false, false, false, false, false, false] rfl rfl (by kernel_rfl) (fun _ _ _ h => h) (Or.inl ⟨by rfl, ?_⟩) ?_ ?_
    rotate_left
    · intro w'
      go_simp
      with_reducible rfl
    rotate_left
    · simp only [Act.put, List.setIfInBounds_toArray, List.set_cons_zero, List.set_cons_succ, i64_w, i32_w]
      rfl
    refine pure_ (i := 8) (N := some 62) (v := ?_) (a' := ?_) #[true, true, true, true, true, true, true, true, true, false, false, false, false, false, false, false, false, false, false, false, false, false, false, false, false] rfl rfl (by kernel_rfl) (fun _ _ _ h => h) (Or.inl ⟨by rfl, ?_⟩) ?_ ?_
    rotate_left
    · intro w'
      go_simp
      with_reducible rfl
    rotate_left
    · simp only [Act.put, List.setIfInBounds_toArray, List.set_cons_zero, List.set_cons_succ, i64_w, i32_w]
      rfl
    refine pure_ (i := 10) (N := some 64) (v := ?_) (a' := ?_) #[true, true, true, true, true, true, true, true, true, false, true, false, false, false, false, false, false, false, false, false, false, false, false, false, false] rfl rfl (by kernel_rfl) (fun _ _ _ h => h) (Or.inl ⟨by rfl, ?_⟩) ?_ ?_
    rotate_left
    · intro w'
      go_simp
      with_reducible rfl
    rotate_left
    · simp only [Act.put, List.setIfInBounds_toArray, List.set_cons_zero, List.set_cons_succ, i64_w, i32_w]
      rfl
    refine take_ (i := 9) (N := some 63) (v := ?_) (a' := ?_) #[true, true, true, true, true, true, true, true, true, true, true, false, false, false, false, false, false, false, false, false, false, false, false, false, false] rfl rfl (by kernel_rfl) (fun _ _ _ h => h) (Or.inl ⟨by rfl, ?_⟩) hHeld ?_ ?_
    rotate_left
    · rintro w' ⟨s0, s1, s2, s3, s4, s5⟩
      go_simp
      with_reducible rfl
    rotate_left
    · simp only [Act.put, List.setIfInBounds_toArray, List.set_cons_zero, List.set_cons_succ, i64_w, i32_w]
      rfl
    refine take_ (i := 11) (N := some 65) (v := ?_) (a' := ?_) #[true, true, true, true, true, true, true, true, true, true, true, true, false, false, false, false, false, false, false, false, false, false, false, false, false] rfl rfl (by kernel_rfl) (fun _ _ _ h => h) (Or.inl ⟨by rfl, ?_⟩) hHeld ?_ ?_
    rotate_left
    · rintro w' ⟨s0, s1, s2, s3, s4, s5⟩
      go_simp
      with_reducible rfl
    rotate_left
    · simp only [Act.put, List.setIfInBounds_toArray, List.set_cons_zero, List.set_cons_succ, i64_w, i32_w]
      rfl
    refine pure_ (i := 12) (N := some 66) (v := ?_) (a' := ?_) #[true, true, true, true, true, true, true, true, true, true, true, true, true, false, false, false, false, false, false, false, false, false, false, false, false] rfl rfl (by kernel_rfl) (fun _ _ _ h => h) (Or.inl ⟨by rfl, ?_⟩) ?_ ?_
    rotate_left
    · intro w'
      go_simp
      with_reducible rfl
    rotate_left
    · simp only [Act.put, List.setIfInBounds_toArray, List.set_cons_zero, List.set_cons_succ, i64_w, i32_w]
      rfl
    refine pure_ (i := 13) (N := some 67) (v := ?_) (a' := ?_) #[true, true, true, true, true, true, true, true, true, true, true, true, true, true, false, false, false, false, false, false, false, false, false, false, false] rfl rfl (by kernel_rfl) (fun _ _ _ h => h) (Or.inl ⟨by rfl, ?_⟩) ?_ ?_
    rotate_left
    · intro w'
      go_simp
      with_reducible rfl
    rotate_left
    · simp only [Act.put, List.setIfInBounds_toArray, List.set_cons_zero, List.set_cons_succ, i64_w, i32_w]
      rfl
    refine pure_ (i := 14) (N := some 68) (v := ?_) (a' := ?_) #[true, true, true, true, true, true, true, true, true, true, true, true, true, true, true, false, false, false, false, false, false, false, false, false, false] rfl rfl (by kernel_rfl) (fun _ _ _ h => h) (Or.inl ⟨by rfl, ?_⟩) ?_ ?_
    rotate_left
    · intro w'
      go_simp
      with_reducible rfl
    rotate_left
    · simp only [Act.put, List.setIfInBounds_toArray, List.set_cons_zero, List.set_cons_succ, i64_w, i32_w]
      rfl
    refine pure_ (i := 15) (N := some 69) (v := ?_) (a' := ?_) #[true, true, true, true, true, true, true, true, true, true, true, true, true, true, true, true, false, false, false, false, false, false, false, false, false] rfl rfl (by kernel_rfl) (fun _ _ _ h => h) (Or.inl ⟨by rfl, ?_⟩) ?_ ?_
    rotate_left
    · intro w'
      go_simp
      with_reducible rfl
    rotate_left
    · simp only [Act.put, List.setIfInBounds_toArray, List.set_cons_zero, List.set_cons_succ, i64_w, i32_w]
      rfl
    refine take_ (i := 16) (N := some 70) (v := ?_) (a' := ?_) #[true, true, true, true, true, true, true, true, true, true, true, true, true, true, true, true, true, false, false, false, false, false, false, false, false] rfl rfl (by kernel_rfl) (fun _ _ _ h => h) (Or.inl ⟨by rfl, ?_⟩) hHeld ?_ ?_
    rotate_left
    · rintro w' ⟨s0, s1, s2, s3, s4, s5⟩
      go_simp
      with_reducible rfl
    rotate_left
    · simp only [Act.put, List.setIfInBounds_toArray, List.set_cons_zero, List.set_cons_succ, i64_w, i32_w]
      rfl
    refine pure_ (i := 17) (N := some 71) (v := ?_) (a' := ?_) #[true, true, true, true, true, true, true, true, true, true, true, true, true, true, true, true, true, true, false, false, false, false, false, false, false] rfl rfl (by kernel_rfl) (fun _ _ _ h => h) (Or.inl ⟨by rfl, ?_⟩) ?_ ?_
    rotate_left
    · intro w'
      go_simp
      with_reducible rfl
    rotate_left
    · simp only [Act.put, List.setIfInBounds_toArray, List.set_cons_zero, List.set_cons_succ, i64_w, i32_w]
      rfl
    refine pure_ (i := 18) (N := some 72) (v := ?_) (a' := ?_) #[true, true, true, true, true, true, true, true, true, true, true, true, true, true, true, true, true, true, true, false, false, false, false, false, false] rfl rfl (by kernel_rfl) (fun _ _ _ h => h) (Or.inl ⟨by rfl, ?_⟩) ?_ ?_
    rotate_left
    · intro w'
      go_simp
      with_reducible rfl
    rotate_left
    · simp only [Act.put, List.setIfInBounds_toArray, List.set_cons_zero, List.set_cons_succ, i64_w, i32_w]
      rfl
    refine pure_ (i := 19) (N := some 73) (v := ?_) (a' := ?_) #[true, true, true, true, true, true, true, true, true, true, true, true, true, true, true, true, true, true, true, true, false, false, false, false, false] rfl rfl (by kernel_rfl) (fun _ _ _ h => h) (Or.inl ⟨by rfl, ?_⟩) ?_ ?_
    rotate_left
    · intro w'
      go_simp
      with_reducible rfl
    rotate_left
    · simp only [Act.put, List.setIfInBounds_toArray, List.set_cons_zero, List.set_cons_succ, i64_w, i32_w]
      rfl
    refine pure_ (i := 20) (N := some 74) (v := undef) (a' := ?_) #[true, true, true, true, true, true, true, true, true, true, true, true, true, true, true, true, true, true, true, true, true, false, false, false, false] rfl rfl (by kernel_rfl) (fun _ _ _ h => h) (Or.inr ⟨by rfl, rfl⟩) ?_ ?_
    rotate_left
    · simp only [Act.put, List.setIfInBounds_toArray, List.set_cons_zero, List.set_cons_succ, i64_w, i32_w]
      rfl
    refine pure_ (i := 21) (N := some 75) (v := undef) (a' := ?_) #[true, true, true, true, true, true, true, true, true, true, true, true, true, true, true, true, true, true, true, true, true, true, false, false, false] rfl rfl (by kernel_rfl) (fun _ _ _ h => h) (Or.inr ⟨by rfl, rfl⟩) ?_ ?_
    rotate_left
    · simp only [Act.put, List.setIfInBounds_toArray, List.set_cons_zero, List.set_cons_succ, i64_w, i32_w]
      rfl
    refine pure_ (i := 22) (N := some 76) (v := undef) (a' := ?_) #[true, true, true, true, true, true, true, true, true, true, true, true, true, true, true, true, true, true, true, true, true, true, true, false, false] rfl rfl (by kernel_rfl) (fun _ _ _ h => h) (Or.inr ⟨by rfl, rfl⟩) ?_ ?_
    rotate_left
    · simp only [Act.put, List.setIfInBounds_toArray, List.set_cons_zero, List.set_cons_succ, i64_w, i32_w]
      rfl
    refine pure_ (i := 23) (N := some 77) (v := ?_) (a' := ?_) #[true, true, true, true, true, true, true, true, true, true, true, true, true, true, true, true, true, true, true, true, true, true, true, true, false] rfl rfl (by kernel_rfl) (fun _ _ _ h => h) (Or.inl ⟨by rfl, ?_⟩) ?_ ?_
    rotate_left
    · intro w'
      go_simp
      with_reducible rfl
    rotate_left
    · simp only [Act.put, List.setIfInBounds_toArray, List.set_cons_zero, List.set_cons_succ, i64_w, i32_w]
      rfl
    refine pure_ (i := 24) (N := some 53) (v := ?_) (a' := ?_) #[true, true, true, true, true, true, true, true, true, true, true, true, true, true, true, true, true, true, true, true, true, true, true, true, true] rfl rfl (by kernel_rfl) (fun _ _ _ h => h) (Or.inl ⟨by rfl, ?_⟩) ?_ ?_
    rotate_left
    · intro w'
      go_simp
      with_reducible rfl
    rotate_left
    · simp only [Act.put, List.setIfInBounds_toArray, List.set_cons_zero, List.set_cons_succ, i64_w, i32_w]
      rfl
    refine done_ (by kernel_rfl) ?_
    go_wp2
    go_ret
    exact ⟨rfl, HB.out⟩
  have z2 : decide (a1_5 < 1) = false := decide_eq_false y2
  by_cases y3 : a1_5 > 256
  case pos =>
    have z3 : decide (256 < a1_5) = true := decide_eq_true y3
    obtain rfl : r0 = 2 := by rw [HF4.out, if_pos (Or.inr (Or.inr (Or.inr y3)))]
    clear y1 y2 y3
    refine start_ (n := 25) (S := fun w' => w'.cell? ⟨ob, 0, none⟩ = some (.slice A1_0 l1_0.length c1_0) ∧ w'.cell? ⟨ob, 1, none⟩ = some (.slice A1_1 l1_1.length c1_1) ∧ w'.cell? ⟨ob, 2, none⟩ = some (.slice A1_2 l1_2.length c1_2) ∧ w'.cell? ⟨ob, 3, none⟩ = some (.int .i64 a1_3) ∧ w'.cell? ⟨ob, 4, none⟩ = some (.int .i64 a1_4) ∧ w'.cell? ⟨ob, 5, none⟩ = some (.int .i64 a1_5)) (ds := []) #[false, false, false, false, false, false, false, false, false, false, false, false, false, false, false, false, false, false, false, false, false, false, false, false, false] (by kernel_rfl) rfl rfl ⟨d0, d1, d2, d3, d4, d5⟩ (fun hHeld => ?_)
    replace HB := Aside0.mk (below_drew1 HB.out)
    replace d0 : (World.drew _).cell? _ = _ := d0
    replace d1 : (World.drew _).cell? _ = _ := d1
    replace d2 : (World.drew _).cell? _ = _ := d2
    replace d3 : (World.drew _).cell? _ = _ := d3
    replace d4 : (World.drew _).cell? _ = _ := d4
    replace d5 : (World.drew _).cell? _ = _ := d5
    generalize World.drew _ = wd at d0 d1 d2 d3 d4 d5 HB hHeld ⊢
    refine pure_ (i := 0) (N := some 54) (v := ?_) (a' := ?_) #[true, false, false, false, false, false, false, false, false, false, false, false, false, false, false, false, false, false, false, false, false, false, false, false, false] rfl rfl (by kernel_rfl) (fun _ _ _ h => h) (Or.inl ⟨by rfl, ?_⟩) ?_ ?_
    rotate_left
    · intro w'
      go_simp
      with_reducible rfl
    rotate_left
    · simp only [Act.put, List.setIfInBounds_toArray, List.set_cons_zero, List.set_cons_succ, i64_w, i32_w]
      rfl
    refine pure_ (i := 2) (N := some 56) (v := ?_) (a' := ?_) #[true, false, true, false, false, false, false, false, false, false, false, false, false, false, false, false, false, false, false, false, false, false, false, false, false] rfl rfl (by kernel_rfl) (fun _ _ _ h => h) (Or.inl ⟨by rfl, ?_⟩) ?_ ?_
    rotate_left
    · intro w'
      go_simp
      with_reducible rfl
    rotate_left
    · simp only [Act.put, List.setIfInBounds_toArray, List.set_cons_zero, List.set_cons_succ, i64_w, i32_w]
      rfl
    refine take_ (i := 1) (N := some 55) (v := ?_) (a' := ?_) #[true, true, true, false, false, false, false, false, false, false, false, false, false, false, false, false, false, false, false, false, false, false, false, false, false] rfl rfl (by kernel_rfl) (fun _ _ _ h => h) (Or.inl ⟨by rfl, ?_⟩) hHeld ?_ ?_
    rotate_left
    · rintro w' ⟨s0, s1, s2, s3, s4, s5⟩
      go_simp
      with_reducible rfl
    rotate_left
    · simp only [Act.put, List.setIfInBounds_toArray, List.set_cons_zero, List.set_cons_succ, i64_w, i32_w]
      rfl
    refine take_ (i := 3) (N := some 57) (v := ?_) (a' := ?_) #[true, true, true, true, false, false, false, false, false, false, false, false, false, false, false, false, false, false, false, false, false, false, false, false, false] rfl rfl (by kernel_rfl) (fun _ _ _ h => h) (Or.inl ⟨by rfl, ?_⟩) hHeld ?_ ?_
    rotate_left
    · rintro w' ⟨s0, s1, s2, s3, s4, s5⟩
      go_simp
      with_reducible rfl
    rotate_left
    · simp only [Act.put, List.setIfInBounds_toArray, List.set_cons_zero, List.set_cons_succ, i64_w, i32_w]
      rfl
    refine join_ (σ := Nat × Nat) 19 #[true, true, true, true, true, true, false, false, false, false, false, false, false, false, false, false, false, false, false, false, false, false, false, false, false] (fun s => [(58, .slice (some ⟨s.1, 0, none⟩) 2 2), (59, .func (.func 70) #[] #[.pointer (some ⟨s.2, 0, none⟩)])]) (fun s w' => (w'.cell? ⟨ob, 0, none⟩ = some (.slice A1_0 l1_0.length c1_0) ∧ w'.cell? ⟨ob, 1, none⟩ = some (.slice A1_1 l1_1.length c1_1) ∧ w'.cell? ⟨ob, 2, none⟩ = some (.slice A1_2 l1_2.length c1_2) ∧ w'.cell? ⟨ob, 3, none⟩ = some (.int .i64 a1_3) ∧ w'.cell? ⟨ob, 4, none⟩ = some (.int .i64 a1_4) ∧ w'.cell? ⟨ob, 5, none⟩ = some (.int .i64 a1_5)) ∧ w'.cell? ⟨s.1, 0, none⟩ = some (.int .i64 a1_3) ∧ w'.cell? ⟨s.1, 1, none⟩ = some (.int .i64 a1_4) ∧ w'.cell? ⟨s.2, 0, none⟩ = some (.int .i64 10000) ∧ Aside0 (Below w.heap.size w w')) ?_ ?_
    rotate_left
    · intro hCont
      refine two_ (i := 4) (j := 5) (Ni := some 58) (Nj := some 59) #[true, true, true, true, true, false, false, false, false, false, false, false, false, false, false, false, false, false, false, false, false, false, false, false, false] #[true, true, true, true, false, true, false, false, false, false, false, false, false, false, false, false, false, false, false, false, false, false, false, false, false] rfl rfl rfl rfl (by kernel_rfl) (by decide) (by decide) (fun K hK => ?_) (fun K hK => ?_)
      · skip
        refine value_ (w1 := ?_) (v := ?_) (by rfl) rfl ?_ ?_
        rotate_left 2
        · go_simp
          constructor
          · rfl
          · rfl
        have hb : Below wd.heap.size wd (wd.alloc (Obj.cells #[Value.int IntKind.i64 a1_3, Value.int IntKind.i64 a1_4] 3)) := below_alloc (Below.refl _ _) _
        have hs0 : (wd.alloc (Obj.cells #[Value.int IntKind.i64 a1_3, Value.int IntKind.i64 a1_4] 3)).cell? ⟨wd.heap.size, 0, none⟩ = some (.int .i64 a1_3) := by rw [World.cell?_alloc_new]; rfl
        have hs1 : (wd.alloc (Obj.cells #[Value.int IntKind.i64 a1_3, Value.int IntKind.i64 a1_4] 3)).cell? ⟨wd.heap.size, 1, none⟩ = some (.int .i64 a1_4) := by rw [World.cell?_alloc_new]; rfl
        replace d0 := pw_cell_below hb d0
        replace d1 := pw_cell_below hb d1
        replace d2 := pw_cell_below hb d2
        replace d3 := pw_cell_below hb d3
        replace d4 := pw_cell_below hb d4
        replace d5 := pw_cell_below hb d5
        replace HB := Aside0.mk (below_step HB.out hb)
        clear hb
        generalize wd.alloc (Obj.cells #[Value.int IntKind.i64 a1_3, Value.int IntKind.i64 a1_4] 3) = wy at hs0 hs1 d0 d1 d2 d3 d4 d5 HB ⊢
        generalize wd.heap.size = gs at hs0 hs1 ⊢
        refine hK.out _ _ ⟨d0, d1, d2, d3, d4, d5⟩ (fun hHeld => ?_)
        clear hK K
        refine norm_ (a' := ?_) ?_ ?_
        rotate_left
        · show Act.put _ (some 58) _ = _
          simp only [Act.put, List.setIfInBounds_toArray, List.set_cons_zero, List.set_cons_succ, i64_w, i32_w]
          rfl
        refine one_ (i := 5) (N := some 59) #[true, true, true, true, true, true, false, false, false, false, false, false, false, false, false, false, false, false, false, false, false, false, false, false, false] rfl rfl (by kernel_rfl) (by decide) (fun K hK => ?_)
        refine call_ 50 #[.int .i64 10000] (by rfl) rfl (by go_simp) ?_
        refine (blend_outside.calls _ _).mono ?_
        rintro e' wq ⟨bm, rfl, hbm, hb⟩
        refine ⟨_, rfl, ?_⟩
        replace d0 := pw_cell_below hb d0
        replace d1 := pw_cell_below hb d1
        replace d2 := pw_cell_below hb d2
        replace d3 := pw_cell_below hb d3
        replace d4 := pw_cell_below hb d4
        replace d5 := pw_cell_below hb d5
        replace HB := Aside0.mk (below_step HB.out hb)
        replace hs0 := pw_cell_below hb hs0
        replace hs1 := pw_cell_below hb hs1
        clear hb
        refine hK.out _ _ ⟨d0, d1, d2, d3, d4, d5⟩ (fun hHeld => ?_)
        clear hK K
        refine norm_ (a' := ?_) ?_ ?_
        rotate_left
        · show Act.put _ (some 59) _ = _
          simp only [Act.put, List.setIfInBounds_toArray, List.set_cons_zero, List.set_cons_succ, i64_w, i32_w]
          rfl
        exact norm_ (by simp only [putAll, Act.put, List.setIfInBounds_toArray, List.set_cons_zero, List.set_cons_succ]) (hCont (gs, bm) _ ⟨⟨d0, d1, d2, d3, d4, d5⟩, hs0, hs1, hbm, HB⟩)
      · skip
        refine call_ 50 #[.int .i64 10000] (by rfl) rfl (by go_simp) ?_
        refine (blend_outside.calls _ _).mono ?_
        rintro e' wq ⟨bm, rfl, hbm, hb⟩
        refine ⟨_, rfl, ?_⟩
        replace d0 := pw_cell_below hb d0
        replace d1 := pw_cell_below hb d1
        replace d2 := pw_cell_below hb d2
        replace d3 := pw_cell_below hb d3
        replace d4 := pw_cell_below hb d4
        replace d5 := pw_cell_below hb d5
        replace HB := Aside0.mk (below_step HB.out hb)
        clear hb
        refine hK.out _ _ ⟨d0, d1, d2, d3, d4, d5⟩ (fun hHeld => ?_)
        clear hK K
        refine norm_ (a' := ?_) ?_ ?_
        rotate_left
        · show Act.put _ (some 59) _ = _
          simp only [Act.put, List.setIfInBounds_toArray, List.set_cons_zero, List.set_cons_succ, i64_w, i32_w]
          rfl
        refine one_ (i := 4) (N := some 58) #[true, true, true, true, true, true, false, false, false, false, false, false, false, false, false, false, false, false, false, false, false, false, false, false, false] rfl rfl (by kernel_rfl) (by decide) (fun K hK => ?_)
        refine value_ (w1 := ?_) (v := ?_) (by rfl) rfl ?_ ?_
        rotate_left 2
        · go_simp
          constructor
          · rfl
          · rfl
        have hb : Below wq.heap.size wq (wq.alloc (Obj.cells #[Value.int IntKind.i64 a1_3, Value.int IntKind.i64 a1_4] 3)) := below_alloc (Below.refl _ _) _
        have hs0 : (wq.alloc (Obj.cells #[Value.int IntKind.i64 a1_3, Value.int IntKind.i64 a1_4] 3)).cell? ⟨wq.heap.size, 0, none⟩ = some (.int .i64 a1_3) := by rw [World.cell?_alloc_new]; rfl
        have hs1 : (wq.alloc (Obj.cells #[Value.int IntKind.i64 a1_3, Value.int IntKind.i64 a1_4] 3)).cell? ⟨wq.heap.size, 1, none⟩ = some (.int .i64 a1_4) := by rw [World.cell?_alloc_new]; rfl
        replace hbm := pw_cell_below hb hbm
        replace d0 := pw_cell_below hb d0
        replace d1 := pw_cell_below hb d1
        replace d2 := pw_cell_below hb d2
        replace d3 := pw_cell_below hb d3
        replace d4 := pw_cell_below hb d4
        replace d5 := pw_cell_below hb d5
        replace HB := Aside0.mk (below_step HB.out hb)
        clear hb
        generalize wq.alloc (Obj.cells #[Value.int IntKind.i64 a1_3, Value.int IntKind.i64 a1_4] 3) = wy at hs0 hs1 d0 d1 d2 d3 d4 d5 HB hbm ⊢
        generalize wq.heap.size = gs at hs0 hs1 ⊢
        refine hK.out _ _ ⟨d0, d1, d2, d3, d4, d5⟩ (fun hHeld => ?_)
        clear hK K
        refine norm_ (a' := ?_) ?_ ?_
        rotate_left
        · show Act.put _ (some 58) _ = _
          simp only [Act.put, List.setIfInBounds_toArray, List.set_cons_zero, List.set_cons_succ, i64_w, i32_w]
          rfl
        exact norm_ (by simp only [putAll, Act.put, List.setIfInBounds_toArray, List.set_cons_zero, List.set_cons_succ]) (hCont (gs, bm) _ ⟨⟨d0, d1, d2, d3, d4, d5⟩, hs0, hs1, hbm, HB⟩)
    clear d0 d1 d2 d3 d4 d5 HB hHeld
    rintro ⟨gs, bm⟩ w9 ⟨⟨d0, d1, d2, d3, d4, d5⟩, hs0, hs1, hbm, HB⟩
    dsimp only at hs0 hs1 hbm
    have hHeld : w9.cell? ⟨ob, 0, none⟩ = some (.slice A1_0 l1_0.length c1_0) ∧ w9.cell? ⟨ob, 1, none⟩ = some (.slice A1_1 l1_1.length c1_1) ∧ w9.cell? ⟨ob, 2, none⟩ = some (.slice A1_2 l1_2.length c1_2) ∧ w9.cell? ⟨ob, 3, none⟩ = some (.int .i64 a1_3) ∧ w9.cell? ⟨ob, 4, none⟩ = some (.int .i64 a1_4) ∧ w9.cell? ⟨ob, 5, none⟩ = some (.int .i64 a1_5) := ⟨d0, d1, d2, d3, d4, d5⟩
    refine norm_ (a' := ?_) ?_ ?_
    rotate_left
    · simp only [putAll, Act.put, List.setIfInBounds_toArray, List.set_cons_zero, List.set_cons_succ]
      rfl
    refine one_ (i := 6) (N := some 60) #[true, true, true, true, true, true, true, false, false, false, false, false, false, false, false, false, false, false, false, false, false, false, false, false, false] rfl rfl (by kernel_rfl) (by decide) (fun K hK => ?_)
    refine call_ 49 #[.slice (some ⟨gs, 0, none⟩) 2 2, .func (.func 70) #[] #[.pointer (some ⟨bm, 0, none⟩)]] (by rfl) rfl (by go_simp) ?_
    refine (HS.out _ _ _ hs0 hs1 hbm HB.out).mono ?_
    rintro e' wz20 ⟨rfl, hb⟩
    refine ⟨_, rfl, ?_⟩
    replace d0 := pw_cell_below hb d0
    replace d1 := pw_cell_below hb d1
    replace d2 := pw_cell_below hb d2
    replace d3 := pw_cell_below hb d3
    replace d4 := pw_cell_below hb d4
    replace d5 := pw_cell_below hb d5
    replace HB := Aside0.mk (below_step HB.out hb)
    clear hb
    refine hK.out _ _ ⟨d0, d1, d2, d3, d4, d5⟩ (fun hHeld => ?_)
    clear hK K
    refine norm_ (a' := ?_) ?_ ?_
    rotate_left
    · show Act.put _ (some 60) _ = _
      simp only [Act.put, List.setIfInBounds_toArray, List.set_cons_zero, List.set_cons_succ, i64_w, i32_w]
      rfl
    refine pure_ (i := 7) (N := some 61) (v := ?_) (a' := ?_) #[true, true, true, true, true, true, true, true, false, false, false, false, false, false, false, false, false, false, false, false, false, false, false, false, false] rfl rfl (by kernel_rfl) (fun _ _ _ h => h) (Or.inl ⟨by rfl, ?_⟩) ?_ ?_
    rotate_left
    · intro w'
      go_simp
      with_reducible rfl
    rotate_left
    · simp only [Act.put, List.setIfInBounds_toArray, List.set_cons_zero, List.set_cons_succ, i64_w, i32_w]
      rfl
    refine pure_ (i := 8) (N := some 62) (v := ?_) (a' := ?_) #[true, true, true, true, true, true, true, true, true, false, false, false, false, false, false, false, false, false, false, false, false, false, false, false, false] rfl rfl (by kernel_rfl) (fun _ _ _ h => h) (Or.inl ⟨by rfl, ?_⟩) ?_ ?_
    rotate_left
    · intro w'
      go_simp
      with_reducible rfl
    rotate_left
    · simp only [Act.put, List.setIfInBounds_toArray, List.set_cons_zero, List.set_cons_succ, i64_w, i32_w]
      rfl
    refine pure_ (i := 10) (N := some 64) (v := ?_) (a' := ?_) #[true, true, true, true, true, true, true, true, true, false, true, false, false, false, false, false, false, false, false, false, false, false, false, false, false] rfl rfl (by kernel_rfl) (fun _ _ _ h => h) (Or.inl ⟨by rfl, ?_⟩) ?_ ?_
    rotate_left
    · intro w'
      go_simp
      with_reducible rfl
    rotate_left
    · simp only [Act.put, List.setIfInBounds_toArray, List.set_cons_zero, List.set_cons_succ, i64_w, i32_w]
      rfl
    refine take_ (i := 9) (N := some 63) (v := ?_) (a' := ?_) #[true, true, true, true, true, true, true, true, true, true, true, false, false, false, false, false, false, false, false, false, false, false, false, false, false] rfl rfl (by kernel_rfl) (fun _ _ _ h => h) (Or.inl ⟨by rfl, ?_⟩) hHeld ?_ ?_
    rotate_left
    · rintro w' ⟨s0, s1, s2, s3, s4, s5⟩
      go_simp
      with_reducible rfl
    rotate_left
    · simp only [Act.put, List.setIfInBounds_toArray, List.set_cons_zero, List.set_cons_succ, i64_w, i32_w]
      rfl
    refine take_ (i := 11) (N := some 65) (v := ?_) (a' := ?_) #[true, true, true, true, true, true, true, true, true, true, true, true, false, false, false, false, false, false, false, false, false, false, false, false, false] rfl rfl (by kernel_rfl) (fun _ _ _ h => h) (Or.inl ⟨by rfl, ?_⟩) hHeld ?_ ?_
    rotate_left
    · rintro w' ⟨s0, s1, s2, s3, s4, s5⟩
      go_simp
      with_reducible rfl
    rotate_left
    · simp only [Act.put, List.setIfInBounds_toArray, List.set_cons_zero, List.set_cons_succ, i64_w, i32_w]
      rfl
    refine pure_ (i := 12) (N := some 66) (v := ?_) (a' := ?_) #[true, true, true, true, true, true, true, true, true, true, true, true, true, false, false, false, false, false, false, false, false, false, false, false, false] rfl rfl (by kernel_rfl) (fun _ _ _ h => h) (Or.inl ⟨by rfl, ?_⟩) ?_ ?_
    rotate_left
    · intro w'
      go_simp
      with_reducible rfl
    rotate_left
    · simp only [Act.put, List.setIfInBounds_toArray, List.set_cons_zero, List.set_cons_succ, i64_w, i32_w]
      rfl
    refine pure_ (i := 13) (N := some 67) (v := ?_) (a' := ?_) #[true, true, true, true, true, true, true, true, true, true, true, true, true, true, false, false, false, false, false, false, false, false, false, false, false] rfl rfl (by kernel_rfl) (fun _ _ _ h => h) (Or.inl ⟨by rfl, ?_⟩) ?_ ?_
    rotate_left
    · intro w'
      go_simp
      with_reducible rfl
    rotate_left
    · simp only [Act.put, List.setIfInBounds_toArray, List.set_cons_zero, List.set_cons_succ, i64_w, i32_w]
      rfl
    refine pure_ (i := 14) (N := some 68) (v := ?_) (a' := ?_) #[true, true, true, true, true, true, true, true, true, true, true, true, true, true, true, false, false, false, false, false, false, false, false, false, false] rfl rfl (by kernel_rfl) (fun _ _ _ h => h) (Or.inl ⟨by rfl, ?_⟩) ?_ ?_
    rotate_left
    · intro w'
      go_simp
      with_reducible rfl
    rotate_left
    · simp only [Act.put, List.setIfInBounds_toArray, List.set_cons_zero, List.set_cons_succ, i64_w, i32_w]
      rfl
    refine pure_ (i := 15) (N := some 69) (v := ?_) (a' := ?_) #[true, true, true, true, true, true, true, true, true, true, true, true, true, true, true, true, false, false, false, false, false, false, false, false, false] rfl rfl (by kernel_rfl) (fun _ _ _ h => h) (Or.inl ⟨by rfl, ?_⟩) ?_ ?_
    rotate_left
    · intro w'
      go_simp
      with_reducible rfl
    rotate_left
    · simp only [Act.put, List.setIfInBounds_toArray, List.set_cons_zero, List.set_cons_succ, i64_w, i32_w]
      rfl
    refine take_ (i := 16) (N := some 70) (v := ?_) (a' := ?_) #[true, true, true, true, true, true, true, true, true, true, true, true, true, true, true, true, true, false, false, false, false, false, false, false, false] rfl rfl (by kernel_rfl) (fun _ _ _ h => h) (Or.inl ⟨by rfl, ?_⟩) hHeld ?_ ?_
    rotate_left
    · rintro w' ⟨s0, s1, s2, s3, s4, s5⟩
      go_simp
      with_reducible rfl
    rotate_left
    · simp only [Act.put, List.setIfInBounds_toArray, List.set_cons_zero, List.set_cons_succ, i64_w, i32_w]
      rfl
    refine pure_ (i := 17) (N := some 71) (v := ?_) (a' := ?_) #[true, true, true, true, true, true, true, true, true, true, true, true, true, true, true, true, true, true, false, false, false, false, false, false, false] rfl rfl (by kernel_rfl) (fun _ _ _ h => h) (Or.inl ⟨by rfl, ?_⟩) ?_ ?_
    rotate_left
    · intro w'
      go_simp
      with_reducible rfl
    rotate_left
    · simp only [Act.put, List.setIfInBounds_toArray, List.set_cons_zero, List.set_cons_succ, i64_w, i32_w]
      rfl
    refine pure_ (i := 18) (N := some 72) (v := ?_) (a' := ?_) #[true, true, true, true, true, true, true, true, true, true, true, true, true, true, true, true, true, true, true, false, false, false, false, false, false] rfl rfl (by kernel_rfl) (fun _ _ _ h => h) (Or.inl ⟨by rfl, ?_⟩) ?_ ?_
    rotate_left
    · intro w'
      go_simp
      with_reducible rfl
    rotate_left
    · simp only [Act.put, List.setIfInBounds_toArray, List.set_cons_zero, List.set_cons_succ, i64_w, i32_w]
      rfl
    refine pure_ (i := 19) (N := some 73) (v := ?_) (a' := ?_) #[true, true, true, true, true, true, true, true, true, true, true, true, true, true, true, true, true, true, true, true, false, false, false, false, false] rfl rfl (by kernel_rfl) (fun _ _ _ h => h) (Or.inl ⟨by rfl, ?_⟩) ?_ ?_
    rotate_left
    · intro w'
      go_simp
      with_reducible rfl
    rotate_left
    · simp only [Act.put, List.setIfInBounds_toArray, List.set_cons_zero, List.set_cons_succ, i64_w, i32_w]
      rfl
    refine pure_ (i := 20) (N := some 74) (v := ?_) (a' := ?_) #[true, true, true, true, true, true, true, true, true, true, true, true, true, true, true, true, true, true, true, true, true, false, false, false, false] rfl rfl (by kernel_rfl) (fun _ _ _ h => h) (Or.inl ⟨by rfl, ?_⟩) ?_ ?_
    rotate_left
    · intro w'
      go_simp
      with_reducible rfl
    rotate_left
    · simp only [Act.put, List.setIfInBounds_toArray, List.set_cons_zero, List.set_cons_succ, i64_w, i32_w]
      rfl
    refine take_ (i := 21) (N := some 75) (v := ?_) (a' := ?_) #[true, true, true, true, true, true, true, true, true, true, true, true, true, true, true, true, true, true, true, true, true, true, false, false, false] rfl rfl (by kernel_rfl) (fun _ _ _ h => h) (Or.inl ⟨by rfl, ?_⟩) hHeld ?_ ?_
    rotate_left
    · rintro w' ⟨s0, s1, s2, s3, s4, s5⟩
      go_simp
      with_reducible rfl
    rotate_left
    · simp only [Act.put, List.setIfInBounds_toArray, List.set_cons_zero, List.set_cons_succ, i64_w, i32_w]
      rfl
    refine pure_ (i := 22) (N := some 76) (v := ?_) (a' := ?_) #[true, true, true, true, true, true, true, true, true, true, true, true, true, true, true, true, true, true, true, true, true, true, true, false, false] rfl rfl (by kernel_rfl) (fun _ _ _ h => h) (Or.inl ⟨by rfl, ?_⟩) ?_ ?_
    rotate_left
    · intro w'
      go_simp
      with_reducible rfl
    rotate_left
    · simp only [Act.put, List.setIfInBounds_toArray, List.set_cons_zero, List.set_cons_succ, i64_w, i32_w]
      rfl
    refine pure_ (i := 23) (N := some 77) (v := ?_) (a' := ?_) #[true, true, true, true, true, true, true, true, true, true, true, true, true, true, true, true, true, true, true, true, true, true, true, true, false] rfl rfl (by kernel_rfl) (fun _ _ _ h => h) (Or.inl ⟨by rfl, ?_⟩) ?_ ?_
    rotate_left
    · intro w'
      go_simp
      with_reducible rfl
    rotate_left
    · simp only [Act.put, List.setIfInBounds_toArray, List.set_cons_zero, List.set_cons_succ, i64_w, i32_w]
      rfl
    refine pure_ (i := 24) (N := some 53) (v := ?_) (a' := ?_) #[true, true, true, true, true, true, true, true, true, true, true, true, true, true, true, true, true, true, true, true, true, true, true, true, true] rfl rfl (by kernel_rfl) (fun _ _ _ h => h) (Or.inl ⟨by rfl, ?_⟩) ?_ ?_
    rotate_left
    · intro w'
      go_simp
      with_reducible rfl
    rotate_left
    · simp only [Act.put, List.setIfInBounds_toArray, List.set_cons_zero, List.set_cons_succ, i64_w, i32_w]
      rfl
    refine done_ (by kernel_rfl) ?_
    go_wp2
    go_ret
    exact ⟨rfl, HB.out⟩
  have z3 : decide (256 < a1_5) = false := decide_eq_false y3
  have HF5 : Aside0 (r0 = if prodU l1_1 > 4096 then 8 else 0) := ⟨by rw [HF4.out, if_neg (by simp only [Bool.false_eq_true, false_or]; omega)]⟩
  clear HF4 y1 y2 y3
  refine start_ (n := 25) (S := fun w' => w'.cell? ⟨ob, 0, none⟩ = some (.slice A1_0 l1_0.length c1_0) ∧ w'.cell? ⟨ob, 1, none⟩ = some (.slice A1_1 l1_1.length c1_1) ∧ w'.cell? ⟨ob, 2, none⟩ = some (.slice A1_2 l1_2.length c1_2) ∧ w'.cell? ⟨ob, 3, none⟩ = some (.int .i64 a1_3) ∧ w'.cell? ⟨ob, 4, none⟩ = some (.int .i64 a1_4) ∧ w'.cell? ⟨ob, 5, none⟩ = some (.int .i64 a1_5)) (ds := []) #[false, false, false, false, false, false, false, false, false, false, false, false, false, false, false, false, false, false, false, false, false, false, false, false, false] (by kernel_rfl) rfl rfl ⟨d0, d1, d2, d3, d4, d5⟩ (fun hHeld => ?_)
  replace HB := Aside0.mk (below_drew1 HB.out)
  replace d0 : (World.drew _).cell? _ = _ := d0
  replace d1 : (World.drew _).cell? _ = _ := d1
  replace d2 : (World.drew _).cell? _ = _ := d2
  replace d3 : (World.drew _).cell? _ = _ := d3
  replace d4 : (World.drew _).cell? _ = _ := d4
  replace d5 : (World.drew _).cell? _ = _ := d5
  generalize World.drew _ = wd at d0 d1 d2 d3 d4 d5 HB hHeld ⊢
  refine pure_ (i := 0) (N := some 54) (v := ?_) (a' := ?_) #[true, false, false, false, false, false, false, false, false, false, false, false, false, false, false, false, false, false, false, false, false, false, false, false, false] rfl rfl (by kernel_rfl) (fun _ _ _ h => h) (Or.inl ⟨by rfl, ?_⟩) ?_ ?_
  rotate_left
  · intro w'
    go_simp
    with_reducible rfl
  rotate_left
  · simp only [Act.put, List.setIfInBounds_toArray, List.set_cons_zero, List.set_cons_succ, i64_w, i32_w]
    rfl
  refine pure_ (i := 2) (N := some 56) (v := ?_) (a' := ?_) #[true, false, true, false, false, false, false, false, false, false, false, false, false, false, false, false, false, false, false, false, false, false, false, false, false] rfl rfl (by kernel_rfl) (fun _ _ _ h => h) (Or.inl ⟨by rfl, ?_⟩) ?_ ?_
  rotate_left
  · intro w'
    go_simp
    with_reducible rfl
  rotate_left
  · simp only [Act.put, List.setIfInBounds_toArray, List.set_cons_zero, List.set_cons_succ, i64_w, i32_w]
    rfl
  refine take_ (i := 1) (N := some 55) (v := ?_) (a' := ?_) #[true, true, true, false, false, false, false, false, false, false, false, false, false, false, false, false, false, false, false, false, false, false, false, false, false] rfl rfl (by kernel_rfl) (fun _ _ _ h => h) (Or.inl ⟨by rfl, ?_⟩) hHeld ?_ ?_
  rotate_left
  · rintro w' ⟨s0, s1, s2, s3, s4, s5⟩
    go_simp
    with_reducible rfl
  rotate_left
  · simp only [Act.put, List.setIfInBounds_toArray, List.set_cons_zero, List.set_cons_succ, i64_w, i32_w]
    rfl
  refine take_ (i := 3) (N := some 57) (v := ?_) (a' := ?_) #[true, true, true, true, false, false, false, false, false, false, false, false, false, false, false, false, false, false, false, false, false, false, false, false, false] rfl rfl (by kernel_rfl) (fun _ _ _ h => h) (Or.inl ⟨by rfl, ?_⟩) hHeld ?_ ?_
  rotate_left
  · rintro w' ⟨s0, s1, s2, s3, s4, s5⟩
    go_simp
    with_reducible rfl
  rotate_left
  · simp only [Act.put, List.setIfInBounds_toArray, List.set_cons_zero, List.set_cons_succ, i64_w, i32_w]
    rfl
  refine join_ (σ := Nat × Nat) 19 #[true, true, true, true, true, true, false, false, false, false, false, false, false, false, false, false, false, false, false, false, false, false, false, false, false] (fun s => [(58, .slice (some ⟨s.1, 0, none⟩) 2 2), (59, .func (.func 70) #[] #[.pointer (some ⟨s.2, 0, none⟩)])]) (fun s w' => (w'.cell? ⟨ob, 0, none⟩ = some (.slice A1_0 l1_0.length c1_0) ∧ w'.cell? ⟨ob, 1, none⟩ = some (.slice A1_1 l1_1.length c1_1) ∧ w'.cell? ⟨ob, 2, none⟩ = some (.slice A1_2 l1_2.length c1_2) ∧ w'.cell? ⟨ob, 3, none⟩ = some (.int .i64 a1_3) ∧ w'.cell? ⟨ob, 4, none⟩ = some (.int .i64 a1_4) ∧ w'.cell? ⟨ob, 5, none⟩ = some (.int .i64 a1_5)) ∧ w'.cell? ⟨s.1, 0, none⟩ = some (.int .i64 a1_3) ∧ w'.cell? ⟨s.1, 1, none⟩ = some (.int .i64 a1_4) ∧ w'.cell? ⟨s.2, 0, none⟩ = some (.int .i64 10000) ∧ Aside0 (Below w.heap.size w w')) ?_ ?_
  rotate_left
  · intro hCont
    refine two_ (i := 4) (j := 5) (Ni := some 58) (Nj := some 59) #[true, true, true, true, true, false, false, false, false, false, false, false, false, false, false, false, false, false, false, false, false, false, false, false, false] #[true, true, true, true, false, true, false, false, false, false, false, false, false, false, false, false, false, false, false, false, false, false, false, false, false] rfl rfl rfl rfl (by kernel_rfl) (by decide) (by decide) (fun K hK => ?_) (fun K hK => ?_)
    · skip
      refine value_ (w1 := ?_) (v := ?_) (by rfl) rfl ?_ ?_
      rotate_left 2
      · go_simp
        constructor
        · rfl
        · rfl
      have hb : Below wd.heap.size wd (wd.alloc (Obj.cells #[Value.int IntKind.i64 a1_3, Value.int IntKind.i64 a1_4] 3)) := below_alloc (Below.refl _ _) _
      have hs0 : (wd.alloc (Obj.cells #[Value.int IntKind.i64 a1_3, Value.int IntKind.i64 a1_4] 3)).cell? ⟨wd.heap.size, 0, none⟩ = some (.int .i64 a1_3) := by rw [World.cell?_alloc_new]; rfl
      have hs1 : (wd.alloc (Obj.cells #[Value.int IntKind.i64 a1_3, Value.int IntKind.i64 a1_4] 3)).cell? ⟨wd.heap.size, 1, none⟩ = some (.int .i64 a1_4) := by rw [World.cell?_alloc_new]; rfl
      replace d0 := pw_cell_below hb d0
      replace d1 := pw_cell_below hb d1
      replace d2 := pw_cell_below hb d2
      replace d3 := pw_cell_below hb d3
      replace d4 := pw_cell_below hb d4
      replace d5 := pw_cell_below hb d5
      replace HB := Aside0.mk (below_step HB.out hb)
      clear hb
      generalize wd.alloc (Obj.cells #[Value.int IntKind.i64 a1_3, Value.int IntKind.i64 a1_4] 3) = wy at hs0 hs1 d0 d1 d2 d3 d4 d5 HB ⊢
      generalize wd.heap.size = gs at hs0 hs1 ⊢
      refine hK.out _ _ ⟨d0, d1, d2, d3, d4, d5⟩ (fun hHeld => ?_)
      clear hK K
      refine norm_ (a' := ?_) ?_ ?_
      rotate_left
      · show Act.put _ (some 58) _ = _
        simp only [Act.put, List.setIfInBounds_toArray, List.set_cons_zero, List.set_cons_succ, i64_w, i32_w]
        rfl
      refine one_ (i := 5) (N := some 59) #[true, true, true, true, true, true, false, false, false, false, false, false, false, false, false, false, false, false, false, false, false, false, false, false, false] rfl rfl (by kernel_rfl) (by decide) (fun K hK => ?_)
      refine call_ 50 #[.int .i64 10000] (by rfl) rfl (by go_simp) ?_
      refine (blend_outside.calls _ _).mono ?_
      rintro e' wq ⟨bm, rfl, hbm, hb⟩
      refine ⟨_, rfl, ?_⟩
      replace d0 := pw_cell_below hb d0
      replace d1 := pw_cell_below hb d1
      replace d2 := pw_cell_below hb d2
      replace d3 := pw_cell_below hb d3
      replace d4 := pw_cell_below hb d4
      replace d5 := pw_cell_below hb d5
      replace HB := Aside0.mk (below_step HB.out hb)
      replace hs0 := pw_cell_below hb hs0
      replace hs1 := pw_cell_below hb hs1
      clear hb
      refine hK.out _ _ ⟨d0, d1, d2, d3, d4, d5⟩ (fun hHeld => ?_)
      clear hK K
      refine norm_ (a' := ?_) ?_ ?_
      rotate_left
      · show Act.put _ (some 59) _ = _
        simp only [Act.put, List.setIfInBounds_toArray, List.set_cons_zero, List.set_cons_succ, i64_w, i32_w]
        rfl
      exact norm_ (by simp only [putAll, Act.put, List.setIfInBounds_toArray, List.set_cons_zero, List.set_cons_succ]) (hCont (gs, bm) _ ⟨⟨d0, d1, d2, d3, d4, d5⟩, hs0, hs1, hbm, HB⟩)
    · skip
      refine call_ 50 #[.int .i64 10000] (by rfl) rfl (by go_simp) ?_
      refine (blend_outside.calls _ _).mono ?_
      rintro e' wq ⟨bm, rfl, hbm, hb⟩
      refine ⟨_, rfl, ?_⟩
      replace d0 := pw_cell_below hb d0
      replace d1 := pw_cell_below hb d1
      replace d2 := pw_cell_below hb d2
      replace d3 := pw_cell_below hb d3
      replace d4 := pw_cell_below hb d4
      replace d5 := pw_cell_below hb d5
      replace HB := Aside0.mk (below_step HB.out hb)
      clear hb
      refine hK.out _ _ ⟨d0, d1, d2, d3, d4, d5⟩ (fun hHeld => ?_)
      clear hK K
      refine norm_ (a' := ?_) ?_ ?_
      rotate_left
      · show Act.put _ (some 59) _ = _
        simp only [Act.put, List.setIfInBounds_toArray, List.set_cons_zero, List.set_cons_succ, i64_w, i32_w]
        rfl
      refine one_ (i := 4) (N := some 58) #[true, true, true, true, true, true, false, false, false, false, false, false, false, false, false, false, false, false, false, false, false, false, false, false, false] rfl rfl (by kernel_rfl) (by decide) (fun K hK => ?_)
      refine value_ (w1 := ?_) (v := ?_) (by rfl) rfl ?_ ?_
      rotate_left 2
      · go_simp
        constructor
        · rfl
        · rfl
      have hb : Below wq.heap.size wq (wq.alloc (Obj.cells #[Value.int IntKind.i64 a1_3, Value.int IntKind.i64 a1_4] 3)) := below_alloc (Below.refl _ _) _
      have hs0 : (wq.alloc (Obj.cells #[Value.int IntKind.i64 a1_3, Value.int IntKind.i64 a1_4] 3)).cell? ⟨wq.heap.size, 0, none⟩ = some (.int .i64 a1_3) := by rw [World.cell?_alloc_new]; rfl
      have hs1 : (wq.alloc (Obj.cells #[Value.int IntKind.i64 a1_3, Value.int IntKind.i64 a1_4] 3)).cell? ⟨wq.heap.size, 1, none⟩ = some (.int .i64 a1_4) := by rw [World.cell?_alloc_new]; rfl
      replace hbm := pw_cell_below hb hbm
      replace d0 := pw_cell_below hb d0
      replace d1 := pw_cell_below hb d1
      replace d2 := pw_cell_below hb d2
      replace d3 := pw_cell_below hb d3
      replace d4 := pw_cell_below hb d4
      replace d5 := pw_cell_below hb d5
      replace HB := Aside0.mk (below_step HB.out hb)
      clear hb
      generalize wq.alloc (Obj.cells #[Value.int IntKind.i64 a1_3, Value.int IntKind.i64 a1_4] 3) = wy at hs0 hs1 d0 d1 d2 d3 d4 d5 HB hbm ⊢
      generalize wq.heap.size = gs at hs0 hs1 ⊢
      refine hK.out _ _ ⟨d0, d1, d2, d3, d4, d5⟩ (fun hHeld => ?_)
      clear hK K
      refine norm_ (a' := ?_) ?_ ?_
      rotate_left
      · show Act.put _ (some 58) _ = _
        simp only [Act.put, List.setIfInBounds_toArray, List.set_cons_zero, List.set_cons_succ, i64_w, i32_w]
        rfl
      exact norm_ (by simp only [putAll, Act.put, List.setIfInBounds_toArray, List.set_cons_zero, List.set_cons_succ]) (hCont (gs, bm) _ ⟨⟨d0, d1, d2, d3, d4, d5⟩, hs0, hs1, hbm, HB⟩)
  clear d0 d1 d2 d3 d4 d5 HB hHeld
  rintro ⟨gs, bm⟩ w9 ⟨⟨d0, d1, d2, d3, d4, d5⟩, hs0, hs1, hbm, HB⟩
  dsimp only at hs0 hs1 hbm
  have hHeld : w9.cell? ⟨ob, 0, none⟩ = some (.slice A1_0 l1_0.length c1_0) ∧ w9.cell? ⟨ob, 1, none⟩ = some (.slice A1_1 l1_1.length c1_1) ∧ w9.cell? ⟨ob, 2, none⟩ = some (.slice A1_2 l1_2.length c1_2) ∧ w9.cell? ⟨ob, 3, none⟩ = some (.int .i64 a1_3) ∧ w9.cell? ⟨ob, 4, none⟩ = some (.int .i64 a1_4) ∧ w9.cell? ⟨ob, 5, none⟩ = some (.int .i64 a1_5) := ⟨d0, d1, d2, d3, d4, d5⟩
  refine norm_ (a' := ?_) ?_ ?_
  rotate_left
  · simp only [putAll, Act.put, List.setIfInBounds_toArray, List.set_cons_zero, List.set_cons_succ]
    rfl
  refine one_ (i := 6) (N := some 60) #[true, true, true, true, true, true, true, false, false, false, false, false, false, false, false, false, false, false, false, false, false, false, false, false, false] rfl rfl (by kernel_rfl) (by decide) (fun K hK => ?_)
  refine call_ 49 #[.slice (some ⟨gs, 0, none⟩) 2 2, .func (.func 70) #[] #[.pointer (some ⟨bm, 0, none⟩)]] (by rfl) rfl (by go_simp) ?_
  refine (HS.out _ _ _ hs0 hs1 hbm HB.out).mono ?_
  rintro e' wz23 ⟨rfl, hb⟩
  refine ⟨_, rfl, ?_⟩
  replace d0 := pw_cell_below hb d0
  replace d1 := pw_cell_below hb d1
  replace d2 := pw_cell_below hb d2
  replace d3 := pw_cell_below hb d3
  replace d4 := pw_cell_below hb d4
  replace d5 := pw_cell_below hb d5
  replace HB := Aside0.mk (below_step HB.out hb)
  clear hb
  refine hK.out _ _ ⟨d0, d1, d2, d3, d4, d5⟩ (fun hHeld => ?_)
  clear hK K
  refine norm_ (a' := ?_) ?_ ?_
  rotate_left
  · show Act.put _ (some 60) _ = _
    simp only [Act.put, List.setIfInBounds_toArray, List.set_cons_zero, List.set_cons_succ, i64_w, i32_w]
    rfl
  refine pure_ (i := 7) (N := some 61) (v := ?_) (a' := ?_) #[true, true, true, true, true, true, true, true, false, false, false, false, false, false, false, false, false, false, false, false, false, false, false, false, false] rfl rfl (by kernel_rfl) (fun _ _ _ h => h) (Or.inl ⟨by rfl, ?_⟩) ?_ ?_
  rotate_left
  · intro w'
    go_simp
    with_reducible rfl
  rotate_left
  · simp only [Act.put, List.setIfInBounds_toArray, List.set_cons_zero, List.set_cons_succ, i64_w, i32_w]
    rfl
  refine pure_ (i := 8) (N := some 62) (v := ?_) (a' := ?_) #[true, true, true, true, true, true, true, true, true, false, false, false, false, false, false, false, false, false, false, false, false, false, false, false, false] rfl rfl (by kernel_rfl) (fun _ _ _ h => h) (Or.inl ⟨by rfl, ?_⟩) ?_ ?_
  rotate_left
  · intro w'
    go_simp
    with_reducible rfl
  rotate_left
  · simp only [Act.put, List.setIfInBounds_toArray, List.set_cons_zero, List.set_cons_succ, i64_w, i32_w]
    rfl
  refine pure_ (i := 10) (N := some 64) (v := ?_) (a' := ?_) #[true, true, true, true, true, true, true, true, true, false, true, false, false, false, false, false, false, false, false, false, false, false, false, false, false] rfl rfl (by kernel_rfl) (fun _ _ _ h => h) (Or.inl ⟨by rfl, ?_⟩) ?_ ?_
  rotate_left
  · intro w'
    go_simp
    with_reducible rfl
  rotate_left
  · simp only [Act.put, List.setIfInBounds_toArray, List.set_cons_zero, List.set_cons_succ, i64_w, i32_w]
    rfl
  refine take_ (i := 9) (N := some 63) (v := ?_) (a' := ?_) #[true, true, true, true, true, true, true, true, true, true, true, false, false, false, false, false, false, false, false, false, false, false, false, false, false] rfl rfl (by kernel_rfl) (fun _ _ _ h => h) (Or.inl ⟨by rfl, ?_⟩) hHeld ?_ ?_
  rotate_left
  · rintro w' ⟨s0, s1, s2, s3, s4, s5⟩
    go_simp
    with_reducible rfl
  rotate_left
  · simp only [Act.put, List.setIfInBounds_toArray, List.set_cons_zero, List.set_cons_succ, i64_w, i32_w]
    rfl
  refine take_ (i := 11) (N := some 65) (v := ?_) (a' := ?_) #[true, true, true, true, true, true, true, true, true, true, true, true, false, false, false, false, false, false, false, false, false, false, false, false, false] rfl rfl (by kernel_rfl) (fun _ _ _ h => h) (Or.inl ⟨by rfl, ?_⟩) hHeld ?_ ?_
  rotate_left
  · rintro w' ⟨s0, s1, s2, s3, s4, s5⟩
    go_simp
    with_reducible rfl
  rotate_left
  · simp only [Act.put, List.setIfInBounds_toArray, List.set_cons_zero, List.set_cons_succ, i64_w, i32_w]
    rfl
  refine pure_ (i := 12) (N := some 66) (v := ?_) (a' := ?_) #[true, true, true, true, true, true, true, true, true, true, true, true, true, false, false, false, false, false, false, false, false, false, false, false, false] rfl rfl (by kernel_rfl) (fun _ _ _ h => h) (Or.inl ⟨by rfl, ?_⟩) ?_ ?_
  rotate_left
  · intro w'
    go_simp
    with_reducible rfl
  rotate_left
  · simp only [Act.put, List.setIfInBounds_toArray, List.set_cons_zero, List.set_cons_succ, i64_w, i32_w]
    rfl
  refine pure_ (i := 13) (N := some 67) (v := ?_) (a' := ?_) #[true, true, true, true, true, true, true, true, true, true, true, true, true, true, false, false, false, false, false, false, false, false, false, false, false] rfl rfl (by kernel_rfl) (fun _ _ _ h => h) (Or.inl ⟨by rfl, ?_⟩) ?_ ?_
  rotate_left
  · intro w'
    go_simp
    with_reducible rfl
  rotate_left
  · simp only [Act.put, List.setIfInBounds_toArray, List.set_cons_zero, List.set_cons_succ, i64_w, i32_w]
    rfl
  refine pure_ (i := 14) (N := some 68) (v := ?_) (a' := ?_) #[true, true, true, true, true, true, true, true, true, true, true, true, true, true, true, false, false, false, false, false, false, false, false, false, false] rfl rfl (by kernel_rfl) (fun _ _ _ h => h) (Or.inl ⟨by rfl, ?_⟩) ?_ ?_
  rotate_left
  · intro w'
    go_simp
    with_reducible rfl
  rotate_left
  · simp only [Act.put, List.setIfInBounds_toArray, List.set_cons_zero, List.set_cons_succ, i64_w, i32_w]
    rfl
  refine pure_ (i := 15) (N := some 69) (v := ?_) (a' := ?_) #[true, true, true, true, true, true, true, true, true, true, true, true, true, true, true, true, false, false, false, false, false, false, false, false, false] rfl rfl (by kernel_rfl) (fun _ _ _ h => h) (Or.inl ⟨by rfl, ?_⟩) ?_ ?_
  rotate_left
  · intro w'
    go_simp
    with_reducible rfl
  rotate_left
  · simp only [Act.put, List.setIfInBounds_toArray, List.set_cons_zero, List.set_cons_succ, i64_w, i32_w]
    rfl
  refine take_ (i := 16) (N := some 70) (v := ?_) (a' := ?_) #[true, true, true, true, true, true, true, true, true, true, true, true, true, true, true, true, true, false, false, false, false, false, false, false, false] rfl rfl (by kernel_rfl) (fun _ _ _ h => h) (Or.inl ⟨by rfl, ?_⟩) hHeld ?_ ?_
  rotate_left
  · rintro w' ⟨s0, s1, s2, s3, s4, s5⟩
    go_simp
    with_reducible rfl
  rotate_left
  · simp only [Act.put, List.setIfInBounds_toArray, List.set_cons_zero, List.set_cons_succ, i64_w, i32_w]
    rfl
  refine pure_ (i := 17) (N := some 71) (v := ?_) (a' := ?_) #[true, true, true, true, true, true, true, true, true, true, true, true, true, true, true, true, true, true, false, false, false, false, false, false, false] rfl rfl (by kernel_rfl) (fun _ _ _ h => h) (Or.inl ⟨by rfl, ?_⟩) ?_ ?_
  rotate_left
  · intro w'
    go_simp
    with_reducible rfl
  rotate_left
  · simp only [Act.put, List.setIfInBounds_toArray, List.set_cons_zero, List.set_cons_succ, i64_w, i32_w]
    rfl
  refine pure_ (i := 18) (N := some 72) (v := ?_) (a' := ?_) #[true, true, true, true, true, true, true, true, true, true, true, true, true, true, true, true, true, true, true, false, false, false, false, false, false] rfl rfl (by kernel_rfl) (fun _ _ _ h => h) (Or.inl ⟨by rfl, ?_⟩) ?_ ?_
  rotate_left
  · intro w'
    go_simp
    with_reducible rfl
  rotate_left
  · simp only [Act.put, List.setIfInBounds_toArray, List.set_cons_zero, List.set_cons_succ, i64_w, i32_w]
    rfl
  refine pure_ (i := 19) (N := some 73) (v := ?_) (a' := ?_) #[true, true, true, true, true, true, true, true, true, true, true, true, true, true, true, true, true, true, true, true, false, false, false, false, false] rfl rfl (by kernel_rfl) (fun _ _ _ h => h) (Or.inl ⟨by rfl, ?_⟩) ?_ ?_
  rotate_left
  · intro w'
    go_simp
    with_reducible rfl
  rotate_left
  · simp only [Act.put, List.setIfInBounds_toArray, List.set_cons_zero, List.set_cons_succ, i64_w, i32_w]
    rfl
  refine pure_ (i := 20) (N := some 74) (v := ?_) (a' := ?_) #[true, true, true, true, true, true, true, true, true, true, true, true, true, true, true, true, true, true, true, true, true, false, false, false, false] rfl rfl (by kernel_rfl) (fun _ _ _ h => h) (Or.inl ⟨by rfl, ?_⟩) ?_ ?_
  rotate_left
  · intro w'
    go_simp
    with_reducible rfl
  rotate_left
  · simp only [Act.put, List.setIfInBounds_toArray, List.set_cons_zero, List.set_cons_succ, i64_w, i32_w]
    rfl
  refine take_ (i := 21) (N := some 75) (v := ?_) (a' := ?_) #[true, true, true, true, true, true, true, true, true, true, true, true, true, true, true, true, true, true, true, true, true, true, false, false, false] rfl rfl (by kernel_rfl) (fun _ _ _ h => h) (Or.inl ⟨by rfl, ?_⟩) hHeld ?_ ?_
  rotate_left
  · rintro w' ⟨s0, s1, s2, s3, s4, s5⟩
    go_simp
    with_reducible rfl
  rotate_left
  · simp only [Act.put, List.setIfInBounds_toArray, List.set_cons_zero, List.set_cons_succ, i64_w, i32_w]
    rfl
  refine pure_ (i := 22) (N := some 76) (v := ?_) (a' := ?_) #[true, true, true, true, true, true, true, true, true, true, true, true, true, true, true, true, true, true, true, true, true, true, true, false, false] rfl rfl (by kernel_rfl) (fun _ _ _ h => h) (Or.inl ⟨by rfl, ?_⟩) ?_ ?_
  rotate_left
  · intro w'
    go_simp
    with_reducible rfl
  rotate_left
  · simp only [Act.put, List.setIfInBounds_toArray, List.set_cons_zero, List.set_cons_succ, i64_w, i32_w]
    rfl
  refine pure_ (i := 23) (N := some 77) (v := ?_) (a' := ?_) #[true, true, true, true, true, true, true, true, true, true, true, true, true, true, true, true, true, true, true, true, true, true, true, true, false] rfl rfl (by kernel_rfl) (fun _ _ _ h => h) (Or.inl ⟨by rfl, ?_⟩) ?_ ?_
  rotate_left
  · intro w'
    go_simp
    with_reducible rfl
  rotate_left
  · simp only [Act.put, List.setIfInBounds_toArray, List.set_cons_zero, List.set_cons_succ, i64_w, i32_w]
    rfl
  refine pure_ (i := 24) (N := some 53) (v := ?_) (a' := ?_) #[true, true, true, true, true, true, true, true, true, true, true, true, true, true, true, true, true, true, true, true, true, true, true, true, true] rfl rfl (by kernel_rfl) (fun _ _ _ h => h) (Or.inl ⟨by rfl, ?_⟩) ?_ ?_
  rotate_left
  · intro w'
    go_simp
    with_reducible rfl
  rotate_left
  · simp only [Act.put, List.setIfInBounds_toArray, List.set_cons_zero, List.set_cons_succ, i64_w, i32_w]
    rfl
  refine done_ (by kernel_rfl) ?_
  have HRG := Aside0.mk (HZ.out rfl)
  clear HZ d0 d2 d3 d4 d5 dt z1 z2 z3 q1 q2 q3 q4 HS hs0 hs1 hbm e70 e75 HL HX2 hu
  go_upto_region 16 with fail
  clear d1
  go_loopg [6, 81] 4 (fun kx v6 v81 wr => ∃ (x p : Int), v6 = .int .i64 p ∧ v81 = .int .i64 x ∧ Aside0 (∃ i : Nat, x = (i : Int) ∧ i ≤ l1_1.length ∧ l1_1.length - i ≤ kx ∧ p * prodU (l1_1.drop i) = prodU l1_1 ∧ 1 ≤ p ∧ p ≤ 65 ^ i) ∧ Aside0 (Below w.heap.size w wr))
  case atStart => exact ⟨0, 1, rfl, rfl, ⟨0, rfl, Nat.zero_le _, by have := HX.out; omega, by rw [Int.one_mul]; rfl, by decide, by decide⟩, HB⟩
  case round =>
    clear HB
    obtain ⟨x, p, rfl, rfl, HI0, HB⟩ := hrel
    obtain ⟨i, hxi, hI⟩ := HI0.out
    have HI := Aside0.mk hI
    have HXI := Aside0.mk hxi
    clear HI0 hI
    by_cases hlt : i < l1_1.length
    · have q1 : decide (x < (l1_1.length : Int)) = true := decide_eq_true (by omega)
      obtain ⟨ad, e, hx⟩ := Kd.at_int (Kd.C_below HR.out HB.out) x (by omega) (by omega)
      cases e
      have hst := prod_step hlt HX.out (HRG.out i hlt) HI.out.2.2.1 HI.out.2.2.2.1 HI.out.2.2.2.2
      rw [← hxi] at hst
      obtain ⟨s1, s2, s3, s4⟩ := hst
      have s0 : wrap64 (rd l1_1 x + 1) = rd l1_1 x + 1 := by have := HRG.out i hlt; rw [← hxi] at this; exact w64_ (by omega) (by omega)
      have w1 : wrap64 (x + 1) = x + 1 := by have := HX.out; exact w64_ (by omega) (by omega)
      have p4 := eq_true (show (0 : Int) ≤ x by omega)
      have q4 := eq_true (show x < (l1_1.length : Int) by omega)
      have HN := Aside0.mk (show (p * (rd l1_1 x + 1)) * prodU (l1_1.drop (i + 1)) = prodU l1_1 ∧ 1 ≤ p * (rd l1_1 x + 1) ∧ p * (rd l1_1 x + 1) ≤ 65 ^ (i + 1) from ⟨s2, s3, s4⟩)
      have HLT := Aside0.mk hlt
      clear s2 s3 s4 hlt hxi
      go_wp2
      go_roundg (l1_1.length - (i + 1))
      case measure => have := HI.out; have := HLT.out; omega
      case rel => exact ⟨x + 1, p * (rd l1_1 x + 1), by first | rfl | (rw [s0, s1]) | (rw [s1]), by first | rfl | (rw [w1]), ⟨i + 1, by rw [HXI.out]; rfl, HLT.out, Nat.le_refl _, HN.out⟩, HB⟩
    · have q1 : decide (x < (l1_1.length : Int)) = false := decide_eq_false (by omega)
      have hp : p = prodU l1_1 := by
        have h1 := HI.out.2.2.1
        rw [List.drop_eq_nil_of_le (by omega)] at h1
        rw [← h1]
        show p = p * 1
        omega
      by_cases y4 : prodU l1_1 > 4096
      · have q5 : decide (4096 < p) = true := decide_eq_true (by omega)
        obtain rfl : r0 = 8 := by rw [HF5.out, if_pos y4]
        clear hp y4 hlt hxi
        go_wp2
        go_ret
        exact ⟨rfl, HB.out⟩
      · have q5 : decide (4096 < p) = false := decide_eq_false (by omega)
        obtain rfl : r0 = 0 := by rw [HF5.out, if_neg y4]
        clear hp y4 hlt hxi
        go_wp2
        go_ret
        exact ⟨rfl, HB.out⟩
end Go.Proofs.YtcdkbciagchlgaaDoor.PF
