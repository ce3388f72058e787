/- The walk through the law AuditMost of package spilelaw17 and its closures. -/
import Derived.Test.YtcapbigknimgnaaMAud
import Derived.Test.YtcapbigknimgnaaMAud2
import Derived.Test.YtcapbigknimgnaaMAud3
import Derived.Test.YtcapbigknimgnaaMAud5
import Derived.Test.YtcapbigknimgnaaMAudAwake
import Derived.Test.YtcapbigknimgnaaMEv
import Derived.Test.YtcapbigknimgnaaMKnown17
import Derived.Test.YtcapbigknimgnaaMMost17
import Derived.Test.YtcapbigknimgnaaMOpt
import Derived.Test.YtcapbigknimgnaaPF0
import Derived.Test.YtcapbigknimgnaaPF1
import Derived.Test.YtcapbigknimgnaaPF20
import Derived.Test.YtcapbigknimgnaaPF24
namespace Go.Proofs.Ytcapbigknimgnaa.PF
open Go.RowKit Go.Proofs.YtcapbigknimgnaaW.PrintWords Go.Proofs.YtcapbigknimgnaaW.PrintLast Go.Proofs.YtcapbigknimgnaaW.PrintMore
set_option linter.unusedVariables false
set_option linter.unusedSimpArgs false
theorem idx_int.go (l : List Int) (x : Int) (hn : l.length ≤ 20000) : ∀ d i : Nat, i + d = l.length → ∃ r : Int, Ev (fun k => slices_Index_int_int.l0 k l x (l.length : Int) (i : Int)) r ∧ (0 ≤ r ↔ ∃ j, i ≤ j ∧ ∃ hj : j < l.length, l[j] = x) := by
  intro d
  induction d with
  | zero =>
    intro i hi
    refine ⟨-1, Ev.ret (fun k => ?_), fun h => absurd h (by decide), fun ⟨j, h1, h2, _⟩ => by omega⟩
    simp only [slices_Index_int_int.l0]
    rw [if_neg (by omega)]
  | succ d ih =>
    intro i hi
    have hil : i < l.length := by omega
    have hrd : rd l (i : Int) = l[i] := by unfold rd; rw [Int.toNat_natCast, List.getD_eq_getElem?_getD, List.getElem?_eq_getElem hil]; rfl
    by_cases hb : x = rd l (i : Int)
    · refine ⟨(i : Int), Ev.ret (fun k => ?_), fun _ => ⟨i, Nat.le_refl _, hil, by rw [← hrd]; exact hb.symm⟩, fun _ => by omega⟩
      simp only [slices_Index_int_int.l0]
      rw [if_pos (by omega), if_pos (by omega), if_pos (by omega), if_pos hb]
    · obtain ⟨r, hr, hiff⟩ := ih (i + 1) (by omega)
      refine ⟨r, Ev.step (fun k => ?_) hr, ?_⟩
      · simp only [slices_Index_int_int.l0]
        rw [if_pos (by omega), if_pos (by omega), if_pos (by omega), if_neg hb, w64_ (by omega) (by omega)]
        rfl
      · rw [hiff]
        constructor
        · rintro ⟨j, h1, h2, h3⟩
          exact ⟨j, by omega, h2, h3⟩
        · rintro ⟨j, h1, h2, h3⟩
          rcases Nat.eq_or_lt_of_le h1 with rfl | h4
          · exact absurd (by rw [hrd]; exact h3.symm) hb
          · exact ⟨j, h4, h2, h3⟩
theorem contains_int.known (l : List Int) (x : Int) (A : Option Addr) (c : Nat) (w : World) (hr : Kd.C (Kd.int .i64) w A l.length l) (hc : l.length ≤ c) (hn : l.length ≤ 20000) :
    Calls Try.prog 30 #[.slice A l.length c, .int .i64 x] w fun e w' => e = .returned (.bool (decide (x ∈ l))) ∧ Below w.heap.size w w' := by
  obtain ⟨r, hE, hiff⟩ := idx_int.go l x hn l.length 0 (by omega)
  have h : Ev (fun k => slices_Contains_int_int.f k l x) (decide (x ∈ l)) := by
    unfold slices_Contains_int_int.f
    refine Ev.bind (b := r) hE (Ev.now (fun k => ?_))
    congr 1
    rw [decide_eq_decide]
    show 0 ≤ r ↔ _
    rw [hiff, List.mem_iff_getElem]
    constructor
    · rintro ⟨j, _, hj, e⟩; exact ⟨j, hj, e⟩
    · rintro ⟨j, hj, e⟩; exact ⟨j, Nat.zero_le _, hj, e⟩
  obtain ⟨k, hk⟩ := Ev.given h
  refine (slices_Contains_int_int.calls k A c l x _ w hr hc hk).mono ?_
  rintro e w' ⟨rfl, hd⟩
  exact ⟨rfl, hd.below⟩
set_option maxHeartbeats 400000 in
set_option maxRecDepth 100000 in
theorem AuditMost.has1 (bx : Nat) (A : Option Addr) (c : Nat) (xs : List Int) (i : Int) (W : World) (hcell : W.cell? ⟨bx, 0, none⟩ = some (.slice A xs.length c)) (hr : Kd.C (Kd.int .i64) W A xs.length xs) (hc : xs.length ≤ c) (hn : xs.length ≤ 20000) :
    Calls Try.prog 29 (#[.int .i64 i] ++ #[.pointer (some ⟨bx, 0, none⟩)]) W fun e w' => e = .returned (.bool (decide (i ∈ xs))) ∧ Below W.heap.size W w' := by
  have HC := Aside0.mk (contains_int.known xs i A c W hr hc hn)
  clear hr hc hn
  generalize decide (i ∈ xs) = r at *
  go_enter Try.func29, Try.ntmps29
  go_wp2_with (refine HC.out.mono ?_; rintro e w' ⟨rfl, hb2⟩)
  go_ret
  exact ⟨rfl, hb2⟩
set_option maxHeartbeats 400000 in
set_option maxRecDepth 100000 in
theorem AuditMost.out (bl : Nat) (A : Option Addr) (c n : Nat) (i : Int) (W : World) (hcell : W.cell? ⟨bl, 0, none⟩ = some (.slice A n c)) (h0 : 0 ≤ i) (h1 : i < n) :
    Calls Try.prog 32 (#[.int .i64 i] ++ #[.pointer (some ⟨bl, 0, none⟩)]) W fun e w' => e = .returned (.bool false) ∧ Below W.heap.size W w' := by
  have b0 : decide (i < 0) = false := decide_eq_false (by omega)
  have b1 : decide ((n : Int) ≤ i) = false := decide_eq_false (by omega)
  clear h0 h1
  go_enter Try.func32, Try.ntmps32
  go_wp2
  go_ret
  exact ⟨rfl, Below.refl _ _⟩
set_option maxHeartbeats 400000 in
set_option maxRecDepth 100000 in
theorem AuditMost.bit (bc : Nat) (ch : Int) (i : Nat) (W : World) (hcell : W.cell? ⟨bc, 0, none⟩ = some (.int .u32 ch)) (hi : i < 32) :
    Calls Try.prog 33 (#[.int .i64 i] ++ #[.pointer (some ⟨bc, 0, none⟩)]) W fun e w' => e = .returned (.bool (bits BinOp.and IntKind.u32 (ch / 2 ^ i) 1 == 1)) ∧ Below W.heap.size W w' := by
  have b0 : decide (0 ≤ (i : Int)) = true := decide_eq_true (by omega)
  go_enter Try.func33, Try.ntmps33
  go_wp2
  go_ret
  exact ⟨rfl, Below.refl _ _⟩
/-- Is a row chosen? -/
def bitC (ch : Int) (i : Nat) : Bool := bits BinOp.and IntKind.u32 (ch / 2 ^ i) 1 == 1
theorem bitC_val {ch : Int} (h0 : 0 ≤ ch) (h1 : ch ≤ 4294967295) (i : Nat) : bits BinOp.and IntKind.u32 (ch / 2 ^ i) 1 = if bitC ch i = true then 1 else 0 := by
  have hp : (1 : Int) ≤ 2 ^ i := by
    have := Nat.one_le_two_pow (n := i)
    have e : ((2 ^ i : Nat) : Int) = (2 : Int) ^ i := by simp
    omega
  have d0 : 0 ≤ ch / 2 ^ i := Int.ediv_nonneg h0 (by omega)
  have d1 : ch / 2 ^ i ≤ ch := Int.ediv_le_self _ h0
  have e : bits BinOp.and IntKind.u32 (ch / 2 ^ i) 1 = ch / 2 ^ i % 2 := bits_mask .u32 32 (by decide) (fun n h0 h1 => by rw [IntKind.wrap_u32]; omega) 1 (by decide) (ch / 2 ^ i) d0 (by omega)
  unfold bitC
  rw [e]
  have m0 := Int.emod_nonneg (ch / 2 ^ i) (show (2 : Int) ≠ 0 by decide)
  have m1 := Int.emod_lt_of_pos (ch / 2 ^ i) (show (0 : Int) < 2 by decide)
  by_cases hq : ch / 2 ^ i % 2 = 1
  · rw [hq]; rfl
  · rw [if_neg (by rw [beq_iff_eq]; exact hq)]; omega
set_option maxHeartbeats 400000 in
set_option maxRecDepth 100000 in
theorem AuditMost.both (g : Nat) (cb : Array Value) (eg : ∀ args w, (callFunc g args).run Try.prog w = .ok (.enter g args) w) (bh : Nat) (p : Int → Bool) (x : S33) (W : World) (hh : W.cell? ⟨bh, 0, none⟩ = some (.func (.func g) #[] cb))
    (h1 : ∀ W', Below W.heap.size W W' → Calls Try.prog g (#[.int .i64 x.f0] ++ cb) W' fun e w' => e = .returned (.bool (p x.f0)) ∧ Below W'.heap.size W' w') (h2 : ∀ W', Below W.heap.size W W' → Calls Try.prog g (#[.int .i64 x.f1] ++ cb) W' fun e w' => e = .returned (.bool (p x.f1)) ∧ Below W'.heap.size W' w') :
    Calls Try.prog 28 (#[.agg #[.int .i64 x.f0, .int .i64 x.f1]] ++ #[.pointer (some ⟨bh, 0, none⟩)]) W fun e w' => e = .returned (.bool (p x.f0 && p x.f1)) ∧ Below W.heap.size W w' := by
  have hu := Try.underlying33
  have HB := below_alloc (Below.refl W.heap.size W) (.cells #[.int .i64 x.f0, .int .i64 x.f1] 33)
  have hb0 := blk_new W (.cells #[.int .i64 x.f0, .int .i64 x.f1] 33 (0, 0))
  have c0 : (W.alloc (.cells #[.int .i64 x.f0, .int .i64 x.f1] 33)).cell? ⟨W.heap.size, 0, none⟩ = some (.int .i64 x.f0) := blk_cell hb0 0
  have c1 : (W.alloc (.cells #[.int .i64 x.f0, .int .i64 x.f1] 33)).cell? ⟨W.heap.size, 1, none⟩ = some (.int .i64 x.f1) := blk_cell hb0 1
  replace hh := pw_cell_below HB hh
  clear hb0
  have H1 := Aside0.mk h1
  have H2 := Aside0.mk h2
  replace HB := Aside0.mk HB
  clear h1 h2
  generalize x.f0 = x0 at *
  generalize x.f1 = x1 at *
  go_enter Try.func28, Try.ntmps28
  cases hp0 : p x0
  · rw [hp0] at H1
    go_wp2_with (refine (H1.out _ HB.out).mono ?_; rintro e w1 ⟨rfl, hb⟩)
    go_ret
    exact ⟨by first | rfl | (simp [hp0]; done), below_step HB.out hb⟩
  · rw [hp0] at H1
    go_wp2_with fail
    refine (H1.out _ HB.out).mono ?_
    rintro e w1 ⟨rfl, hb⟩
    replace hh := pw_cell_below hb hh
    replace c1 := pw_cell_below hb c1
    replace HB := Aside0.mk (below_step HB.out hb)
    clear hb
    go_wp2_with (refine (H2.out _ HB.out).mono ?_; rintro e w2 ⟨rfl, hb⟩)
    go_ret
    exact ⟨by first | rfl | (simp [hp0]; done), below_step HB.out hb⟩
set_option maxHeartbeats 400000 in
set_option maxRecDepth 100000 in
theorem AuditMost.free_ (g : Nat) (cb : Array Value) (eg : ∀ args w, (callFunc g args).run Try.prog w = .ok (.enter g args) w) (bc : Nat) (Ac : Option Addr) (cc : Nat) (cl : List S33) (p : Int → Bool) (W : World) (hcell : W.cell? ⟨bc, 0, none⟩ = some (.slice Ac cl.length cc)) (hr : Kd.C k33 W Ac cl.length cl) (hn : cl.length ≤ 20000)
    (hp : ∀ W', Below W.heap.size W W' → ∀ y ∈ cl, (Calls Try.prog g (#[.int .i64 y.f0] ++ cb) W' fun e w' => e = .returned (.bool (p y.f0)) ∧ Below W'.heap.size W' w') ∧ Calls Try.prog g (#[.int .i64 y.f1] ++ cb) W' fun e w' => e = .returned (.bool (p y.f1)) ∧ Below W'.heap.size W' w') :
    Calls Try.prog 26 (#[.func (.func g) #[] cb] ++ #[.pointer (some ⟨bc, 0, none⟩)]) W fun e w' => e = .returned (.bool (!decide (0 ≤ idxP (fun j => p (rd_T33 cl (j : Int)).f0 && p (rd_T33 cl (j : Int)).f1) cl.length 0))) ∧ Below W.heap.size W w' := by
  have HB := below_alloc (Below.refl W.heap.size W) (.cells #[.func (.func g) #[] cb] 49)
  have hb0 := blk_new W (.cells #[.func (.func g) #[] cb] 49 (0, 0))
  have c0 : (W.alloc (.cells #[.func (.func g) #[] cb] 49)).cell? ⟨W.heap.size, 0, none⟩ = some (.func (.func g) #[] cb) := blk_cell hb0 0
  replace hcell := pw_cell_below HB hcell
  have eg28 : ∀ args w, (callFunc 28 args).run Try.prog w = .ok (.enter 28 args) w := enters_of Try.func28 (by kernel_rfl) rfl
  have HC := Aside0.mk (api_Clash_27.below 28 #[.pointer (some ⟨W.heap.size, 0, none⟩)] Ac cc cl (fun j => p (rd_T33 cl (j : Int)).f0 && p (rd_T33 cl (j : Int)).f1) _ eg28 (by omega) (Kd.C_below hr HB)
    (fun W' i h0 h1 hB => by
      have hj : i.toNat < cl.length := by omega
      have hm : rd_T33 cl i ∈ cl := by
        have := rd_clash cl i.toNat hj
        rw [show ((i.toNat : Nat) : Int) = i by omega] at this
        rw [this]
        exact List.getElem_mem _
      have := AuditMost.both g cb eg W.heap.size p (rd_T33 cl i) W' (pw_cell_below hB c0) (fun W'' hB' => (hp W'' (below_step (below_step HB hB) hB') _ hm).1) (fun W'' hB' => (hp W'' (below_step (below_step HB hB) hB') _ hm).2)
      rw [show ((i.toNat : Nat) : Int) = i by omega]
      exact this))
  replace HB := Aside0.mk HB
  clear hr hp hb0 eg
  generalize idxP (fun j => p (rd_T33 cl (j : Int)).f0 && p (rd_T33 cl (j : Int)).f1) cl.length 0 = q at *
  go_enter Try.func26, Try.ntmps26
  go_wp2_with (refine HC.out.mono ?_; rintro e w' ⟨rfl, hb2⟩)
  go_ret
  exact ⟨rfl, below_step HB.out hb2⟩
/-- How many rows below one are chosen. -/
def cntP (c : Nat → Bool) : Nat → Int
  | 0 => 0
  | i + 1 => cntP c i + (if c i = true then 1 else 0)
theorem cntP_rng (c : Nat → Bool) : ∀ i, 0 ≤ cntP c i ∧ cntP c i ≤ i := by
  intro i
  induction i with
  | zero => exact ⟨Int.le_refl _, Int.le_refl _⟩
  | succ i ih =>
    have e : cntP c (i + 1) = cntP c i + (if c i = true then 1 else 0) := rfl
    rw [e]
    split <;> omega
theorem cntP_cntC (c : Nat → Bool) : ∀ i d, cntC c (i + d) 0 = cntP c i + cntC c d i := by
  intro i
  induction i with
  | zero => intro d; rw [Nat.zero_add]; show _ = 0 + _; omega
  | succ i ih =>
    intro d
    have := ih (d + 1)
    rw [show i + 1 + d = i + (d + 1) by omega, this]
    have e : cntP c (i + 1) = cntP c i + (if c i = true then 1 else 0) := rfl
    rw [e]
    simp only [cntC]
    omega
theorem box1_ {W W5 : World} {g t : Nat} {x u : Value} (hb : Below W.heap.size W W5) (hg : g = W.heap.size) (hbox : W5.heap[g]? = some (.cells #[u] t (0, 0))) :
    Below W.heap.size W (W5.setCell ⟨g, 0, none⟩ x) ∧ (W5.setCell ⟨g, 0, none⟩ x).cell? ⟨g, 0, none⟩ = some x := by
  have h0 : W5.cell? ⟨g, 0, none⟩ = some u := blk_cell hbox 0
  exact ⟨below_set hb (Nat.le_of_eq hg.symm), World.cell?_setCell_same' _ _ _ (by rw [h0]; rfl)⟩
set_option maxHeartbeats 1000000 in
set_option maxRecDepth 100000 in
theorem AuditMost.right_ (A : Option Addr) (c : Nat) (l : List S44) (ch : Int) (xs : List Int) (cl : List S33) (w : World) (h20 : ¬ 20 < l.length) (hr : Kd.C k44 w A l.length l) (hc : l.length ≤ c) (h0 : 0 ≤ ch) (h1 : ch ≤ 4294967295)
    (hL : lgS l = (xs, 0)) (hC : clS l 0 = (cl, 0)) (nx : xs.length ≤ 20000) (ncl : cl.length ≤ 20000) (hx : ∀ x ∈ xs, 0 ≤ x ∧ x < l.length) (hcl : ∀ y ∈ cl, (0 ≤ y.f0 ∧ y.f0 < 32) ∧ 0 ≤ y.f1 ∧ y.f1 < 32)
    (hf1 : ∀ y ∈ cl, ¬ (y.f0 ∈ xs ∧ y.f1 ∈ xs)) (hf2 : ¬ cntP (bitC ch) l.length ≤ (xs.length : Int) → ∃ y ∈ cl, bitC ch y.f0.toNat = true ∧ bitC ch y.f1.toNat = true) :
    Calls Try.prog 6 #[.slice A l.length c, .int .u32 ch] w fun e w' => e = .returned (.bool true) ∧ Below w.heap.size w w' := by
  obtain ⟨W0, hW0⟩ : ∃ W0, W0 = (w.alloc (.cells #[.slice A l.length c] 22)).alloc (.cells #[.int .u32 ch] 48) := ⟨_, rfl⟩
  have hB0 : Below w.heap.size w W0 := by rw [hW0]; exact below_alloc (below_alloc (Below.refl _ _) _) _
  have ct : W0.cell? ⟨w.heap.size, 0, none⟩ = some (.slice A l.length c) := by rw [hW0]; exact pw_cell_alloc _ (pw_cell_new w _ _)
  have cs : W0.cell? ⟨w.heap.size + 1, 0, none⟩ = some (.int .u32 ch) := by rw [hW0]; rw [World.cell?_alloc_at _ _ _ _ (by simp)]; rfl
  have HA := Aside0.mk (audit_awake.known W0)
  have HL := Aside0.mk (fun W (hb : Below w.heap.size w W) => audit_Largest.known A c W (Kd.C_below hr hb) hc hL)
  have HC := Aside0.mk (fun W (hb : Below w.heap.size w W) => audit_Clashes.known A c W (Kd.C_below hr hb) hc hC)
  have eg26 : ∀ args w, (callFunc 26 args).run Try.prog w = .ok (.enter 26 args) w := enters_of Try.func26 (by kernel_rfl) rfl
  have eg29 : ∀ args w, (callFunc 29 args).run Try.prog w = .ok (.enter 29 args) w := enters_of Try.func29 (by kernel_rfl) rfl
  have eg32 : ∀ args w, (callFunc 32 args).run Try.prog w = .ok (.enter 32 args) w := enters_of Try.func32 (by kernel_rfl) rfl
  have eg33 : ∀ args w, (callFunc 33 args).run Try.prog w = .ok (.enter 33 args) w := enters_of Try.func33 (by kernel_rfl) rfl
  -- the first question: has the largest choice a clash
  have hidx1 : idxP (fun j => decide ((rd_T33 cl (j : Int)).f0 ∈ xs) && decide ((rd_T33 cl (j : Int)).f1 ∈ xs)) cl.length 0 = -1 := idxP_none _ _ _ (fun j _ hj => by
    have hj' : j < cl.length := by omega
    have := hf1 _ (List.getElem_mem hj')
    rw [rd_clash cl j hj']
    rw [Bool.and_eq_false_iff, decide_eq_false_iff_not, decide_eq_false_iff_not]
    exact Decidable.not_and_iff_not_or_not.1 this)
  have HF1 := Aside0.mk (fun (W : World) (bx bc : Nat) (Ax Ac : Option Addr) (cx cc : Nat) (hbx : W.cell? ⟨bx, 0, none⟩ = some (.slice Ax xs.length cx)) (hrx : Kd.C (Kd.int .i64) W Ax xs.length xs) (hcx : xs.length ≤ cx) (hbc : W.cell? ⟨bc, 0, none⟩ = some (.slice Ac cl.length cc)) (hrc : Kd.C k33 W Ac cl.length cl) =>
    AuditMost.free_ 29 #[.pointer (some ⟨bx, 0, none⟩)] eg29 bc Ac cc cl (fun i => decide (i ∈ xs)) W hbc hrc ncl
      (fun W' hB y _ => ⟨AuditMost.has1 bx Ax cx xs y.f0 W' (pw_cell_below hB hbx) (Kd.C_below hrx hB) hcx nx, AuditMost.has1 bx Ax cx xs y.f1 W' (pw_cell_below hB hbx) (Kd.C_below hrx hB) hcx nx⟩))
  rw [hidx1] at HF1
  -- the second one: are all its rows numbers of rows
  have hidx2 : idxP (fun _ => false) xs.length 0 = -1 := idxP_none _ _ _ (fun _ _ _ => rfl)
  have HF2 := Aside0.mk (fun (W : World) (Ax : Option Addr) (cx : Nat) (hbl : W.cell? ⟨w.heap.size, 0, none⟩ = some (.slice A l.length c)) (hrx : Kd.C (Kd.int .i64) W Ax xs.length xs) =>
    slices_ContainsFunc_int_int.below 32 #[.pointer (some ⟨w.heap.size, 0, none⟩)] Ax cx xs (fun _ => false) W eg32 (by omega) hrx
      (fun W' i h0 h1 hB => by
        have hj : i.toNat < xs.length := by omega
        have hm : rd xs i = xs[i.toNat] := by unfold rd; rw [List.getD_eq_getElem?_getD, List.getElem?_eq_getElem hj]; rfl
        have hxx := hx _ (List.getElem_mem hj)
        rw [hm]
        exact AuditMost.out w.heap.size A c l.length _ W' (pw_cell_below hB hbl) hxx.1 hxx.2))
  rw [hidx2] at HF2
  -- the third one: has the given choice a clash
  have HF3 := Aside0.mk (fun (hq : ¬ cntP (bitC ch) l.length ≤ (xs.length : Int)) (W : World) (bc : Nat) (Ac : Option Addr) (cc : Nat) (hbs : W.cell? ⟨w.heap.size + 1, 0, none⟩ = some (.int .u32 ch)) (hbc : W.cell? ⟨bc, 0, none⟩ = some (.slice Ac cl.length cc)) (hrc : Kd.C k33 W Ac cl.length cl) =>
    (show Calls Try.prog 26 (#[.func (.func 33) #[] #[.pointer (some ⟨w.heap.size + 1, 0, none⟩)]] ++ #[.pointer (some ⟨bc, 0, none⟩)]) W fun e w' => e = .returned (.bool false) ∧ Below W.heap.size W w' from by
      have := AuditMost.free_ 33 #[.pointer (some ⟨w.heap.size + 1, 0, none⟩)] eg33 bc Ac cc cl (fun i => bitC ch i.toNat) W hbc hrc ncl
        (fun W' hB y hy => by
          obtain ⟨⟨y0, y1⟩, y2, y3⟩ := hcl y hy
          have e0 : ((y.f0.toNat : Nat) : Int) = y.f0 := by omega
          have e1 : ((y.f1.toNat : Nat) : Int) = y.f1 := by omega
          have q0 := AuditMost.bit (w.heap.size + 1) ch y.f0.toNat W' (pw_cell_below hB hbs) (by omega)
          have q1 := AuditMost.bit (w.heap.size + 1) ch y.f1.toNat W' (pw_cell_below hB hbs) (by omega)
          rw [e0] at q0
          rw [e1] at q1
          exact ⟨q0, q1⟩)
      have hpos : 0 ≤ idxP (fun j => bitC ch (rd_T33 cl (j : Int)).f0.toNat && bitC ch (rd_T33 cl (j : Int)).f1.toNat) cl.length 0 := by
        obtain ⟨y, hy, y0, y1⟩ := hf2 hq
        obtain ⟨j, hj, e⟩ := List.getElem_of_mem hy
        refine (idxP_any _ _ _).2 ⟨j, Nat.zero_le _, by omega, ?_⟩
        rw [rd_clash cl j hj, e, y0, y1]
        rfl
      rw [decide_eq_true hpos] at this
      exact this))
  have b0 : decide (20 < (l.length : Int)) = false := decide_eq_false (by omega)
  have b1 : decide (20 < l.length) = false := decide_eq_false h20
  obtain ⟨n, hn⟩ : ∃ n, n = l.length := ⟨_, rfl⟩
  have HBV := Aside0.mk (fun i => bitC_val h0 h1 i)
  have HN : Aside0 (l.length ≤ 20) := ⟨by omega⟩
  have HB0 := Aside0.mk hB0
  have HW0 := Aside0.mk hW0
  clear hB0 hW0 hr hc hL hC nx ncl hx hcl hf1 hf2 hidx1 hidx2 h20 h0 h1 eg29 eg32 eg33 hn n
  go_enter Try.func6, Try.ntmps6
  go_wp2_with fail
  rw [← HW0.out]
  refine HA.out.mono ?_
  rintro e' w1 ⟨rfl, hb⟩
  replace ct := pw_cell_below hb ct
  replace cs := pw_cell_below hb cs
  have HB := Aside0.mk (below_step HB0.out hb)
  clear hb HA HB0 HW0
  go_wp2_with fail
  refine (HL.out _ HB.out).mono ?_
  rintro e' w2 ⟨Ax, cx, rfl, hlx, hrx, hb⟩
  replace ct := pw_cell_below hb ct
  replace cs := pw_cell_below hb cs
  replace HB := Aside0.mk (below_step HB.out hb)
  have HRX := Aside0.mk hrx
  have HLX := Aside0.mk hlx
  clear hb HL hrx hlx
  go_wp2_with (first
    | ((with_reducible refine gate_dst (N := 5) rfl ?_); refine box_event ?hg (N := 5) ?hd (cs := #[.slice none 0 0]) (t := 35) ?hr ?_; (case hd => rfl); (case hg => rfl); (case hr => first | (go_simp; done) | (go_simp; rfl)); intro gx hg w3 hbox hb5; have hc0 : w3.cell? ⟨gx, 0, none⟩ = some (.slice none 0 0) := blk_cell hbox 0; have hf0 := blk_frozen hbox 0; replace hbox := Aside0.mk hbox; replace hb5 := Aside0.mk hb5; replace hg := Aside0.mk hg)
    | ((with_reducible refine gate_store (t := 35) (p := 5) rfl ?_); refine store_event (t := 35) (p := 5) (v := .tmp 20) (w1 := w3.setCell ⟨gx, 0, none⟩ (.slice Ax xs.length cx)) ?hg ?ho ?hn ?hr ?_; (case ho => rfl); (case hg => rfl); (case hn => rfl); (case hr => first | (go_simp; done) | (go_simp; rfl)); intro w4 hw4; clear hc0 hf0; have hbx := box1_ (x := .slice Ax xs.length cx) hb5.out hg.out hbox.out; rw [← hw4] at hbx; clear hw4 hb5 hg hbox; obtain ⟨hb6, q0⟩ := hbx; replace ct := pw_cell_below hb6 ct; replace cs := pw_cell_below hb6 cs; replace HRX := Aside0.mk (Kd.C_below HRX.out hb6); replace HB := Aside0.mk (below_step HB.out hb6); clear hb6))
  refine (HC.out _ HB.out).mono ?_
  rintro e' w5 ⟨Ac, cc, rfl, hlc, hrc, hb⟩
  replace ct := pw_cell_below hb ct
  replace cs := pw_cell_below hb cs
  replace q0 := pw_cell_below hb q0
  replace HRX := Aside0.mk (Kd.C_below HRX.out hb)
  replace HB := Aside0.mk (below_step HB.out hb)
  have HRC := Aside0.mk hrc
  clear hb HC hrc hlc
  go_wp2_with (first
    | ((with_reducible refine gate_dst (N := 7) rfl ?_); refine box_event ?hg (N := 7) ?hd (cs := #[.slice none 0 0]) (t := 28) ?hr ?_; (case hd => rfl); (case hg => rfl); (case hr => first | (go_simp; done) | (go_simp; rfl)); intro gc hg w6 hbox hb5; have hc0 : w6.cell? ⟨gc, 0, none⟩ = some (.slice none 0 0) := blk_cell hbox 0; have hf0 := blk_frozen hbox 0; replace hbox := Aside0.mk hbox; replace hb5 := Aside0.mk hb5; replace hg := Aside0.mk hg)
    | ((with_reducible refine gate_store (t := 28) (p := 7) rfl ?_); refine store_event (t := 28) (p := 7) (v := .tmp 25) (w1 := w6.setCell ⟨gc, 0, none⟩ (.slice Ac cl.length cc)) ?hg ?ho ?hn ?hr ?_; (case ho => rfl); (case hg => rfl); (case hn => rfl); (case hr => first | (go_simp; done) | (go_simp; rfl)); intro w7 hw7; clear hc0 hf0; have hbx := box1_ (x := .slice Ac cl.length cc) hb5.out hg.out hbox.out; rw [← hw7] at hbx; clear hw7 hb5 hg hbox; obtain ⟨hb6, q1⟩ := hbx; replace ct := pw_cell_below hb6 ct; replace cs := pw_cell_below hb6 cs; replace q0 := pw_cell_below hb6 q0; replace HRX := Aside0.mk (Kd.C_below HRX.out hb6); replace HRC := Aside0.mk (Kd.C_below HRC.out hb6); replace HB := Aside0.mk (below_step HB.out hb6); clear hb6))
  refine (HF1.out _ gx gc Ax Ac cx cc q0 HRX.out HLX.out q1 HRC.out).mono ?_
  rintro e' w8 ⟨rfl, hb⟩
  replace ct := pw_cell_below hb ct
  replace cs := pw_cell_below hb cs
  replace q0 := pw_cell_below hb q0
  replace q1 := pw_cell_below hb q1
  replace HRX := Aside0.mk (Kd.C_below HRX.out hb)
  replace HRC := Aside0.mk (Kd.C_below HRC.out hb)
  replace HB := Aside0.mk (below_step HB.out hb)
  clear hb HF1
  go_wp2_with fail
  refine (HF2.out _ Ax cx ct HRX.out).mono ?_
  rintro e' w9 ⟨rfl, hb⟩
  replace ct := pw_cell_below hb ct
  replace cs := pw_cell_below hb cs
  replace q0 := pw_cell_below hb q0
  replace q1 := pw_cell_below hb q1
  replace HRX := Aside0.mk (Kd.C_below HRX.out hb)
  replace HRC := Aside0.mk (Kd.C_below HRC.out hb)
  replace HB := Aside0.mk (below_step HB.out hb)
  clear hb HF2
  go_wp2
  go_loopg [10, 49] l.length (fun kx v10 v49 wr => ∃ (i : Nat), v10 = .int .i64 (cntP (bitC ch) i) ∧ v49 = .int .i64 i ∧ i ≤ l.length ∧ l.length - i ≤ kx ∧ wr.cell? ⟨w.heap.size + 1, 0, none⟩ = some (.int .u32 ch) ∧ wr.cell? ⟨gx, 0, none⟩ = some (.slice Ax xs.length cx) ∧ wr.cell? ⟨gc, 0, none⟩ = some (.slice Ac cl.length cc) ∧ Aside0 (Kd.C k33 wr Ac cl.length cl) ∧ Aside0 (Below w.heap.size w wr))
  case atStart => exact ⟨0, rfl, rfl, Nat.zero_le _, Nat.le_refl _, cs, q0, q1, HRC, HB⟩
  case round =>
    clear ct cs q0 q1 HRC HB HRX HLX
    obtain ⟨i, rfl, rfl, hin, hg, cs, q0, q1, HRC, HB⟩ := hrel
    have hi20 := HN.out
    have hrng := cntP_rng (bitC ch) i
    by_cases hlt : i < l.length
    · have b5 : decide ((i : Int) < (l.length : Int)) = true := decide_eq_true (by omega)
      have b6 : decide (i < l.length) = true := decide_eq_true hlt
      obtain ⟨bi, hbi⟩ : ∃ bi, bits BinOp.and IntKind.u32 (ch / 2 ^ i) 1 = bi := ⟨_, rfl⟩
      have hbv := HBV.out i
      rw [hbi] at hbv
      have hb01 : 0 ≤ bi ∧ bi ≤ 1 := by rw [hbv]; split <;> omega
      have v1 : IntKind.i64.wrap bi = bi := by rw [i64_w]; exact w64_ (by omega) (by omega)
      have v2 : IntKind.i64.wrap (cntP (bitC ch) i + bi) = cntP (bitC ch) i + bi := by rw [i64_w]; exact w64_ (by omega) (by omega)
      have v3 : IntKind.i64.wrap ((i : Int) + 1) = (i : Int) + 1 := by rw [i64_w]; exact w64_ (by omega) (by omega)
      have e1 : cntP (bitC ch) (i + 1) = cntP (bitC ch) i + bi := by rw [hbv]; rfl
      have E1 := Aside0.mk e1
      have HMIN : Aside0 (min i 32 = i) := ⟨Nat.min_eq_left (by omega)⟩
      have HBI := Aside0.mk hbi
      have U1 : Aside0 (wrap64 bi = bi) := ⟨w64_ (by omega) (by omega)⟩
      have U2 : Aside0 (wrap64 (cntP (bitC ch) i + bi) = cntP (bitC ch) i + bi) := ⟨w64_ (by omega) (by omega)⟩
      clear hbi v1 v2
      have HI := Aside0.mk (And.intro hlt hin)
      clear hbv hb01 hrng hi20 e1 hlt hin
      go_wp2
      go_roundg (l.length - (i + 1))
      case measure => have := HI.out; omega
      case rel => exact ⟨i + 1, by rw [E1.out, HMIN.out, HBI.out, U1.out, U2.out], by rw [show ((i + 1 : Nat) : Int) = (i : Int) + 1 by omega], by have := HI.out; omega, Nat.le_refl _, cs, q0, q1, HRC, HB⟩
    · obtain rfl : i = l.length := by omega
      have b5 : decide ((l.length : Int) < (l.length : Int)) = false := decide_eq_false (by omega)
      by_cases hm : cntP (bitC ch) l.length ≤ (xs.length : Int)
      · have b7 : decide (cntP (bitC ch) l.length ≤ (xs.length : Int)) = true := decide_eq_true hm
        clear hm hrng hi20 hg hin hlt
        go_wp2
        go_ret
        exact ⟨rfl, HB.out⟩
      · have b7 : decide (cntP (bitC ch) l.length ≤ (xs.length : Int)) = false := decide_eq_false hm
        have HF := Aside0.mk (HF3.out (by omega))
        clear hm hrng hi20 hg hin hlt
        go_wp2_with (refine (HF.out _ gc Ac cc cs q1 HRC.out).mono ?_; rintro e' w11 ⟨rfl, hb⟩)
        go_ret
        exact ⟨rfl, below_step HB.out hb⟩
set_option maxHeartbeats 1000000 in
set_option maxRecDepth 100000 in
theorem AuditMost.many (A : Option Addr) (c : Nat) (l : List S44) (ch : Int) (w : World) (h20 : 20 < l.length) :
    Calls Try.prog 6 #[.slice A l.length c, .int .u32 ch] w fun e w' => e = .returned (.bool true) ∧ Below w.heap.size w w' := by
  obtain ⟨W0, hW0⟩ : ∃ W0, W0 = (w.alloc (.cells #[.slice A l.length c] 22)).alloc (.cells #[.int .u32 ch] 48) := ⟨_, rfl⟩
  have hB0 : Below w.heap.size w W0 := by rw [hW0]; exact below_alloc (below_alloc (Below.refl _ _) _) _
  have ct : W0.cell? ⟨w.heap.size, 0, none⟩ = some (.slice A l.length c) := by rw [hW0]; exact pw_cell_alloc _ (pw_cell_new w _ _)
  have HA := Aside0.mk (audit_awake.known W0)
  have b0 : decide (20 < (l.length : Int)) = true := decide_eq_true (by omega)
  have b1 : decide (20 < l.length) = true := decide_eq_true h20
  have HB0 := Aside0.mk hB0
  have HW0 := Aside0.mk hW0
  clear hB0 hW0 h20
  go_enter Try.func6, Try.ntmps6
  go_wp2_with fail
  rw [← HW0.out]
  refine HA.out.mono ?_
  rintro e' w1 ⟨rfl, hb⟩
  replace ct := pw_cell_below hb ct
  have HB := Aside0.mk (below_step HB0.out hb)
  clear hb HA HB0 HW0
  go_wp2
  go_ret
  exact ⟨rfl, HB.out⟩
set_option maxHeartbeats 1000000 in
set_option maxRecDepth 100000 in
theorem AuditMost.wrong (A : Option Addr) (c : Nat) (l : List S44) (ch : Int) (w : World) (h20 : ¬ 20 < l.length) (hr : Kd.C k44 w A l.length l) (hc : l.length ≤ c) (hL : lgS l = ([], 1)) (hC : clS l 0 = ([], 1)) :
    Calls Try.prog 6 #[.slice A l.length c, .int .u32 ch] w fun e w' => e = .returned (.bool true) ∧ Below w.heap.size w w' := by
  obtain ⟨W0, hW0⟩ : ∃ W0, W0 = (w.alloc (.cells #[.slice A l.length c] 22)).alloc (.cells #[.int .u32 ch] 48) := ⟨_, rfl⟩
  have hB0 : Below w.heap.size w W0 := by rw [hW0]; exact below_alloc (below_alloc (Below.refl _ _) _) _
  have ct : W0.cell? ⟨w.heap.size, 0, none⟩ = some (.slice A l.length c) := by rw [hW0]; exact pw_cell_alloc _ (pw_cell_new w _ _)
  have HA := Aside0.mk (audit_awake.known W0)
  have HL := Aside0.mk (fun W (hb : Below w.heap.size w W) => audit_Largest.known A c W (Kd.C_below hr hb) hc hL)
  have HC := Aside0.mk (fun W (hb : Below w.heap.size w W) => audit_Clashes.known A c W (Kd.C_below hr hb) hc hC)
  have b0 : decide (20 < (l.length : Int)) = false := decide_eq_false (by omega)
  have b1 : decide (20 < l.length) = false := decide_eq_false h20
  have HB0 := Aside0.mk hB0
  have HW0 := Aside0.mk hW0
  clear hB0 hW0 h20 hr hc hL hC
  go_enter Try.func6, Try.ntmps6
  go_wp2_with fail
  rw [← HW0.out]
  refine HA.out.mono ?_
  rintro e' w1 ⟨rfl, hb⟩
  replace ct := pw_cell_below hb ct
  have HB := Aside0.mk (below_step HB0.out hb)
  clear hb HA HB0 HW0
  go_wp2_with fail
  refine (HL.out _ HB.out).mono ?_
  rintro e' w2 ⟨Ax, cx, rfl, hlx, hrx, hb⟩
  replace ct := pw_cell_below hb ct
  replace HB := Aside0.mk (below_step HB.out hb)
  clear hb HL hrx hlx
  go_wp2_with (first
    | ((with_reducible refine gate_dst (N := 5) rfl ?_); refine box_event ?hg (N := 5) ?hd (cs := #[.slice none 0 0]) (t := 35) ?hr ?_; (case hd => rfl); (case hg => rfl); (case hr => first | (go_simp; done) | (go_simp; rfl)); intro gx hg w3 hbox hb5; have hc0 : w3.cell? ⟨gx, 0, none⟩ = some (.slice none 0 0) := blk_cell hbox 0; have hf0 := blk_frozen hbox 0; replace hbox := Aside0.mk hbox; replace hb5 := Aside0.mk hb5; replace hg := Aside0.mk hg)
    | ((with_reducible refine gate_store (t := 35) (p := 5) rfl ?_); refine store_event (t := 35) (p := 5) (v := .tmp 20) (w1 := w3.setCell ⟨gx, 0, none⟩ (.slice Ax 0 cx)) ?hg ?ho ?hn ?hr ?_; (case ho => rfl); (case hg => rfl); (case hn => rfl); (case hr => first | (go_simp; done) | (go_simp; rfl)); intro w4 hw4; clear hc0 hf0; have hbx := box1_ (x := .slice Ax 0 cx) hb5.out hg.out hbox.out; rw [← hw4] at hbx; clear hw4 hb5 hg hbox; obtain ⟨hb6, q0⟩ := hbx; replace ct := pw_cell_below hb6 ct; replace HB := Aside0.mk (below_step HB.out hb6); clear hb6))
  refine (HC.out _ HB.out).mono ?_
  rintro e' w5 ⟨Ac, cc, rfl, hlc, hrc, hb⟩
  replace q0 := pw_cell_below hb q0
  replace HB := Aside0.mk (below_step HB.out hb)
  clear hb HC hrc hlc ct
  go_wp2_with (first
    | ((with_reducible refine gate_dst (N := 7) rfl ?_); refine box_event ?hg (N := 7) ?hd (cs := #[.slice none 0 0]) (t := 28) ?hr ?_; (case hd => rfl); (case hg => rfl); (case hr => first | (go_simp; done) | (go_simp; rfl)); intro gc hg w6 hbox hb5; have hc0 : w6.cell? ⟨gc, 0, none⟩ = some (.slice none 0 0) := blk_cell hbox 0; have hf0 := blk_frozen hbox 0; replace hbox := Aside0.mk hbox; replace hb5 := Aside0.mk hb5; replace hg := Aside0.mk hg)
    | ((with_reducible refine gate_store (t := 28) (p := 7) rfl ?_); refine store_event (t := 28) (p := 7) (v := .tmp 25) (w1 := w6.setCell ⟨gc, 0, none⟩ (.slice Ac 0 cc)) ?hg ?ho ?hn ?hr ?_; (case ho => rfl); (case hg => rfl); (case hn => rfl); (case hr => first | (go_simp; done) | (go_simp; rfl)); intro w7 hw7; clear hc0 hf0; have hbx := box1_ (x := .slice Ac 0 cc) hb5.out hg.out hbox.out; rw [← hw7] at hbx; clear hw7 hb5 hg hbox; obtain ⟨hb6, q1⟩ := hbx; replace q0 := pw_cell_below hb6 q0; replace HB := Aside0.mk (below_step HB.out hb6); clear hb6))
  go_ret
  exact ⟨by first | rfl | simp, HB.out⟩
def spilelaw17_AuditMost.f (l0 : List S44) (a1 : Int) : Option Bool := if 0 ≤ a1 ∧ a1 ≤ 4294967295 then some true else none
theorem spilelaw17_AuditMost.calls (A0 : Option Addr) (c0 : Nat) (l0 : List S44) (a1 : Int) (r : Bool) (w : World) (hr0 : Kd.C k44 w A0 l0.length l0) (hc0 : l0.length ≤ c0) (h : spilelaw17_AuditMost.f l0 a1 = some r) :
    Calls Try.prog 6 #[.slice A0 l0.length c0, .int .u32 a1] w fun e w' => e = .returned (.bool r) ∧ Below w.heap.size w w' := by
  unfold spilelaw17_AuditMost.f at h
  by_cases ht : 0 ≤ a1 ∧ a1 ≤ 4294967295
  case neg => rw [if_neg ht] at h; exact absurd h (by simp)
  rw [if_pos ht] at h
  obtain rfl := Option.some.inj h
  by_cases h20 : 20 < l0.length
  · exact AuditMost.many A0 c0 l0 a1 w h20
  by_cases hk : (rchk l0).2 = 0
  case neg => exact AuditMost.wrong A0 c0 l0 a1 w h20 hr0 hc0 (by unfold lgS; rw [if_pos hk]) (by unfold clS; rw [if_pos hk])
  have hR := (rchk_iff l0).1 hk
  obtain ⟨xs, hL, hCh, hlen⟩ := hR.largest
  obtain ⟨q1, q2, _⟩ := hCh.free hR
  have hC := clS_right hR (t := 0) (Int.le_refl _) (by decide)
  have hmem : ∀ y : S33, y ∈ (allP l0.length 0).foldl (clF l0 0) [] ↔ ∃ i j : Nat, i < j ∧ j < l0.length ∧ bey l0 i j > 0 ∧ y = ⟨(i : Int), (j : Int)⟩ := fun y => by
    rw [clF_mem]
    constructor
    · rintro (hx | ⟨p, hp, h1, h2⟩)
      · cases hx
      · obtain ⟨_, h3, h4⟩ := mem_allP.1 hp
        exact ⟨p.1, p.2, h3, h4, h1, h2⟩
    · rintro ⟨i, j, h1, h2, h3, h4⟩
      exact Or.inr ⟨(i, j), mem_allP.2 ⟨Nat.zero_le _, h1, h2⟩, h3, h4⟩
  have nx : xs.length ≤ 20000 := by have := lgS_length l0; rw [hL] at this; exact this
  have ncl : ((allP l0.length 0).foldl (clF l0 0) []).length ≤ 20000 := by have := clS_length l0 0; rw [hC] at this; exact this
  refine AuditMost.right_ A0 c0 l0 a1 xs _ w h20 hr0 hc0 ht.1 ht.2 hL hC nx ncl q1 (fun y hy => ?_) (fun y hy hyx => ?_) (fun hno => ?_)
  · obtain ⟨i, j, h1, h2, h3, rfl⟩ := (hmem y).1 hy
    exact ⟨⟨by show 0 ≤ (i : Int); omega, by show (i : Int) < 32; omega⟩, by show 0 ≤ (j : Int); omega, by show (j : Int) < 32; omega⟩
  · obtain ⟨i, j, h1, h2, h3, rfl⟩ := (hmem y).1 hy
    have := q2 i j h1 hyx.1 hyx.2
    omega
  · refine Classical.byContradiction (fun hnone => hno ?_)
    have hfree : ∀ i j, i < j → j < l0.length → bitC a1 i = true → bitC a1 j = true → bey l0 i j = 0 := fun i j h1 h2 h3 h4 => by
      have hb := (hR.bey_rng (i := i) (j := j) (by omega) h2).1
      rcases Int.lt_or_le 0 (bey l0 i j) with hp | hp
      · refine absurd ⟨⟨(i : Int), (j : Int)⟩, (hmem _).2 ⟨i, j, h1, h2, hp, rfl⟩, ?_, ?_⟩ hnone
        · show bitC a1 ((i : Int)).toNat = true
          rw [Int.toNat_natCast]; exact h3
        · show bitC a1 ((j : Int)).toNat = true
          rw [Int.toNat_natCast]; exact h4
      · omega
    have h1 := (chosen_le (bitC a1) hfree l0.length 0 (by omega)).1
    have h2 := cntP_cntC (bitC a1) l0.length 0
    rw [Nat.add_zero] at h2
    have h3 : cntC (bitC a1) 0 l0.length = 0 := rfl
    omega

end Go.Proofs.Ytcapbigknimgnaa.PF
