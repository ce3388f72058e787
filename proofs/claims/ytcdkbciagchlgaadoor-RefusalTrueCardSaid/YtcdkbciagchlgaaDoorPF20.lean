-- Written by a program of this session (wip/pr.py) out of Lean's print of the translation; Lean checks it.
import Derived.BigRegion
import Derived.Test.YtcdkbciagchlgaaDoorPF0
import Derived.Test.YtcdkbciagchlgaaDoorPF1
import Derived.Test.YtcdkbciagchlgaaDoorPF4
import Derived.Test.YtcdkbciagchlgaaDoorPF5
import Derived.Test.YtcdkbciagchlgaaDoorPF19
namespace Go.Proofs.YtcdkbciagchlgaaDoor.PF
open Go.RowKit Go.Proofs.YtcdkbciagchlgaaDoorW.PrintWords Go.Proofs.YtcdkbciagchlgaaDoorW.PrintLast Go.Proofs.YtcdkbciagchlgaaDoorW.PrintMore
attribute [local go_sem] max2_int min2_int max_two min_two max_three min_three max_four min_four   
set_option linter.unusedVariables false
set_option linter.unusedSimpArgs false
def plainB (a m : Int) : Bool := decide (0 ≤ a ∧ a ≤ 10737418240000 ∧ 0 ≤ m ∧ m ≤ 128849018880000 ∧ (0 < m ∨ a = 0))
def strayL (l : List S45) (j : Nat) : Bool := !plainB (rd_T45 l (j : Int)).f0 (rd_T45 l (j : Int)).f1
def mix_Sum.f (l0 : List S45) : Option (Int × Int × Int) :=
  if (l0.length : Int) > 8 then some (0, 0, 8)
  else if 0 ≤ idxP (strayL l0) l0.length 0 then some (0, 0, 1)
  else if plainB (sumsL l0 l0.length).1 (sumsL l0 l0.length).2 = true then some ((sumsL l0 l0.length).1, (sumsL l0 l0.length).2, 0) else some (0, 0, 15)
def blend_plain.f (a0_0 : Int) (a0_1 : Int) : Option (Bool) := (mix_Sum.f (([(⟨a0_0, a0_1⟩ : S45)] : List (S45)))).bind fun bt349 => (some (bt349.2.2 == 0))
def blend_few.l0 : Nat → List Int → Int → Int → List (S45) → List Int → List Int → Int → Int → Int → Option (Bool)
 | 0, _, _, _, _, _, _, _, _, _ => none
 | k + 1, x7, x8, x9, x354000, x354001, x354002, x354003, x354004, x354005 => if x9 < x8 then (if 0 ≤ x9 then (if x9 < (x7.length : Int) then (if (rd x7 x9) < 0 then (some false) else (if x9 < (x354001.length : Int) then (if (rd x7 x9) > (rd x354001 x9) then (some false) else (blend_few.l0 k x7 x8 (wrap64 (x9 + 1)) x354000 x354001 x354002 x354003 x354004 x354005)) else (none))) else (none)) else (none)) else (some true)
def blend_few.f (k : Nat) (l0_0 : List (S45)) (l0_1 : List Int) (l0_2 : List Int) (a0_3 : Int) (a0_4 : Int) (a0_5 : Int) (l1 : List Int) : Option (Bool) := blend_few.l0 k l1 (l1.length : Int) 0 l0_0 l0_1 l0_2 a0_3 a0_4 a0_5
theorem blend_few.mono_l : ∀ k, (∀ y0 y1 y2 y3 y4 y5 y6 y7 y8, LeO (blend_few.l0 k y0 y1 y2 y3 y4 y5 y6 y7 y8) (blend_few.l0 (k + 1) y0 y1 y2 y3 y4 y5 y6 y7 y8))
 | 0 => fun _ _ _ _ _ _ _ _ _ r h => by simp [blend_few.l0] at h
 | k + 1 => by
  have ih0 := blend_few.mono_l k
  ·intro y0 y1 y2 y3 y4 y5 y6 y7 y8
   unfold blend_few.l0
   repeat' first
   | (with_reducible exact ih0 _ _ _ _ _ _ _ _ _)
   | (with_reducible exact LeO.refl _)
   | (with_reducible exact LeO.none _)
   | (with_reducible refine LeO.ite ?_ ?_)
   | (with_reducible refine LeO.bind ?_ (fun _ => ?_))
   | exact ih0 _ _ _ _ _ _ _ _ _
   | exact LeO.none _
   | refine LeO.ite ?_ ?_
   | refine LeO.bind ?_ (fun _ => ?_)
theorem blend_few.mono : ∀ a0 a1 a2 a3 a4 a5 a6 k, LeO (blend_few.f k a0 a1 a2 a3 a4 a5 a6) (blend_few.f (k + 1) a0 a1 a2 a3 a4 a5 a6) := by
 intro a0 a1 a2 a3 a4 a5 a6 k
 have ih0 := blend_few.mono_l k
 unfold blend_few.f
 repeat' first
   | (with_reducible exact ih0 _ _ _ _ _ _ _ _ _)
   | (with_reducible exact LeO.refl _)
   | (with_reducible exact LeO.none _)
   | (with_reducible refine LeO.ite ?_ ?_)
   | (with_reducible refine LeO.bind ?_ (fun _ => ?_))
   | exact ih0 _ _ _ _ _ _ _ _ _
   | exact LeO.none _
   | refine LeO.ite ?_ ?_
   | refine LeO.bind ?_ (fun _ => ?_)
def mixW (L : List S45) (u : List Int) : Nat → Int × Int
  | 0 => (0, 0)
  | i + 1 => (wrap64 ((mixW L u i).1 + wrap64 (rd u (i : Int) * (rd_T45 L (i : Int)).f0)), wrap64 ((mixW L u i).2 + wrap64 (rd u (i : Int) * (rd_T45 L (i : Int)).f1)))
def blend_mixed.f (l0_0 : List S45) (l0_1 l0_2 : List Int) (a0_3 a0_4 a0_5 : Int) (l1 : List Int) : Option (Int × Int) := if l0_0.length ≤ l1.length ∧ l0_0.length ≤ 1000 then some (mixW l0_0 l1 l0_0.length) else none
set_option maxHeartbeats 8000000 in
set_option maxRecDepth 100000 in
theorem blend_mixed.calls (A0_0 : Option Addr) (c0_0 : Nat) (l0_0 : List S45) (A0_1 : Option Addr) (c0_1 : Nat) (l0_1 : List Int) (A0_2 : Option Addr) (c0_2 : Nat) (l0_2 : List Int) (a0_3 a0_4 a0_5 : Int) (A1 : Option Addr) (c1 : Nat) (l1 : List Int) (r1 r2 : Int) (w : World)
    (hr0_0 : Kd.C k45 w A0_0 l0_0.length l0_0) (hc0_0 : l0_0.length ≤ c0_0) (hr0_1 : Kd.C (Kd.int .i64) w A0_1 l0_1.length l0_1) (hc0_1 : l0_1.length ≤ c0_1) (hr0_2 : Kd.C (Kd.int .i64) w A0_2 l0_2.length l0_2) (hc0_2 : l0_2.length ≤ c0_2) (hr1 : Kd.C (Kd.int .i64) w A1 l1.length l1) (hc1 : l1.length ≤ c1)
    (h : blend_mixed.f l0_0 l0_1 l0_2 a0_3 a0_4 a0_5 l1 = some (r1, r2)) :
    Calls Tryd.prog 51 #[.agg #[.slice A0_0 l0_0.length c0_0, .slice A0_1 l0_1.length c0_1, .slice A0_2 l0_2.length c0_2, .int .i64 a0_3, .int .i64 a0_4, .int .i64 a0_5], .slice A1 l1.length c1] w fun e w' => e = .returned (.agg #[.int .i64 r1, .int .i64 r2]) ∧ Below w.heap.size w w' := by
  have hu := Tryd.underlying45
  have hu2 := Tryd.underlying26
  unfold blend_mixed.f at h
  by_cases hl : l0_0.length ≤ l1.length ∧ l0_0.length ≤ 1000
  case neg => rw [if_neg hl] at h; cases h
  rw [if_pos hl] at h
  obtain ⟨e1, e2⟩ := Prod.mk.inj (Option.some.inj h)
  subst e1 e2
  have HL := Aside0.mk hl
  have HR := Aside0.mk (⟨hr0_0, hr1⟩ : _ ∧ _)
  clear hr0_0 hr1 hr0_1 hr0_2 h hl
  go_enter Tryd.func51, Tryd.ntmps51
  go_wp2_with fail
  obtain ⟨w1, hw1⟩ : ∃ x, x = ((w.alloc (.cells #[.slice A0_0 l0_0.length c0_0, .slice A0_1 l0_1.length c0_1, .slice A0_2 l0_2.length c0_2, .int .i64 a0_3, .int .i64 a0_4, .int .i64 a0_5] 26)).alloc (.cells #[.int .i64 0, .int .i64 0] 45)).alloc (.cells #[.int .i64 0, .int .i64 0] 45) := ⟨_, rfl⟩
  have HB := Aside0.mk (show Below w.heap.size w w1 by rw [hw1]; exact below_alloc (below_alloc (below_alloc (Below.refl _ _) _) _) _)
  have BP := Aside0.mk (show w1.heap[w.heap.size + 1]? = some (.cells #[.int .i64 0, .int .i64 0] 45 (0, 0)) by
    have h1 := blk_new (w.alloc (.cells #[.slice A0_0 l0_0.length c0_0, .slice A0_1 l0_1.length c0_1, .slice A0_2 l0_2.length c0_2, .int .i64 a0_3, .int .i64 a0_4, .int .i64 a0_5] 26)) (.cells #[.int .i64 0, .int .i64 0] 45)
    rw [World.size_alloc] at h1
    rw [hw1]; exact blk_alloc h1 _)
  have BQ := Aside0.mk (show w1.heap[w.heap.size + 1 + 1]? = some (.cells #[.int .i64 0, .int .i64 0] 45 (0, 0)) by
    have h1 := blk_new ((w.alloc (.cells #[.slice A0_0 l0_0.length c0_0, .slice A0_1 l0_1.length c0_1, .slice A0_2 l0_2.length c0_2, .int .i64 a0_3, .int .i64 a0_4, .int .i64 a0_5] 26)).alloc (.cells #[.int .i64 0, .int .i64 0] 45)) (.cells #[.int .i64 0, .int .i64 0] 45)
    rw [World.size_alloc, World.size_alloc] at h1
    rw [hw1]; exact h1)
  rw [← hw1]
  clear hw1
  obtain ⟨bp, hbp⟩ : ∃ b, b = w.heap.size + 1 := ⟨_, rfl⟩
  obtain ⟨bq, hbq⟩ : ∃ b, b = w.heap.size + 1 + 1 := ⟨_, rfl⟩
  have HBB := Aside0.mk (show w.heap.size ≤ bp ∧ w.heap.size ≤ bq ∧ bp ≠ bq by omega)
  try rw [← hbq]
  try rw [← hbp]
  rw [← hbq] at BQ
  rw [← hbp] at BP
  clear hbp hbq
  go_loopg [12] (l0_0.length + 1) (fun g s12 wr => ∃ x : Int, s12 = .int .i64 x ∧ Aside0 (∃ i : Nat, x = (i : Int) ∧ i ≤ l0_0.length ∧ l0_0.length + 1 - i ≤ g ∧ wr.heap[bq]? = some (.cells #[.int .i64 (mixW l0_0 l1 i).1, .int .i64 (mixW l0_0 l1 i).2] 45 (0, 0))) ∧ Aside0 (Below w.heap.size w wr ∧ wr.heap[bp]? = some (.cells #[.int .i64 0, .int .i64 0] 45 (0, 0))))
  case atStart => exact ⟨0, rfl, ⟨0, rfl, Nat.zero_le _, by omega, BQ.out⟩, ⟨HB.out, BP.out⟩⟩
  case round =>
    clear HB BP BQ
    obtain ⟨x, rfl, HI0, HBP⟩ := hrel
    obtain ⟨i, hxi, hil, hig, hq⟩ := HI0.out
    have HI := Aside0.mk (⟨hxi, hil, hig⟩ : _ ∧ _ ∧ _)
    clear HI0 hig
    by_cases hlt : i < l0_0.length
    case neg =>
      have q1 : decide (x < (l0_0.length : Int)) = false := decide_eq_false (by omega)
      obtain rfl : i = l0_0.length := by omega
      have HQ := Aside0.mk hq
      have s0 : wr.cell? ⟨bq, 0, none⟩ = some (.int .i64 (mixW l0_0 l1 l0_0.length).1) := blk_cell hq 0
      have s1 : wr.cell? ⟨bq, 1, none⟩ = some (.int .i64 (mixW l0_0 l1 l0_0.length).2) := blk_cell hq 1
      have z0 : wr.cell? ⟨bp, 0, none⟩ = some (.int .i64 0) := blk_cell HBP.out.2 0
      have z1 : wr.cell? ⟨bp, 1, none⟩ = some (.int .i64 0) := blk_cell HBP.out.2 1
      have f0 : wr.frozen? ⟨bp, 0, none⟩ = false := blk_frozen HBP.out.2 0
      have f1 : wr.frozen? ⟨bp, 1, none⟩ = false := blk_frozen HBP.out.2 1
      have HP := Aside0.mk (blk_put (blk_put HBP.out.2 0 (.int .i64 (mixW l0_0 l1 l0_0.length).1) rfl) 1 (.int .i64 (mixW l0_0 l1 l0_0.length).2) rfl)
      clear hq hlt hil hxi
      obtain ⟨m, hm⟩ : ∃ m, mixW l0_0 l1 l0_0.length = m := ⟨_, rfl⟩
      rw [hm] at s0 s1 HP HQ
      have HM := Aside0.mk hm
      clear hm
      go_wp2
      refine bodyPost_ret (results_cell_row rfl _ _ bp 45 #[.int .i64 m.1, .int .i64 m.2] (0, 0) _ rfl HP.out hu rfl (by kernel_rfl)) rfl ?_
      exact ⟨by rw [HM.out], below_set (below_set HBP.out.1 HBB.out.1) HBB.out.1⟩
    have q1 : decide (x < (l0_0.length : Int)) = true := decide_eq_true (by omega)
    have p0 : (0 ≤ x) = True := eq_true (by omega)
    have p1 : (x < (l0_0.length : Int)) = True := eq_true (by omega)
    have p2 : (x < (l1.length : Int)) = True := eq_true (by have := HL.out; omega)
    obtain ⟨ad, e, t0, t1⟩ := at_T45 (Kd.C_below HR.out.1 HBP.out.1) x (by omega) (by omega)
    cases e
    obtain ⟨au, e, t2⟩ := Kd.at_int (Kd.C_below HR.out.2 HBP.out.1) x (by omega) (by have := HL.out; omega)
    cases e
    obtain ⟨au', e, t3⟩ := Kd.at_int HR.out.2 x (by omega) (by have := HL.out; omega)
    cases e
    have HAU := Aside0.mk t3
    clear t3
    have HNQ := Aside0.mk (show wr.heap.size ≠ bq by have := blk_lt hq; omega)
    have wx : wrap64 (x + 1) = x + 1 := w64_ (by omega) (by have := HL.out; omega)
    have HST := Aside0.mk (show mixW l0_0 l1 (i + 1) = (wrap64 ((mixW l0_0 l1 i).1 + wrap64 (rd l1 x * (rd_T45 l0_0 x).f0)), wrap64 ((mixW l0_0 l1 i).2 + wrap64 (rd l1 x * (rd_T45 l0_0 x).f1))) by rw [hxi]; rfl)
    have HLT := Aside0.mk hlt
    clear hlt hil hxi
    generalize rd l1 x = y at t2 HST
    generalize rd_T45 l0_0 x = z at t0 t1 HST
    generalize mixW l0_0 l1 i = m at hq HST
    have BQ := Aside0.mk hq
    clear hq
    go_upto_region 5 with fail
    obtain ⟨w4, hw4⟩ : ∃ q, q = wr.alloc (.cells #[.int .i64 z.f0, .int .i64 z.f1] 45) := ⟨_, rfl⟩
    have hb : Below wr.heap.size wr w4 := by rw [hw4]; exact below_alloc (Below.refl _ _) _
    have BN := Aside0.mk (show w4.heap[wr.heap.size]? = some (.cells #[.int .i64 z.f0, .int .i64 z.f1] 45 (0, 0)) by rw [hw4]; exact blk_new _ _)
    rw [← hw4]
    replace BQ := Aside0.mk (blk_below BQ.out hb)
    replace HBP := Aside0.mk (⟨below_step HBP.out.1 hb, blk_below HBP.out.2 hb⟩ : _ ∧ _)
    replace t2 := pw_cell_below hb t2
    clear hw4 hb t0 t1
    have n0 : w4.cell? ⟨wr.heap.size, 0, none⟩ = some (.int .i64 z.f0) := blk_cell BN.out 0
    have n1 : w4.cell? ⟨wr.heap.size, 1, none⟩ = some (.int .i64 z.f1) := blk_cell BN.out 1
    have s0 : w4.cell? ⟨bq, 0, none⟩ = some (.int .i64 m.1) := blk_cell BQ.out 0
    have s1 : w4.cell? ⟨bq, 1, none⟩ = some (.int .i64 m.2) := blk_cell BQ.out 1
    have f0 : w4.frozen? ⟨bq, 0, none⟩ = false := blk_frozen BQ.out 0
    have f1 : w4.frozen? ⟨bq, 1, none⟩ = false := blk_frozen BQ.out 1
    have hau : (au.add x.toNat).block ≠ bq := by
      have := World.block_lt_of_cell? w _ HAU.out
      have := HBB.out
      omega
    have hbn : wr.heap.size ≠ bq := HNQ.out
    have t2b : ∀ v, (w4.setCell ⟨bq, 0, none⟩ v).cell? (au.add x.toNat) = some (.int .i64 y) := fun v => by have h := t2; unfold World.cell? at h ⊢; rw [Below.heap_setCell w4 ⟨bq, 0, none⟩ v _ hau]; exact h
    have n0b : ∀ v, (w4.setCell ⟨bq, 0, none⟩ v).cell? ⟨wr.heap.size, 0, none⟩ = some (.int .i64 z.f0) := fun v => blk_cell (blk_far (p := ⟨bq, 0, none⟩) BN.out hbn v) 0
    have n1b : ∀ v, (w4.setCell ⟨bq, 0, none⟩ v).cell? ⟨wr.heap.size, 1, none⟩ = some (.int .i64 z.f1) := fun v => blk_cell (blk_far (p := ⟨bq, 0, none⟩) BN.out hbn v) 1
    have s1b : ∀ v, (w4.setCell ⟨bq, 0, none⟩ v).cell? ⟨bq, 1, none⟩ = some (.int .i64 m.2) := fun v => blk_cell (blk_put BQ.out 0 v rfl) 1
    have f1b : ∀ v, (w4.setCell ⟨bq, 0, none⟩ v).frozen? ⟨bq, 1, none⟩ = false := fun v => blk_frozen (blk_put BQ.out 0 v rfl) 1
    go_region
    go_wp2
    go_roundg (l0_0.length + 1 - (i + 1))
    case measure => have := HI.out; have := HLT.out; omega
    case rel =>
      refine ⟨x + 1, by first | rfl | (rw [wx]), ⟨i + 1, by rw [HI.out.1]; rfl, HLT.out, Nat.le_refl _, ?_⟩, ⟨?_, ?_⟩⟩
      · rw [HST.out]
        exact blk_put (blk_put BQ.out 0 _ rfl) 1 _ rfl
      · exact below_set (below_set (below_drew HBP.out.1) HBB.out.2.1) HBB.out.2.1
      · exact blk_far (p := ⟨bq, 1, none⟩) (blk_far (p := ⟨bq, 0, none⟩) HBP.out.2 HBB.out.2.2 _) HBB.out.2.2 _
def badB (a m : Int) : Bool := !plainB a m || decide (m > 1000000000)
def badL (L : List S45) (j : Nat) : Bool := badB (rd_T45 L (j : Int)).f0 (rd_T45 L (j : Int)).f1
def blend_Of.f (k : Nat) (l0_0 : List S45) (l0_1 l0_2 : List Int) (a0_3 a0_4 a0_5 : Int) (l1 : List Int) : Option (Int × Int × Int) :=
  if 4 < l0_0.length then some (0, 0, 8) else if l0_1.length ≠ l0_0.length ∨ l1.length ≠ l0_0.length then some (0, 0, 10) else if 0 ≤ idxP (badL l0_0) l0_0.length 0 then some (0, 0, 1)
  else (blend_few.f k l0_0 l0_1 l0_2 a0_3 a0_4 a0_5 l1).bind fun b => if b = false ∨ 0 ≤ idxP (fun j => outB 64 (rd l1 (j : Int))) l1.length 0 then some (0, 0, 2)
  else if plainB (mixW l0_0 l1 l0_0.length).1 (mixW l0_0 l1 l0_0.length).2 = true then some ((mixW l0_0 l1 l0_0.length).1, (mixW l0_0 l1 l0_0.length).2, 0) else some (0, 0, 15)
theorem blend_Of.mono : ∀ a0 a1 a2 a3 a4 a5 a6 k, LeO (blend_Of.f k a0 a1 a2 a3 a4 a5 a6) (blend_Of.f (k + 1) a0 a1 a2 a3 a4 a5 a6) := by
  intro a0 a1 a2 a3 a4 a5 a6 k
  unfold blend_Of.f
  split
  · exact LeO.refl _
  split
  · exact LeO.refl _
  split
  · exact LeO.refl _
  exact LeO.bind (blend_few.mono _ _ _ _ _ _ _ _) (fun b => LeO.refl _)
end Go.Proofs.YtcdkbciagchlgaaDoor.PF
