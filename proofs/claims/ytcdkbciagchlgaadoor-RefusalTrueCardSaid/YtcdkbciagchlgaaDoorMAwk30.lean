/- The example of the chapter, where the library's table lies. -/
import Derived.Test.YtcdkbciagchlgaaDoorMWhyP30
import Derived.Test.YtcdkbciagchlgaaDoorPF0
import Derived.Test.YtcdkbciagchlgaaDoorPF6
import Derived.Test.YtcdkbciagchlgaaDoorPF8
import Derived.Test.YtcdkbciagchlgaaDoorPF9
import Derived.Test.YtcdkbciagchlgaaDoorRows
import Derived.Shelf.Strconv.Itoa3
import Derived.Lib.AppendIntMem
import Derived.Deep.RegionHeld3
namespace Go.Proofs.YtcdkbciagchlgaaDoor.PF
open Go.RowKit Go.Proofs.YtcdkbciagchlgaaDoorW.PrintWords Go.Proofs.YtcdkbciagchlgaaDoorW.PrintLast Go.Proofs.YtcdkbciagchlgaaDoorW.PrintMore
set_option linter.unusedVariables false
set_option linter.unusedSimpArgs false
def exT : List S82 := [(⟨0, 100000⟩ : S82), (⟨10000, 80000⟩ : S82)]
def exL : List S45 := [(⟨40000, 920000⟩ : S45), (⟨0, 1000000⟩ : S45)]
def exU : List Int := [3, 2]
def exC : List Int := [1, 1]
def exE : List Int := [1000000000, -3000000000]
def exR : List Int := [4000000000, 0]
theorem ex_ex : spilelaw30_example.f = some (exT, exL, exU, exC, 3000, 4000, 5) := rfl
theorem ex_exc : refusal_Excess.f 60 exT exL exU exC 3000 4000 5 = some (exE, [-1000000, -4001000000], 0) := by kernel_rfl
theorem ex_ref : refusal_Refuse.f 60 exT exL exU exC 3000 4000 5 = some (exR, 1, 0, 3000000000, 0) := by kernel_rfl
theorem ex_chk : refusal_Check.f 60 exT exL exU exC 3000 4000 5 exR 1 0 3000000000 = some 0 := by kernel_rfl
theorem ex_frm : refusal_formed.f exR 1 0 3000000000 = some true := by kernel_rfl
theorem ex_dec : decW 3000000000 = [51, 48, 48, 48, 48, 48, 48, 48, 48, 48] := by
  rw [decW, dif_neg (by decide), decW, dif_neg (by decide), decW, dif_neg (by decide), decW, dif_neg (by decide), decW, dif_neg (by decide), decW, dif_neg (by decide), decW, dif_neg (by decide), decW, dif_neg (by decide), decW, dif_neg (by decide), decW, dif_pos (by decide)]
  rfl
def exW : ByteArray := ⟨#[116, 111, 111, 32, 119, 101, 97, 107, 44, 32, 102, 97, 99, 116, 111, 114, 32, 51, 48, 48, 48, 48, 48, 48, 48, 48, 48]⟩
theorem ex_why : refusal_Why.f exR 1 0 3000000000 = some (exW, 0) := by
  unfold refusal_Why.f
  rw [ex_frm, Option.bind_some, if_pos rfl, show ((3000000000 : Int).toNat) = 3000000000 from rfl, ex_dec]
  rfl
theorem ex_eq1 : slices_Equal_int_int.f 60 exE exE = some true := by kernel_rfl
theorem ex_eq2 : slices_Equal_int_int.f 60 exR exR = some true := by kernel_rfl
def OX (W : World) (A0 : Option Addr) (c0 : Nat) (A1 : Option Addr) (c1 : Nat) (A2 : Option Addr) (c2 : Nat) (A3 : Option Addr) (c3 : Nat) : Prop :=
  (2 ≤ c0 ∧ Kd.C k82 W A0 2 exT) ∧ (2 ≤ c1 ∧ Kd.C k45 W A1 2 exL) ∧ (2 ≤ c2 ∧ Kd.C (Kd.int .i64) W A2 2 exU) ∧ (2 ≤ c3 ∧ Kd.C (Kd.int .i64) W A3 2 exC)
section
variable {W W' : World} {A0 A1 A2 A3 A4 : Option Addr} {c0 c1 c2 c3 c4 : Nat}
theorem OX.below (h : OX W A0 c0 A1 c1 A2 c2 A3 c3) (hb : Below W.heap.size W W') : OX W' A0 c0 A1 c1 A2 c2 A3 c3 :=
  ⟨⟨h.1.1, Kd.C_below h.1.2 hb⟩, ⟨h.2.1.1, Kd.C_below h.2.1.2 hb⟩, ⟨h.2.2.1.1, Kd.C_below h.2.2.1.2 hb⟩, ⟨h.2.2.2.1, Kd.C_below h.2.2.2.2 hb⟩⟩
theorem ex.known (W : World) : Calls Tryd.prog 26 #[] W fun e w' => ∃ A0 c0 A1 c1 A2 c2 A3 c3, e = .returned (.tuple #[.slice A0 2 c0, .agg #[.slice A1 2 c1, .slice A2 2 c2, .slice A3 2 c3, .int .i64 3000, .int .i64 4000, .int .i64 5]]) ∧ Aside0 (OX w' A0 c0 A1 c1 A2 c2 A3 c3) ∧ Below W.heap.size W w' := by
  refine (spilelaw30_example.calls exT exL exU exC 3000 4000 5 W ex_ex).mono ?_
  rintro e w' ⟨v0, v1, v2, v3, rfl, h0, h1, h2, h3, hb⟩
  obtain ⟨A0, c0, rfl⟩ := Kd.R_slice h0
  obtain ⟨A1, c1, rfl⟩ := Kd.R_slice h1
  obtain ⟨A2, c2, rfl⟩ := Kd.R_slice h2
  obtain ⟨A3, c3, rfl⟩ := Kd.R_slice h3
  exact ⟨A0, c0, A1, c1, A2, c2, A3, c3, rfl, ⟨(Kd.R_reads' h0).2, (Kd.R_reads' h1).2, (Kd.R_reads' h2).2, (Kd.R_reads' h3).2⟩, hb⟩
theorem exc.known (h : OX W A0 c0 A1 c1 A2 c2 A3 c3) : Calls Tryd.prog 11 #[.slice A0 2 c0, .agg #[.slice A1 2 c1, .slice A2 2 c2, .slice A3 2 c3, .int .i64 3000, .int .i64 4000, .int .i64 5]] W fun e w' => ∃ A c v, e = .returned (.tuple #[.slice A 2 c, v, .int .i64 0]) ∧ Aside0 (2 ≤ c ∧ Kd.C (Kd.int .i64) w' A 2 exE) ∧ Below W.heap.size W w' := by
  refine (refusal_Excess.calls 60 A0 c0 exT A1 c1 exL A2 c2 exU A3 c3 exC 3000 4000 5 exE [-1000000, -4001000000] 0 W h.1.2 h.1.1 h.2.1.2 h.2.1.1 h.2.2.1.2 h.2.2.1.1 h.2.2.2.2 h.2.2.2.1 ex_exc).mono ?_
  rintro e w' ⟨v0, v1, rfl, h0, h1, hb⟩
  obtain ⟨A, c, rfl⟩ := Kd.R_slice h0
  exact ⟨A, c, v1, rfl, ⟨(Kd.R_reads' h0).2⟩, hb⟩
theorem ref.known (h : OX W A0 c0 A1 c1 A2 c2 A3 c3) : Calls Tryd.prog 13 #[.slice A0 2 c0, .agg #[.slice A1 2 c1, .slice A2 2 c2, .slice A3 2 c3, .int .i64 3000, .int .i64 4000, .int .i64 5]] W fun e w' => ∃ A c, e = .returned (.tuple #[.agg #[.slice A 2 c, .int .i64 1, .int .i64 0, .int .i64 3000000000], .int .i64 0]) ∧ Aside0 (2 ≤ c ∧ Kd.C (Kd.int .i64) w' A 2 exR) ∧ Below W.heap.size W w' := by
  refine (refusal_Refuse.calls 60 A0 c0 exT A1 c1 exL A2 c2 exU A3 c3 exC 3000 4000 5 exR 1 0 3000000000 0 W h.1.2 h.1.1 h.2.1.2 h.2.1.1 h.2.2.1.2 h.2.2.1.1 h.2.2.2.2 h.2.2.2.1 ex_ref).mono ?_
  rintro e w' ⟨v0, rfl, h0, hb⟩
  obtain ⟨A, c, rfl⟩ := Kd.R_slice h0
  exact ⟨A, c, rfl, ⟨(Kd.R_reads' h0).2⟩, hb⟩
theorem chk.known (h : OX W A0 c0 A1 c1 A2 c2 A3 c3) (hr : 2 ≤ c4 ∧ Kd.C (Kd.int .i64) W A4 2 exR) : Calls Tryd.prog 19 #[.slice A0 2 c0, .agg #[.slice A1 2 c1, .slice A2 2 c2, .slice A3 2 c3, .int .i64 3000, .int .i64 4000, .int .i64 5], .agg #[.slice A4 2 c4, .int .i64 1, .int .i64 0, .int .i64 3000000000]] W fun e w' => e = .returned (.int .i64 0) ∧ Below W.heap.size W w' :=
  refusal_Check.calls 60 A0 c0 exT A1 c1 exL A2 c2 exU A3 c3 exC 3000 4000 5 A4 c4 exR 1 0 3000000000 0 W h.1.2 h.1.1 h.2.1.2 h.2.1.1 h.2.2.1.2 h.2.2.1.1 h.2.2.2.2 h.2.2.2.1 hr.2 hr.1 ex_chk
theorem eq.known {xs : List Int} (hx : xs.length = 2) (he : slices_Equal_int_int.f 60 xs xs = some true) {a b : Int} (hab : xs = [a, b]) (hr : 2 ≤ c4 ∧ Kd.C (Kd.int .i64) W A4 2 xs) : Calls Tryd.prog 15 #[.slice A4 2 c4, .slice (some ⟨W.heap.size, 0, none⟩) 2 2] (W.alloc (.cells #[.int .i64 a, .int .i64 b] 3)) fun e w' => e = .returned (.bool true) ∧ Below (W.alloc (.cells #[.int .i64 a, .int .i64 b] 3)).heap.size (W.alloc (.cells #[.int .i64 a, .int .i64 b] 3)) w' := by
  subst hab
  have h2 := World.ownsRow_lit (base := W.heap.size) (e := 3) (size := 1) W #[.int .i64 a, .int .i64 b] 2 (Nat.le_refl _) (by decide) rfl
  have hR : Kd.R (Kd.int .i64) 3 (W.alloc (.cells #[.int .i64 a, .int .i64 b] 3)) W.heap.size (fun _ => True) (.slice (some ⟨W.heap.size, 0, none⟩) 2 2) [a, b] :=
    Kd.R_of_own (enc := Value.int .i64) (h1 := fun _ => rfl) (xs := [a, b]) h2 (fun _ _ => trivial)
  refine (slices_Equal_int_int.calls 60 A4 c4 [a, b] (some ⟨W.heap.size, 0, none⟩) 2 [a, b] true _ (Kd.C_below hr.2 (below_alloc (Below.refl _ _) _)) hr.1 (Kd.R_reads' hR).2.2 (Nat.le_refl _) he).mono ?_
  rintro e w' ⟨rfl, hd⟩
  exact ⟨rfl, hd.below⟩
end
set_option maxHeartbeats 8000000 in
set_option maxRecDepth 100000 in
theorem awake_ok (w : World) (ht : TabW w) : AwakeOK w := by
  have hu1 := Tryd.underlying26
  have hu2 := Tryd.underlying30
  have HB := Aside0.mk (Below.refl w.heap.size w)
  have HW := Aside0.mk (fun w1 (hb : Below w.heap.size w w1) => why_ok w1 (ht.below hb))
  clear ht
  go_enter Tryd.func9, Tryd.ntmps9
  go_wp2_with fail
  refine (ex.known _).mono ?_
  rintro e w1 ⟨A0, c0, A1, c1, A2, c2, A3, c3, rfl, HX, hb⟩
  replace HB := Aside0.mk (below_step HB.out hb)
  clear hb
  go_wp2_with fail
  obtain ⟨w2, hw2⟩ : ∃ x, x = w1.alloc (.cells #[.slice A1 2 c1, .slice A2 2 c2, .slice A3 2 c3, .int .i64 3000, .int .i64 4000, .int .i64 5] 26) := ⟨_, rfl⟩
  rw [← hw2]
  have hb : Below w1.heap.size w1 w2 := by rw [hw2]; exact below_alloc (Below.refl _ _) _
  have BO := Aside0.mk (show w2.heap[w1.heap.size]? = some (.cells #[.slice A1 2 c1, .slice A2 2 c2, .slice A3 2 c3, .int .i64 3000, .int .i64 4000, .int .i64 5] 26 (0, 0)) by rw [hw2]; exact blk_new _ _)
  clear hw2
  obtain ⟨g1, hg1⟩ : ∃ g, g = w1.heap.size := ⟨_, rfl⟩
  rw [← hg1] at BO ⊢
  replace HB := Aside0.mk (below_step HB.out hb)
  replace HX := Aside0.mk (HX.out.below hb)
  clear hb hg1
  refine (exc.known HX.out).mono ?_
  rintro e w3 ⟨A4, c4, v4, rfl, HE, hb⟩
  replace HB := Aside0.mk (below_step HB.out hb)
  replace HX := Aside0.mk (HX.out.below hb)
  replace BO := Aside0.mk (blk_below BO.out hb)
  clear hb
  have d0 : w3.cell? ⟨g1, 0, none⟩ = some (.slice A1 2 c1) := (blk_cell BO.out 0).trans rfl
  have d1 : w3.cell? ⟨g1, 1, none⟩ = some (.slice A2 2 c2) := (blk_cell BO.out 1).trans rfl
  have d2 : w3.cell? ⟨g1, 2, none⟩ = some (.slice A3 2 c3) := (blk_cell BO.out 2).trans rfl
  have d3 : w3.cell? ⟨g1, 3, none⟩ = some (.int .i64 3000) := (blk_cell BO.out 3).trans rfl
  have d4 : w3.cell? ⟨g1, 4, none⟩ = some (.int .i64 4000) := (blk_cell BO.out 4).trans rfl
  have d5 : w3.cell? ⟨g1, 5, none⟩ = some (.int .i64 5) := (blk_cell BO.out 5).trans rfl
  go_wp2_with fail
  refine (ref.known HX.out).mono ?_
  rintro e w4 ⟨A5, c5, rfl, HR, hb⟩
  clear d0 d1 d2 d3 d4 d5
  replace HB := Aside0.mk (below_step HB.out hb)
  replace HX := Aside0.mk (HX.out.below hb)
  replace BO := Aside0.mk (blk_below BO.out hb)
  replace HE := Aside0.mk (⟨HE.out.1, Kd.C_below HE.out.2 hb⟩ : _ ∧ _)
  clear hb
  go_wp2_with fail
  obtain ⟨w5, hw5⟩ : ∃ x, x = w4.alloc (.cells #[.slice A5 2 c5, .int .i64 1, .int .i64 0, .int .i64 3000000000] 30) := ⟨_, rfl⟩
  rw [← hw5]
  have hb : Below w4.heap.size w4 w5 := by rw [hw5]; exact below_alloc (Below.refl _ _) _
  have BR := Aside0.mk (show w5.heap[w4.heap.size]? = some (.cells #[.slice A5 2 c5, .int .i64 1, .int .i64 0, .int .i64 3000000000] 30 (0, 0)) by rw [hw5]; exact blk_new _ _)
  clear hw5
  obtain ⟨g2, hg2⟩ : ∃ g, g = w4.heap.size := ⟨_, rfl⟩
  rw [← hg2] at BR
  try rw [← hg2]
  replace HB := Aside0.mk (below_step HB.out hb)
  replace HX := Aside0.mk (HX.out.below hb)
  replace BO := Aside0.mk (blk_below BO.out hb)
  replace HE := Aside0.mk (⟨HE.out.1, Kd.C_below HE.out.2 hb⟩ : _ ∧ _)
  replace HR := Aside0.mk (⟨HR.out.1, Kd.C_below HR.out.2 hb⟩ : _ ∧ _)
  clear hb
  clear hg2
  have r0 : w5.cell? ⟨g2, 0, none⟩ = some (.slice A5 2 c5) := (blk_cell BR.out 0).trans rfl
  have r1 : w5.cell? ⟨g2, 1, none⟩ = some (.int .i64 1) := (blk_cell BR.out 1).trans rfl
  have r2 : w5.cell? ⟨g2, 2, none⟩ = some (.int .i64 0) := (blk_cell BR.out 2).trans rfl
  have r3 : w5.cell? ⟨g2, 3, none⟩ = some (.int .i64 3000000000) := (blk_cell BR.out 3).trans rfl
  go_wp2_with fail
  refine (refusal_Why.calls A5 c5 exR 1 0 3000000000 exW 0 _ HR.out.2 HR.out.1 ex_why (HW.out _ HB.out)).mono ?_
  rintro e w6 ⟨rfl, hb⟩
  clear r0 r1 r2 r3
  replace HB := Aside0.mk (below_step HB.out hb)
  replace HX := Aside0.mk (HX.out.below hb)
  replace BO := Aside0.mk (blk_below BO.out hb)
  replace BR := Aside0.mk (blk_below BR.out hb)
  replace HE := Aside0.mk (⟨HE.out.1, Kd.C_below HE.out.2 hb⟩ : _ ∧ _)
  replace HR := Aside0.mk (⟨HR.out.1, Kd.C_below HR.out.2 hb⟩ : _ ∧ _)
  clear hb
  have r0 : w6.cell? ⟨g2, 0, none⟩ = some (.slice A5 2 c5) := (blk_cell BR.out 0).trans rfl
  have r1 : w6.cell? ⟨g2, 1, none⟩ = some (.int .i64 1) := (blk_cell BR.out 1).trans rfl
  have r2 : w6.cell? ⟨g2, 2, none⟩ = some (.int .i64 0) := (blk_cell BR.out 2).trans rfl
  have r3 : w6.cell? ⟨g2, 3, none⟩ = some (.int .i64 3000000000) := (blk_cell BR.out 3).trans rfl
  go_wp2_with fail
  refine (eq.known rfl ex_eq1 rfl HE.out).mono ?_
  rintro e w7 ⟨rfl, hb0⟩
  have hb := below_step (below_alloc (Below.refl w6.heap.size w6) _) hb0
  clear hb0
  clear r0 r1 r2 r3
  replace HB := Aside0.mk (below_step HB.out hb)
  replace HX := Aside0.mk (HX.out.below hb)
  replace BO := Aside0.mk (blk_below BO.out hb)
  replace BR := Aside0.mk (blk_below BR.out hb)
  replace HR := Aside0.mk (⟨HR.out.1, Kd.C_below HR.out.2 hb⟩ : _ ∧ _)
  clear hb
  have r0 : w7.cell? ⟨g2, 0, none⟩ = some (.slice A5 2 c5) := (blk_cell BR.out 0).trans rfl
  have r1 : w7.cell? ⟨g2, 1, none⟩ = some (.int .i64 1) := (blk_cell BR.out 1).trans rfl
  have r2 : w7.cell? ⟨g2, 2, none⟩ = some (.int .i64 0) := (blk_cell BR.out 2).trans rfl
  have r3 : w7.cell? ⟨g2, 3, none⟩ = some (.int .i64 3000000000) := (blk_cell BR.out 3).trans rfl
  clear HE
  go_wp2_with fail
  refine (eq.known rfl ex_eq2 rfl HR.out).mono ?_
  rintro e w8 ⟨rfl, hb0⟩
  have hb := below_step (below_alloc (Below.refl w7.heap.size w7) _) hb0
  clear hb0
  clear r0 r1 r2 r3
  replace HB := Aside0.mk (below_step HB.out hb)
  replace HX := Aside0.mk (HX.out.below hb)
  replace BO := Aside0.mk (blk_below BO.out hb)
  replace BR := Aside0.mk (blk_below BR.out hb)
  replace HR := Aside0.mk (⟨HR.out.1, Kd.C_below HR.out.2 hb⟩ : _ ∧ _)
  clear hb
  have r0 : w8.cell? ⟨g2, 0, none⟩ = some (.slice A5 2 c5) := (blk_cell BR.out 0).trans rfl
  have r1 : w8.cell? ⟨g2, 1, none⟩ = some (.int .i64 1) := (blk_cell BR.out 1).trans rfl
  have r2 : w8.cell? ⟨g2, 2, none⟩ = some (.int .i64 0) := (blk_cell BR.out 2).trans rfl
  have r3 : w8.cell? ⟨g2, 3, none⟩ = some (.int .i64 3000000000) := (blk_cell BR.out 3).trans rfl
  have d0 : w8.cell? ⟨g1, 0, none⟩ = some (.slice A1 2 c1) := (blk_cell BO.out 0).trans rfl
  have d1 : w8.cell? ⟨g1, 1, none⟩ = some (.slice A2 2 c2) := (blk_cell BO.out 1).trans rfl
  have d2 : w8.cell? ⟨g1, 2, none⟩ = some (.slice A3 2 c3) := (blk_cell BO.out 2).trans rfl
  have d3 : w8.cell? ⟨g1, 3, none⟩ = some (.int .i64 3000) := (blk_cell BO.out 3).trans rfl
  have d4 : w8.cell? ⟨g1, 4, none⟩ = some (.int .i64 4000) := (blk_cell BO.out 4).trans rfl
  have d5 : w8.cell? ⟨g1, 5, none⟩ = some (.int .i64 5) := (blk_cell BO.out 5).trans rfl
  have ew : (exW.toList == ([116, 111, 111, 32, 119, 101, 97, 107, 44, 32, 102, 97, 99, 116, 111, 114, 32, 51, 48, 48, 48, 48, 48, 48, 48, 48, 48] : List UInt8)) = true := by rw [beq_iff_eq]; simp [exW]
  go_wp2_with fail
  refine (chk.known HX.out HR.out).mono ?_
  rintro e w9 ⟨rfl, hb⟩
  replace HB := Aside0.mk (below_step HB.out hb)
  go_wp2_with fail
  go_ret
  exact ⟨rfl, HB.out⟩
end Go.Proofs.YtcdkbciagchlgaaDoor.PF
