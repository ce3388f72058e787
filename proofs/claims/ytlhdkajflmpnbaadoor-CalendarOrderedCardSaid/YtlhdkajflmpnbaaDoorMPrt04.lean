/- calendar.Print, where the library's table of powers lies as its initialiser lays it. -/
import Derived.Test.YtlhdkajflmpnbaaDoorMIto04
import Derived.Test.YtlhdkajflmpnbaaDoorPF1
import Derived.Test.YtlhdkajflmpnbaaDoorPF3
import Derived.Test.YtlhdkajflmpnbaaDoorPF5
import Derived.Test.YtlhdkajflmpnbaaDoorRows
import Derived.Shelf.Strconv.Itoa3
import Derived.Lib.AppendIntMem
import Derived.Deep.RegionHeld3
namespace Go.Proofs.YtlhdkajflmpnbaaDoor.PF
open Go.RowKit Go.Proofs.YtlhdkajflmpnbaaDoorW.PrintWords Go.Proofs.YtlhdkajflmpnbaaDoorW.PrintLast Go.Proofs.YtlhdkajflmpnbaaDoorW.PrintMore
set_option linter.unusedVariables false
set_option linter.unusedSimpArgs false
/-- The library's table lies there. -/
def TabW (w : World) : Prop := Lib.TabIs Tryd.prog w tabName .u64 Lib.pow10Tab
theorem TabW.below {w w' : World} (h : TabW w) (hb : Below w.heap.size w w') : TabW w' := Lib.tabBelow_of_tabIs h w' hb
theorem digC_nat (u : Nat) : digC (u : Int) = UInt8.ofNat (48 + u % 10) := rfl
theorem itoa_year {y : Int} (h0 : 1000 ≤ y) (h1 : y ≤ 9999) : (⟨(Lib.itoa y).toArray⟩ : ByteArray) = ⟨#[digC (y / 1000), digC (y / 100), digC (y / 10), digC y]⟩ := by
  obtain ⟨u, rfl⟩ : ∃ u : Nat, y = u := ⟨y.toNat, by omega⟩
  rw [Lib.itoa_nonneg, Lib.decDigits, dif_neg (by omega), Lib.decDigits, dif_neg (by omega), Lib.decDigits, dif_neg (by omega), Lib.decDigits_one (by omega),
    show (u : Int) / 1000 = ((u / 1000 : Nat) : Int) by omega, show (u : Int) / 100 = ((u / 100 : Nat) : Int) by omega, show (u : Int) / 10 = ((u / 10 : Nat) : Int) by omega, digC_nat, digC_nat, digC_nat, digC_nat,
    show u / 10 / 10 / 10 = u / 1000 % 10 by omega, show u / 10 / 10 % 10 = u / 100 % 10 by omega]
  rfl
theorem itoa_two {n : Int} (h0 : 0 ≤ n) (h1 : n ≤ 99) : (Lib.itoa (100 + n)) = [49, digC (n / 10), digC n] := by
  obtain ⟨u, rfl⟩ : ∃ u : Nat, n = u := ⟨n.toNat, by omega⟩
  rw [show (100 : Int) + (u : Int) = ((100 + u : Nat) : Int) by omega, Lib.itoa_nonneg, Lib.decDigits, dif_neg (by omega), Lib.decDigits, dif_neg (by omega), Lib.decDigits_one (by omega),
    show (u : Int) / 10 = ((u / 10 : Nat) : Int) by omega, digC_nat, digC_nat, show (100 + u) / 10 / 10 = 1 by omega, show (100 + u) / 10 % 10 = u / 10 % 10 by omega, show (100 + u) % 10 = u % 10 by omega]
  rfl
theorem two_calls (n : Int) (h0 : 0 ≤ n) (h1 : n ≤ 99) (w : World) (ht : TabW w) :
    Calls Tryd.prog 37 #[.int .i64 n] w fun e w' => e = .returned (.string ⟨#[digC (n / 10), digC n]⟩) ∧ Below w.heap.size w w' := by
  have HI := Aside0.mk (itoa_calls (100 + n) (by omega) (by omega) w ht)
  rw [itoa_two h0 h1] at HI
  have e1 : wrap64 (100 + n) = 100 + n := w64_ (by omega) (by omega)
  clear ht h0 h1
  go_enter Tryd.func37, Tryd.ntmps37
  go_wp2_with (go_at_call 38; refine (HI.out).mono ?_; rintro e w' ⟨rfl, hb⟩)
  go_ret
  exact ⟨rfl, hb⟩
theorem print_ok (w : World) (ht : TabW w) : PrintOK w := by
  intro k a0 r1 r2 h
  have HB := Aside0.mk (Below.refl w.heap.size w)
  unfold calendar_Print.f at h
  obtain ⟨b, hb, h⟩ := Option.bind_eq_some_iff.mp h
  have HD := Aside0.mk (fun w => calendar_is.calls a0 b w hb)
  clear hb
  cases b
  · rw [if_neg (by decide)] at h
    obtain ⟨rfl, rfl⟩ := Prod.mk.inj (Option.some.inj h)
    clear h
    go_enter Tryd.func23, Tryd.ntmps23
    go_wp2_with (go_at_call 27; refine (HD.out _).mono ?_; rintro e w' ⟨rfl, hd⟩)
    go_ret2
    exact ⟨rfl, below_step HB.out hd.below⟩
  · rw [if_pos rfl] at h
    obtain ⟨⟨y, m, d⟩, hb, h⟩ := Option.bind_eq_some_iff.mp h
    have HO := Aside0.mk (fun w => calendar_date.calls k a0 y m d w hb)
    clear hb
    dsimp only at h
    split at h
    · rename_i hr
      obtain ⟨hy0, hy1, hm0, hm1, hd0, hd1⟩ := hr
      obtain ⟨rfl, rfl⟩ := Prod.mk.inj (Option.some.inj h)
      clear h
      have HY := Aside0.mk (fun w' (hb : Below w.heap.size w w') => itoa_calls y (by omega) (by omega) w' (ht.below hb))
      have HM := Aside0.mk (fun w' (hb : Below w.heap.size w w') => two_calls m hm0 hm1 w' (ht.below hb))
      have HE := Aside0.mk (fun w' (hb : Below w.heap.size w w') => two_calls d hd0 hd1 w' (ht.below hb))
      rw [itoa_year hy0 hy1] at HY
      clear ht hy0 hy1 hm0 hm1 hd0 hd1
      have e37 : ∀ args w, (callFunc 37 args).run Tryd.prog w = .ok (.enter 37 args) w := enters_of Tryd.func37 (by kernel_rfl) rfl
      go_enter Tryd.func23, Tryd.ntmps23
      go_upto_region 5 with (first | (go_at_call 27; refine (HD.out _).mono ?_; rintro e w' ⟨rfl, hd⟩; replace HB := Aside0.mk (below_step HB.out hd.below)) | (go_at_call 28; refine (HO.out _).mono ?_; rintro e w2 ⟨rfl, hd2⟩; replace HB := Aside0.mk (below_step HB.out hd2)))
      have d0 : (w2.alloc (Obj.cells #[Value.int IntKind.i64 y, Value.int IntKind.i64 m, Value.int IntKind.i64 d] 23)).cell? ⟨w2.heap.size, 0, none⟩ = some (.int .i64 y) := by rw [World.cell?_alloc_new]; rfl
      have d1 : (w2.alloc (Obj.cells #[Value.int IntKind.i64 y, Value.int IntKind.i64 m, Value.int IntKind.i64 d] 23)).cell? ⟨w2.heap.size, 1, none⟩ = some (.int .i64 m) := by rw [World.cell?_alloc_new]; rfl
      have d2 : (w2.alloc (Obj.cells #[Value.int IntKind.i64 y, Value.int IntKind.i64 m, Value.int IntKind.i64 d] 23)).cell? ⟨w2.heap.size, 2, none⟩ = some (.int .i64 d) := by rw [World.cell?_alloc_new]; rfl
      replace HB := Aside0.mk (below_alloc HB.out (Obj.cells #[Value.int IntKind.i64 y, Value.int IntKind.i64 m, Value.int IntKind.i64 d] 23))
      generalize w2.alloc (Obj.cells #[Value.int IntKind.i64 y, Value.int IntKind.i64 m, Value.int IntKind.i64 d] 23) = W at d0 d1 d2 HB ⊢
      generalize w2.heap.size = g at d0 d1 d2 ⊢
      replace HB := Aside0.mk (below_drew1 HB.out)
      replace d0 : W.drew.cell? _ = _ := d0
      replace d1 : W.drew.cell? _ = _ := d1
      replace d2 : W.drew.cell? _ = _ := d2
      go_region_held3 (fun w' => w'.cell? ⟨g, 0, none⟩ = some (.int .i64 y) ∧ w'.cell? ⟨g, 1, none⟩ = some (.int .i64 m) ∧ w'.cell? ⟨g, 2, none⟩ = some (.int .i64 d) ∧ Aside0 (Below w.heap.size w w'))
        (first | exact ⟨d0, d1, d2, HB⟩)
        (first
          | (go_at_call 38; refine (HY.out _ HB.out).mono ?_; rintro e' wz ⟨rfl, hb⟩; replace HB := Aside0.mk (below_step HB.out hb); replace d0 := pw_cell_below hb d0; replace d1 := pw_cell_below hb d1; replace d2 := pw_cell_below hb d2; clear hb)
          | (go_at_call 37; refine (HM.out _ HB.out).mono ?_; rintro e' wz ⟨rfl, hb⟩; replace HB := Aside0.mk (below_step HB.out hb); replace d0 := pw_cell_below hb d0; replace d1 := pw_cell_below hb d1; replace d2 := pw_cell_below hb d2; clear hb)
          | (go_at_call 37; refine (HE.out _ HB.out).mono ?_; rintro e' wz ⟨rfl, hb⟩; replace HB := Aside0.mk (below_step HB.out hb); replace d0 := pw_cell_below hb d0; replace d1 := pw_cell_below hb d1; replace d2 := pw_cell_below hb d2; clear hb))
      go_wp2
      go_ret2
      refine ⟨?_, HB.out⟩
      have e : (({ data := #[digC (y / 1000), digC (y / 100), digC (y / 10), digC y] } : ByteArray) ++ { data := #[45] } ++ { data := #[digC (m / 10), digC m] } ++ { data := #[45] } ++ { data := #[digC (d / 10), digC d] }) = dateT y m d := ByteArray.ext (by simp [dateT, ByteArray.data_append])
      rw [← e]
      rfl
    · cases h

end Go.Proofs.YtlhdkajflmpnbaaDoor.PF
