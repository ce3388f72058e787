/- The examples of the chapter, where the library's table lies. -/
import Derived.Test.YtlhdkajflmpnbaaDoorMPrt04
import Derived.Test.YtlhdkajflmpnbaaDoorPF2
import Derived.Test.YtlhdkajflmpnbaaDoorPF3
import Derived.Test.YtlhdkajflmpnbaaDoorPF4
import Derived.Test.YtlhdkajflmpnbaaDoorPF5
import Derived.Test.YtlhdkajflmpnbaaDoorPF6
import Derived.Test.YtlhdkajflmpnbaaDoorRows
import Derived.Shelf.Strconv.Itoa3
import Derived.Lib.AppendIntMem
import Derived.Deep.RegionHeld3
namespace Go.Proofs.YtlhdkajflmpnbaaDoor.PF
open Go.RowKit Go.Proofs.YtlhdkajflmpnbaaDoorW.PrintWords Go.Proofs.YtlhdkajflmpnbaaDoorW.PrintLast Go.Proofs.YtlhdkajflmpnbaaDoorW.PrintMore
set_option linter.unusedVariables false
set_option linter.unusedSimpArgs false
attribute [local go_sem high] eqA23
theorem awake_ok (w : World) (ht : TabW w) : AwakeOK w := by
  have HDa := Aside0.mk (fun w => calendar_Date.calls 200 59 1900 3 1 0 w (by kernel_rfl))
  have HWd := Aside0.mk (fun w => calendar_Weekday.calls 36584 3 0 w (by kernel_rfl))
  have HLa := Aside0.mk (fun w => calendar_Later.calls 200 36554 1 36583 0 w (by kernel_rfl))
  have HYe := Aside0.mk (fun w => calendar_Years.calls 200 36583 36948 1 0 w (by kernel_rfl))
  have HSe := Aside0.mk (fun w => calendar_Season.calls 200 36584 2 0 w (by kernel_rfl))
  have HPr := Aside0.mk (fun w' (hb : Below w.heap.size w w') => print_ok w' (ht.below hb) 200 36584 ⟨#[50, 48, 48, 48, 45, 48, 51, 45, 48, 49]⟩ 0 (by kernel_rfl))
  have HPa := Aside0.mk (fun w => calendar_Parse.calls 200 ⟨#[50, 48, 48, 48, 45, 48, 50, 45, 50, 57]⟩ 36583 0 w (by kernel_rfl))
  have HDy := Aside0.mk (fun w => calendar_Day.calls 200 1900 3 1 59 0 w (by kernel_rfl))
  have HB := Aside0.mk (Below.refl w.heap.size w)
  clear ht
  go_enter Tryd.func10, Tryd.ntmps10
  go_upto_region 2 with (go_at_call 11; refine (HDa.out _).mono ?_; rintro e w2 ⟨rfl, hb⟩; replace HB := Aside0.mk (below_step HB.out hb); clear hb)
  have d0 : (w2.alloc (Obj.cells #[Value.int IntKind.i64 1900, Value.int IntKind.i64 3, Value.int IntKind.i64 1] 23)).cell? ⟨w2.heap.size, 0, none⟩ = some (.int .i64 1900) := by rw [World.cell?_alloc_new]; rfl
  have d1 : (w2.alloc (Obj.cells #[Value.int IntKind.i64 1900, Value.int IntKind.i64 3, Value.int IntKind.i64 1] 23)).cell? ⟨w2.heap.size, 1, none⟩ = some (.int .i64 3) := by rw [World.cell?_alloc_new]; rfl
  have d2 : (w2.alloc (Obj.cells #[Value.int IntKind.i64 1900, Value.int IntKind.i64 3, Value.int IntKind.i64 1] 23)).cell? ⟨w2.heap.size, 2, none⟩ = some (.int .i64 1) := by rw [World.cell?_alloc_new]; rfl
  replace HB := Aside0.mk (below_alloc HB.out (Obj.cells #[Value.int IntKind.i64 1900, Value.int IntKind.i64 3, Value.int IntKind.i64 1] 23))
  generalize w2.alloc (Obj.cells #[Value.int IntKind.i64 1900, Value.int IntKind.i64 3, Value.int IntKind.i64 1] 23) = W at d0 d1 d2 HB ⊢
  generalize w2.heap.size = g at d0 d1 d2 ⊢
  go_wp2_with (first
    | (go_at_call 15; refine (HWd.out _).mono ?_; rintro e wz ⟨rfl, hd⟩; replace HB := Aside0.mk (below_step HB.out hd.below); replace d0 := pw_cell_below hd.below d0; replace d1 := pw_cell_below hd.below d1; replace d2 := pw_cell_below hd.below d2; clear hd)
    | (go_at_call 19; refine (HLa.out _).mono ?_; rintro e wz ⟨rfl, hb⟩; replace HB := Aside0.mk (below_step HB.out hb); replace d0 := pw_cell_below hb d0; replace d1 := pw_cell_below hb d1; replace d2 := pw_cell_below hb d2; clear hb)
    | (go_at_call 21; refine (HYe.out _).mono ?_; rintro e wz ⟨rfl, hb⟩; replace HB := Aside0.mk (below_step HB.out hb); replace d0 := pw_cell_below hb d0; replace d1 := pw_cell_below hb d1; replace d2 := pw_cell_below hb d2; clear hb)
    | (go_at_call 17; refine (HSe.out _).mono ?_; rintro e wz ⟨rfl, hb⟩; replace HB := Aside0.mk (below_step HB.out hb); replace d0 := pw_cell_below hb d0; replace d1 := pw_cell_below hb d1; replace d2 := pw_cell_below hb d2; clear hb)
    | (go_at_call 23; refine (HPr.out _ HB.out).mono ?_; rintro e wz ⟨rfl, hb⟩; replace HB := Aside0.mk (below_step HB.out hb); replace d0 := pw_cell_below hb d0; replace d1 := pw_cell_below hb d1; replace d2 := pw_cell_below hb d2; clear hb)
    | (go_at_call 25; refine (HPa.out _).mono ?_; rintro e wz ⟨rfl, hb⟩; replace HB := Aside0.mk (below_step HB.out hb); replace d0 := pw_cell_below hb d0; replace d1 := pw_cell_below hb d1; replace d2 := pw_cell_below hb d2; clear hb)
    | (go_at_call 13; refine (HDy.out _).mono ?_; rintro e wz ⟨rfl, hb⟩; replace HB := Aside0.mk (below_step HB.out hb); replace d0 := pw_cell_below hb d0; replace d1 := pw_cell_below hb d1; replace d2 := pw_cell_below hb d2; clear hb))
  go_ret
  exact ⟨rfl, HB.out⟩

end Go.Proofs.YtlhdkajflmpnbaaDoor.PF
