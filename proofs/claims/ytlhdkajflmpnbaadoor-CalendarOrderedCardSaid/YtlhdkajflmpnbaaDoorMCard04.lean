/- The tied card's common part: the door's own heap meets the condition; out of the condition the library's table. -/
import Derived.Test.YtlhdkajflmpnbaaDoorMAwk04
import Derived.Test.YtlhdkajflmpnbaaDoorMIto04
import Derived.Test.YtlhdkajflmpnbaaDoorMPrt04
import Derived.Test.YtlhdkajflmpnbaaDoorPF5
import Derived.Test.YtlhdkajflmpnbaaDoorPF6
import Derived.Test.YtlhdkajflmpnbaaDoorRows
import Derived.LaidMore
import Derived.Stop.Joined
import Derived.Lib.LaidTab
import Derived.ProofKit
import Derived.Stop.LaidErr
namespace Go.Proofs.YtlhdkajflmpnbaaDoor.PF
open Go.RowKit Go.Proofs.YtlhdkajflmpnbaaDoorW.PrintWords Go.Proofs.YtlhdkajflmpnbaaDoorW.PrintLast Go.Proofs.YtlhdkajflmpnbaaDoorW.PrintMore
set_option linter.unusedVariables false
set_option linter.unusedSimpArgs false
/-- What is laid. -/
def laidL : List (String × DataW Unit) := Rows.calendarConvertsRow.laid
def doorSteps : Nat := 24
set_option maxRecDepth 100000 in
theorem door_met (os : Os) (args : Array Value) : laidMetH Tryd.prog laidL ((World.doorLaid Tryd.prog doorSteps os).forCall (fun _ _ => 0) ⟨#[], args, []⟩).memory :=
  laidMetH_of_parts3 (fuel := 8) (laidMet_of_run' 8 (by kernel_rfl) (by kernel_rfl)) (by kernel_rfl) (by kernel_rfl)
set_option maxRecDepth 100000 in
theorem tab_of {W : World} (h : laidMetH Tryd.prog laidL W) : TabW W := by
  rw [MakeChecks.laidMetH_plain _ _ _ (by kernel_rfl)] at h
  have h2 : laidMet Tryd.prog ((tabName, Lib.tabData .u64 Lib.pow10Tab) :: []) W := h.tail.tail
  exact Lib.tabIs_of_head (g := 0) (t := 61) (e := 55) (n := 20) (by kernel_rfl) (by kernel_rfl) (by kernel_rfl) (by kernel_rfl) (by kernel_rfl) (by kernel_rfl) h2
/-- What the laws' walks ask of the world. -/
theorem hypA {W : World} (h : laidMetH Tryd.prog laidL W) : Aside0 (∀ w1, Below W.heap.size W w1 → AwakeOK w1) := ⟨fun w1 hb => awake_ok w1 ((tab_of h).below hb)⟩
theorem hypP {W : World} (h : laidMetH Tryd.prog laidL W) : Aside0 (∀ w1, Below W.heap.size W w1 → PrintOK w1) := ⟨fun w1 hb => print_ok w1 ((tab_of h).below hb)⟩
/-! #### The struct type of dates -/
structure S23 where
  f0 : Int
  f1 : Int
  f2 : Int
def k23 : Kd S23 := Kd.iso (Kd.pair (Kd.int .i64) (Kd.pair (Kd.int .i64) (Kd.int .i64))) (fun x : S23 => (x.f0, x.f1, x.f2))
theorem k23_open {w : World} {x : S23} {cs : List Value} (h : k23.K w x cs) : cs = [.int .i64 x.f0, .int .i64 x.f1, .int .i64 x.f2] := by
  obtain ⟨_, _, rfl, rfl, _, _, rfl, rfl, rfl⟩ := h
  exact rfl

end Go.Proofs.YtlhdkajflmpnbaaDoor.PF
