/- The tied card's common part: the door's own heap meets the condition; out of the condition the library's table. -/
import Derived.Test.YtcdkbciagchlgaaDoorMAwk30
import Derived.Test.YtcdkbciagchlgaaDoorMIto30
import Derived.Test.YtcdkbciagchlgaaDoorMWhyP30
import Derived.Test.YtcdkbciagchlgaaDoorPF9
import Derived.Test.YtcdkbciagchlgaaDoorRows
import Derived.LaidMore
import Derived.Stop.Joined
import Derived.Lib.LaidTab
import Derived.ProofKit
import Derived.Stop.LaidErr
namespace Go.Proofs.YtcdkbciagchlgaaDoor.PF
open Go.RowKit Go.Proofs.YtcdkbciagchlgaaDoorW.PrintWords Go.Proofs.YtcdkbciagchlgaaDoorW.PrintLast Go.Proofs.YtcdkbciagchlgaaDoorW.PrintMore
set_option linter.unusedVariables false
set_option linter.unusedSimpArgs false
def laidL : List (String × DataW Unit) := Rows.refusalChecksRow.laid
def doorSteps : Nat := 24
set_option maxRecDepth 100000 in
theorem door_met (os : Os) (args : Array Value) : laidMetH Tryd.prog laidL ((World.doorLaid Tryd.prog doorSteps os).forCall (fun _ _ => 0) ⟨#[], args, []⟩).memory :=
  laidMetH_of_parts3 (fuel := 8) (laidMet_of_run' 8 (by kernel_rfl) (by kernel_rfl)) (by kernel_rfl) (by kernel_rfl)
set_option maxRecDepth 100000 in
theorem tab_of {W : World} (h : laidMetH Tryd.prog laidL W) : TabW W := by
  rw [MakeChecks.laidMetH_plain _ _ _ (by kernel_rfl)] at h
  have h2 : laidMet Tryd.prog ((tabName, Lib.tabData .u64 Lib.pow10Tab) :: []) W := h.tail.tail
  exact Lib.tabIs_of_head (g := 0) (t := 112) (e := 104) (n := 20) (by kernel_rfl) (by kernel_rfl) (by kernel_rfl) (by kernel_rfl) (by kernel_rfl) (by kernel_rfl) h2
theorem hypA {W : World} (h : laidMetH Tryd.prog laidL W) : Aside0 (∀ w1, Below W.heap.size W w1 → AwakeOK w1) := ⟨fun w1 hb => awake_ok w1 ((tab_of h).below hb)⟩
theorem hypP {W : World} (h : laidMetH Tryd.prog laidL W) : Aside0 (∀ w1, Below W.heap.size W w1 → WhyOK w1) := ⟨fun w1 hb => why_ok w1 ((tab_of h).below hb)⟩
end Go.Proofs.YtcdkbciagchlgaaDoor.PF
