/-
  No cell of these rows narrows 'for every input' (looked for: loops, veiled, ifaces, maps, wideKeys, modest, calm, conditions, laid).
  DERIVED. THE GIVEN ROWS OF THIS SEAT. 7 by the template 'for every input the law returns true; each argument reads behind the call as it read before'; 0 by the template 'total and deterministic' (their statements: YtdggkgkbjgigmaaTotals.lean).
  GIVEN WITH THE SEED: the statements are not yours to turn. If you find one false, say at which input.
  Laid BY PROGRAM, IN A SANDBOX (cutbox-rows.mjs): the forced cells as the released guide's own fill.sh prints them over the translation 409948b0ea1d5614… (all of the seat's roots in one cut). By AI agents, Wed Nov 11 2026. No macro, syntax, notation, axiom, sorry.
-/
import Derived.Test.YtdggkgkbjgigmaaChecked
import GoSem.Claim
import GoSem.ClaimJoined
import GoSem.ClaimMapViews
import Derived.JoinedTies
import Derived.KernelRfl
namespace Go.Proofs.Ytdggkgkbjgigmaa
/- THE CELL 'sum', in the pinned program and in every row, IS THE sha256 OF THE DUMP (.gsa) THAT YtdggkgkbjgigmaaProg.lean LOADS. Nothing in Lean hashes anything: it is a label: what it is worth is what the hold of that sum in a sandbox is worth. -/
noncomputable def Try.pinned : Pinned := { name := "ytdggkgkbjgigmaa", sum := "409948b0ea1d5614503f21614f86e89788fb0482025dbbcc4ab4875aa698a880", checked := Try.checked }
namespace Rows
def none {H : Type} : Left H := { results := [], args := [] }

/-- 'spilelaw28.ReduceWaters': WHATEVER THE INPUT: true; the input reads as it did. -/
def reduceWatersSpec : ChangeSpec := { name := "reduceWaters", fn := fun _ => fun
  | [d1, d2, d3] => { results := [.lit (.bool true)], args := [d1, d2, d3] }
  | _ => none }
def reduceWatersRow : OpenClaim := { program := "ytdggkgkbjgigmaa", sum := "409948b0ea1d5614503f21614f86e89788fb0482025dbbcc4ab4875aa698a880", func := "spile/spilelaw28.ReduceWaters", spec := "reduceWaters", unfollowed := true, recurses := true, apart := false }
def ReduceWatersSaid : Prop := reduceWatersRow.holds Try.pinned (OpenSpec.ofChange reduceWatersSpec)

/-- ITS FALSE NEIGHBOUR: 'it returns false'. Refute it at one input. -/
def reduceWatersWrong : ChangeSpec := { name := "reduceWaters", fn := fun _ => fun
  | [d1, d2, d3] => { results := [.lit (.bool false)], args := [d1, d2, d3] }
  | _ => none }
def ReduceWatersWrongFalsely : Prop := reduceWatersRow.holds Try.pinned (OpenSpec.ofChange reduceWatersWrong)

/-- 'spilelaw28.ReduceLeast': WHATEVER THE INPUT: true; the input reads as it did. -/
def reduceLeastSpec : ChangeSpec := { name := "reduceLeast", fn := fun _ => fun
  | [d1, d2, d3, d4] => { results := [.lit (.bool true)], args := [d1, d2, d3, d4] }
  | _ => none }
def reduceLeastRow : OpenClaim := { program := "ytdggkgkbjgigmaa", sum := "409948b0ea1d5614503f21614f86e89788fb0482025dbbcc4ab4875aa698a880", func := "spile/spilelaw28.ReduceLeast", spec := "reduceLeast", unfollowed := true, recurses := true, apart := false }
def ReduceLeastSaid : Prop := reduceLeastRow.holds Try.pinned (OpenSpec.ofChange reduceLeastSpec)

/-- ITS FALSE NEIGHBOUR: 'it returns false'. Refute it at one input. -/
def reduceLeastWrong : ChangeSpec := { name := "reduceLeast", fn := fun _ => fun
  | [d1, d2, d3, d4] => { results := [.lit (.bool false)], args := [d1, d2, d3, d4] }
  | _ => none }
def ReduceLeastWrongFalsely : Prop := reduceLeastRow.holds Try.pinned (OpenSpec.ofChange reduceLeastWrong)

/-- 'spilelaw28.ReduceJust': WHATEVER THE INPUT: true; the input reads as it did. -/
def reduceJustSpec : ChangeSpec := { name := "reduceJust", fn := fun _ => fun
  | [d1, d2, d3, d4] => { results := [.lit (.bool true)], args := [d1, d2, d3, d4] }
  | _ => none }
def reduceJustRow : OpenClaim := { program := "ytdggkgkbjgigmaa", sum := "409948b0ea1d5614503f21614f86e89788fb0482025dbbcc4ab4875aa698a880", func := "spile/spilelaw28.ReduceJust", spec := "reduceJust", unfollowed := true, recurses := true, apart := false }
def ReduceJustSaid : Prop := reduceJustRow.holds Try.pinned (OpenSpec.ofChange reduceJustSpec)

/-- ITS FALSE NEIGHBOUR: 'it returns false'. Refute it at one input. -/
def reduceJustWrong : ChangeSpec := { name := "reduceJust", fn := fun _ => fun
  | [d1, d2, d3, d4] => { results := [.lit (.bool false)], args := [d1, d2, d3, d4] }
  | _ => none }
def ReduceJustWrongFalsely : Prop := reduceJustRow.holds Try.pinned (OpenSpec.ofChange reduceJustWrong)

/-- 'spilelaw28.ReduceVolumes': WHATEVER THE INPUT: true; the input reads as it did. -/
def reduceVolumesSpec : ChangeSpec := { name := "reduceVolumes", fn := fun _ => fun
  | [d1, d2, d3] => { results := [.lit (.bool true)], args := [d1, d2, d3] }
  | _ => none }
def reduceVolumesRow : OpenClaim := { program := "ytdggkgkbjgigmaa", sum := "409948b0ea1d5614503f21614f86e89788fb0482025dbbcc4ab4875aa698a880", func := "spile/spilelaw28.ReduceVolumes", spec := "reduceVolumes", unfollowed := true, recurses := true, apart := false }
def ReduceVolumesSaid : Prop := reduceVolumesRow.holds Try.pinned (OpenSpec.ofChange reduceVolumesSpec)

/-- ITS FALSE NEIGHBOUR: 'it returns false'. Refute it at one input. -/
def reduceVolumesWrong : ChangeSpec := { name := "reduceVolumes", fn := fun _ => fun
  | [d1, d2, d3] => { results := [.lit (.bool false)], args := [d1, d2, d3] }
  | _ => none }
def ReduceVolumesWrongFalsely : Prop := reduceVolumesRow.holds Try.pinned (OpenSpec.ofChange reduceVolumesWrong)

/-- 'spilelaw28.ReduceGreater': WHATEVER THE INPUT: true; the input reads as it did. -/
def reduceGreaterSpec : ChangeSpec := { name := "reduceGreater", fn := fun _ => fun
  | [d1, d2, d3] => { results := [.lit (.bool true)], args := [d1, d2, d3] }
  | _ => none }
def reduceGreaterRow : OpenClaim := { program := "ytdggkgkbjgigmaa", sum := "409948b0ea1d5614503f21614f86e89788fb0482025dbbcc4ab4875aa698a880", func := "spile/spilelaw28.ReduceGreater", spec := "reduceGreater", unfollowed := true, recurses := true, apart := false }
def ReduceGreaterSaid : Prop := reduceGreaterRow.holds Try.pinned (OpenSpec.ofChange reduceGreaterSpec)

/-- ITS FALSE NEIGHBOUR: 'it returns false'. Refute it at one input. -/
def reduceGreaterWrong : ChangeSpec := { name := "reduceGreater", fn := fun _ => fun
  | [d1, d2, d3] => { results := [.lit (.bool false)], args := [d1, d2, d3] }
  | _ => none }
def ReduceGreaterWrongFalsely : Prop := reduceGreaterRow.holds Try.pinned (OpenSpec.ofChange reduceGreaterWrong)

/-- 'spilelaw28.ReduceSteps': WHATEVER THE INPUT: true; the input reads as it did. -/
def reduceStepsSpec : ChangeSpec := { name := "reduceSteps", fn := fun _ => fun
  | [d1, d2, d3, d4] => { results := [.lit (.bool true)], args := [d1, d2, d3, d4] }
  | _ => none }
def reduceStepsRow : OpenClaim := { program := "ytdggkgkbjgigmaa", sum := "409948b0ea1d5614503f21614f86e89788fb0482025dbbcc4ab4875aa698a880", func := "spile/spilelaw28.ReduceSteps", spec := "reduceSteps", unfollowed := true, recurses := true, apart := false }
def ReduceStepsSaid : Prop := reduceStepsRow.holds Try.pinned (OpenSpec.ofChange reduceStepsSpec)

/-- ITS FALSE NEIGHBOUR: 'it returns false'. Refute it at one input. -/
def reduceStepsWrong : ChangeSpec := { name := "reduceSteps", fn := fun _ => fun
  | [d1, d2, d3, d4] => { results := [.lit (.bool false)], args := [d1, d2, d3, d4] }
  | _ => none }
def ReduceStepsWrongFalsely : Prop := reduceStepsRow.holds Try.pinned (OpenSpec.ofChange reduceStepsWrong)

/-- 'spilelaw28.ReducePlans': WHATEVER THE INPUT: true; the input reads as it did. -/
def reducePlansSpec : ChangeSpec := { name := "reducePlans", fn := fun _ => fun
  | [d1, d2, d3, d4] => { results := [.lit (.bool true)], args := [d1, d2, d3, d4] }
  | _ => none }
def reducePlansRow : OpenClaim := { program := "ytdggkgkbjgigmaa", sum := "409948b0ea1d5614503f21614f86e89788fb0482025dbbcc4ab4875aa698a880", func := "spile/spilelaw28.ReducePlans", spec := "reducePlans", unfollowed := true, recurses := true, apart := false }
def ReducePlansSaid : Prop := reducePlansRow.holds Try.pinned (OpenSpec.ofChange reducePlansSpec)

/-- ITS FALSE NEIGHBOUR: 'it returns false'. Refute it at one input. -/
def reducePlansWrong : ChangeSpec := { name := "reducePlans", fn := fun _ => fun
  | [d1, d2, d3, d4] => { results := [.lit (.bool false)], args := [d1, d2, d3, d4] }
  | _ => none }
def ReducePlansWrongFalsely : Prop := reducePlansRow.holds Try.pinned (OpenSpec.ofChange reducePlansWrong)

/- THE SECOND FORM. 'bulk': how many values and letters a reading holds, each counted each time it is reached (what is shared counts as often as it is met; a slice's spare places count too). A statement '..UptoSaid' is the law's where the arguments, and the package variables that the reading takes, are together of bulk at most 1048576: NARROWER than '..Said'. Prove '..Said' where nothing that the law and all that it calls make is longer than what came in: it says more and counts as full. Else prove '..UptoSaid'. A law counts once. -/
mutual
def uptoBulk {H : Type} : DataW H → Nat
  | .lit (.string bytes) => bytes.length + 1
  | .lit _ => 1
  | .nil => 1
  | .ptr d => uptoBulk d + 1
  | .slice elems spare => uptoBulkAll elems + uptoBulkAll spare + 1
  | .agg parts => uptoBulkAll parts + 1
  | .iface _ d => uptoBulk d + 1
  | .map entries => uptoBulkEntries entries + 1
  | .held _ => 1
def uptoBulkAll {H : Type} : List (DataW H) → Nat
  | [] => 0
  | d :: r => uptoBulk d + uptoBulkAll r
def uptoBulkEntries {H : Type} : List (Lit × DataW H) → Nat
  | [] => 0
  | x :: r => uptoBulkEntry x + uptoBulkEntries r
def uptoBulkEntry {H : Type} : Lit × DataW H → Nat
  | (.string bytes, d) => bytes.length + uptoBulk d + 1
  | (_, d) => uptoBulk d + 1
 end
def uptoSmall : (H : Type) → List (DataW H) → Bool := fun _ ds => decide (uptoBulkAll ds ≤ 1048576)
def OpenSpec.upto (s : _root_.Go.ChangeSpec) : _root_.Go.OpenSpec := { _root_.Go.OpenSpec.ofChange s with cond := some uptoSmall }

/-- 'spilelaw28.ReduceWaters', WHERE WHAT IT READS IS OF BULK AT MOST 1048576: true; the input reads as it did. -/
def reduceWatersUptoRow : OpenClaim := { program := "ytdggkgkbjgigmaa", sum := "409948b0ea1d5614503f21614f86e89788fb0482025dbbcc4ab4875aa698a880", func := "spile/spilelaw28.ReduceWaters", spec := "reduceWaters", unfollowed := true, recurses := true, apart := false, narrowed := true }
def ReduceWatersUptoSaid : Prop := reduceWatersUptoRow.holds Try.pinned (OpenSpec.upto reduceWatersSpec)

/-- 'spilelaw28.ReduceLeast', WHERE WHAT IT READS IS OF BULK AT MOST 1048576: true; the input reads as it did. -/
def reduceLeastUptoRow : OpenClaim := { program := "ytdggkgkbjgigmaa", sum := "409948b0ea1d5614503f21614f86e89788fb0482025dbbcc4ab4875aa698a880", func := "spile/spilelaw28.ReduceLeast", spec := "reduceLeast", unfollowed := true, recurses := true, apart := false, narrowed := true }
def ReduceLeastUptoSaid : Prop := reduceLeastUptoRow.holds Try.pinned (OpenSpec.upto reduceLeastSpec)

/-- 'spilelaw28.ReduceJust', WHERE WHAT IT READS IS OF BULK AT MOST 1048576: true; the input reads as it did. -/
def reduceJustUptoRow : OpenClaim := { program := "ytdggkgkbjgigmaa", sum := "409948b0ea1d5614503f21614f86e89788fb0482025dbbcc4ab4875aa698a880", func := "spile/spilelaw28.ReduceJust", spec := "reduceJust", unfollowed := true, recurses := true, apart := false, narrowed := true }
def ReduceJustUptoSaid : Prop := reduceJustUptoRow.holds Try.pinned (OpenSpec.upto reduceJustSpec)

/-- 'spilelaw28.ReduceVolumes', WHERE WHAT IT READS IS OF BULK AT MOST 1048576: true; the input reads as it did. -/
def reduceVolumesUptoRow : OpenClaim := { program := "ytdggkgkbjgigmaa", sum := "409948b0ea1d5614503f21614f86e89788fb0482025dbbcc4ab4875aa698a880", func := "spile/spilelaw28.ReduceVolumes", spec := "reduceVolumes", unfollowed := true, recurses := true, apart := false, narrowed := true }
def ReduceVolumesUptoSaid : Prop := reduceVolumesUptoRow.holds Try.pinned (OpenSpec.upto reduceVolumesSpec)

/-- 'spilelaw28.ReduceGreater', WHERE WHAT IT READS IS OF BULK AT MOST 1048576: true; the input reads as it did. -/
def reduceGreaterUptoRow : OpenClaim := { program := "ytdggkgkbjgigmaa", sum := "409948b0ea1d5614503f21614f86e89788fb0482025dbbcc4ab4875aa698a880", func := "spile/spilelaw28.ReduceGreater", spec := "reduceGreater", unfollowed := true, recurses := true, apart := false, narrowed := true }
def ReduceGreaterUptoSaid : Prop := reduceGreaterUptoRow.holds Try.pinned (OpenSpec.upto reduceGreaterSpec)

/-- 'spilelaw28.ReduceSteps', WHERE WHAT IT READS IS OF BULK AT MOST 1048576: true; the input reads as it did. -/
def reduceStepsUptoRow : OpenClaim := { program := "ytdggkgkbjgigmaa", sum := "409948b0ea1d5614503f21614f86e89788fb0482025dbbcc4ab4875aa698a880", func := "spile/spilelaw28.ReduceSteps", spec := "reduceSteps", unfollowed := true, recurses := true, apart := false, narrowed := true }
def ReduceStepsUptoSaid : Prop := reduceStepsUptoRow.holds Try.pinned (OpenSpec.upto reduceStepsSpec)

/-- 'spilelaw28.ReducePlans', WHERE WHAT IT READS IS OF BULK AT MOST 1048576: true; the input reads as it did. -/
def reducePlansUptoRow : OpenClaim := { program := "ytdggkgkbjgigmaa", sum := "409948b0ea1d5614503f21614f86e89788fb0482025dbbcc4ab4875aa698a880", func := "spile/spilelaw28.ReducePlans", spec := "reducePlans", unfollowed := true, recurses := true, apart := false, narrowed := true }
def ReducePlansUptoSaid : Prop := reducePlansUptoRow.holds Try.pinned (OpenSpec.upto reducePlansSpec)

end Rows
end Go.Proofs.Ytdggkgkbjgigmaa
