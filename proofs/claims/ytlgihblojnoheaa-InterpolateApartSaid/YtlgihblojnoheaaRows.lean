/-
  No cell of these rows narrows 'for every input' (looked for: loops, veiled, ifaces, maps, wideKeys, modest, calm, conditions, laid).
  DERIVED. THE GIVEN ROWS OF THIS SEAT. 6 by the template 'for every input the law returns true; each argument reads behind the call as it read before'; 0 by the template 'total and deterministic' (their statements: YtlgihblojnoheaaTotals.lean).
  GIVEN WITH THE SEED: the statements are not yours to turn. If you find one false, say at which input.
  Laid BY PROGRAM, IN A SANDBOX (cutbox-rows.mjs): the forced cells as the released guide's own fill.sh prints them over the translation 2830e5347fd239fc… (all of the seat's roots in one cut). By AI agents, Wed Nov 11 2026. No macro, syntax, notation, axiom, sorry.
-/
import Derived.Test.YtlgihblojnoheaaChecked
import GoSem.Claim
import GoSem.ClaimJoined
import GoSem.ClaimMapViews
import Derived.JoinedTies
import Derived.KernelRfl
namespace Go.Proofs.Ytlgihblojnoheaa
/- THE CELL 'sum', in the pinned program and in every row, IS THE sha256 OF THE DUMP (.gsa) THAT YtlgihblojnoheaaProg.lean LOADS. Nothing in Lean hashes anything: it is a label: what it is worth is what the hold of that sum in a sandbox is worth. -/
noncomputable def Try.pinned : Pinned := { name := "ytlgihblojnoheaa", sum := "2830e5347fd239fca0d9f660edc010921404a0c56a1c1e3a066c91929efefb14", checked := Try.checked }
namespace Rows
def none {H : Type} : Left H := { results := [], args := [] }

/-- 'spilelaw18.InterpolateReads': WHATEVER THE INPUT: true; the input reads as it did. -/
def interpolateReadsSpec : ChangeSpec := { name := "interpolateReads", fn := fun _ => fun
  | [d1, d2, d3] => { results := [.lit (.bool true)], args := [d1, d2, d3] }
  | _ => none }
def interpolateReadsRow : OpenClaim := { program := "ytlgihblojnoheaa", sum := "2830e5347fd239fca0d9f660edc010921404a0c56a1c1e3a066c91929efefb14", func := "spile/spilelaw18.InterpolateReads", spec := "interpolateReads", inPlace := ["slices.overlaps[spile/api.Grade]"], unfollowed := true, recurses := true, apart := false }
def InterpolateReadsSaid : Prop := interpolateReadsRow.holds Try.pinned (OpenSpec.ofChange interpolateReadsSpec)

/-- ITS FALSE NEIGHBOUR: 'it returns false'. Refute it at one input. -/
def interpolateReadsWrong : ChangeSpec := { name := "interpolateReads", fn := fun _ => fun
  | [d1, d2, d3] => { results := [.lit (.bool false)], args := [d1, d2, d3] }
  | _ => none }
def InterpolateReadsWrongFalsely : Prop := interpolateReadsRow.holds Try.pinned (OpenSpec.ofChange interpolateReadsWrong)

/-- 'spilelaw18.InterpolateFalls': WHATEVER THE INPUT: true; the input reads as it did. -/
def interpolateFallsSpec : ChangeSpec := { name := "interpolateFalls", fn := fun _ => fun
  | [d1, d2, d3] => { results := [.lit (.bool true)], args := [d1, d2, d3] }
  | _ => none }
def interpolateFallsRow : OpenClaim := { program := "ytlgihblojnoheaa", sum := "2830e5347fd239fca0d9f660edc010921404a0c56a1c1e3a066c91929efefb14", func := "spile/spilelaw18.InterpolateFalls", spec := "interpolateFalls", inPlace := ["slices.overlaps[spile/api.Grade]"], unfollowed := true, recurses := true, apart := false }
def InterpolateFallsSaid : Prop := interpolateFallsRow.holds Try.pinned (OpenSpec.ofChange interpolateFallsSpec)

/-- ITS FALSE NEIGHBOUR: 'it returns false'. Refute it at one input. -/
def interpolateFallsWrong : ChangeSpec := { name := "interpolateFalls", fn := fun _ => fun
  | [d1, d2, d3] => { results := [.lit (.bool false)], args := [d1, d2, d3] }
  | _ => none }
def InterpolateFallsWrongFalsely : Prop := interpolateFallsRow.holds Try.pinned (OpenSpec.ofChange interpolateFallsWrong)

/-- 'spilelaw18.InterpolateUndoes': WHATEVER THE INPUT: true; the input reads as it did. -/
def interpolateUndoesSpec : ChangeSpec := { name := "interpolateUndoes", fn := fun _ => fun
  | [d1, d2, d3] => { results := [.lit (.bool true)], args := [d1, d2, d3] }
  | _ => none }
def interpolateUndoesRow : OpenClaim := { program := "ytlgihblojnoheaa", sum := "2830e5347fd239fca0d9f660edc010921404a0c56a1c1e3a066c91929efefb14", func := "spile/spilelaw18.InterpolateUndoes", spec := "interpolateUndoes", inPlace := ["slices.overlaps[spile/api.Grade]"], unfollowed := true, recurses := true, apart := false }
def InterpolateUndoesSaid : Prop := interpolateUndoesRow.holds Try.pinned (OpenSpec.ofChange interpolateUndoesSpec)

/-- ITS FALSE NEIGHBOUR: 'it returns false'. Refute it at one input. -/
def interpolateUndoesWrong : ChangeSpec := { name := "interpolateUndoes", fn := fun _ => fun
  | [d1, d2, d3] => { results := [.lit (.bool false)], args := [d1, d2, d3] }
  | _ => none }
def InterpolateUndoesWrongFalsely : Prop := interpolateUndoesRow.holds Try.pinned (OpenSpec.ofChange interpolateUndoesWrong)

/-- 'spilelaw18.InterpolateThins': WHATEVER THE INPUT: true; the input reads as it did. -/
def interpolateThinsSpec : ChangeSpec := { name := "interpolateThins", fn := fun _ => fun
  | [d1, d2] => { results := [.lit (.bool true)], args := [d1, d2] }
  | _ => none }
def interpolateThinsRow : OpenClaim := { program := "ytlgihblojnoheaa", sum := "2830e5347fd239fca0d9f660edc010921404a0c56a1c1e3a066c91929efefb14", func := "spile/spilelaw18.InterpolateThins", spec := "interpolateThins", inPlace := ["slices.overlaps[spile/api.Grade]"], unfollowed := true, recurses := true, apart := false }
def InterpolateThinsSaid : Prop := interpolateThinsRow.holds Try.pinned (OpenSpec.ofChange interpolateThinsSpec)

/-- ITS FALSE NEIGHBOUR: 'it returns false'. Refute it at one input. -/
def interpolateThinsWrong : ChangeSpec := { name := "interpolateThins", fn := fun _ => fun
  | [d1, d2] => { results := [.lit (.bool false)], args := [d1, d2] }
  | _ => none }
def InterpolateThinsWrongFalsely : Prop := interpolateThinsRow.holds Try.pinned (OpenSpec.ofChange interpolateThinsWrong)

/-- 'spilelaw18.InterpolateDiffers': WHATEVER THE INPUT: true; the input reads as it did. -/
def interpolateDiffersSpec : ChangeSpec := { name := "interpolateDiffers", fn := fun _ => fun
  | [d1, d2, d3] => { results := [.lit (.bool true)], args := [d1, d2, d3] }
  | _ => none }
def interpolateDiffersRow : OpenClaim := { program := "ytlgihblojnoheaa", sum := "2830e5347fd239fca0d9f660edc010921404a0c56a1c1e3a066c91929efefb14", func := "spile/spilelaw18.InterpolateDiffers", spec := "interpolateDiffers", inPlace := ["slices.overlaps[spile/api.Grade]"], unfollowed := true, recurses := true, apart := false }
def InterpolateDiffersSaid : Prop := interpolateDiffersRow.holds Try.pinned (OpenSpec.ofChange interpolateDiffersSpec)

/-- ITS FALSE NEIGHBOUR: 'it returns false'. Refute it at one input. -/
def interpolateDiffersWrong : ChangeSpec := { name := "interpolateDiffers", fn := fun _ => fun
  | [d1, d2, d3] => { results := [.lit (.bool false)], args := [d1, d2, d3] }
  | _ => none }
def InterpolateDiffersWrongFalsely : Prop := interpolateDiffersRow.holds Try.pinned (OpenSpec.ofChange interpolateDiffersWrong)

/-- 'spilelaw18.InterpolateApart': WHATEVER THE INPUT: true; the input reads as it did. -/
def interpolateApartSpec : ChangeSpec := { name := "interpolateApart", fn := fun _ => fun
  | [d1, d2, d3, d4] => { results := [.lit (.bool true)], args := [d1, d2, d3, d4] }
  | _ => none }
def interpolateApartRow : OpenClaim := { program := "ytlgihblojnoheaa", sum := "2830e5347fd239fca0d9f660edc010921404a0c56a1c1e3a066c91929efefb14", func := "spile/spilelaw18.InterpolateApart", spec := "interpolateApart", inPlace := ["slices.overlaps[spile/api.Grade]"], unfollowed := true, recurses := true, apart := false }
def InterpolateApartSaid : Prop := interpolateApartRow.holds Try.pinned (OpenSpec.ofChange interpolateApartSpec)

/-- ITS FALSE NEIGHBOUR: 'it returns false'. Refute it at one input. -/
def interpolateApartWrong : ChangeSpec := { name := "interpolateApart", fn := fun _ => fun
  | [d1, d2, d3, d4] => { results := [.lit (.bool false)], args := [d1, d2, d3, d4] }
  | _ => none }
def InterpolateApartWrongFalsely : Prop := interpolateApartRow.holds Try.pinned (OpenSpec.ofChange interpolateApartWrong)

/- THE SECOND FORM. 'bulk': how many values and letters a reading holds, each counted each time it is reached (what is shared counts as often as it is met; a slice's spare places count too). A statement '..UptoSaid' is the law's where the arguments, and the package variables that the reading takes, are together of bulk at most 1048576: NARROWER than '..Said'. Prove '..Said' where nothing that the law and all that it calls make is longer than what came in: it says more and counts as full. Else prove '..UptoSaid'. A law counts once. -/
mutual
def uptoBulk {H : Type} : DataW H → Nat
  | .lit (.string bytes) => bytes.length + 1
  | .lit _ => 1
  | .nil => 1
  | .ptr d => uptoBulk d + 1
  | .slice elems spare => uptoBulkAll elems + uptoBulkAll spare + 1
  | .agg parts => uptoBulkAll parts + 1
  | .iface _ d => uptoBulk d + 1
  | .map entries => uptoBulkEntries entries + 1
  | .held _ => 1
def uptoBulkAll {H : Type} : List (DataW H) → Nat
  | [] => 0
  | d :: r => uptoBulk d + uptoBulkAll r
def uptoBulkEntries {H : Type} : List (Lit × DataW H) → Nat
  | [] => 0
  | x :: r => uptoBulkEntry x + uptoBulkEntries r
def uptoBulkEntry {H : Type} : Lit × DataW H → Nat
  | (.string bytes, d) => bytes.length + uptoBulk d + 1
  | (_, d) => uptoBulk d + 1
 end
def uptoSmall : (H : Type) → List (DataW H) → Bool := fun _ ds => decide (uptoBulkAll ds ≤ 1048576)
def OpenSpec.upto (s : _root_.Go.ChangeSpec) : _root_.Go.OpenSpec := { _root_.Go.OpenSpec.ofChange s with cond := some uptoSmall }

/-- 'spilelaw18.InterpolateReads', WHERE WHAT IT READS IS OF BULK AT MOST 1048576: true; the input reads as it did. -/
def interpolateReadsUptoRow : OpenClaim := { program := "ytlgihblojnoheaa", sum := "2830e5347fd239fca0d9f660edc010921404a0c56a1c1e3a066c91929efefb14", func := "spile/spilelaw18.InterpolateReads", spec := "interpolateReads", inPlace := ["slices.overlaps[spile/api.Grade]"], unfollowed := true, recurses := true, apart := false, narrowed := true }
def InterpolateReadsUptoSaid : Prop := interpolateReadsUptoRow.holds Try.pinned (OpenSpec.upto interpolateReadsSpec)

/-- 'spilelaw18.InterpolateFalls', WHERE WHAT IT READS IS OF BULK AT MOST 1048576: true; the input reads as it did. -/
def interpolateFallsUptoRow : OpenClaim := { program := "ytlgihblojnoheaa", sum := "2830e5347fd239fca0d9f660edc010921404a0c56a1c1e3a066c91929efefb14", func := "spile/spilelaw18.InterpolateFalls", spec := "interpolateFalls", inPlace := ["slices.overlaps[spile/api.Grade]"], unfollowed := true, recurses := true, apart := false, narrowed := true }
def InterpolateFallsUptoSaid : Prop := interpolateFallsUptoRow.holds Try.pinned (OpenSpec.upto interpolateFallsSpec)

/-- 'spilelaw18.InterpolateUndoes', WHERE WHAT IT READS IS OF BULK AT MOST 1048576: true; the input reads as it did. -/
def interpolateUndoesUptoRow : OpenClaim := { program := "ytlgihblojnoheaa", sum := "2830e5347fd239fca0d9f660edc010921404a0c56a1c1e3a066c91929efefb14", func := "spile/spilelaw18.InterpolateUndoes", spec := "interpolateUndoes", inPlace := ["slices.overlaps[spile/api.Grade]"], unfollowed := true, recurses := true, apart := false, narrowed := true }
def InterpolateUndoesUptoSaid : Prop := interpolateUndoesUptoRow.holds Try.pinned (OpenSpec.upto interpolateUndoesSpec)

/-- 'spilelaw18.InterpolateThins', WHERE WHAT IT READS IS OF BULK AT MOST 1048576: true; the input reads as it did. -/
def interpolateThinsUptoRow : OpenClaim := { program := "ytlgihblojnoheaa", sum := "2830e5347fd239fca0d9f660edc010921404a0c56a1c1e3a066c91929efefb14", func := "spile/spilelaw18.InterpolateThins", spec := "interpolateThins", inPlace := ["slices.overlaps[spile/api.Grade]"], unfollowed := true, recurses := true, apart := false, narrowed := true }
def InterpolateThinsUptoSaid : Prop := interpolateThinsUptoRow.holds Try.pinned (OpenSpec.upto interpolateThinsSpec)

/-- 'spilelaw18.InterpolateDiffers', WHERE WHAT IT READS IS OF BULK AT MOST 1048576: true; the input reads as it did. -/
def interpolateDiffersUptoRow : OpenClaim := { program := "ytlgihblojnoheaa", sum := "2830e5347fd239fca0d9f660edc010921404a0c56a1c1e3a066c91929efefb14", func := "spile/spilelaw18.InterpolateDiffers", spec := "interpolateDiffers", inPlace := ["slices.overlaps[spile/api.Grade]"], unfollowed := true, recurses := true, apart := false, narrowed := true }
def InterpolateDiffersUptoSaid : Prop := interpolateDiffersUptoRow.holds Try.pinned (OpenSpec.upto interpolateDiffersSpec)

/-- 'spilelaw18.InterpolateApart', WHERE WHAT IT READS IS OF BULK AT MOST 1048576: true; the input reads as it did. -/
def interpolateApartUptoRow : OpenClaim := { program := "ytlgihblojnoheaa", sum := "2830e5347fd239fca0d9f660edc010921404a0c56a1c1e3a066c91929efefb14", func := "spile/spilelaw18.InterpolateApart", spec := "interpolateApart", inPlace := ["slices.overlaps[spile/api.Grade]"], unfollowed := true, recurses := true, apart := false, narrowed := true }
def InterpolateApartUptoSaid : Prop := interpolateApartUptoRow.holds Try.pinned (OpenSpec.upto interpolateApartSpec)

end Rows
end Go.Proofs.Ytlgihblojnoheaa
