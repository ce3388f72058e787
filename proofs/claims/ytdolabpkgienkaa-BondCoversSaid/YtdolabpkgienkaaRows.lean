/-
  No cell of these rows narrows 'for every input' (looked for: loops, veiled, ifaces, maps, wideKeys, modest, calm, conditions, laid).
  DERIVED. THE GIVEN ROWS OF THIS SEAT. 7 by the template 'for every input the law returns true; each argument reads behind the call as it read before'; 0 by the template 'total and deterministic' (their statements: YtdolabpkgienkaaTotals.lean).
  GIVEN WITH THE SEED: the statements are not yours to turn. If you find one false, say at which input.
  Laid BY PROGRAM, IN A SANDBOX (cutbox-rows.mjs): the forced cells as the released guide's own fill.sh prints them over the translation 9a7ccaa572ff393b… (all of the seat's roots in one cut). By AI agents, Wed Nov 11 2026. No macro, syntax, notation, axiom, sorry.
-/
import Derived.Test.YtdolabpkgienkaaChecked
import GoSem.Claim
import GoSem.ClaimJoined
import GoSem.ClaimMapViews
import Derived.JoinedTies
import Derived.KernelRfl
namespace Go.Proofs.Ytdolabpkgienkaa
/- THE CELL 'sum', in the pinned program and in every row, IS THE sha256 OF THE DUMP (.gsa) THAT YtdolabpkgienkaaProg.lean LOADS. Nothing in Lean hashes anything: it is a label: what it is worth is what the hold of that sum in a sandbox is worth. -/
noncomputable def Try.pinned : Pinned := { name := "ytdolabpkgienkaa", sum := "9a7ccaa572ff393b5333ed43ba881ded2368a2e4bdeeda52033256b60e9fadf5", checked := Try.checked }
namespace Rows
def none {H : Type} : Left H := { results := [], args := [] }

/-- 'spilelaw52.BondChecks': WHATEVER THE INPUT: true; the input reads as it did. -/
def bondChecksSpec : ChangeSpec := { name := "bondChecks", fn := fun _ => fun
  | [d1, d2, d3] => { results := [.lit (.bool true)], args := [d1, d2, d3] }
  | _ => none }
def bondChecksRow : OpenClaim := { program := "ytdolabpkgienkaa", sum := "9a7ccaa572ff393b5333ed43ba881ded2368a2e4bdeeda52033256b60e9fadf5", func := "spile/spilelaw52.BondChecks", spec := "bondChecks", inPlace := ["slices.overlaps[spile/api.Hold]"], unfollowed := true, recurses := true, apart := false }
def BondChecksSaid : Prop := bondChecksRow.holds Try.pinned (OpenSpec.ofChange bondChecksSpec)

/-- ITS FALSE NEIGHBOUR: 'it returns false'. Refute it at one input. -/
def bondChecksWrong : ChangeSpec := { name := "bondChecks", fn := fun _ => fun
  | [d1, d2, d3] => { results := [.lit (.bool false)], args := [d1, d2, d3] }
  | _ => none }
def BondChecksWrongFalsely : Prop := bondChecksRow.holds Try.pinned (OpenSpec.ofChange bondChecksWrong)

/-- 'spilelaw52.BondBinds': WHATEVER THE INPUT: true; the input reads as it did. -/
def bondBindsSpec : ChangeSpec := { name := "bondBinds", fn := fun _ => fun
  | [d1, d2, d3, d4, d5, d6] => { results := [.lit (.bool true)], args := [d1, d2, d3, d4, d5, d6] }
  | _ => none }
def bondBindsRow : OpenClaim := { program := "ytdolabpkgienkaa", sum := "9a7ccaa572ff393b5333ed43ba881ded2368a2e4bdeeda52033256b60e9fadf5", func := "spile/spilelaw52.BondBinds", spec := "bondBinds", inPlace := ["slices.overlaps[spile/api.Hold]"], unfollowed := true, recurses := true, apart := false }
def BondBindsSaid : Prop := bondBindsRow.holds Try.pinned (OpenSpec.ofChange bondBindsSpec)

/-- ITS FALSE NEIGHBOUR: 'it returns false'. Refute it at one input. -/
def bondBindsWrong : ChangeSpec := { name := "bondBinds", fn := fun _ => fun
  | [d1, d2, d3, d4, d5, d6] => { results := [.lit (.bool false)], args := [d1, d2, d3, d4, d5, d6] }
  | _ => none }
def BondBindsWrongFalsely : Prop := bondBindsRow.holds Try.pinned (OpenSpec.ofChange bondBindsWrong)

/-- 'spilelaw52.BondChooses': WHATEVER THE INPUT: true; the input reads as it did. -/
def bondChoosesSpec : ChangeSpec := { name := "bondChooses", fn := fun _ => fun
  | [d1, d2, d3, d4, d5] => { results := [.lit (.bool true)], args := [d1, d2, d3, d4, d5] }
  | _ => none }
def bondChoosesRow : OpenClaim := { program := "ytdolabpkgienkaa", sum := "9a7ccaa572ff393b5333ed43ba881ded2368a2e4bdeeda52033256b60e9fadf5", func := "spile/spilelaw52.BondChooses", spec := "bondChooses", inPlace := ["slices.overlaps[spile/api.Hold]"], unfollowed := true, recurses := true, apart := false }
def BondChoosesSaid : Prop := bondChoosesRow.holds Try.pinned (OpenSpec.ofChange bondChoosesSpec)

/-- ITS FALSE NEIGHBOUR: 'it returns false'. Refute it at one input. -/
def bondChoosesWrong : ChangeSpec := { name := "bondChooses", fn := fun _ => fun
  | [d1, d2, d3, d4, d5] => { results := [.lit (.bool false)], args := [d1, d2, d3, d4, d5] }
  | _ => none }
def BondChoosesWrongFalsely : Prop := bondChoosesRow.holds Try.pinned (OpenSpec.ofChange bondChoosesWrong)

/-- 'spilelaw52.BondNever': WHATEVER THE INPUT: true; the input reads as it did. -/
def bondNeverSpec : ChangeSpec := { name := "bondNever", fn := fun _ => fun
  | [d1, d2] => { results := [.lit (.bool true)], args := [d1, d2] }
  | _ => none }
def bondNeverRow : OpenClaim := { program := "ytdolabpkgienkaa", sum := "9a7ccaa572ff393b5333ed43ba881ded2368a2e4bdeeda52033256b60e9fadf5", func := "spile/spilelaw52.BondNever", spec := "bondNever", inPlace := ["slices.overlaps[spile/api.Hold]"], unfollowed := true, recurses := true, apart := false }
def BondNeverSaid : Prop := bondNeverRow.holds Try.pinned (OpenSpec.ofChange bondNeverSpec)

/-- ITS FALSE NEIGHBOUR: 'it returns false'. Refute it at one input. -/
def bondNeverWrong : ChangeSpec := { name := "bondNever", fn := fun _ => fun
  | [d1, d2] => { results := [.lit (.bool false)], args := [d1, d2] }
  | _ => none }
def BondNeverWrongFalsely : Prop := bondNeverRow.holds Try.pinned (OpenSpec.ofChange bondNeverWrong)

/-- 'spilelaw52.BondFits': WHATEVER THE INPUT: true; the input reads as it did. -/
def bondFitsSpec : ChangeSpec := { name := "bondFits", fn := fun _ => fun
  | [d1, d2, d3, d4, d5] => { results := [.lit (.bool true)], args := [d1, d2, d3, d4, d5] }
  | _ => none }
def bondFitsRow : OpenClaim := { program := "ytdolabpkgienkaa", sum := "9a7ccaa572ff393b5333ed43ba881ded2368a2e4bdeeda52033256b60e9fadf5", func := "spile/spilelaw52.BondFits", spec := "bondFits", inPlace := ["slices.overlaps[spile/api.Hold]"], unfollowed := true, recurses := true, apart := false }
def BondFitsSaid : Prop := bondFitsRow.holds Try.pinned (OpenSpec.ofChange bondFitsSpec)

/-- ITS FALSE NEIGHBOUR: 'it returns false'. Refute it at one input. -/
def bondFitsWrong : ChangeSpec := { name := "bondFits", fn := fun _ => fun
  | [d1, d2, d3, d4, d5] => { results := [.lit (.bool false)], args := [d1, d2, d3, d4, d5] }
  | _ => none }
def BondFitsWrongFalsely : Prop := bondFitsRow.holds Try.pinned (OpenSpec.ofChange bondFitsWrong)

/-- 'spilelaw52.BondCovers': WHATEVER THE INPUT: true; the input reads as it did. -/
def bondCoversSpec : ChangeSpec := { name := "bondCovers", fn := fun _ => fun
  | [d1, d2, d3] => { results := [.lit (.bool true)], args := [d1, d2, d3] }
  | _ => none }
def bondCoversRow : OpenClaim := { program := "ytdolabpkgienkaa", sum := "9a7ccaa572ff393b5333ed43ba881ded2368a2e4bdeeda52033256b60e9fadf5", func := "spile/spilelaw52.BondCovers", spec := "bondCovers", inPlace := ["slices.overlaps[spile/api.Hold]"], unfollowed := true, recurses := true, apart := false }
def BondCoversSaid : Prop := bondCoversRow.holds Try.pinned (OpenSpec.ofChange bondCoversSpec)

/-- ITS FALSE NEIGHBOUR: 'it returns false'. Refute it at one input. -/
def bondCoversWrong : ChangeSpec := { name := "bondCovers", fn := fun _ => fun
  | [d1, d2, d3] => { results := [.lit (.bool false)], args := [d1, d2, d3] }
  | _ => none }
def BondCoversWrongFalsely : Prop := bondCoversRow.holds Try.pinned (OpenSpec.ofChange bondCoversWrong)

/-- 'spilelaw52.BondBack': WHATEVER THE INPUT: true; the input reads as it did. -/
def bondBackSpec : ChangeSpec := { name := "bondBack", fn := fun _ => fun
  | [d1, d2, d3, d4, d5] => { results := [.lit (.bool true)], args := [d1, d2, d3, d4, d5] }
  | _ => none }
def bondBackRow : OpenClaim := { program := "ytdolabpkgienkaa", sum := "9a7ccaa572ff393b5333ed43ba881ded2368a2e4bdeeda52033256b60e9fadf5", func := "spile/spilelaw52.BondBack", spec := "bondBack", inPlace := ["slices.overlaps[spile/api.Hold]"], unfollowed := true, recurses := true, apart := false }
def BondBackSaid : Prop := bondBackRow.holds Try.pinned (OpenSpec.ofChange bondBackSpec)

/-- ITS FALSE NEIGHBOUR: 'it returns false'. Refute it at one input. -/
def bondBackWrong : ChangeSpec := { name := "bondBack", fn := fun _ => fun
  | [d1, d2, d3, d4, d5] => { results := [.lit (.bool false)], args := [d1, d2, d3, d4, d5] }
  | _ => none }
def BondBackWrongFalsely : Prop := bondBackRow.holds Try.pinned (OpenSpec.ofChange bondBackWrong)

/- THE SECOND FORM. 'bulk': how many values and letters a reading holds, each counted each time it is reached (what is shared counts as often as it is met; a slice's spare places count too). A statement '..UptoSaid' is the law's where the arguments, and the package variables that the reading takes, are together of bulk at most 1048576: NARROWER than '..Said'. Prove '..Said' where nothing that the law and all that it calls make is longer than what came in: it says more and counts as full. Else prove '..UptoSaid'. A law counts once. -/
mutual
def uptoBulk {H : Type} : DataW H → Nat
  | .lit (.string bytes) => bytes.length + 1
  | .lit _ => 1
  | .nil => 1
  | .ptr d => uptoBulk d + 1
  | .slice elems spare => uptoBulkAll elems + uptoBulkAll spare + 1
  | .agg parts => uptoBulkAll parts + 1
  | .iface _ d => uptoBulk d + 1
  | .map entries => uptoBulkEntries entries + 1
  | .held _ => 1
def uptoBulkAll {H : Type} : List (DataW H) → Nat
  | [] => 0
  | d :: r => uptoBulk d + uptoBulkAll r
def uptoBulkEntries {H : Type} : List (Lit × DataW H) → Nat
  | [] => 0
  | x :: r => uptoBulkEntry x + uptoBulkEntries r
def uptoBulkEntry {H : Type} : Lit × DataW H → Nat
  | (.string bytes, d) => bytes.length + uptoBulk d + 1
  | (_, d) => uptoBulk d + 1
 end
def uptoSmall : (H : Type) → List (DataW H) → Bool := fun _ ds => decide (uptoBulkAll ds ≤ 1048576)
def OpenSpec.upto (s : _root_.Go.ChangeSpec) : _root_.Go.OpenSpec := { _root_.Go.OpenSpec.ofChange s with cond := some uptoSmall }

/-- 'spilelaw52.BondChecks', WHERE WHAT IT READS IS OF BULK AT MOST 1048576: true; the input reads as it did. -/
def bondChecksUptoRow : OpenClaim := { program := "ytdolabpkgienkaa", sum := "9a7ccaa572ff393b5333ed43ba881ded2368a2e4bdeeda52033256b60e9fadf5", func := "spile/spilelaw52.BondChecks", spec := "bondChecks", inPlace := ["slices.overlaps[spile/api.Hold]"], unfollowed := true, recurses := true, apart := false, narrowed := true }
def BondChecksUptoSaid : Prop := bondChecksUptoRow.holds Try.pinned (OpenSpec.upto bondChecksSpec)

/-- 'spilelaw52.BondBinds', WHERE WHAT IT READS IS OF BULK AT MOST 1048576: true; the input reads as it did. -/
def bondBindsUptoRow : OpenClaim := { program := "ytdolabpkgienkaa", sum := "9a7ccaa572ff393b5333ed43ba881ded2368a2e4bdeeda52033256b60e9fadf5", func := "spile/spilelaw52.BondBinds", spec := "bondBinds", inPlace := ["slices.overlaps[spile/api.Hold]"], unfollowed := true, recurses := true, apart := false, narrowed := true }
def BondBindsUptoSaid : Prop := bondBindsUptoRow.holds Try.pinned (OpenSpec.upto bondBindsSpec)

/-- 'spilelaw52.BondChooses', WHERE WHAT IT READS IS OF BULK AT MOST 1048576: true; the input reads as it did. -/
def bondChoosesUptoRow : OpenClaim := { program := "ytdolabpkgienkaa", sum := "9a7ccaa572ff393b5333ed43ba881ded2368a2e4bdeeda52033256b60e9fadf5", func := "spile/spilelaw52.BondChooses", spec := "bondChooses", inPlace := ["slices.overlaps[spile/api.Hold]"], unfollowed := true, recurses := true, apart := false, narrowed := true }
def BondChoosesUptoSaid : Prop := bondChoosesUptoRow.holds Try.pinned (OpenSpec.upto bondChoosesSpec)

/-- 'spilelaw52.BondNever', WHERE WHAT IT READS IS OF BULK AT MOST 1048576: true; the input reads as it did. -/
def bondNeverUptoRow : OpenClaim := { program := "ytdolabpkgienkaa", sum := "9a7ccaa572ff393b5333ed43ba881ded2368a2e4bdeeda52033256b60e9fadf5", func := "spile/spilelaw52.BondNever", spec := "bondNever", inPlace := ["slices.overlaps[spile/api.Hold]"], unfollowed := true, recurses := true, apart := false, narrowed := true }
def BondNeverUptoSaid : Prop := bondNeverUptoRow.holds Try.pinned (OpenSpec.upto bondNeverSpec)

/-- 'spilelaw52.BondFits', WHERE WHAT IT READS IS OF BULK AT MOST 1048576: true; the input reads as it did. -/
def bondFitsUptoRow : OpenClaim := { program := "ytdolabpkgienkaa", sum := "9a7ccaa572ff393b5333ed43ba881ded2368a2e4bdeeda52033256b60e9fadf5", func := "spile/spilelaw52.BondFits", spec := "bondFits", inPlace := ["slices.overlaps[spile/api.Hold]"], unfollowed := true, recurses := true, apart := false, narrowed := true }
def BondFitsUptoSaid : Prop := bondFitsUptoRow.holds Try.pinned (OpenSpec.upto bondFitsSpec)

/-- 'spilelaw52.BondCovers', WHERE WHAT IT READS IS OF BULK AT MOST 1048576: true; the input reads as it did. -/
def bondCoversUptoRow : OpenClaim := { program := "ytdolabpkgienkaa", sum := "9a7ccaa572ff393b5333ed43ba881ded2368a2e4bdeeda52033256b60e9fadf5", func := "spile/spilelaw52.BondCovers", spec := "bondCovers", inPlace := ["slices.overlaps[spile/api.Hold]"], unfollowed := true, recurses := true, apart := false, narrowed := true }
def BondCoversUptoSaid : Prop := bondCoversUptoRow.holds Try.pinned (OpenSpec.upto bondCoversSpec)

/-- 'spilelaw52.BondBack', WHERE WHAT IT READS IS OF BULK AT MOST 1048576: true; the input reads as it did. -/
def bondBackUptoRow : OpenClaim := { program := "ytdolabpkgienkaa", sum := "9a7ccaa572ff393b5333ed43ba881ded2368a2e4bdeeda52033256b60e9fadf5", func := "spile/spilelaw52.BondBack", spec := "bondBack", inPlace := ["slices.overlaps[spile/api.Hold]"], unfollowed := true, recurses := true, apart := false, narrowed := true }
def BondBackUptoSaid : Prop := bondBackUptoRow.holds Try.pinned (OpenSpec.upto bondBackSpec)

end Rows
end Go.Proofs.Ytdolabpkgienkaa
