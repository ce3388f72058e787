/-
  No cell of these rows narrows 'for every input' (looked for: loops, veiled, ifaces, maps, wideKeys, modest, calm, conditions, laid).
  DERIVED. THE GIVEN ROWS OF THIS SEAT. 6 by the template 'for every input the law returns true; each argument reads behind the call as it read before'; 0 by the template 'total and deterministic' (their statements: YtdfghldnialmbaaTotals.lean).
  GIVEN WITH THE SEED: the statements are not yours to turn. If you find one false, say at which input.
  Laid BY PROGRAM, IN A SANDBOX (cutbox-rows.mjs): the forced cells as the released guide's own fill.sh prints them over the translation 2c456bd70f5e939f… (all of the seat's roots in one cut). By AI agents, Wed Nov 11 2026. No macro, syntax, notation, axiom, sorry.
-/
import Derived.Test.YtdfghldnialmbaaChecked
import GoSem.Claim
import GoSem.ClaimJoined
import GoSem.ClaimMapViews
import Derived.JoinedTies
import Derived.KernelRfl
namespace Go.Proofs.Ytdfghldnialmbaa
/- THE CELL 'sum', in the pinned program and in every row, IS THE sha256 OF THE DUMP (.gsa) THAT YtdfghldnialmbaaProg.lean LOADS. Nothing in Lean hashes anything: it is a label: what it is worth is what the hold of that sum in a sandbox is worth. -/
noncomputable def Try.pinned : Pinned := { name := "ytdfghldnialmbaa", sum := "2c456bd70f5e939f642fad2c2244dbed2224679712e6cdf5343c7d80253c3024", checked := Try.checked }
namespace Rows
def none {H : Type} : Left H := { results := [], args := [] }

/-- 'spilelaw20.AlcoholChecks': WHATEVER THE INPUT: true; the input reads as it did. -/
def alcoholChecksSpec : ChangeSpec := { name := "alcoholChecks", fn := fun _ => fun
  | [d1, d2, d3, d4] => { results := [.lit (.bool true)], args := [d1, d2, d3, d4] }
  | _ => none }
def alcoholChecksRow : OpenClaim := { program := "ytdfghldnialmbaa", sum := "2c456bd70f5e939f642fad2c2244dbed2224679712e6cdf5343c7d80253c3024", func := "spile/spilelaw20.AlcoholChecks", spec := "alcoholChecks", unfollowed := true, recurses := true, apart := false }
def AlcoholChecksSaid : Prop := alcoholChecksRow.holds Try.pinned (OpenSpec.ofChange alcoholChecksSpec)

/-- ITS FALSE NEIGHBOUR: 'it returns false'. Refute it at one input. -/
def alcoholChecksWrong : ChangeSpec := { name := "alcoholChecks", fn := fun _ => fun
  | [d1, d2, d3, d4] => { results := [.lit (.bool false)], args := [d1, d2, d3, d4] }
  | _ => none }
def AlcoholChecksWrongFalsely : Prop := alcoholChecksRow.holds Try.pinned (OpenSpec.ofChange alcoholChecksWrong)

/-- 'spilelaw20.AlcoholGrows': WHATEVER THE INPUT: true; the input reads as it did. -/
def alcoholGrowsSpec : ChangeSpec := { name := "alcoholGrows", fn := fun _ => fun
  | [d1, d2, d3, d4] => { results := [.lit (.bool true)], args := [d1, d2, d3, d4] }
  | _ => none }
def alcoholGrowsRow : OpenClaim := { program := "ytdfghldnialmbaa", sum := "2c456bd70f5e939f642fad2c2244dbed2224679712e6cdf5343c7d80253c3024", func := "spile/spilelaw20.AlcoholGrows", spec := "alcoholGrows", unfollowed := true, recurses := true, apart := false }
def AlcoholGrowsSaid : Prop := alcoholGrowsRow.holds Try.pinned (OpenSpec.ofChange alcoholGrowsSpec)

/-- ITS FALSE NEIGHBOUR: 'it returns false'. Refute it at one input. -/
def alcoholGrowsWrong : ChangeSpec := { name := "alcoholGrows", fn := fun _ => fun
  | [d1, d2, d3, d4] => { results := [.lit (.bool false)], args := [d1, d2, d3, d4] }
  | _ => none }
def AlcoholGrowsWrongFalsely : Prop := alcoholGrowsRow.holds Try.pinned (OpenSpec.ofChange alcoholGrowsWrong)

/-- 'spilelaw20.AlcoholDoubles': WHATEVER THE INPUT: true; the input reads as it did. -/
def alcoholDoublesSpec : ChangeSpec := { name := "alcoholDoubles", fn := fun _ => fun
  | [d1, d2] => { results := [.lit (.bool true)], args := [d1, d2] }
  | _ => none }
def alcoholDoublesRow : OpenClaim := { program := "ytdfghldnialmbaa", sum := "2c456bd70f5e939f642fad2c2244dbed2224679712e6cdf5343c7d80253c3024", func := "spile/spilelaw20.AlcoholDoubles", spec := "alcoholDoubles", unfollowed := true, recurses := true, apart := false }
def AlcoholDoublesSaid : Prop := alcoholDoublesRow.holds Try.pinned (OpenSpec.ofChange alcoholDoublesSpec)

/-- ITS FALSE NEIGHBOUR: 'it returns false'. Refute it at one input. -/
def alcoholDoublesWrong : ChangeSpec := { name := "alcoholDoubles", fn := fun _ => fun
  | [d1, d2] => { results := [.lit (.bool false)], args := [d1, d2] }
  | _ => none }
def AlcoholDoublesWrongFalsely : Prop := alcoholDoublesRow.holds Try.pinned (OpenSpec.ofChange alcoholDoublesWrong)

/-- 'spilelaw20.AlcoholBounds': WHATEVER THE INPUT: true; the input reads as it did. -/
def alcoholBoundsSpec : ChangeSpec := { name := "alcoholBounds", fn := fun _ => fun
  | [d1, d2] => { results := [.lit (.bool true)], args := [d1, d2] }
  | _ => none }
def alcoholBoundsRow : OpenClaim := { program := "ytdfghldnialmbaa", sum := "2c456bd70f5e939f642fad2c2244dbed2224679712e6cdf5343c7d80253c3024", func := "spile/spilelaw20.AlcoholBounds", spec := "alcoholBounds", unfollowed := true, recurses := true, apart := false }
def AlcoholBoundsSaid : Prop := alcoholBoundsRow.holds Try.pinned (OpenSpec.ofChange alcoholBoundsSpec)

/-- ITS FALSE NEIGHBOUR: 'it returns false'. Refute it at one input. -/
def alcoholBoundsWrong : ChangeSpec := { name := "alcoholBounds", fn := fun _ => fun
  | [d1, d2] => { results := [.lit (.bool false)], args := [d1, d2] }
  | _ => none }
def AlcoholBoundsWrongFalsely : Prop := alcoholBoundsRow.holds Try.pinned (OpenSpec.ofChange alcoholBoundsWrong)

/-- 'spilelaw20.AlcoholReads': WHATEVER THE INPUT: true; the input reads as it did. -/
def alcoholReadsSpec : ChangeSpec := { name := "alcoholReads", fn := fun _ => fun
  | [d1, d2, d3] => { results := [.lit (.bool true)], args := [d1, d2, d3] }
  | _ => none }
def alcoholReadsRow : OpenClaim := { program := "ytdfghldnialmbaa", sum := "2c456bd70f5e939f642fad2c2244dbed2224679712e6cdf5343c7d80253c3024", func := "spile/spilelaw20.AlcoholReads", spec := "alcoholReads", unfollowed := true, recurses := true, apart := false }
def AlcoholReadsSaid : Prop := alcoholReadsRow.holds Try.pinned (OpenSpec.ofChange alcoholReadsSpec)

/-- ITS FALSE NEIGHBOUR: 'it returns false'. Refute it at one input. -/
def alcoholReadsWrong : ChangeSpec := { name := "alcoholReads", fn := fun _ => fun
  | [d1, d2, d3] => { results := [.lit (.bool false)], args := [d1, d2, d3] }
  | _ => none }
def AlcoholReadsWrongFalsely : Prop := alcoholReadsRow.holds Try.pinned (OpenSpec.ofChange alcoholReadsWrong)

/-- 'spilelaw20.AlcoholShows': WHATEVER THE INPUT: true; the input reads as it did. -/
def alcoholShowsSpec : ChangeSpec := { name := "alcoholShows", fn := fun _ => fun
  | [d1, d2, d3] => { results := [.lit (.bool true)], args := [d1, d2, d3] }
  | _ => none }
def alcoholShowsRow : OpenClaim := { program := "ytdfghldnialmbaa", sum := "2c456bd70f5e939f642fad2c2244dbed2224679712e6cdf5343c7d80253c3024", func := "spile/spilelaw20.AlcoholShows", spec := "alcoholShows", unfollowed := true, recurses := true, apart := false }
def AlcoholShowsSaid : Prop := alcoholShowsRow.holds Try.pinned (OpenSpec.ofChange alcoholShowsSpec)

/-- ITS FALSE NEIGHBOUR: 'it returns false'. Refute it at one input. -/
def alcoholShowsWrong : ChangeSpec := { name := "alcoholShows", fn := fun _ => fun
  | [d1, d2, d3] => { results := [.lit (.bool false)], args := [d1, d2, d3] }
  | _ => none }
def AlcoholShowsWrongFalsely : Prop := alcoholShowsRow.holds Try.pinned (OpenSpec.ofChange alcoholShowsWrong)

/- THE SECOND FORM. 'bulk': how many values and letters a reading holds, each counted each time it is reached (what is shared counts as often as it is met; a slice's spare places count too). A statement '..UptoSaid' is the law's where the arguments, and the package variables that the reading takes, are together of bulk at most 1048576: NARROWER than '..Said'. Prove '..Said' where nothing that the law and all that it calls make is longer than what came in: it says more and counts as full. Else prove '..UptoSaid'. A law counts once. -/
mutual
def uptoBulk {H : Type} : DataW H → Nat
  | .lit (.string bytes) => bytes.length + 1
  | .lit _ => 1
  | .nil => 1
  | .ptr d => uptoBulk d + 1
  | .slice elems spare => uptoBulkAll elems + uptoBulkAll spare + 1
  | .agg parts => uptoBulkAll parts + 1
  | .iface _ d => uptoBulk d + 1
  | .map entries => uptoBulkEntries entries + 1
  | .held _ => 1
def uptoBulkAll {H : Type} : List (DataW H) → Nat
  | [] => 0
  | d :: r => uptoBulk d + uptoBulkAll r
def uptoBulkEntries {H : Type} : List (Lit × DataW H) → Nat
  | [] => 0
  | x :: r => uptoBulkEntry x + uptoBulkEntries r
def uptoBulkEntry {H : Type} : Lit × DataW H → Nat
  | (.string bytes, d) => bytes.length + uptoBulk d + 1
  | (_, d) => uptoBulk d + 1
 end
def uptoSmall : (H : Type) → List (DataW H) → Bool := fun _ ds => decide (uptoBulkAll ds ≤ 1048576)
def OpenSpec.upto (s : _root_.Go.ChangeSpec) : _root_.Go.OpenSpec := { _root_.Go.OpenSpec.ofChange s with cond := some uptoSmall }

/-- 'spilelaw20.AlcoholChecks', WHERE WHAT IT READS IS OF BULK AT MOST 1048576: true; the input reads as it did. -/
def alcoholChecksUptoRow : OpenClaim := { program := "ytdfghldnialmbaa", sum := "2c456bd70f5e939f642fad2c2244dbed2224679712e6cdf5343c7d80253c3024", func := "spile/spilelaw20.AlcoholChecks", spec := "alcoholChecks", unfollowed := true, recurses := true, apart := false, narrowed := true }
def AlcoholChecksUptoSaid : Prop := alcoholChecksUptoRow.holds Try.pinned (OpenSpec.upto alcoholChecksSpec)

/-- 'spilelaw20.AlcoholGrows', WHERE WHAT IT READS IS OF BULK AT MOST 1048576: true; the input reads as it did. -/
def alcoholGrowsUptoRow : OpenClaim := { program := "ytdfghldnialmbaa", sum := "2c456bd70f5e939f642fad2c2244dbed2224679712e6cdf5343c7d80253c3024", func := "spile/spilelaw20.AlcoholGrows", spec := "alcoholGrows", unfollowed := true, recurses := true, apart := false, narrowed := true }
def AlcoholGrowsUptoSaid : Prop := alcoholGrowsUptoRow.holds Try.pinned (OpenSpec.upto alcoholGrowsSpec)

/-- 'spilelaw20.AlcoholDoubles', WHERE WHAT IT READS IS OF BULK AT MOST 1048576: true; the input reads as it did. -/
def alcoholDoublesUptoRow : OpenClaim := { program := "ytdfghldnialmbaa", sum := "2c456bd70f5e939f642fad2c2244dbed2224679712e6cdf5343c7d80253c3024", func := "spile/spilelaw20.AlcoholDoubles", spec := "alcoholDoubles", unfollowed := true, recurses := true, apart := false, narrowed := true }
def AlcoholDoublesUptoSaid : Prop := alcoholDoublesUptoRow.holds Try.pinned (OpenSpec.upto alcoholDoublesSpec)

/-- 'spilelaw20.AlcoholBounds', WHERE WHAT IT READS IS OF BULK AT MOST 1048576: true; the input reads as it did. -/
def alcoholBoundsUptoRow : OpenClaim := { program := "ytdfghldnialmbaa", sum := "2c456bd70f5e939f642fad2c2244dbed2224679712e6cdf5343c7d80253c3024", func := "spile/spilelaw20.AlcoholBounds", spec := "alcoholBounds", unfollowed := true, recurses := true, apart := false, narrowed := true }
def AlcoholBoundsUptoSaid : Prop := alcoholBoundsUptoRow.holds Try.pinned (OpenSpec.upto alcoholBoundsSpec)

/-- 'spilelaw20.AlcoholReads', WHERE WHAT IT READS IS OF BULK AT MOST 1048576: true; the input reads as it did. -/
def alcoholReadsUptoRow : OpenClaim := { program := "ytdfghldnialmbaa", sum := "2c456bd70f5e939f642fad2c2244dbed2224679712e6cdf5343c7d80253c3024", func := "spile/spilelaw20.AlcoholReads", spec := "alcoholReads", unfollowed := true, recurses := true, apart := false, narrowed := true }
def AlcoholReadsUptoSaid : Prop := alcoholReadsUptoRow.holds Try.pinned (OpenSpec.upto alcoholReadsSpec)

/-- 'spilelaw20.AlcoholShows', WHERE WHAT IT READS IS OF BULK AT MOST 1048576: true; the input reads as it did. -/
def alcoholShowsUptoRow : OpenClaim := { program := "ytdfghldnialmbaa", sum := "2c456bd70f5e939f642fad2c2244dbed2224679712e6cdf5343c7d80253c3024", func := "spile/spilelaw20.AlcoholShows", spec := "alcoholShows", unfollowed := true, recurses := true, apart := false, narrowed := true }
def AlcoholShowsUptoSaid : Prop := alcoholShowsUptoRow.holds Try.pinned (OpenSpec.upto alcoholShowsSpec)

end Rows
end Go.Proofs.Ytdfghldnialmbaa
