/-
  No cell of these rows narrows 'for every input' (looked for: loops, veiled, ifaces, maps, wideKeys, modest, calm, conditions, laid).
  DERIVED. THE GIVEN ROWS OF THIS SEAT. 7 by the template 'for every input the law returns true; each argument reads behind the call as it read before'; 0 by the template 'total and deterministic' (their statements: YtodfjkdgfjkifaaTotals.lean).
  GIVEN WITH THE SEED: the statements are not yours to turn. If you find one false, say at which input.
  Laid BY PROGRAM, IN A SANDBOX (cutbox-rows.mjs): the forced cells as the released guide's own fill.sh prints them over the translation e4295be9872686a5… (all of the seat's roots in one cut). By AI agents, Wed Nov 11 2026. No macro, syntax, notation, axiom, sorry.
-/
import Derived.Test.YtodfjkdgfjkifaaChecked
import GoSem.Claim
import GoSem.ClaimJoined
import GoSem.ClaimMapViews
import Derived.JoinedTies
import Derived.KernelRfl
namespace Go.Proofs.Ytodfjkdgfjkifaa
/- THE CELL 'sum', in the pinned program and in every row, IS THE sha256 OF THE DUMP (.gsa) THAT YtodfjkdgfjkifaaProg.lean LOADS. Nothing in Lean hashes anything: it is a label: what it is worth is what the hold of that sum in a sandbox is worth. -/
noncomputable def Try.pinned : Pinned := { name := "ytodfjkdgfjkifaa", sum := "e4295be9872686a5a62fcde3a3d0ca9f60601a19efbeac6af5e4a60b0439fb7b", checked := Try.checked }
namespace Rows
def none {H : Type} : Left H := { results := [], args := [] }

/-- 'spilelaw36.ColumnMisses': WHATEVER THE INPUT: true; the input reads as it did. -/
def columnMissesSpec : ChangeSpec := { name := "columnMisses", fn := fun _ => fun
  | [d] => { results := [.lit (.bool true)], args := [d] }
  | _ => none }
def columnMissesRow : OpenClaim := { program := "ytodfjkdgfjkifaa", sum := "e4295be9872686a5a62fcde3a3d0ca9f60601a19efbeac6af5e4a60b0439fb7b", func := "spile/spilelaw36.ColumnMisses", spec := "columnMisses", unfollowed := true, recurses := true, plainKeys := false, apart := false }
def ColumnMissesSaid : Prop := columnMissesRow.holds Try.pinned (OpenSpec.ofChange columnMissesSpec)

/-- ITS FALSE NEIGHBOUR: 'it returns false'. Refute it at one input. -/
def columnMissesWrong : ChangeSpec := { name := "columnMisses", fn := fun _ => fun
  | [d] => { results := [.lit (.bool false)], args := [d] }
  | _ => none }
def ColumnMissesWrongFalsely : Prop := columnMissesRow.holds Try.pinned (OpenSpec.ofChange columnMissesWrong)

/-- 'spilelaw36.ColumnMerges': WHATEVER THE INPUT: true; the input reads as it did. -/
def columnMergesSpec : ChangeSpec := { name := "columnMerges", fn := fun _ => fun
  | [d1, d2] => { results := [.lit (.bool true)], args := [d1, d2] }
  | _ => none }
def columnMergesRow : OpenClaim := { program := "ytodfjkdgfjkifaa", sum := "e4295be9872686a5a62fcde3a3d0ca9f60601a19efbeac6af5e4a60b0439fb7b", func := "spile/spilelaw36.ColumnMerges", spec := "columnMerges", unfollowed := true, recurses := true, plainKeys := false, apart := false }
def ColumnMergesSaid : Prop := columnMergesRow.holds Try.pinned (OpenSpec.ofChange columnMergesSpec)

/-- ITS FALSE NEIGHBOUR: 'it returns false'. Refute it at one input. -/
def columnMergesWrong : ChangeSpec := { name := "columnMerges", fn := fun _ => fun
  | [d1, d2] => { results := [.lit (.bool false)], args := [d1, d2] }
  | _ => none }
def ColumnMergesWrongFalsely : Prop := columnMergesRow.holds Try.pinned (OpenSpec.ofChange columnMergesWrong)

/-- 'spilelaw36.ColumnBalances': WHATEVER THE INPUT: true; the input reads as it did. -/
def columnBalancesSpec : ChangeSpec := { name := "columnBalances", fn := fun _ => fun
  | [d1, d2] => { results := [.lit (.bool true)], args := [d1, d2] }
  | _ => none }
def columnBalancesRow : OpenClaim := { program := "ytodfjkdgfjkifaa", sum := "e4295be9872686a5a62fcde3a3d0ca9f60601a19efbeac6af5e4a60b0439fb7b", func := "spile/spilelaw36.ColumnBalances", spec := "columnBalances", unfollowed := true, recurses := true, plainKeys := false, apart := false }
def ColumnBalancesSaid : Prop := columnBalancesRow.holds Try.pinned (OpenSpec.ofChange columnBalancesSpec)

/-- ITS FALSE NEIGHBOUR: 'it returns false'. Refute it at one input. -/
def columnBalancesWrong : ChangeSpec := { name := "columnBalances", fn := fun _ => fun
  | [d1, d2] => { results := [.lit (.bool false)], args := [d1, d2] }
  | _ => none }
def ColumnBalancesWrongFalsely : Prop := columnBalancesRow.holds Try.pinned (OpenSpec.ofChange columnBalancesWrong)

/-- 'spilelaw36.ColumnSame': WHATEVER THE INPUT: true; the input reads as it did. -/
def columnSameSpec : ChangeSpec := { name := "columnSame", fn := fun _ => fun
  | [d1, d2] => { results := [.lit (.bool true)], args := [d1, d2] }
  | _ => none }
def columnSameRow : OpenClaim := { program := "ytodfjkdgfjkifaa", sum := "e4295be9872686a5a62fcde3a3d0ca9f60601a19efbeac6af5e4a60b0439fb7b", func := "spile/spilelaw36.ColumnSame", spec := "columnSame", unfollowed := true, recurses := true, plainKeys := false, apart := false }
def ColumnSameSaid : Prop := columnSameRow.holds Try.pinned (OpenSpec.ofChange columnSameSpec)

/-- ITS FALSE NEIGHBOUR: 'it returns false'. Refute it at one input. -/
def columnSameWrong : ChangeSpec := { name := "columnSame", fn := fun _ => fun
  | [d1, d2] => { results := [.lit (.bool false)], args := [d1, d2] }
  | _ => none }
def ColumnSameWrongFalsely : Prop := columnSameRow.holds Try.pinned (OpenSpec.ofChange columnSameWrong)

/-- 'spilelaw36.ColumnClosed': WHATEVER THE INPUT: true; the input reads as it did. -/
def columnClosedSpec : ChangeSpec := { name := "columnClosed", fn := fun _ => fun
  | [d] => { results := [.lit (.bool true)], args := [d] }
  | _ => none }
def columnClosedRow : OpenClaim := { program := "ytodfjkdgfjkifaa", sum := "e4295be9872686a5a62fcde3a3d0ca9f60601a19efbeac6af5e4a60b0439fb7b", func := "spile/spilelaw36.ColumnClosed", spec := "columnClosed", unfollowed := true, recurses := true, plainKeys := false, apart := false }
def ColumnClosedSaid : Prop := columnClosedRow.holds Try.pinned (OpenSpec.ofChange columnClosedSpec)

/-- ITS FALSE NEIGHBOUR: 'it returns false'. Refute it at one input. -/
def columnClosedWrong : ChangeSpec := { name := "columnClosed", fn := fun _ => fun
  | [d] => { results := [.lit (.bool false)], args := [d] }
  | _ => none }
def ColumnClosedWrongFalsely : Prop := columnClosedRow.holds Try.pinned (OpenSpec.ofChange columnClosedWrong)

/-- 'spilelaw36.ColumnTaken': WHATEVER THE INPUT: true; the input reads as it did. -/
def columnTakenSpec : ChangeSpec := { name := "columnTaken", fn := fun _ => fun
  | [d1, d2] => { results := [.lit (.bool true)], args := [d1, d2] }
  | _ => none }
def columnTakenRow : OpenClaim := { program := "ytodfjkdgfjkifaa", sum := "e4295be9872686a5a62fcde3a3d0ca9f60601a19efbeac6af5e4a60b0439fb7b", func := "spile/spilelaw36.ColumnTaken", spec := "columnTaken", unfollowed := true, recurses := true, plainKeys := false, apart := false }
def ColumnTakenSaid : Prop := columnTakenRow.holds Try.pinned (OpenSpec.ofChange columnTakenSpec)

/-- ITS FALSE NEIGHBOUR: 'it returns false'. Refute it at one input. -/
def columnTakenWrong : ChangeSpec := { name := "columnTaken", fn := fun _ => fun
  | [d1, d2] => { results := [.lit (.bool false)], args := [d1, d2] }
  | _ => none }
def ColumnTakenWrongFalsely : Prop := columnTakenRow.holds Try.pinned (OpenSpec.ofChange columnTakenWrong)

/-- 'spilelaw36.ColumnWhole': WHATEVER THE INPUT: true; the input reads as it did. -/
def columnWholeSpec : ChangeSpec := { name := "columnWhole", fn := fun _ => fun
  | [d] => { results := [.lit (.bool true)], args := [d] }
  | _ => none }
def columnWholeRow : OpenClaim := { program := "ytodfjkdgfjkifaa", sum := "e4295be9872686a5a62fcde3a3d0ca9f60601a19efbeac6af5e4a60b0439fb7b", func := "spile/spilelaw36.ColumnWhole", spec := "columnWhole", unfollowed := true, recurses := true, plainKeys := false, apart := false }
def ColumnWholeSaid : Prop := columnWholeRow.holds Try.pinned (OpenSpec.ofChange columnWholeSpec)

/-- ITS FALSE NEIGHBOUR: 'it returns false'. Refute it at one input. -/
def columnWholeWrong : ChangeSpec := { name := "columnWhole", fn := fun _ => fun
  | [d] => { results := [.lit (.bool false)], args := [d] }
  | _ => none }
def ColumnWholeWrongFalsely : Prop := columnWholeRow.holds Try.pinned (OpenSpec.ofChange columnWholeWrong)

/- THE SECOND FORM. 'bulk': how many values and letters a reading holds, each counted each time it is reached (what is shared counts as often as it is met; a slice's spare places count too). A statement '..UptoSaid' is the law's where the arguments, and the package variables that the reading takes, are together of bulk at most 1048576: NARROWER than '..Said'. Prove '..Said' where nothing that the law and all that it calls make is longer than what came in: it says more and counts as full. Else prove '..UptoSaid'. A law counts once. -/
mutual
def uptoBulk {H : Type} : DataW H → Nat
  | .lit (.string bytes) => bytes.length + 1
  | .lit _ => 1
  | .nil => 1
  | .ptr d => uptoBulk d + 1
  | .slice elems spare => uptoBulkAll elems + uptoBulkAll spare + 1
  | .agg parts => uptoBulkAll parts + 1
  | .iface _ d => uptoBulk d + 1
  | .map entries => uptoBulkEntries entries + 1
  | .held _ => 1
def uptoBulkAll {H : Type} : List (DataW H) → Nat
  | [] => 0
  | d :: r => uptoBulk d + uptoBulkAll r
def uptoBulkEntries {H : Type} : List (Lit × DataW H) → Nat
  | [] => 0
  | x :: r => uptoBulkEntry x + uptoBulkEntries r
def uptoBulkEntry {H : Type} : Lit × DataW H → Nat
  | (.string bytes, d) => bytes.length + uptoBulk d + 1
  | (_, d) => uptoBulk d + 1
 end
def uptoSmall : (H : Type) → List (DataW H) → Bool := fun _ ds => decide (uptoBulkAll ds ≤ 1048576)
def OpenSpec.upto (s : _root_.Go.ChangeSpec) : _root_.Go.OpenSpec := { _root_.Go.OpenSpec.ofChange s with cond := some uptoSmall }

/-- 'spilelaw36.ColumnMisses', WHERE WHAT IT READS IS OF BULK AT MOST 1048576: true; the input reads as it did. -/
def columnMissesUptoRow : OpenClaim := { program := "ytodfjkdgfjkifaa", sum := "e4295be9872686a5a62fcde3a3d0ca9f60601a19efbeac6af5e4a60b0439fb7b", func := "spile/spilelaw36.ColumnMisses", spec := "columnMisses", unfollowed := true, recurses := true, plainKeys := false, apart := false, narrowed := true }
def ColumnMissesUptoSaid : Prop := columnMissesUptoRow.holds Try.pinned (OpenSpec.upto columnMissesSpec)

/-- 'spilelaw36.ColumnMerges', WHERE WHAT IT READS IS OF BULK AT MOST 1048576: true; the input reads as it did. -/
def columnMergesUptoRow : OpenClaim := { program := "ytodfjkdgfjkifaa", sum := "e4295be9872686a5a62fcde3a3d0ca9f60601a19efbeac6af5e4a60b0439fb7b", func := "spile/spilelaw36.ColumnMerges", spec := "columnMerges", unfollowed := true, recurses := true, plainKeys := false, apart := false, narrowed := true }
def ColumnMergesUptoSaid : Prop := columnMergesUptoRow.holds Try.pinned (OpenSpec.upto columnMergesSpec)

/-- 'spilelaw36.ColumnBalances', WHERE WHAT IT READS IS OF BULK AT MOST 1048576: true; the input reads as it did. -/
def columnBalancesUptoRow : OpenClaim := { program := "ytodfjkdgfjkifaa", sum := "e4295be9872686a5a62fcde3a3d0ca9f60601a19efbeac6af5e4a60b0439fb7b", func := "spile/spilelaw36.ColumnBalances", spec := "columnBalances", unfollowed := true, recurses := true, plainKeys := false, apart := false, narrowed := true }
def ColumnBalancesUptoSaid : Prop := columnBalancesUptoRow.holds Try.pinned (OpenSpec.upto columnBalancesSpec)

/-- 'spilelaw36.ColumnSame', WHERE WHAT IT READS IS OF BULK AT MOST 1048576: true; the input reads as it did. -/
def columnSameUptoRow : OpenClaim := { program := "ytodfjkdgfjkifaa", sum := "e4295be9872686a5a62fcde3a3d0ca9f60601a19efbeac6af5e4a60b0439fb7b", func := "spile/spilelaw36.ColumnSame", spec := "columnSame", unfollowed := true, recurses := true, plainKeys := false, apart := false, narrowed := true }
def ColumnSameUptoSaid : Prop := columnSameUptoRow.holds Try.pinned (OpenSpec.upto columnSameSpec)

/-- 'spilelaw36.ColumnClosed', WHERE WHAT IT READS IS OF BULK AT MOST 1048576: true; the input reads as it did. -/
def columnClosedUptoRow : OpenClaim := { program := "ytodfjkdgfjkifaa", sum := "e4295be9872686a5a62fcde3a3d0ca9f60601a19efbeac6af5e4a60b0439fb7b", func := "spile/spilelaw36.ColumnClosed", spec := "columnClosed", unfollowed := true, recurses := true, plainKeys := false, apart := false, narrowed := true }
def ColumnClosedUptoSaid : Prop := columnClosedUptoRow.holds Try.pinned (OpenSpec.upto columnClosedSpec)

/-- 'spilelaw36.ColumnTaken', WHERE WHAT IT READS IS OF BULK AT MOST 1048576: true; the input reads as it did. -/
def columnTakenUptoRow : OpenClaim := { program := "ytodfjkdgfjkifaa", sum := "e4295be9872686a5a62fcde3a3d0ca9f60601a19efbeac6af5e4a60b0439fb7b", func := "spile/spilelaw36.ColumnTaken", spec := "columnTaken", unfollowed := true, recurses := true, plainKeys := false, apart := false, narrowed := true }
def ColumnTakenUptoSaid : Prop := columnTakenUptoRow.holds Try.pinned (OpenSpec.upto columnTakenSpec)

/-- 'spilelaw36.ColumnWhole', WHERE WHAT IT READS IS OF BULK AT MOST 1048576: true; the input reads as it did. -/
def columnWholeUptoRow : OpenClaim := { program := "ytodfjkdgfjkifaa", sum := "e4295be9872686a5a62fcde3a3d0ca9f60601a19efbeac6af5e4a60b0439fb7b", func := "spile/spilelaw36.ColumnWhole", spec := "columnWhole", unfollowed := true, recurses := true, plainKeys := false, apart := false, narrowed := true }
def ColumnWholeUptoSaid : Prop := columnWholeUptoRow.holds Try.pinned (OpenSpec.upto columnWholeSpec)

end Rows
end Go.Proofs.Ytodfjkdgfjkifaa
