/-
  No cell of these rows narrows 'for every input' (looked for: loops, veiled, ifaces, maps, wideKeys, modest, calm, conditions, laid).
  DERIVED. THE GIVEN ROWS OF THIS SEAT. 7 by the template 'for every input the law returns true; each argument reads behind the call as it read before'; 0 by the template 'total and deterministic' (their statements: YtcapbigknimgnaaTotals.lean).
  GIVEN WITH THE SEED: the statements are not yours to turn. If you find one false, say at which input.
  Laid BY PROGRAM, IN A SANDBOX (cutbox-rows.mjs): the forced cells as the released guide's own fill.sh prints them over the translation 56547191d7bf7db2… (all of the seat's roots in one cut). By AI agents, Wed Nov 11 2026. No macro, syntax, notation, axiom, sorry.
-/
import Derived.Test.YtcapbigknimgnaaChecked
import GoSem.Claim
import GoSem.ClaimJoined
import GoSem.ClaimMapViews
import Derived.JoinedTies
import Derived.KernelRfl
namespace Go.Proofs.Ytcapbigknimgnaa
/- THE CELL 'sum', in the pinned program and in every row, IS THE sha256 OF THE DUMP (.gsa) THAT YtcapbigknimgnaaProg.lean LOADS. Nothing in Lean hashes anything: it is a label: what it is worth is what the hold of that sum in a sandbox is worth. -/
noncomputable def Try.pinned : Pinned := { name := "ytcapbigknimgnaa", sum := "56547191d7bf7db2c0af22ade8b08a4067706084e9bbb3c666c12406fbd963f3", checked := Try.checked }
namespace Rows
def none {H : Type} : Left H := { results := [], args := [] }

/-- 'spilelaw17.AuditChecks': WHATEVER THE INPUT: true; the input reads as it did. -/
def auditChecksSpec : ChangeSpec := { name := "auditChecks", fn := fun _ => fun
  | [d1, d2] => { results := [.lit (.bool true)], args := [d1, d2] }
  | _ => none }
def auditChecksRow : OpenClaim := { program := "ytcapbigknimgnaa", sum := "56547191d7bf7db2c0af22ade8b08a4067706084e9bbb3c666c12406fbd963f3", func := "spile/spilelaw17.AuditChecks", spec := "auditChecks", apart := false }
def AuditChecksSaid : Prop := auditChecksRow.holds Try.pinned (OpenSpec.ofChange auditChecksSpec)

/-- ITS FALSE NEIGHBOUR: 'it returns false'. Refute it at one input. -/
def auditChecksWrong : ChangeSpec := { name := "auditChecks", fn := fun _ => fun
  | [d1, d2] => { results := [.lit (.bool false)], args := [d1, d2] }
  | _ => none }
def AuditChecksWrongFalsely : Prop := auditChecksRow.holds Try.pinned (OpenSpec.ofChange auditChecksWrong)

/-- 'spilelaw17.AuditRepairs': WHATEVER THE INPUT: true; the input reads as it did. -/
def auditRepairsSpec : ChangeSpec := { name := "auditRepairs", fn := fun _ => fun
  | [d] => { results := [.lit (.bool true)], args := [d] }
  | _ => none }
def auditRepairsRow : OpenClaim := { program := "ytcapbigknimgnaa", sum := "56547191d7bf7db2c0af22ade8b08a4067706084e9bbb3c666c12406fbd963f3", func := "spile/spilelaw17.AuditRepairs", spec := "auditRepairs", apart := false }
def AuditRepairsSaid : Prop := auditRepairsRow.holds Try.pinned (OpenSpec.ofChange auditRepairsSpec)

/-- ITS FALSE NEIGHBOUR: 'it returns false'. Refute it at one input. -/
def auditRepairsWrong : ChangeSpec := { name := "auditRepairs", fn := fun _ => fun
  | [d] => { results := [.lit (.bool false)], args := [d] }
  | _ => none }
def AuditRepairsWrongFalsely : Prop := auditRepairsRow.holds Try.pinned (OpenSpec.ofChange auditRepairsWrong)

/-- 'spilelaw17.AuditOptimal': WHATEVER THE INPUT: true; the input reads as it did. -/
def auditOptimalSpec : ChangeSpec := { name := "auditOptimal", fn := fun _ => fun
  | [d1, d2] => { results := [.lit (.bool true)], args := [d1, d2] }
  | _ => none }
def auditOptimalRow : OpenClaim := { program := "ytcapbigknimgnaa", sum := "56547191d7bf7db2c0af22ade8b08a4067706084e9bbb3c666c12406fbd963f3", func := "spile/spilelaw17.AuditOptimal", spec := "auditOptimal", apart := false }
def AuditOptimalSaid : Prop := auditOptimalRow.holds Try.pinned (OpenSpec.ofChange auditOptimalSpec)

/-- ITS FALSE NEIGHBOUR: 'it returns false'. Refute it at one input. -/
def auditOptimalWrong : ChangeSpec := { name := "auditOptimal", fn := fun _ => fun
  | [d1, d2] => { results := [.lit (.bool false)], args := [d1, d2] }
  | _ => none }
def AuditOptimalWrongFalsely : Prop := auditOptimalRow.holds Try.pinned (OpenSpec.ofChange auditOptimalWrong)

/-- 'spilelaw17.AuditMost': WHATEVER THE INPUT: true; the input reads as it did. -/
def auditMostSpec : ChangeSpec := { name := "auditMost", fn := fun _ => fun
  | [d1, d2] => { results := [.lit (.bool true)], args := [d1, d2] }
  | _ => none }
def auditMostRow : OpenClaim := { program := "ytcapbigknimgnaa", sum := "56547191d7bf7db2c0af22ade8b08a4067706084e9bbb3c666c12406fbd963f3", func := "spile/spilelaw17.AuditMost", spec := "auditMost", unfollowed := true, recurses := true, apart := false }
def AuditMostSaid : Prop := auditMostRow.holds Try.pinned (OpenSpec.ofChange auditMostSpec)

/-- ITS FALSE NEIGHBOUR: 'it returns false'. Refute it at one input. -/
def auditMostWrong : ChangeSpec := { name := "auditMost", fn := fun _ => fun
  | [d1, d2] => { results := [.lit (.bool false)], args := [d1, d2] }
  | _ => none }
def AuditMostWrongFalsely : Prop := auditMostRow.holds Try.pinned (OpenSpec.ofChange auditMostWrong)

/-- 'spilelaw17.AuditTolerates': WHATEVER THE INPUT: true; the input reads as it did. -/
def auditToleratesSpec : ChangeSpec := { name := "auditTolerates", fn := fun _ => fun
  | [d1, d2] => { results := [.lit (.bool true)], args := [d1, d2] }
  | _ => none }
def auditToleratesRow : OpenClaim := { program := "ytcapbigknimgnaa", sum := "56547191d7bf7db2c0af22ade8b08a4067706084e9bbb3c666c12406fbd963f3", func := "spile/spilelaw17.AuditTolerates", spec := "auditTolerates", unfollowed := true, recurses := true, apart := false }
def AuditToleratesSaid : Prop := auditToleratesRow.holds Try.pinned (OpenSpec.ofChange auditToleratesSpec)

/-- ITS FALSE NEIGHBOUR: 'it returns false'. Refute it at one input. -/
def auditToleratesWrong : ChangeSpec := { name := "auditTolerates", fn := fun _ => fun
  | [d1, d2] => { results := [.lit (.bool false)], args := [d1, d2] }
  | _ => none }
def AuditToleratesWrongFalsely : Prop := auditToleratesRow.holds Try.pinned (OpenSpec.ofChange auditToleratesWrong)

/-- 'spilelaw17.AuditTables': WHATEVER THE INPUT: true; the input reads as it did. -/
def auditTablesSpec : ChangeSpec := { name := "auditTables", fn := fun _ => fun
  | [d] => { results := [.lit (.bool true)], args := [d] }
  | _ => none }
def auditTablesRow : OpenClaim := { program := "ytcapbigknimgnaa", sum := "56547191d7bf7db2c0af22ade8b08a4067706084e9bbb3c666c12406fbd963f3", func := "spile/spilelaw17.AuditTables", spec := "auditTables", unfollowed := true, recurses := true, apart := false }
def AuditTablesSaid : Prop := auditTablesRow.holds Try.pinned (OpenSpec.ofChange auditTablesSpec)

/-- ITS FALSE NEIGHBOUR: 'it returns false'. Refute it at one input. -/
def auditTablesWrong : ChangeSpec := { name := "auditTables", fn := fun _ => fun
  | [d] => { results := [.lit (.bool false)], args := [d] }
  | _ => none }
def AuditTablesWrongFalsely : Prop := auditTablesRow.holds Try.pinned (OpenSpec.ofChange auditTablesWrong)

/-- 'spilelaw17.AuditAgrees': WHATEVER THE INPUT: true; the input reads as it did. -/
def auditAgreesSpec : ChangeSpec := { name := "auditAgrees", fn := fun _ => fun
  | [d] => { results := [.lit (.bool true)], args := [d] }
  | _ => none }
def auditAgreesRow : OpenClaim := { program := "ytcapbigknimgnaa", sum := "56547191d7bf7db2c0af22ade8b08a4067706084e9bbb3c666c12406fbd963f3", func := "spile/spilelaw17.AuditAgrees", spec := "auditAgrees", unfollowed := true, recurses := true, apart := false }
def AuditAgreesSaid : Prop := auditAgreesRow.holds Try.pinned (OpenSpec.ofChange auditAgreesSpec)

/-- ITS FALSE NEIGHBOUR: 'it returns false'. Refute it at one input. -/
def auditAgreesWrong : ChangeSpec := { name := "auditAgrees", fn := fun _ => fun
  | [d] => { results := [.lit (.bool false)], args := [d] }
  | _ => none }
def AuditAgreesWrongFalsely : Prop := auditAgreesRow.holds Try.pinned (OpenSpec.ofChange auditAgreesWrong)

/- THE SECOND FORM. 'bulk': how many values and letters a reading holds, each counted each time it is reached (what is shared counts as often as it is met; a slice's spare places count too). A statement '..UptoSaid' is the law's where the arguments, and the package variables that the reading takes, are together of bulk at most 1048576: NARROWER than '..Said'. Prove '..Said' where nothing that the law and all that it calls make is longer than what came in: it says more and counts as full. Else prove '..UptoSaid'. A law counts once. -/
mutual
def uptoBulk {H : Type} : DataW H → Nat
  | .lit (.string bytes) => bytes.length + 1
  | .lit _ => 1
  | .nil => 1
  | .ptr d => uptoBulk d + 1
  | .slice elems spare => uptoBulkAll elems + uptoBulkAll spare + 1
  | .agg parts => uptoBulkAll parts + 1
  | .iface _ d => uptoBulk d + 1
  | .map entries => uptoBulkEntries entries + 1
  | .held _ => 1
def uptoBulkAll {H : Type} : List (DataW H) → Nat
  | [] => 0
  | d :: r => uptoBulk d + uptoBulkAll r
def uptoBulkEntries {H : Type} : List (Lit × DataW H) → Nat
  | [] => 0
  | x :: r => uptoBulkEntry x + uptoBulkEntries r
def uptoBulkEntry {H : Type} : Lit × DataW H → Nat
  | (.string bytes, d) => bytes.length + uptoBulk d + 1
  | (_, d) => uptoBulk d + 1
 end
def uptoSmall : (H : Type) → List (DataW H) → Bool := fun _ ds => decide (uptoBulkAll ds ≤ 1048576)
def OpenSpec.upto (s : _root_.Go.ChangeSpec) : _root_.Go.OpenSpec := { _root_.Go.OpenSpec.ofChange s with cond := some uptoSmall }

/-- 'spilelaw17.AuditChecks', WHERE WHAT IT READS IS OF BULK AT MOST 1048576: true; the input reads as it did. -/
def auditChecksUptoRow : OpenClaim := { program := "ytcapbigknimgnaa", sum := "56547191d7bf7db2c0af22ade8b08a4067706084e9bbb3c666c12406fbd963f3", func := "spile/spilelaw17.AuditChecks", spec := "auditChecks", apart := false, narrowed := true }
def AuditChecksUptoSaid : Prop := auditChecksUptoRow.holds Try.pinned (OpenSpec.upto auditChecksSpec)

/-- 'spilelaw17.AuditRepairs', WHERE WHAT IT READS IS OF BULK AT MOST 1048576: true; the input reads as it did. -/
def auditRepairsUptoRow : OpenClaim := { program := "ytcapbigknimgnaa", sum := "56547191d7bf7db2c0af22ade8b08a4067706084e9bbb3c666c12406fbd963f3", func := "spile/spilelaw17.AuditRepairs", spec := "auditRepairs", apart := false, narrowed := true }
def AuditRepairsUptoSaid : Prop := auditRepairsUptoRow.holds Try.pinned (OpenSpec.upto auditRepairsSpec)

/-- 'spilelaw17.AuditOptimal', WHERE WHAT IT READS IS OF BULK AT MOST 1048576: true; the input reads as it did. -/
def auditOptimalUptoRow : OpenClaim := { program := "ytcapbigknimgnaa", sum := "56547191d7bf7db2c0af22ade8b08a4067706084e9bbb3c666c12406fbd963f3", func := "spile/spilelaw17.AuditOptimal", spec := "auditOptimal", apart := false, narrowed := true }
def AuditOptimalUptoSaid : Prop := auditOptimalUptoRow.holds Try.pinned (OpenSpec.upto auditOptimalSpec)

/-- 'spilelaw17.AuditMost', WHERE WHAT IT READS IS OF BULK AT MOST 1048576: true; the input reads as it did. -/
def auditMostUptoRow : OpenClaim := { program := "ytcapbigknimgnaa", sum := "56547191d7bf7db2c0af22ade8b08a4067706084e9bbb3c666c12406fbd963f3", func := "spile/spilelaw17.AuditMost", spec := "auditMost", unfollowed := true, recurses := true, apart := false, narrowed := true }
def AuditMostUptoSaid : Prop := auditMostUptoRow.holds Try.pinned (OpenSpec.upto auditMostSpec)

/-- 'spilelaw17.AuditTolerates', WHERE WHAT IT READS IS OF BULK AT MOST 1048576: true; the input reads as it did. -/
def auditToleratesUptoRow : OpenClaim := { program := "ytcapbigknimgnaa", sum := "56547191d7bf7db2c0af22ade8b08a4067706084e9bbb3c666c12406fbd963f3", func := "spile/spilelaw17.AuditTolerates", spec := "auditTolerates", unfollowed := true, recurses := true, apart := false, narrowed := true }
def AuditToleratesUptoSaid : Prop := auditToleratesUptoRow.holds Try.pinned (OpenSpec.upto auditToleratesSpec)

/-- 'spilelaw17.AuditTables', WHERE WHAT IT READS IS OF BULK AT MOST 1048576: true; the input reads as it did. -/
def auditTablesUptoRow : OpenClaim := { program := "ytcapbigknimgnaa", sum := "56547191d7bf7db2c0af22ade8b08a4067706084e9bbb3c666c12406fbd963f3", func := "spile/spilelaw17.AuditTables", spec := "auditTables", unfollowed := true, recurses := true, apart := false, narrowed := true }
def AuditTablesUptoSaid : Prop := auditTablesUptoRow.holds Try.pinned (OpenSpec.upto auditTablesSpec)

/-- 'spilelaw17.AuditAgrees', WHERE WHAT IT READS IS OF BULK AT MOST 1048576: true; the input reads as it did. -/
def auditAgreesUptoRow : OpenClaim := { program := "ytcapbigknimgnaa", sum := "56547191d7bf7db2c0af22ade8b08a4067706084e9bbb3c666c12406fbd963f3", func := "spile/spilelaw17.AuditAgrees", spec := "auditAgrees", unfollowed := true, recurses := true, apart := false, narrowed := true }
def AuditAgreesUptoSaid : Prop := auditAgreesUptoRow.holds Try.pinned (OpenSpec.upto auditAgreesSpec)

end Rows
end Go.Proofs.Ytcapbigknimgnaa
