/- The law ColumnMerges of package spilelaw36 returns true for every input and leaves its arguments as they were; there is no condition. -/
import Derived.Test.YtodfjkdgfjkifaaLawColumnMerges
import Derived.Test.YtodfjkdgfjkifaaPF0
namespace Go.Proofs.Ytodfjkdgfjkifaa.PF
open Go.RowKit Go.Proofs.YtodfjkdgfjkifaaW.PrintWords Go.Proofs.YtodfjkdgfjkifaaW.PrintLast Go.Proofs.YtodfjkdgfjkifaaW.PrintMore
set_option linter.unusedVariables false
set_option linter.unusedSimpArgs false
theorem ColumnMerges_pure : Go.Proofs.Ytodfjkdgfjkifaa.columnMerges.Pure := by
  intro s0 a1 _ _
  rfl

end Go.Proofs.Ytodfjkdgfjkifaa.PF
namespace Go.Proofs.Ytodfjkdgfjkifaa
/-- The given statement. -/
theorem columnMerges_holds : Rows.ColumnMergesSaid := columnMerges.over PF.ColumnMerges_pure
#print axioms columnMerges_holds
end Go.Proofs.Ytodfjkdgfjkifaa
