/- The law ColumnMisses of package spilelaw36 returns true for every input and leaves its arguments as they were; there is no condition. -/
import Derived.Test.YtodfjkdgfjkifaaLawColumnMisses
import Derived.Test.YtodfjkdgfjkifaaPF0
namespace Go.Proofs.Ytodfjkdgfjkifaa.PF
open Go.RowKit Go.Proofs.YtodfjkdgfjkifaaW.PrintWords Go.Proofs.YtodfjkdgfjkifaaW.PrintLast Go.Proofs.YtodfjkdgfjkifaaW.PrintMore
set_option linter.unusedVariables false
set_option linter.unusedSimpArgs false
theorem ColumnMisses_pure : Go.Proofs.Ytodfjkdgfjkifaa.columnMisses.Pure := by
  intro s0 _
  rfl

end Go.Proofs.Ytodfjkdgfjkifaa.PF
namespace Go.Proofs.Ytodfjkdgfjkifaa
/-- The given statement. -/
theorem columnMisses_holds : Rows.ColumnMissesSaid := columnMisses.over PF.ColumnMisses_pure
#print axioms columnMisses_holds
end Go.Proofs.Ytodfjkdgfjkifaa
