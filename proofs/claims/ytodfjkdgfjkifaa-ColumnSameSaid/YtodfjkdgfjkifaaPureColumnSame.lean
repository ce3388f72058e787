/- The law ColumnSame of package spilelaw36 returns true for every input and leaves its arguments as they were; there is no condition. -/
import Derived.Test.YtodfjkdgfjkifaaLawColumnSame
import Derived.Test.YtodfjkdgfjkifaaPF0
namespace Go.Proofs.Ytodfjkdgfjkifaa.PF
open Go.RowKit Go.Proofs.YtodfjkdgfjkifaaW.PrintWords Go.Proofs.YtodfjkdgfjkifaaW.PrintLast Go.Proofs.YtodfjkdgfjkifaaW.PrintMore
set_option linter.unusedVariables false
set_option linter.unusedSimpArgs false
theorem ColumnSame_pure : Go.Proofs.Ytodfjkdgfjkifaa.columnSame.Pure := by
  intro s0 a1 _ _
  rfl

end Go.Proofs.Ytodfjkdgfjkifaa.PF
namespace Go.Proofs.Ytodfjkdgfjkifaa
/-- The given statement. -/
theorem columnSame_holds : Rows.ColumnSameSaid := columnSame.over PF.ColumnSame_pure
#print axioms columnSame_holds
end Go.Proofs.Ytodfjkdgfjkifaa
