/- The law ColumnTaken of package spilelaw36 returns true for every input and leaves its arguments as they were; there is no condition. -/
import Derived.Test.YtodfjkdgfjkifaaLawColumnTaken
import Derived.Test.YtodfjkdgfjkifaaMHandColumnTaken
namespace Go.Proofs.Ytodfjkdgfjkifaa.PF
open Go.RowKit Go.Proofs.YtodfjkdgfjkifaaW.PrintWords Go.Proofs.YtodfjkdgfjkifaaW.PrintLast Go.Proofs.YtodfjkdgfjkifaaW.PrintMore
set_option linter.unusedVariables false
set_option linter.unusedSimpArgs false
theorem ColumnTaken_pure : Go.Proofs.Ytodfjkdgfjkifaa.columnTaken.Pure := by
  intro s0 a1 _ hp
  unfold spilelaw36_ColumnTaken.f
  rw [if_pos (YtodfjkdgfjkifaaR.wf_u8_ hp)]

end Go.Proofs.Ytodfjkdgfjkifaa.PF
namespace Go.Proofs.Ytodfjkdgfjkifaa
/-- The given statement. -/
theorem columnTaken_holds : Rows.ColumnTakenSaid := columnTaken.over PF.ColumnTaken_pure
#print axioms columnTaken_holds
end Go.Proofs.Ytodfjkdgfjkifaa
