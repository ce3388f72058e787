/- The law AuditTables of package spilelaw17 returns true for every input and leaves its arguments as they were; there is no condition. -/
import Derived.Test.YtcapbigknimgnaaLawAuditTables
import Derived.Test.YtcapbigknimgnaaPF0
namespace Go.Proofs.Ytcapbigknimgnaa.PF
open Go.RowKit Go.Proofs.YtcapbigknimgnaaW.PrintWords Go.Proofs.YtcapbigknimgnaaW.PrintLast Go.Proofs.YtcapbigknimgnaaW.PrintMore
set_option linter.unusedVariables false
set_option linter.unusedSimpArgs false
theorem AuditTables_pure : Go.Proofs.Ytcapbigknimgnaa.auditTables.Pure := by
  intro l _
  rfl

end Go.Proofs.Ytcapbigknimgnaa.PF
namespace Go.Proofs.Ytcapbigknimgnaa
/-- The given statement. -/
theorem auditTables_holds : Rows.AuditTablesSaid := auditTables.over PF.AuditTables_pure
#print axioms auditTables_holds
end Go.Proofs.Ytcapbigknimgnaa
