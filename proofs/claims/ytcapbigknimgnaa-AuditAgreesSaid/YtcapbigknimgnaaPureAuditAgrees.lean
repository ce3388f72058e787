/- The law AuditAgrees of package spilelaw17 returns true for every input and leaves its arguments as they were; there is no condition. -/
import Derived.Test.YtcapbigknimgnaaLawAuditAgrees
import Derived.Test.YtcapbigknimgnaaPF0
namespace Go.Proofs.Ytcapbigknimgnaa.PF
open Go.RowKit Go.Proofs.YtcapbigknimgnaaW.PrintWords Go.Proofs.YtcapbigknimgnaaW.PrintLast Go.Proofs.YtcapbigknimgnaaW.PrintMore
set_option linter.unusedVariables false
set_option linter.unusedSimpArgs false
theorem AuditAgrees_pure : Go.Proofs.Ytcapbigknimgnaa.auditAgrees.Pure := by
  intro l _
  rfl

end Go.Proofs.Ytcapbigknimgnaa.PF
namespace Go.Proofs.Ytcapbigknimgnaa
/-- The given statement. -/
theorem auditAgrees_holds : Rows.AuditAgreesSaid := auditAgrees.over PF.AuditAgrees_pure
#print axioms auditAgrees_holds
end Go.Proofs.Ytcapbigknimgnaa
