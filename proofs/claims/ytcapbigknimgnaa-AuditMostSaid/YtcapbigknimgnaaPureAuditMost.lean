/- The law AuditMost of package spilelaw17 returns true for every input and leaves its arguments as they were; there is no condition. -/
import Derived.Test.YtcapbigknimgnaaLawAuditMost
import Derived.Test.YtcapbigknimgnaaMHandAuditMost
namespace Go.Proofs.Ytcapbigknimgnaa.PF
open Go.RowKit Go.Proofs.YtcapbigknimgnaaW.PrintWords Go.Proofs.YtcapbigknimgnaaW.PrintLast Go.Proofs.YtcapbigknimgnaaW.PrintMore
set_option linter.unusedVariables false
set_option linter.unusedSimpArgs false
theorem AuditMost_pure : Go.Proofs.Ytcapbigknimgnaa.auditMost.Pure := by
  intro l t _ ht
  unfold spilelaw17_AuditMost.f
  rw [if_pos (YtcapbigknimgnaaR.wf_u32_ ht)]

end Go.Proofs.Ytcapbigknimgnaa.PF
namespace Go.Proofs.Ytcapbigknimgnaa
/-- The given statement. -/
theorem auditMost_holds : Rows.AuditMostSaid := auditMost.over PF.AuditMost_pure
#print axioms auditMost_holds
end Go.Proofs.Ytcapbigknimgnaa
