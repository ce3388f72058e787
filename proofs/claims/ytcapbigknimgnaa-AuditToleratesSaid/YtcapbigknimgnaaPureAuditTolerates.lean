/- The law AuditTolerates of package spilelaw17 returns true for every input and leaves its arguments as they were; there is no condition. -/
import Derived.Test.YtcapbigknimgnaaLawAuditTolerates
import Derived.Test.YtcapbigknimgnaaMHandAuditTolerates
namespace Go.Proofs.Ytcapbigknimgnaa.PF
open Go.RowKit Go.Proofs.YtcapbigknimgnaaW.PrintWords Go.Proofs.YtcapbigknimgnaaW.PrintLast Go.Proofs.YtcapbigknimgnaaW.PrintMore
set_option linter.unusedVariables false
set_option linter.unusedSimpArgs false
theorem AuditTolerates_pure : Go.Proofs.Ytcapbigknimgnaa.auditTolerates.Pure := by
  intro l t _ ht
  unfold spilelaw17_AuditTolerates.f
  rw [if_pos (YtcapbigknimgnaaR.wf_u16_ ht)]

end Go.Proofs.Ytcapbigknimgnaa.PF
namespace Go.Proofs.Ytcapbigknimgnaa
/-- The given statement. -/
theorem auditTolerates_holds : Rows.AuditToleratesSaid := auditTolerates.over PF.AuditTolerates_pure
#print axioms auditTolerates_holds
end Go.Proofs.Ytcapbigknimgnaa
