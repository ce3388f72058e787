/- The law AuditChecks of package spilelaw17 returns true for every input and leaves its arguments as they were; there is no condition. -/
import Derived.Test.YtcapbigknimgnaaLawAuditChecks
import Derived.Test.YtcapbigknimgnaaMAud
import Derived.Test.YtcapbigknimgnaaMAud2
import Derived.Test.YtcapbigknimgnaaMAudAwake
import Derived.Test.YtcapbigknimgnaaMEv
import Derived.Test.YtcapbigknimgnaaPF14
import Derived.Test.YtcapbigknimgnaaPF6
namespace Go.Proofs.Ytcapbigknimgnaa.PF
open Go.RowKit Go.Proofs.YtcapbigknimgnaaW.PrintWords Go.Proofs.YtcapbigknimgnaaW.PrintLast Go.Proofs.YtcapbigknimgnaaW.PrintMore
set_option linter.unusedVariables false
set_option linter.unusedSimpArgs false
theorem AuditChecks_pure : Go.Proofs.Ytcapbigknimgnaa.auditChecks.Pure := by
  intro l t _ _
  refine Ev.given ?_
  unfold spilelaw17_AuditChecks.f
  refine Ev.bind awake17 ?_
  simp only [if_true]
  obtain ⟨b, hb⟩ := few_some l
  rw [hb]
  simp only [Option.bind_some]
  cases b
  · exact Ev.now (fun k => by rw [if_neg (by simp)])
  simp only [if_true]
  refine Ev.bind (audit_Check.ev l) ?_
  refine Ev.bind (spileref17_Check.ev l) ?_
  refine Ev.bind (audit_Clashes.ev l t) ?_
  refine Ev.bind (spileref17_Clashes.ev l t) ?_
  refine Ev.bind (audit_Least.ev l) ?_
  refine Ev.bind (spileref17_Least.ev l) ?_
  refine Ev.same (G := fun k => (api_Clash_18.f k (clS l t).1 (clS l t).1).bind fun t216 => if t216 = true then some true else some false) (fun k => ?_) ?_
  · simp only [if_true, beq_self_eq_true]
  · refine Ev.bind (api_Clash_18.same _ (clS_length l t)) ?_
    exact Ev.now (fun k => by rw [if_pos rfl])

end Go.Proofs.Ytcapbigknimgnaa.PF
namespace Go.Proofs.Ytcapbigknimgnaa
/-- The given statement. -/
theorem auditChecks_holds : Rows.AuditChecksSaid := auditChecks.over PF.AuditChecks_pure
#print axioms auditChecks_holds
end Go.Proofs.Ytcapbigknimgnaa
