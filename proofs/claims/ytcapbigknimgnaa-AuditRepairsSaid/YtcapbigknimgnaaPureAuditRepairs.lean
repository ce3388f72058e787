/- The law AuditRepairs of package spilelaw17 returns true for every input and leaves its arguments as they were; there is no condition. -/
import Derived.Test.YtcapbigknimgnaaLawAuditRepairs
import Derived.Test.YtcapbigknimgnaaMAud3
import Derived.Test.YtcapbigknimgnaaMAud4
import Derived.Test.YtcapbigknimgnaaMAud5
import Derived.Test.YtcapbigknimgnaaMAudAwake
import Derived.Test.YtcapbigknimgnaaMEv
import Derived.Test.YtcapbigknimgnaaPF17
import Derived.Test.YtcapbigknimgnaaPF18
namespace Go.Proofs.Ytcapbigknimgnaa.PF
open Go.RowKit Go.Proofs.YtcapbigknimgnaaW.PrintWords Go.Proofs.YtcapbigknimgnaaW.PrintLast Go.Proofs.YtcapbigknimgnaaW.PrintMore
set_option linter.unusedVariables false
set_option linter.unusedSimpArgs false
theorem AuditRepairs_pure : Go.Proofs.Ytcapbigknimgnaa.auditRepairs.Pure := by
  intro l _
  refine Ev.given ?_
  unfold spilelaw17_AuditRepairs.f
  refine Ev.bind awake17 ?_
  simp only [if_true]
  obtain ⟨b, hb⟩ := few_some l
  rw [hb]
  simp only [Option.bind_some]
  cases b
  · exact Ev.now (fun k => by rw [if_neg (by simp)])
  simp only [if_true]
  refine Ev.bind (audit_Largest.ev l) ?_
  refine Ev.bind (spileref17_Largest.ev l) ?_
  refine Ev.bind (audit_Repair.ev l) ?_
  refine Ev.bind (spileref17_Repair.ev l) ?_
  refine Ev.bind (slices_Equal_int_int.same _ (lgS_length l)) ?_
  refine Ev.same (G := fun k => (spileref16_Same.f k (repS l).1 (repS l).1).bind fun t => if t = true then some true else some false) (fun k => ?_) ?_
  · simp only [if_true, beq_self_eq_true]
  · refine Ev.bind (spileref16_Same.same _ (repS_length l)) ?_
    exact Ev.now (fun k => by rw [if_pos rfl])

end Go.Proofs.Ytcapbigknimgnaa.PF
namespace Go.Proofs.Ytcapbigknimgnaa
/-- The given statement. -/
theorem auditRepairs_holds : Rows.AuditRepairsSaid := auditRepairs.over PF.AuditRepairs_pure
#print axioms auditRepairs_holds
end Go.Proofs.Ytcapbigknimgnaa
