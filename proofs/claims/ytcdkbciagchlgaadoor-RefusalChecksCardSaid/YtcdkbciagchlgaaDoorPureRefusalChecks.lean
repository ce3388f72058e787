/- The law RefusalChecks of package spilelaw30 returns true for every input and leaves its arguments as they were; the library's table of powers of ten reads as the program's text lays it. -/
import Derived.Test.YtcdkbciagchlgaaDoorLawRefusalChecks
import Derived.Test.YtcdkbciagchlgaaDoorMRef30b
import Derived.Test.YtcdkbciagchlgaaDoorMWhy30
import Derived.Test.YtcdkbciagchlgaaDoorPF16
import Derived.Test.YtcdkbciagchlgaaDoorPF17
import Derived.Test.YtcdkbciagchlgaaDoorPF9
namespace Go.Proofs.YtcdkbciagchlgaaDoor.PF
open Go.RowKit Go.Proofs.YtcdkbciagchlgaaDoorW.PrintWords Go.Proofs.YtcdkbciagchlgaaDoorW.PrintLast Go.Proofs.YtcdkbciagchlgaaDoorW.PrintMore
set_option linter.unusedVariables false
set_option linter.unusedSimpArgs false
theorem RefusalChecks_pure : Go.Proofs.YtcdkbciagchlgaaDoor.refusalChecks.Pure := by
  intro l o r _ _ _
  show ∃ k, spilelaw30_RefusalChecks.f k l o.f0 o.f1 o.f2 o.f3 o.f4 o.f5 r.f0 r.f1 r.f2 r.f3 = some true
  obtain ⟨b, hb, hlen⟩ := few30_some l o.f0 o.f1 o.f2 o.f3 o.f4 o.f5 r.f0 r.f1 r.f2 r.f3
  cases b
  · refine ⟨0, ?_⟩
    unfold spilelaw30_RefusalChecks.f spilelaw30_awake.f
    rw [Option.bind_some, if_pos rfl, hb, Option.bind_some, if_neg (by decide)]
  obtain ⟨_, _, _, hU⟩ := hlen rfl
  obtain ⟨w, hw, N1, h1⟩ := Why_ev (U := r.f0) (by omega) r.f1 r.f2 r.f3
  obtain ⟨e, ⟨N2, h2⟩, ⟨N3, h3⟩, -⟩ := Check_ev l o.f0 o.f1 o.f2 o.f3 o.f4 o.f5 (U := r.f0) (by omega) r.f1 r.f2 r.f3
  refine ⟨N1 + N2 + N3, ?_⟩
  have a1 : spileref30_Why.f (N1 + N2 + N3) r.f0 r.f1 r.f2 r.f3 = some w := h1 _ (by omega)
  have a2 : refusal_Check.f (N1 + N2 + N3) l o.f0 o.f1 o.f2 o.f3 o.f4 o.f5 r.f0 r.f1 r.f2 r.f3 = some e := h2 _ (by omega)
  have a3 : spileref30_Check.f (N1 + N2 + N3) l o.f0 o.f1 o.f2 o.f3 o.f4 o.f5 r.f0 r.f1 r.f2 r.f3 = some e := h3 _ (by omega)
  unfold spilelaw30_RefusalChecks.f spilelaw30_awake.f
  rw [Option.bind_some, if_pos rfl, hb, Option.bind_some, if_pos rfl, hw, Option.bind_some, a1, Option.bind_some, a2, Option.bind_some, a3, Option.bind_some, if_pos rfl, if_pos rfl, beq_self_eq_true]

end Go.Proofs.YtcdkbciagchlgaaDoor.PF
namespace Go.Proofs.YtcdkbciagchlgaaDoor
/-- The given statement. -/
theorem refusalChecks_holds : Rows.RefusalChecksCardSaid := refusalChecks.card PF.RefusalChecks_pure
#print axioms refusalChecks_holds
end Go.Proofs.YtcdkbciagchlgaaDoor
