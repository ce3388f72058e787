/- What Refuse of the reference of package refusal returns, in plain numbers. -/
import Derived.Test.YtcdkbciagchlgaaDoorMEv
import Derived.Test.YtcdkbciagchlgaaDoorMRef30
import Derived.Test.YtcdkbciagchlgaaDoorMRef30b
import Derived.Test.YtcdkbciagchlgaaDoorMRef30c
import Derived.Test.YtcdkbciagchlgaaDoorMRef30r
import Derived.Test.YtcdkbciagchlgaaDoorMRef30s
import Derived.Test.YtcdkbciagchlgaaDoorPF0
import Derived.Test.YtcdkbciagchlgaaDoorPF1
import Derived.Test.YtcdkbciagchlgaaDoorPF15
import Derived.Test.YtcdkbciagchlgaaDoorPF16
import Derived.Test.YtcdkbciagchlgaaDoorPF6
import Derived.Test.YtcdkbciagchlgaaDoorPF7
import Derived.Test.YtcdkbciagchlgaaDoorPF9
namespace Go.Proofs.YtcdkbciagchlgaaDoor.PF
open Go.RowKit Go.Proofs.YtcdkbciagchlgaaDoorW.PrintWords Go.Proofs.YtcdkbciagchlgaaDoorW.PrintLast Go.Proofs.YtcdkbciagchlgaaDoorW.PrintMore
set_option linter.unusedVariables false
set_option linter.unusedSimpArgs false
theorem same_l0 {x : List Int} (hs : x.length ≤ 1000) (a b c : Int) : ∀ (m i : Nat), i + m = x.length → Ev (fun k => spileref30_Same.l0 k (i : Int) x a b c x a b c) true
  | 0, i, hi => Ev.ret (fun k => by
    simp only [spileref30_Same.l0]
    rw [if_neg (by omega)])
  | m + 1, i, hi => Ev.step (fun k => by
    simp only [spileref30_Same.l0]
    rw [if_pos (by omega), if_pos (by omega), if_pos (by omega), if_pos trivial, inc30 (n := x.length) (by omega) (by omega)]) (same_l0 hs a b c m (i + 1) (by omega))
theorem same_ev {x : List Int} (hs : x.length ≤ 1000) (a b c : Int) : Ev (fun k => spileref30_Same.f k x a b c x a b c) true := by
  refine Ev.step (fun k => ?_) (same_l0 hs a b c x.length 0 (by omega))
  unfold spileref30_Same.f
  rw [if_pos rfl, if_pos rfl, if_pos rfl, bne_self_eq_false]
  simp only [spileref30_Same.j0]
  rw [if_neg (by decide)]
  rfl
end Go.Proofs.YtcdkbciagchlgaaDoor.PF
