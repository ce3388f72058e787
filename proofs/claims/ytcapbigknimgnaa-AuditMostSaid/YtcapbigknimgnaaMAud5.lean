/- Equal rows of numbers and of grades are equal. -/
import Derived.Test.YtcapbigknimgnaaMAud
import Derived.Test.YtcapbigknimgnaaMAud3
import Derived.Test.YtcapbigknimgnaaMAud4
import Derived.Test.YtcapbigknimgnaaMEv
import Derived.Test.YtcapbigknimgnaaPF0
import Derived.Test.YtcapbigknimgnaaPF1
import Derived.Test.YtcapbigknimgnaaPF17
import Derived.Test.YtcapbigknimgnaaPF9
namespace Go.Proofs.Ytcapbigknimgnaa.PF
open Go.RowKit Go.Proofs.YtcapbigknimgnaaW.PrintWords Go.Proofs.YtcapbigknimgnaaW.PrintLast Go.Proofs.YtcapbigknimgnaaW.PrintMore
set_option linter.unusedVariables false
set_option linter.unusedSimpArgs false
theorem slices_Equal_int_int.same (x : List Int) (hx : x.length ≤ 20000) : Ev (fun k => slices_Equal_int_int.f k x x) true := by
  have key : ∀ d i : Nat, i + d = x.length → Ev (fun k => slices_Equal_int_int.l0 k x x (x.length : Int) (i : Int)) true := by
    intro d
    induction d with
    | zero =>
      intro i hi
      refine Ev.ret (fun k => ?_)
      simp only [slices_Equal_int_int.l0]
      rw [if_neg (by omega)]
    | succ d ih =>
      intro i hi
      refine Ev.step (fun k => ?_) (ih (i + 1) (by omega))
      simp only [slices_Equal_int_int.l0]
      rw [if_pos (by omega), if_pos (by omega), if_pos (by omega), if_pos (by omega), if_true, w64_ (by omega) (by omega)]
      rfl
  unfold slices_Equal_int_int.f
  exact Ev.same (fun k => by rw [if_pos rfl]; rfl) (key x.length 0 (by omega))
theorem spileref16_Same.same (x : List S44) (hx : x.length ≤ 20000) : Ev (fun k => spileref16_Same.f k x x) true := by
  have key : ∀ d i : Nat, i + d = x.length → Ev (fun k => spileref16_Same.l0 k x x (i : Int)) true := by
    intro d
    induction d with
    | zero =>
      intro i hi
      refine Ev.ret (fun k => ?_)
      simp only [spileref16_Same.l0]
      rw [if_neg (by omega)]
    | succ d ih =>
      intro i hi
      refine Ev.step (fun k => ?_) (ih (i + 1) (by omega))
      simp only [spileref16_Same.l0]
      rw [if_pos (by omega), if_pos (by omega), if_pos (by omega), if_neg (by simp), w64_ (by omega) (by omega)]
      rfl
  unfold spileref16_Same.f
  exact Ev.same (fun k => by rw [if_pos rfl]; rfl) (key x.length 0 (by omega))
theorem grGo_length (l : List S44) (V : Nat → Int) : ∀ d i left out, (grGo l V d i left out).length ≤ out.length + d := by
  intro d
  induction d with
  | zero => intro _ _ _; exact Nat.le_refl _
  | succ d ih =>
    intro i left out
    simp only [grGo]
    split
    · have := ih (i + 1) (left - 1) (out ++ [(i : Int)])
      rw [List.length_append, List.length_singleton] at this
      omega
    · have := ih (i + 1) left out
      omega
theorem lgS_length (l : List S44) : (lgS l).1.length ≤ 20000 := by
  unfold lgS
  by_cases hr : (rchk l).2 = 0
  · have hn := RightR.hi ((rchk_iff l).1 hr)
    rw [if_neg (not_not_intro hr)]
    have := grGo_length l (lnS l) l.length 0 (mxV (lnS l) l.length) []
    simp only [List.length_nil] at this ⊢
    omega
  · rw [if_pos hr]
    simp
theorem repS_length (l : List S44) : (repS l).1.length ≤ 20000 := by
  unfold repS
  by_cases hr : (rchk l).2 = 0
  · have hn := RightR.hi ((rchk_iff l).1 hr)
    rw [if_neg (not_not_intro hr)]
    simp
    omega
  · rw [if_pos hr]
    simp

end Go.Proofs.Ytcapbigknimgnaa.PF
