/- What Check of package refusal and of its reference returns, in plain numbers. -/
import Derived.Test.YtcdkbciagchlgaaDoorMEv
import Derived.Test.YtcdkbciagchlgaaDoorMRef30
import Derived.Test.YtcdkbciagchlgaaDoorMRef30b
import Derived.Test.YtcdkbciagchlgaaDoorMRef30r
import Derived.Test.YtcdkbciagchlgaaDoorPF0
import Derived.Test.YtcdkbciagchlgaaDoorPF1
import Derived.Test.YtcdkbciagchlgaaDoorPF14
import Derived.Test.YtcdkbciagchlgaaDoorPF15
import Derived.Test.YtcdkbciagchlgaaDoorPF16
import Derived.Test.YtcdkbciagchlgaaDoorPF17
import Derived.Test.YtcdkbciagchlgaaDoorPF8
import Derived.Test.YtcdkbciagchlgaaDoorPF9
namespace Go.Proofs.YtcdkbciagchlgaaDoor.PF
open Go.RowKit Go.Proofs.YtcdkbciagchlgaaDoorW.PrintWords Go.Proofs.YtcdkbciagchlgaaDoorW.PrintLast Go.Proofs.YtcdkbciagchlgaaDoorW.PrintMore
set_option linter.unusedVariables false
set_option linter.unusedSimpArgs false
section
variable {low high : List Int} {f1 f2 f3 : Int}
theorem need_l0 (h : LstOK low high f1 f2 f3) (U : List Int) : ∀ (m i : Nat), i + m = low.length → Ev (fun k => spileref30_need.l0 k low high (tab i (lst f1 f2 f3 low high)) (i : Int) U f1 f2 f3) (tab low.length (lst f1 f2 f3 low high))
  | 0, i, hi_ => Ev.ret (fun k => by
    simp only [spileref30_need.l0]
    rw [if_neg (by omega)]
    obtain rfl : i = low.length := by omega
    rfl)
  | m + 1, i, hi_ => Ev.step (fun k => by
    have hn := h.n
    obtain ⟨w1, w2, w3, w4, -⟩ := h.w (i := i) (by omega)
    simp only [spileref30_need.l0]
    rw [if_pos (by omega), if_pos (by omega), w1, w3, inc30 (n := low.length) (by omega) (by omega)]
    rcases h.hh with c | c
    · have e : rd high (i : Int) = 0 := by rw [List.length_eq_zero_iff.1 c]; unfold rd; simp
      rw [if_neg (by omega), if_pos (by rw [tab_len]; omega)]
      have e : f1 * rd low (i : Int) + f3 = lst f1 f2 f3 low high i := by unfold lst; rw [e, Int.mul_zero]; omega
      rw [e, ← tab_succ]
    · rw [if_pos (by omega), if_pos (by omega), if_pos (by rw [tab_len]; omega), w2]
      show spileref30_need.l0 k low high (tab i (lst f1 f2 f3 low high) ++ [wrap64 (lst f1 f2 f3 low high i)]) _ _ _ _ _ = _
      rw [w4, ← tab_succ]) (need_l0 h U m (i + 1) (by omega))
theorem need_ev (h : LstOK low high f1 f2 f3) (U : List Int) : Ev (fun k => spileref30_need.f k low high U f1 f2 f3) (tab low.length (lst f1 f2 f3 low high)) := need_l0 h U low.length 0 (by omega)
end
section
variable {low high U V : List Int} {f1 f2 f3 al : Int}
theorem rright_l0 (hu : UntOK U V low.length) (hn : low.length ≤ 4) (hU : U.length = low.length) (hV : V.length = low.length) (hf : 0 ≤ f3 ∧ f3 ≤ 1125899906842624) (hf2 : f2 = 0 ∨ f2 = 1) (ha : 1 ≤ al ∧ al ≤ 256) (L : List S45) (C : List Int) (lo hi : Int) : ∀ (m i : Nat), i + m = low.length →
    Ev (fun k => spileref30_right.l0 k (tab low.length (lst f1 f2 f3 low high)) (dotS U V i) (i : Int) L V C lo hi al U f1 f2 f3) (rgtB low high U V f1 f2 f3 al low.length i)
  | 0, i, hi_ => Ev.ret (fun k => by
    obtain rfl : i = low.length := by omega
    have w1 : wrap64 (f3 * al) = f3 * al := wmul hf.1 hf.2 (by omega) ha.2 (by decide)
    have p0 : 0 ≤ f3 * al := Int.mul_nonneg hf.1 (by omega)
    have p1 : f3 * al ≤ 1125899906842624 * 256 := Int.mul_le_mul hf.2 ha.2 (by omega) (by omega)
    simp only [spileref30_right.l0]
    rw [if_neg (by rw [tab_len]; omega), rgtB_end, w1, w64_ (by omega) (by omega)])
  | m + 1, i, hi_ => by
    rw [rgtB_step (by omega)]
    by_cases c : lst f1 f2 f3 low high i ≤ rd U (i : Int)
    · rw [decide_eq_true c, Bool.true_and]
      refine Ev.step (fun k => ?_) (rright_l0 hu hn hU hV hf hf2 ha L C lo hi m (i + 1) (by omega))
      simp only [spileref30_right.l0]
      rw [if_pos (by rw [tab_len]; omega), if_pos (by omega), if_pos (by omega), tab_rd (by omega), if_neg (by omega), if_pos (by omega), hu.w hn (by omega), inc30 (n := low.length) (by omega) (by omega)]
    · rw [decide_eq_false c, Bool.false_and]
      refine Ev.ret (fun k => ?_)
      simp only [spileref30_right.l0]
      rw [if_pos (by rw [tab_len]; omega), if_pos (by omega), if_pos (by omega), tab_rd (by omega), if_pos (by omega)]
end
theorem rformed_l0 {U : List Int} (h : U.length ≤ 1000000) (f1 f2 f3 : Int) : ∀ (m i : Nat), i + m = U.length → (∀ j : Nat, j < i → 0 ≤ rd U (j : Int) ∧ rd U (j : Int) ≤ 1125899906842624) →
    Ev (fun k => spileref30_formed.l0 k (i : Int) U f1 f2 f3) (formB U f1 f2 f3)
  | 0, i, hi_, hd => Ev.ret (fun k => by
    simp only [spileref30_formed.l0]
    rw [if_neg (by omega)]
    by_cases c : (0 ≤ f1 ∧ f1 ≤ 1) ∧ (0 ≤ f2 ∧ f2 ≤ 1) ∧ f1 + f2 < 2 ∧ 0 ≤ f3 ∧ f3 ≤ 1125899906842624
    · rw [(formB_iff U f1 f2 f3).2 ⟨fun j hj => hd j (by omega), c.1, c.2.1, c.2.2.1, c.2.2.2⟩, if_pos (by omega), if_pos (by omega), w64_ (by omega) (by omega), if_pos (by omega), if_pos (by omega), if_pos (by omega), if_pos (by omega), decide_eq_true (by omega)]
    · have e : formB U f1 f2 f3 = false := by
        cases z : formB U f1 f2 f3
        · rfl
        · have z2 := (formB_iff U f1 f2 f3).1 z
          exact absurd ⟨z2.hf1, z2.hf2, z2.s, z2.hf3⟩ c
      rw [e]
      by_cases a1 : f1 ≥ 0
      case neg => rw [if_neg a1]
      rw [if_pos a1]
      by_cases a2 : f2 ≥ 0
      case neg => rw [if_neg a2]
      rw [if_pos a2]
      by_cases a3 : wrap64 (f1 + f2) ≤ 1
      case neg => rw [if_neg a3]
      rw [if_pos a3]
      by_cases a4 : f1 ≤ 1
      case neg => rw [if_neg a4]
      rw [if_pos a4]
      by_cases a5 : f2 ≤ 1
      case neg => rw [if_neg a5]
      rw [if_pos a5]
      rw [w64_ (by omega) (by omega)] at a3
      by_cases a6 : f3 ≥ 0
      case neg => rw [if_neg a6]
      rw [if_pos a6, decide_eq_false (by omega)])
  | m + 1, i, hi_, hd => by
    by_cases c : 0 ≤ rd U (i : Int) ∧ rd U (i : Int) ≤ 1125899906842624
    · refine Ev.step (fun k => ?_) (rformed_l0 h f1 f2 f3 m (i + 1) (by omega) (fun j hj => by
        rcases Nat.lt_or_ge j i with hh | hh
        · exact hd j hh
        · obtain rfl : j = i := by omega
          exact c))
      simp only [spileref30_formed.l0]
      rw [if_pos (by omega), if_pos (by omega), if_neg (by omega), if_neg (by omega), inc30 (n := U.length) (by omega) (by omega)]
    · have e : formB U f1 f2 f3 = false := by
        cases z : formB U f1 f2 f3
        · rfl
        · exact absurd (((formB_iff U f1 f2 f3).1 z).u i (by omega)) c
      rw [e]
      refine Ev.ret (fun k => ?_)
      simp only [spileref30_formed.l0]
      rw [if_pos (by omega), if_pos (by omega)]
      by_cases a : rd U (i : Int) < 0
      · rw [if_pos a]
      · rw [if_neg a, if_pos (by omega)]
theorem rformed_ev {U : List Int} (h : U.length ≤ 1000000) (f1 f2 f3 : Int) : Ev (fun k => spileref30_formed.f k U f1 f2 f3) (formB U f1 f2 f3) := rformed_l0 h f1 f2 f3 U.length 0 (by omega) (fun j hj => absurd hj (Nat.not_lt_zero _))
section
variable {l : List S82} {L : List S45} {V C U : List Int} {lo hi al f1 f2 f3 : Int}
theorem rright_ev (h : OrdOK l L V C lo hi al) (hf : FrmOK U f1 f2 f3) (hU : U.length = L.length) : Ev (fun k => spileref30_right.f k l L V C lo hi al U f1 f2 f3) (rigB l L V lo hi al U f1 f2 f3) := by
  have e1 : (exLow l L lo).length = L.length := overS_len _ _ _
  have h4 := h.n4
  have h0 := h.n0
  unfold spileref30_right.f
  refine Ev.bind (rexcess_ev h) ?_
  have e2 : (((exHigh l L hi).length : Int) == 0) = decide (hi = 10000) := by
    rw [exHigh_len]
    by_cases c : hi = 10000
    · rw [if_pos c, decide_eq_true c]; rfl
    · rw [if_neg c, decide_eq_false c]; exact beq_eq_false_iff_ne.2 (by omega)
  simp only [e2]
  unfold rigB
  by_cases c : f2 = 1 ∧ hi = 10000
  · simp only [if_pos c.1, decide_eq_true c, Bool.not_true, Bool.false_and, decide_eq_true c.2]
    exact Ev.ret (fun k => by simp only [spileref30_right.j0, if_true])
  · have hf3 := hf.hf3
    have hl := h.lstok hf.b1 hf.b2 (f3 := f3) (by omega) c
    have hE : Ev (fun k => spileref30_right.j0 k (exLow l L lo) (exHigh l L hi) false L V C lo hi al U f1 f2 f3) (rgtB (exLow l L lo) (exHigh l L hi) U V f1 f2 f3 al L.length 0) := by
      refine Ev.step (G := fun k => (spileref30_need.f k (exLow l L lo) (exHigh l L hi) U f1 f2 f3).bind fun t297 => (spileref30_right.l0 k t297 0 0 L V C lo hi al U f1 f2 f3)) (fun k => by simp only [spileref30_right.j0, Bool.false_eq_true, if_false]) ?_
      refine Ev.bind (need_ev hl U) ?_
      have hr := rright_l0 (low := exLow l L lo) (high := exHigh l L hi) (f1 := f1) (by rw [e1]; exact h.unt hf hU) (by rw [e1]; exact h4) (by rw [e1]; exact hU) (by rw [e1]; exact h.lu) hf.hf3 hf.b2 ⟨h.al1, h.al2⟩ L C lo hi L.length 0 (by rw [e1]; omega)
      rw [e1] at hr
      simp only [e1]
      exact hr
    rw [decide_eq_false c, Bool.not_false, Bool.true_and]
    by_cases c2 : f2 = 1
    · simp only [if_pos c2, decide_eq_false (fun z => c ⟨c2, z⟩)]
      exact hE
    · simp only [if_neg c2]
      exact hE
theorem Check_ev (l : List S82) (L : List S45) (V C : List Int) (lo hi al : Int) {U : List Int} (hU : U.length ≤ 1000000) (f1 f2 f3 : Int) :
    ∃ e, Ev (fun k => refusal_Check.f k l L V C lo hi al U f1 f2 f3) e ∧ Ev (fun k => spileref30_Check.f k l L V C lo hi al U f1 f2 f3) e ∧ (e = 0 ↔ RgtOK l L V C lo hi al U f1 f2 f3) := by
  obtain ⟨e, he, hiff⟩ := ref29_ev l L V C lo hi al
  by_cases h : OrdOK l L V C lo hi al
  case neg =>
    refine ⟨1, Ev.now (fun k => ?_), ?_, ⟨fun z => absurd z (by decide), fun z => absurd z.o h⟩⟩
    · unfold refusal_Check.f
      rw [Excess_no h, Option.bind_some, if_neg (by decide)]
    · unfold spileref30_Check.f
      refine Ev.bind he ?_
      simp only [if_neg (fun z => h (hiff.1 z))]
      exact Ev.now fun _ => rfl
  obtain rfl := hiff.2 h
  have hP : ∀ {e : Int}, Ev (fun k => if (U.length : Int) = (L.length : Int) then ((refusal_formed.f U f1 f2 f3).bind fun t195 => (if t195 = true then ((refusal_right.f k L V C lo hi al (exLow l L lo) (exHigh l L hi) U f1 f2 f3).bind fun t196 => (if t196 = true then (some (0 : Int)) else (some 14))) else (some 2))) else (some 10)) e → Ev (fun k => refusal_Check.f k l L V C lo hi al U f1 f2 f3) e := fun hE => by
    unfold refusal_Check.f
    exact Ev.bind (Excess_ev h) (by simpa only [if_true] using hE)
  have hR : ∀ {e : Int}, Ev (fun k => if (U.length : Int) = (L.length : Int) then ((spileref30_formed.f k U f1 f2 f3).bind fun t362 => (if t362 = true then ((spileref30_right.f k l L V C lo hi al U f1 f2 f3).bind fun t363 => (if t363 = true then (some (0 : Int)) else (some 14))) else (some 2))) else (some 10)) e → Ev (fun k => spileref30_Check.f k l L V C lo hi al U f1 f2 f3) e := fun hE => by
    unfold spileref30_Check.f
    exact Ev.bind he (by simpa only [if_true] using hE)
  by_cases c : U.length = L.length
  case neg => exact ⟨10, hP (Ev.now fun k => by rw [if_neg (by omega)]), hR (Ev.now fun k => by rw [if_neg (by omega)]), ⟨fun z => absurd z (by decide), fun z => absurd z.n c⟩⟩
  have c' : ((U.length : Int) = (L.length : Int)) = True := eq_true (by omega)
  cases hf : formB U f1 f2 f3
  case false =>
    refine ⟨2, hP ?_, hR ?_, ⟨fun z => absurd z (by decide), fun z => by have := (formB_iff U f1 f2 f3).2 z.f; rw [hf] at this; cases this⟩⟩
    · simp only [c', if_true, formed_plain hU, hf]
      exact Ev.now fun _ => rfl
    · simp only [c', if_true]
      have := rformed_ev hU f1 f2 f3
      rw [hf] at this
      exact Ev.bind this (Ev.now fun _ => rfl)
  have hF := (formB_iff U f1 f2 f3).1 hf
  refine ⟨if rigB l L V lo hi al U f1 f2 f3 = true then 0 else 14, hP ?_, hR ?_, ?_⟩
  · simp only [c', if_true, formed_plain hU, hf, Option.bind_some]
    exact Ev.bind (right_ev h hF c) (Ev.now fun _ => by split <;> rfl)
  · simp only [c', if_true]
    have := rformed_ev hU f1 f2 f3
    rw [hf] at this
    refine Ev.bind this ?_
    simp only [if_true]
    exact Ev.bind (rright_ev h hF c) (Ev.now fun _ => by split <;> rfl)
  · split
    · rename_i hr
      exact ⟨fun _ => ⟨h, c, hF, hr⟩, fun _ => rfl⟩
    · rename_i hr
      exact ⟨fun z => absurd z (by decide), fun z => absurd z.r hr⟩
end
end Go.Proofs.YtcdkbciagchlgaaDoor.PF
