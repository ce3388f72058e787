/- What the functions of package audit and of its reference return, in plain numbers: clashes and the least tolerance. -/
import Derived.Test.YtcapbigknimgnaaMAud
import Derived.Test.YtcapbigknimgnaaMEv
import Derived.Test.YtcapbigknimgnaaPF0
import Derived.Test.YtcapbigknimgnaaPF1
import Derived.Test.YtcapbigknimgnaaPF11
import Derived.Test.YtcapbigknimgnaaPF12
import Derived.Test.YtcapbigknimgnaaPF13
import Derived.Test.YtcapbigknimgnaaPF4
import Derived.Test.YtcapbigknimgnaaPF5
import Derived.Test.YtcapbigknimgnaaPF6
namespace Go.Proofs.Ytcapbigknimgnaa.PF
open Go.RowKit Go.Proofs.YtcapbigknimgnaaW.PrintWords Go.Proofs.YtcapbigknimgnaaW.PrintLast Go.Proofs.YtcapbigknimgnaaW.PrintMore
set_option linter.unusedVariables false
set_option linter.unusedSimpArgs false
def bey (l : List S44) (i j : Nat) : Int :=
  if (rd_T44 l (i : Int)).f0 = (rd_T44 l (j : Int)).f0 then mx ((rd_T44 l (j : Int)).f1 - (rd_T44 l (i : Int)).f1) ((rd_T44 l (i : Int)).f1 - (rd_T44 l (j : Int)).f1)
  else mx ((rd_T44 l (j : Int)).f1 - (rd_T44 l (i : Int)).f1) 0
theorem RightR.bey_rng {l : List S44} (h : RightR l) {i j : Nat} (hi : i < l.length) (hj : j < l.length) : 0 ≤ bey l i j ∧ bey l i j ≤ 70000 := by
  have h1 := h.row i hi
  have h2 := h.row j hj
  unfold bey mx
  split <;> split <;> omega
theorem RightR.beyond {l : List S44} (h : RightR l) {i j : Nat} (hi : i < l.length) (hj : j < l.length) :
    audit_beyond.f (rd_T44 l (i : Int)).f0 (rd_T44 l (i : Int)).f1 (rd_T44 l (j : Int)).f0 (rd_T44 l (j : Int)).f1 = some (bey l i j) := by
  have h1 := h.row i hi
  have h2 := h.row j hj
  unfold audit_beyond.f bey
  rw [w64_ (x := (rd_T44 l (j : Int)).f1 - (rd_T44 l (i : Int)).f1) (by omega) (by omega), w64_ (x := -((rd_T44 l (j : Int)).f1 - (rd_T44 l (i : Int)).f1)) (by omega) (by omega), Int.neg_sub]
  split <;> rfl
theorem RightR.clash {l : List S44} (h : RightR l) {i j : Nat} (hi : i < l.length) (hj : j < l.length) :
    ∃ c, spileref17_clash.f (rd_T44 l (i : Int)).f0 (rd_T44 l (i : Int)).f1 (rd_T44 l (j : Int)).f0 (rd_T44 l (j : Int)).f1 = some c ∧ mx c 0 = bey l i j := by
  have h1 := h.row i hi
  have h2 := h.row j hj
  unfold spileref17_clash.f bey
  rw [w64_ (x := (rd_T44 l (j : Int)).f1 - (rd_T44 l (i : Int)).f1) (by omega) (by omega), w64_ (x := -((rd_T44 l (j : Int)).f1 - (rd_T44 l (i : Int)).f1)) (by omega) (by omega)]
  unfold mx
  split
  · split
    · exact ⟨_, rfl, by split <;> split <;> omega⟩
    · exact ⟨_, rfl, by split <;> split <;> omega⟩
  · exact ⟨_, rfl, rfl⟩
def clF (l : List S44) (t : Int) (acc : List S33) (p : Nat × Nat) : List S33 := if bey l p.1 p.2 > t then acc ++ [(⟨(p.1 : Int), (p.2 : Int)⟩ : S33)] else acc
/-- The pairs that contradict each other by more than a tolerance. -/
def clS (l : List S44) (t : Int) : List S33 × Int := if (rchk l).2 ≠ 0 then ([], 1) else if t < 0 ∨ 120000 < t then ([], 2) else ((allP l.length 0).foldl (clF l t) [], 0)
theorem audit_Clashes.ev (l : List S44) (t : Int) : Ev (fun k => audit_Clashes.f k l t) (clS l t) := by
  unfold audit_Clashes.f clS
  refine Ev.bind (audit_right.ev l) ?_
  by_cases hr : (rchk l).2 = 0
  · have h := (rchk_iff l).1 hr
    have hn := h.hi
    rw [if_neg (not_not_intro hr), hr]
    simp only [beq_self_eq_true, if_true]
    by_cases h1 : t < 0
    · rw [if_pos (Or.inl h1)]
      exact Ev.now (fun k => by rw [if_pos h1])
    by_cases h2 : t > 120000
    · rw [if_pos (Or.inr h2)]
      exact Ev.now (fun k => by rw [if_neg h1, if_pos h2])
    rw [if_neg (by omega)]
    refine Ev.same (G := fun k => audit_Clashes.l0 k l t [] (l.length : Int) ((0 : Nat) : Int)) (fun k => by rw [if_neg h1, if_neg h2]; rfl) ?_
    refine pairLoop l.length (clF l t) (fun acc m => acc.length + m ≤ 20000) (fun acc => (acc, 0)) (fun k acc i => audit_Clashes.l0 k l t acc (l.length : Int) (i : Int)) (fun k acc i j => audit_Clashes.l1 k l t acc (i : Int) (j : Int) (l.length : Int) (i : Int)) ?_ ?_ ?_ ?_ ?_ [] ?_
    · intro k a i hi
      simp only [audit_Clashes.l0]
      rw [if_pos (by omega), w64_ (by omega) (by omega)]
      rfl
    · intro k a
      simp only [audit_Clashes.l0]
      rw [if_neg (by omega)]
    · intro k a i j m hij hj hI
      simp only [audit_Clashes.l1]
      rw [if_pos (by omega), if_pos (by omega), if_pos (by omega), if_pos (by omega), h.beyond (by omega) hj]
      simp only [Option.bind_some]
      rw [w64_ (by omega) (by omega)]
      unfold clF
      by_cases hb : bey l i j > t
      · rw [if_pos hb, if_pos (by omega), if_pos hb]; rfl
      · rw [if_neg hb, if_neg hb]; rfl
    · intro a i j m hI
      unfold clF
      split
      · rw [List.length_append, List.length_singleton]; omega
      · omega
    · intro k a i hi
      simp only [audit_Clashes.l1]
      rw [if_neg (by omega), w64_ (by omega) (by omega)]
      rfl
    · have := allP_length l.length l.length 0 (by omega)
      have h3 := Nat.mul_le_mul hn hn
      simp only [List.length_nil]
      omega
  · rw [if_pos hr]
    have e : ((rchk l).2 == 0) = false := beq_eq_false_iff_ne.mpr hr
    rw [e]
    exact Ev.now (fun k => rfl)
theorem spileref17_Clashes.ev (l : List S44) (t : Int) : Ev (fun k => spileref17_Clashes.f k l t) (clS l t) := by
  unfold spileref17_Clashes.f clS
  refine Ev.bind (spileref17_right.ev l) ?_
  by_cases hr : (rchk l).2 = 0
  · have h := (rchk_iff l).1 hr
    have hn := h.hi
    rw [if_neg (not_not_intro hr), hr]
    simp only [beq_self_eq_true, if_true]
    by_cases h1 : t < 0
    · rw [if_pos (Or.inl h1)]
      refine Ev.ret (fun k => ?_)
      rw [if_pos h1]
      simp only [spileref17_Clashes.j0, if_true]
    by_cases h2 : t > 120000
    · rw [if_pos (Or.inr h2)]
      refine Ev.ret (fun k => ?_)
      rw [if_neg h1, decide_eq_true h2]
      simp only [spileref17_Clashes.j0, if_true]
    rw [if_neg (by omega)]
    refine Ev.step (G := fun k => spileref17_Clashes.l0 k l t [] ((0 : Nat) : Int)) (fun k => by rw [if_neg h1, decide_eq_false h2]; simp only [spileref17_Clashes.j0, Bool.false_eq_true, if_false]; rfl) ?_
    refine pairLoop l.length (clF l t) (fun acc m => acc.length + m ≤ 20000) (fun acc => (acc, 0)) (fun k acc i => spileref17_Clashes.l0 k l t acc (i : Int)) (fun k acc i j => spileref17_Clashes.l1 k l t acc (i : Int) (j : Int)) ?_ ?_ ?_ ?_ ?_ [] ?_
    · intro k a i hi
      simp only [spileref17_Clashes.l0]
      rw [if_pos (by omega), w64_ (by omega) (by omega)]
      rfl
    · intro k a
      simp only [spileref17_Clashes.l0]
      rw [if_neg (by omega)]
    · intro k a i j m hij hj hI
      obtain ⟨c, hc, hm⟩ := h.clash (show i < l.length by omega) hj
      simp only [spileref17_Clashes.l1]
      rw [if_pos (by omega), if_pos (by omega), if_pos (by omega), if_pos (by omega), hc]
      simp only [Option.bind_some]
      rw [w64_ (by omega) (by omega)]
      unfold clF
      have hx : c > t ↔ bey l i j > t := by rw [← hm]; unfold mx; split <;> omega
      by_cases hb : bey l i j > t
      · rw [if_pos (hx.2 hb), if_pos (by omega), if_pos hb]; rfl
      · rw [if_neg (fun e => hb (hx.1 e)), if_neg hb]; rfl
    · intro a i j m hI
      unfold clF
      split
      · rw [List.length_append, List.length_singleton]; omega
      · omega
    · intro k a i hi
      simp only [spileref17_Clashes.l1]
      rw [if_neg (by omega), w64_ (by omega) (by omega)]
      rfl
    · have := allP_length l.length l.length 0 (by omega)
      have h3 := Nat.mul_le_mul hn hn
      simp only [List.length_nil]
      omega
  · rw [if_pos hr]
    have e : ((rchk l).2 == 0) = false := beq_eq_false_iff_ne.mpr hr
    rw [e]
    exact Ev.now (fun k => rfl)
def leF (l : List S44) (acc : Int) (p : Nat × Nat) : Int := mx acc (bey l p.1 p.2)
def leT (l : List S44) : Int := (allP l.length 0).foldl (leF l) 0
def leS (l : List S44) : Int × Int := if (rchk l).2 ≠ 0 then (0, 1) else (leT l, 0)
theorem rd_drop_ (l : List S44) (a b : Nat) : rd_T44 (l.drop a) (b : Int) = rd_T44 l ((a + b : Nat) : Int) := by
  unfold rd_T44
  rw [Int.toNat_natCast, Int.toNat_natCast, List.getD_eq_getElem?_getD, List.getD_eq_getElem?_getD, List.getElem?_drop]
theorem audit_Least.ev (l : List S44) : Ev (fun k => audit_Least.f k l) (leS l) := by
  unfold audit_Least.f leS
  refine Ev.bind (audit_right.ev l) ?_
  by_cases hr : (rchk l).2 = 0
  · have h := (rchk_iff l).1 hr
    have hn := h.hi
    rw [if_neg (not_not_intro hr), hr]
    simp only [beq_self_eq_true, if_true]
    unfold leT
    refine pairLoop l.length (leF l) (fun _ _ => True) (fun acc => (acc, 0)) (fun k acc i => audit_Least.l0 k l acc (l.length : Int) (i : Int)) (fun k acc i j => audit_Least.l1 k l acc (i : Int) (l.length : Int) (i : Int) (l.drop (i + 1)) ((l.drop (i + 1)).length : Int) ((j : Int) - (i : Int) - 1)) ?_ ?_ ?_ ?_ ?_ 0 trivial
    · intro k a i hi
      simp only [audit_Least.l0]
      rw [if_pos (by omega), w64_ (x := (i : Int) + 1) (by omega) (by omega), if_pos (by omega), if_pos (by omega)]
      simp only [Option.bind_some]
      rw [show ((i : Int) + 1).toNat = i + 1 by omega, show ((i + 1 : Nat) : Int) - (i : Int) - 1 = 0 by omega]
    · intro k a
      simp only [audit_Least.l0]
      rw [if_neg (by omega)]
    · intro k a i j m hij hj _
      simp only [audit_Least.l1]
      have hd : ((l.drop (i + 1)).length : Int) = (l.length : Int) - i - 1 := by rw [List.length_drop]; omega
      have hrd : rd_T44 (l.drop (i + 1)) ((j : Int) - (i : Int) - 1) = rd_T44 l (j : Int) := by
        rw [show (j : Int) - (i : Int) - 1 = ((j - i - 1 : Nat) : Int) by omega, rd_drop_, show i + 1 + (j - i - 1) = j by omega]
      rw [if_pos (by omega), if_pos (by omega), if_pos (by omega), if_pos (by omega), if_pos (by omega), hrd, h.beyond (by omega) hj]
      simp only [Option.bind_some]
      rw [w64_ (by omega) (by omega), show (j : Int) - (i : Int) - 1 + 1 = ((j + 1 : Nat) : Int) - (i : Int) - 1 by omega]
      rfl
    · intro _ _ _ _ _; trivial
    · intro k a i hi
      simp only [audit_Least.l1]
      have hd : ((l.drop (i + 1)).length : Int) = (l.length : Int) - i - 1 := by rw [List.length_drop]; omega
      rw [if_neg (by omega), w64_ (by omega) (by omega)]
      rfl
  · rw [if_pos hr]
    have e : ((rchk l).2 == 0) = false := beq_eq_false_iff_ne.mpr hr
    rw [e]
    exact Ev.now (fun k => rfl)
theorem spileref17_Least.ev (l : List S44) : Ev (fun k => spileref17_Least.f k l) (leS l) := by
  unfold spileref17_Least.f leS
  refine Ev.bind (spileref17_right.ev l) ?_
  by_cases hr : (rchk l).2 = 0
  · have h := (rchk_iff l).1 hr
    have hn := h.hi
    rw [if_neg (not_not_intro hr), hr]
    simp only [beq_self_eq_true, if_true]
    unfold leT
    refine pairLoop l.length (leF l) (fun acc _ => 0 ≤ acc) (fun acc => (acc, 0)) (fun k acc i => spileref17_Least.l0 k l acc (i : Int)) (fun k acc i j => spileref17_Least.l1 k l acc (i : Int) (j : Int)) ?_ ?_ ?_ ?_ ?_ 0 (Int.le_refl _)
    · intro k a i hi
      simp only [spileref17_Least.l0]
      rw [if_pos (by omega), w64_ (by omega) (by omega)]
      rfl
    · intro k a
      simp only [spileref17_Least.l0]
      rw [if_neg (by omega)]
    · intro k a i j m hij hj hI
      obtain ⟨c, hc, hm⟩ := h.clash (show i < l.length by omega) hj
      simp only [spileref17_Least.l1]
      rw [if_pos (by omega), if_pos (by omega), if_pos (by omega), if_pos (by omega), hc]
      simp only [Option.bind_some]
      rw [w64_ (by omega) (by omega)]
      have e : mx a c = leF l a (i, j) := by
        unfold leF
        rw [← hm]
        unfold mx
        split <;> split <;> (try split) <;> omega
      rw [e]
      rfl
    · intro a i j m hI
      unfold leF mx
      split <;> omega
    · intro k a i hi
      simp only [spileref17_Least.l1]
      rw [if_neg (by omega), w64_ (by omega) (by omega)]
      rfl
  · rw [if_pos hr]
    have e : ((rchk l).2 == 0) = false := beq_eq_false_iff_ne.mpr hr
    rw [e]
    exact Ev.now (fun k => rfl)

end Go.Proofs.Ytcapbigknimgnaa.PF
