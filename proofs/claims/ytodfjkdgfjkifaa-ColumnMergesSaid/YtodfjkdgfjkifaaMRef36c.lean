/- The reference's Merge returns what column.Merge returns. -/
import Derived.Test.YtodfjkdgfjkifaaMBal36
import Derived.Test.YtodfjkdgfjkifaaMCnt36
import Derived.Test.YtodfjkdgfjkifaaMCol36
import Derived.Test.YtodfjkdgfjkifaaMEv
import Derived.Test.YtodfjkdgfjkifaaMMrg36
import Derived.Test.YtodfjkdgfjkifaaMRef36
import Derived.Test.YtodfjkdgfjkifaaMRef36b
import Derived.Test.YtodfjkdgfjkifaaPF0
import Derived.Test.YtodfjkdgfjkifaaPF1
import Derived.Test.YtodfjkdgfjkifaaPF6
namespace Go.Proofs.Ytodfjkdgfjkifaa.PF
open Go.RowKit Go.Proofs.YtodfjkdgfjkifaaW.PrintWords Go.Proofs.YtodfjkdgfjkifaaW.PrintLast Go.Proofs.YtodfjkdgfjkifaaW.PrintMore
set_option linter.unusedVariables false
set_option linter.unusedSimpArgs false
theorem refmg.go {p q : Int} {l : List S28} (h : RightC p l) (hq : 1 ≤ q ∧ q < p) (P : Int) : ∀ d i : Nat, i + d = l.length →
    Ev (fun k => spileref36_Merge.l0 k q (i : Int) p l P (mgO q (l.take i))) (if bgS (mgO q l) = true then (0, [], 15) else (P, mgO q l, 0)) := by
  have hlen := h.2.2.1
  intro d
  induction d with
  | zero =>
    intro i hi
    rw [List.take_of_length_le (by omega)]
    have hinv := (mgO_inv q l h.ok).1
    obtain ⟨i1, i2⟩ := refmg.last P (mgO q l) (by omega) (mgO q l).length 0 (by omega)
    refine Ev.step (G := fun k => spileref36_Merge.l2 k 0 P (mgO q l)) (fun k => ?_) ?_
    · simp only [spileref36_Merge.l0]
      rw [if_neg (by omega)]
    · by_cases hb : bgS (mgO q l) = true
      · rw [if_pos hb]; exact i1 ((bgS_iff _).1 hb)
      · rw [if_neg hb]; exact i2 (fun hh => hb ((bgS_iff _).2 hh))
  | succ d ih =>
    intro i hi
    have hil : i < l.length := by omega
    have hI := ih (i + 1) (by omega)
    have hsn : mgO q (l.take (i + 1)) = mgS (mgO q (l.take i)) (mgF q (rd_T28 l (i : Int))) := by
      rw [← mgO_snoc, List.take_succ_eq_append_getElem hil]
      unfold rd_T28
      rw [Int.toNat_natCast, List.getD_eq_getElem?_getD, List.getElem?_eq_getElem hil]
      rfl
    have hy := (h.2.2.2.1 _ (rd_mem hil)).1
    have hinv := mgO_inv q (l.take i) (fun f hf => h.ok f (List.mem_of_mem_take hf))
    rw [List.length_take, Nat.min_eq_left (by omega)] at hinv
    have hnd := (mgO_nodup q (l.take i)).1
    rw [hsn] at hI
    generalize mgO q (l.take i) = out at *
    have w1 : wrap64 ((i : Int) + 1) = ((i + 1 : Nat) : Int) := by rw [w64_ (by omega) (by omega)]; rfl
    generalize hf : rd_T28 l (i : Int) = f at *
    obtain ⟨y0, y1, y2, y3⟩ := f
    unfold FlowOK at hy
    simp only at hy
    have hm : mgF q ⟨y0, y1, y2, y3⟩ = ⟨mgN q y0, mgN q y1, y2, y3⟩ := rfl
    rw [hm] at hI
    refine Ev.step (G := fun k => spileref36_Merge.j2 k q (i : Int) p l P out (mgN q y0) y1 y2 y3) (fun k => ?_) ?_
    · simp only [spileref36_Merge.l0]
      rw [if_pos (by omega), if_pos (by omega), hf]
      simp only
      unfold mgN
      by_cases c : y0 > q
      · rw [if_pos c, if_pos c, w64_ (by omega) (by omega)]
      · rw [if_neg c, if_neg c]
    refine Ev.step (G := fun k => spileref36_Merge.j3 k q (i : Int) p l P out (mgN q y0) (mgN q y1) y2 y3) (fun k => ?_) ?_
    · simp only [spileref36_Merge.j2]
      by_cases c : y1 > q
      · rw [if_pos c, show mgN q y1 = y1 - 1 by unfold mgN; rw [if_pos c], w64_ (by omega) (by omega)]
      · rw [if_neg c, show mgN q y1 = y1 by unfold mgN; rw [if_neg c]]
    by_cases c : mgN q y0 = mgN q y1
    · refine Ev.step (G := fun k => spileref36_Merge.l0 k q ((i + 1 : Nat) : Int) p l P out) (fun k => ?_) ?_
      · simp only [spileref36_Merge.j3]
        rw [if_pos c, w1]
      · have : mgS out ⟨mgN q y0, mgN q y1, y2, y3⟩ = out := by unfold mgS; rw [if_pos c]
        rw [this] at hI
        exact hI
    · refine Ev.step (G := fun k => spileref36_Merge.l1 k q (i : Int) false ((0 : Nat) : Int) p l P out (mgN q y0) (mgN q y1) y2 y3) (fun k => ?_) ?_
      · simp only [spileref36_Merge.j3]
        rw [if_neg c]
        rfl
      · have hmul1 : (i : Int) * 10737418240000 ≤ 687194767360000 := by omega
        have hmul2 : (i : Int) * 128849018880000 ≤ 8246337208320000 := by omega
        refine refmg.find (by have := hinv.1; omega) hnd (fun g hg => ?_) c (by rw [w1]; exact hI) out.length 0 (by omega) (fun j' hj => by omega)
        have := hinv.2 g hg
        exact ⟨w64_ (by omega) (by omega), w64_ (by omega) (by omega)⟩
theorem refMerge.ev (p : Int) (l : List S28) (q : Int) : Ev (fun k => spileref36_Merge.f k p l q) (mgR p l q) := by
  unfold spileref36_Merge.f mgR
  refine Ev.bind (refright.ev p l) ?_
  cases hb : rt36 p l
  · exact Ev.now (fun k => rfl)
  have RC := rt36_iff.1 hb
  have hp := RC.2.1
  have hp1 := RC.1
  simp only [if_true]
  by_cases h1 : q < 1
  · rw [if_pos (.inl h1)]
    exact Ev.ret (fun k => by rw [if_pos h1]; simp only [spileref36_Merge.j0, if_true])
  by_cases h2 : p ≤ q
  · rw [if_pos (.inr h2)]
    exact Ev.ret (fun k => by rw [if_neg h1, decide_eq_true h2]; simp only [spileref36_Merge.j0, if_true])
  rw [if_neg (by omega)]
  refine Ev.step (G := fun k => spileref36_Merge.l0 k q ((0 : Nat) : Int) p l (p - 1) (mgO q (l.take 0))) (fun k => ?_) (refmg.go RC (by omega) (p - 1) l.length 0 (by omega))
  rw [if_neg h1, decide_eq_false (show ¬ q ≥ p from h2)]
  simp only [spileref36_Merge.j0, Bool.false_eq_true, if_false]
  rw [w64_ (by omega) (by omega)]
  rfl

end Go.Proofs.Ytodfjkdgfjkifaa.PF
