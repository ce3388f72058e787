/- What the functions of package audit and of its reference return, in plain numbers: right rows. -/
import Derived.Test.YtcapbigknimgnaaMEv
import Derived.Test.YtcapbigknimgnaaPF0
import Derived.Test.YtcapbigknimgnaaPF1
import Derived.Test.YtcapbigknimgnaaPF11
import Derived.Test.YtcapbigknimgnaaPF4
namespace Go.Proofs.Ytcapbigknimgnaa.PF
open Go.RowKit Go.Proofs.YtcapbigknimgnaaW.PrintWords Go.Proofs.YtcapbigknimgnaaW.PrintLast Go.Proofs.YtcapbigknimgnaaW.PrintMore
set_option linter.unusedVariables false
set_option linter.unusedSimpArgs false
/-! ### Rows -/
def rowBad (l : List S44) (i : Nat) : Bool := decide ((rd_T44 l (i : Int)).f0 < 0 ∨ 10000 < (rd_T44 l (i : Int)).f0 ∨ (rd_T44 l (i : Int)).f1 < 50000 ∨ 120000 < (rd_T44 l (i : Int)).f1)
def rowGo (l : List S44) : Nat → Nat → Int × Int
  | 0, _ => (-1, 0)
  | d + 1, i => if rowBad l i = true then ((i : Int), 2) else if 0 < i ∧ (rd_T44 l (i : Int)).f0 < (rd_T44 l ((i : Int) - 1)).f0 then ((i : Int), 5) else rowGo l d (i + 1)
def rchk (l : List S44) : Int × Int := if 128 < l.length then (-1, 8) else if l.length = 0 then (-1, 9) else rowGo l l.length 0
structure RightR (l : List S44) : Prop where
  lo : 0 < l.length
  hi : l.length ≤ 128
  row : ∀ i : Nat, i < l.length → 0 ≤ (rd_T44 l (i : Int)).f0 ∧ (rd_T44 l (i : Int)).f0 ≤ 10000 ∧ 50000 ≤ (rd_T44 l (i : Int)).f1 ∧ (rd_T44 l (i : Int)).f1 ≤ 120000
  inc : ∀ i : Nat, i + 1 < l.length → (rd_T44 l (i : Int)).f0 ≤ (rd_T44 l ((i + 1 : Nat) : Int)).f0
theorem rowGo_iff (l : List S44) (d : Nat) : ∀ i, i + d = l.length → ((rowGo l d i).2 = 0 ↔ ∀ j, i ≤ j → j < l.length → rowBad l j = false ∧ (0 < j → (rd_T44 l ((j : Int) - 1)).f0 ≤ (rd_T44 l (j : Int)).f0)) := by
  induction d with
  | zero => exact fun i hi => ⟨fun _ j h1 h2 => by omega, fun _ => rfl⟩
  | succ d ih =>
    intro i hi
    simp only [rowGo]
    rcases hb : rowBad l i with _ | _
    · rw [if_neg (by simp)]
      by_cases hc : 0 < i ∧ (rd_T44 l (i : Int)).f0 < (rd_T44 l ((i : Int) - 1)).f0
      · rw [if_pos hc]
        refine ⟨fun h => absurd h (by simp), fun h => ?_⟩
        have := (h i (Nat.le_refl _) (by omega)).2 hc.1
        omega
      · rw [if_neg hc, ih (i + 1) (by omega)]
        refine ⟨fun h j h1 h2 => ?_, fun h j h1 h2 => h j (by omega) h2⟩
        rcases Nat.eq_or_lt_of_le h1 with rfl | h3
        · exact ⟨hb, fun h4 => by omega⟩
        · exact h j h3 h2
    · rw [if_pos rfl]
      refine ⟨fun h => absurd h (by simp), fun h => ?_⟩
      have := (h i (Nat.le_refl _) (by omega)).1
      rw [hb] at this
      exact absurd this (by simp)
theorem rchk_iff (l : List S44) : (rchk l).2 = 0 ↔ RightR l := by
  unfold rchk
  by_cases h1 : 128 < l.length
  · rw [if_pos h1]
    exact ⟨fun h => absurd h (by decide), fun h => absurd h.hi (by omega)⟩
  rw [if_neg h1]
  by_cases h2 : l.length = 0
  · rw [if_pos h2]
    exact ⟨fun h => absurd h (by decide), fun h => absurd h.lo (by omega)⟩
  rw [if_neg h2, rowGo_iff l l.length 0 (by omega)]
  unfold rowBad
  refine ⟨fun h => ⟨by omega, by omega, fun i hi => ?_, fun i hi => ?_⟩, fun h j _ hj => ⟨decide_eq_false (by have := h.row j hj; omega), fun h0 => ?_⟩⟩
  · have := of_decide_eq_false (h i (by omega) hi).1
    omega
  · have := (h (i + 1) (by omega) hi).2 (by omega)
    rw [show (((i + 1 : Nat) : Int) - 1) = (i : Int) by omega] at this
    exact this
  · have := h.inc (j - 1) (by omega)
    rw [show (((j - 1 : Nat) : Int)) = (j : Int) - 1 by omega, show (((j - 1 + 1 : Nat) : Int)) = (j : Int) by omega] at this
    exact this
theorem audit_Check.go (l : List S44) (hl : l.length ≤ 128) (d : Nat) : ∀ i : Nat, i + d = l.length → Ev (fun k => audit_Check.l0 k l l (l.length : Int) (i : Int)) (rowGo l d i) := by
  induction d with
  | zero =>
    intro i hi
    refine Ev.ret (fun k => ?_)
    simp only [audit_Check.l0]
    rw [if_neg (by omega)]
    rfl
  | succ d ih =>
    intro i hi
    refine Ev.step (G := fun k => audit_Check.j1 k l (i : Int) l (l.length : Int) (i : Int) (rowBad l i) (rd_T44 l (i : Int)).f0 (rd_T44 l (i : Int)).f1) (fun k => ?_) ?_
    · simp only [audit_Check.l0]
      rw [if_pos (by omega), if_pos (by omega), if_pos (by omega)]
      by_cases h1 : (rd_T44 l (i : Int)).f0 < 0
      · rw [if_pos h1, show rowBad l i = true from decide_eq_true (by omega)]
      rw [if_neg h1]
      by_cases h2 : (rd_T44 l (i : Int)).f0 > 10000
      · rw [if_pos h2, show rowBad l i = true from decide_eq_true (by omega)]
      rw [if_neg h2]
      by_cases h3 : (rd_T44 l (i : Int)).f1 < 50000
      · rw [if_pos h3, show rowBad l i = true from decide_eq_true (by omega)]
      rw [if_neg h3]
      congr 1
      unfold rowBad
      by_cases h4 : (rd_T44 l (i : Int)).f1 > 120000
      · rw [decide_eq_true h4, decide_eq_true (by omega)]
      · rw [decide_eq_false h4, decide_eq_false (by omega)]
    · simp only [rowGo]
      rcases hb : rowBad l i with _ | _
      · rw [if_neg (by simp)]
        by_cases h0 : i = 0
        · rw [if_neg (by omega)]
          refine Ev.step (fun k => ?_) (ih (i + 1) (by omega))
          simp only [audit_Check.j1, Bool.false_eq_true, if_false]
          rw [if_neg (by omega), w64_ (by omega) (by omega)]
          rfl
        · by_cases hc : (rd_T44 l (i : Int)).f0 < (rd_T44 l ((i : Int) - 1)).f0
          · rw [if_pos ⟨by omega, hc⟩]
            refine Ev.ret (fun k => ?_)
            simp only [audit_Check.j1, Bool.false_eq_true, if_false]
            rw [if_pos (by omega), w64_ (x := (i : Int) - 1) (by omega) (by omega), if_pos (by omega), if_pos (by omega), if_pos hc]
          · rw [if_neg (fun h => hc h.2)]
            refine Ev.step (fun k => ?_) (ih (i + 1) (by omega))
            simp only [audit_Check.j1, Bool.false_eq_true, if_false]
            rw [if_pos (by omega), w64_ (x := (i : Int) - 1) (by omega) (by omega), if_pos (by omega), if_pos (by omega), if_neg hc, w64_ (by omega) (by omega)]
            rfl
      · rw [if_pos rfl]
        refine Ev.ret (fun k => ?_)
        simp only [audit_Check.j1, if_true]
theorem audit_Check.ev (l : List S44) : Ev (fun k => audit_Check.f k l) (rchk l) := by
  unfold audit_Check.f rchk
  by_cases h1 : 128 < l.length
  · rw [if_pos h1]
    exact Ev.now (fun k => by rw [if_pos (by omega)])
  by_cases h2 : l.length = 0
  · rw [if_neg h1, if_pos h2]
    exact Ev.now (fun k => by rw [if_neg (by omega), if_pos (by omega)])
  rw [if_neg h1, if_neg h2]
  refine Ev.same (fun k => ?_) (audit_Check.go l (by omega) l.length 0 (by omega))
  rw [if_neg (by omega), if_neg (by omega)]
  rfl
theorem audit_right.ev (l : List S44) : Ev (fun k => audit_right.f k l) ((rchk l).2 == 0) := by
  unfold audit_right.f
  exact Ev.bind (audit_Check.ev l) (Ev.now (fun k => rfl))
theorem spileref17_Check.go (l : List S44) (hl : l.length ≤ 128) (d : Nat) : ∀ i : Nat, i + d = l.length → Ev (fun k => spileref17_Check.l0 k l (i : Int)) (rowGo l d i) := by
  induction d with
  | zero =>
    intro i hi
    refine Ev.ret (fun k => ?_)
    simp only [spileref17_Check.l0]
    rw [if_neg (by omega)]
    rfl
  | succ d ih =>
    intro i hi
    refine Ev.step (G := fun k => spileref17_Check.j1 k l (i : Int) (rowBad l i)) (fun k => ?_) ?_
    · simp only [spileref17_Check.l0]
      rw [if_pos (by omega), if_pos (by omega)]
      by_cases h1 : (rd_T44 l (i : Int)).f0 < 0
      · rw [if_pos h1, show rowBad l i = true from decide_eq_true (by omega)]
      rw [if_neg h1]
      by_cases h2 : (rd_T44 l (i : Int)).f0 > 10000
      · rw [if_pos h2, show rowBad l i = true from decide_eq_true (by omega)]
      rw [if_neg h2]
      by_cases h3 : (rd_T44 l (i : Int)).f1 < 50000
      · rw [if_pos h3, show rowBad l i = true from decide_eq_true (by omega)]
      rw [if_neg h3]
      congr 1
      unfold rowBad
      by_cases h4 : (rd_T44 l (i : Int)).f1 > 120000
      · rw [decide_eq_true h4, decide_eq_true (by omega)]
      · rw [decide_eq_false h4, decide_eq_false (by omega)]
    · simp only [rowGo]
      rcases hb : rowBad l i with _ | _
      · rw [if_neg (by simp)]
        by_cases h0 : i = 0
        · rw [if_neg (by omega)]
          refine Ev.step (fun k => ?_) (ih (i + 1) (by omega))
          simp only [spileref17_Check.j1, Bool.false_eq_true, if_false]
          rw [if_neg (by omega), w64_ (by omega) (by omega)]
          rfl
        · by_cases hc : (rd_T44 l (i : Int)).f0 < (rd_T44 l ((i : Int) - 1)).f0
          · rw [if_pos ⟨by omega, hc⟩]
            refine Ev.ret (fun k => ?_)
            simp only [spileref17_Check.j1, Bool.false_eq_true, if_false]
            rw [if_pos (by omega), if_pos (by omega), if_pos (by omega), w64_ (x := (i : Int) - 1) (by omega) (by omega), if_pos (by omega), if_pos (by omega), if_pos hc]
          · rw [if_neg (fun h => hc h.2)]
            refine Ev.step (fun k => ?_) (ih (i + 1) (by omega))
            simp only [spileref17_Check.j1, Bool.false_eq_true, if_false]
            rw [if_pos (by omega), if_pos (by omega), if_pos (by omega), w64_ (x := (i : Int) - 1) (by omega) (by omega), if_pos (by omega), if_pos (by omega), if_neg hc, w64_ (by omega) (by omega)]
            rfl
      · rw [if_pos rfl]
        refine Ev.ret (fun k => ?_)
        simp only [spileref17_Check.j1, if_true]
theorem spileref17_Check.ev (l : List S44) : Ev (fun k => spileref17_Check.f k l) (rchk l) := by
  unfold spileref17_Check.f rchk
  by_cases h1 : 128 < l.length
  · rw [if_pos h1]
    exact Ev.now (fun k => by rw [if_pos (by omega)])
  by_cases h2 : l.length = 0
  · rw [if_neg h1, if_pos h2]
    exact Ev.now (fun k => by rw [if_neg (by omega), if_pos (by omega)])
  rw [if_neg h1, if_neg h2]
  refine Ev.same (fun k => ?_) (spileref17_Check.go l (by omega) l.length 0 (by omega))
  rw [if_neg (by omega), if_neg (by omega)]
  rfl
theorem spileref17_right.ev (l : List S44) : Ev (fun k => spileref17_right.f k l) ((rchk l).2 == 0) := by
  unfold spileref17_right.f
  exact Ev.bind (spileref17_Check.ev l) (Ev.now (fun k => rfl))

end Go.Proofs.Ytcapbigknimgnaa.PF
