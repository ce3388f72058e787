/- Layer 52: Bind, Change and Release. -/
import Derived.Test.YtdolabpkgienkaaMBnd52
import Derived.Test.YtdolabpkgienkaaMBnd52b
import Derived.Test.YtdolabpkgienkaaMEv
import Derived.Test.YtdolabpkgienkaaPF0
import Derived.Test.YtdolabpkgienkaaPF3
import Derived.Test.YtdolabpkgienkaaPF4
import Derived.Test.YtdolabpkgienkaaPF5
import Derived.Test.YtdolabpkgienkaaPF7
import Derived.Test.YtdolabpkgienkaaPF8
namespace Go.Proofs.Ytdolabpkgienkaa.PF
open Go.RowKit Go.Proofs.YtdolabpkgienkaaW.PrintWords Go.Proofs.YtdolabpkgienkaaW.PrintLast Go.Proofs.YtdolabpkgienkaaW.PrintMore
set_option linter.unusedVariables false
set_option linter.unusedSimpArgs false
theorem RightH.sort {l : List S31} {h : List S35} (hr : RightH l h) : SortH h := hr.2.2.2.1
def hidR (h : List S35) (m : Int) : Int := match h.find? (fun y => y.f1 == m) with | some y => y.f0 | none => 0
theorem hid_at {h : List S35} (hs : SortH h) {i : Nat} (hi : i < h.length) : hidR h h[i].f1 = h[i].f0 := by
  unfold hidR
  induction h generalizing i with
  | nil => exact absurd hi (Nat.not_lt_zero _)
  | cons y h ih =>
    unfold SortH at hs
    rw [List.pairwise_cons] at hs
    cases i with
    | zero =>
      show (match (y :: h).find? (fun z => z.f1 == y.f1) with | some z => z.f0 | none => 0) = y.f0
      rw [List.find?_cons_of_pos (by simp)]
    | succ i =>
      have hi' : i < h.length := Nat.lt_of_succ_lt_succ hi
      have hlt := hs.1 h[i] (List.getElem_mem hi')
      show (match (y :: h).find? (fun z => z.f1 == h[i].f1) with | some z => z.f0 | none => 0) = h[i].f0
      rw [List.find?_cons_of_neg (by simp; omega)]
      exact ih hs.2 hi'
def bndR (l : List S31) (h : List S35) (x : S35) (day : Int) : List S35 × Int :=
  if (hldR l h).2 ≠ 0 then ([], 1) else if ¬ (1 ≤ x.f1 ∧ x.f1 ≤ 1073741824) then ([], 2) else if ¬ (0 ≤ x.f2 ∧ x.f2 ≤ 1125899906842624) then ([], 2) else if ¬ (0 ≤ day ∧ day ≤ 100000) then ([], 2)
  else if has h x.f1 = true then ([], 6) else match findB l x.f0 with
    | none => ([], 7)
    | some b => if ¬ (b.f1 ≤ day ∧ day ≤ b.f2) then ([], 23) else if b.f3 - sumH h b.f0 < x.f2 then ([], 17) else if h.length = 16 then ([], 12) else (insH h x, 0)
def chgR (l : List S31) (h : List S35) (m a : Int) : List S35 × Int :=
  if (hldR l h).2 ≠ 0 then ([], 1) else if ¬ (0 ≤ a ∧ a ≤ 1125899906842624) then ([], 2) else if has h m = false then ([], 7) else match findB l (hidR h m) with
    | none => ([], 17)
    | some b => if b.f3 < sumH (setH h m a) b.f0 then ([], 17) else (setH h m a, 0)
def relR (l : List S31) (h : List S35) (m : Int) : List S35 × Int :=
  if (hldR l h).2 ≠ 0 then ([], 1) else if has h m = false then ([], 7) else (delH h m, 0)
theorem pBind (l : List S31) (h : List S35) (x0 x1 x2 day : Int) : bond_Bind.f l h x0 x1 x2 day = some (bndR l h ⟨x0, x1, x2⟩ day) := by
  unfold bond_Bind.f bndR
  by_cases e : (hldR l h).2 = 0
  case neg => rw [if_pos e, if_pos e]
  have hr := (hldR_zero l h).1 e
  rw [if_neg (not_not_intro e), if_neg (not_not_intro e)]
  by_cases c1 : 1 ≤ x1 ∧ x1 ≤ 1073741824
  case neg => rw [if_pos c1, if_pos c1]
  rw [if_neg (not_not_intro c1), if_neg (not_not_intro c1)]
  have e1 := place_in hr.sort hr.2.2.1 c1.1 c1.2
  have e2 := place_has hr.sort hr.2.2.1 (m := x1) (by omega)
  rw [e2, e1]
  rfl
theorem pRel (l : List S31) (h : List S35) {m : Int} (hm : -9223372036854775808 ≤ m ∧ m ≤ 9223372036854775807) : bond_Release.f l h m = some (relR l h m) := by
  unfold bond_Release.f relR
  by_cases e : (hldR l h).2 = 0
  case neg => rw [if_pos e, if_pos e]
  have hr := (hldR_zero l h).1 e
  rw [if_neg (not_not_intro e), if_neg (not_not_intro e), place_has hr.sort hr.2.2.1 hm]
  cases hh : has h m with
  | false => rw [if_pos rfl, if_pos rfl]
  | true =>
    obtain ⟨hj, e1⟩ := place_at hr.sort hr.2.2.1 hh
    rw [if_neg (by decide), if_neg (by decide), erase_at hr.sort hj, e1]
theorem set_ok {h : List S35} {m a : Int} (hk : ∀ x ∈ h, okH x) (ha : 0 ≤ a ∧ a ≤ 1125899906842624) : ∀ x ∈ setH h m a, okH x := by
  intro x hx
  unfold setH at hx
  obtain ⟨y, hy, rfl⟩ := List.mem_map.1 hx
  have := hk y hy
  split
  · exact ⟨this.1, this.2.1, ha.1, ha.2⟩
  · exact this
theorem set_len (h : List S35) (m a : Int) : (setH h m a).length = h.length := by unfold setH; rw [List.length_map]
theorem pChg_ev {l : List S31} (h : List S35) {m : Int} (a : Int) (hm : -9223372036854775808 ≤ m ∧ m ≤ 9223372036854775807) : Ev (fun k => bond_Change.f k l h m a) (chgR l h m a) := by
  unfold bond_Change.f
  simp only [asks52, Option.bind_some]
  unfold chgR
  by_cases e : (hldR l h).2 = 0
  case neg =>
    rw [if_neg e, if_pos e]
    exact Ev.now fun k => by rw [if_neg (by decide)]
  have hr := (hldR_zero l h).1 e
  have hh := hr.2.1
  rw [if_pos e, if_neg (not_not_intro e)]
  refine Ev.same (fun k => if_pos rfl) ?_
  have hpl : bond_place.f h m = some ((((bsR (mvC h m) h.length).1 : Nat) : Int), has h m) := by
    unfold bond_place.f
    rw [if_pos (by omega), place_has hr.sort hr.2.2.1 hm]
  simp only [hpl, bond_within.plain, Option.bind_some]
  by_cases c1 : 0 ≤ a ∧ a ≤ 1125899906842624
  case neg =>
    rw [if_pos c1]
    exact Ev.now fun k => by rw [decide_eq_false c1, if_neg (by decide)]
  rw [if_neg (not_not_intro c1)]
  simp only [decide_eq_true c1, if_true]
  cases hhm : has h m with
  | false =>
    rw [if_pos rfl]
    exact Ev.now fun k => by rw [if_neg (by decide)]
  | true =>
  rw [if_neg (by decide)]
  obtain ⟨hj, e1⟩ := place_at hr.sort hr.2.2.1 hhm
  generalize (bsR (mvC h m) h.length).1 = j at hj e1 ⊢
  obtain ⟨b, hf, _⟩ := hr.2.2.2.2 h[j] (List.getElem_mem hj)
  have hhid : hidR h m = h[j].f0 := by rw [← e1]; exact hid_at hr.sort hj
  have hset : h.set j ⟨(rd_T35 h (j : Int)).f0, (rd_T35 h (j : Int)).f1, a⟩ = setH h m a := by rw [rdH hj, set_at hr.sort hj, e1]
  have hrd : (rd_T35 (setH h m a) (j : Int)).f0 = h[j].f0 := by
    rw [← hset, rdH (by rw [List.length_set]; exact hj), List.getElem_set_self, rdH hj]
  have hbr := hr.1.2.1 b (findB_some hf).1
  unfold okB at hbr
  rw [hhid, hf]
  refine Ev.same (fun k => if_pos rfl) ?_
  simp only [clH (show h.length ≤ 1000 by omega), Option.bind_some, Int.toNat_natCast, hset, hrd]
  have hfi : bond_find.f l h[j].f0 = some (b.f0, b.f1, b.f2, b.f3, true) := by
    unfold bond_find.f
    rw [if_pos (by have := hr.1.1; omega), hf]
  simp only [hfi, Option.bind_some]
  refine Ev.same (fun k => by rw [if_pos (by omega), if_pos (by omega)]) ?_
  refine Ev.bind (pfree_ev (h := setH h m a) b.f0 b.f1 b.f2 b.f3 (by rw [set_len]; omega) (set_ok hr.2.2.1 c1) (by omega)) ?_
  refine Ev.now fun k => ?_
  by_cases c : b.f3 < sumH (setH h m a) b.f0
  · rw [if_pos c, if_pos (by omega)]
  · rw [if_neg c, if_neg (by omega)]

end Go.Proofs.Ytdolabpkgienkaa.PF
