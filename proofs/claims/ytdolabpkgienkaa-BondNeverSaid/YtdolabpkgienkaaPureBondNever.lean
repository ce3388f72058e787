/- The law BondNever of package spilelaw52 returns true for every input and leaves its arguments as they were; there is no condition. -/
import Derived.Test.YtdolabpkgienkaaLawBondNever
import Derived.Test.YtdolabpkgienkaaMBnd52
import Derived.Test.YtdolabpkgienkaaMBnd52b
import Derived.Test.YtdolabpkgienkaaMBnd52d
import Derived.Test.YtdolabpkgienkaaMBnd52e
import Derived.Test.YtdolabpkgienkaaMEv
import Derived.Test.YtdolabpkgienkaaPF0
import Derived.Test.YtdolabpkgienkaaPF1
import Derived.Test.YtdolabpkgienkaaPF10
import Derived.Test.YtdolabpkgienkaaPF21
import Derived.Test.YtdolabpkgienkaaPF3
import Derived.Test.YtdolabpkgienkaaPF4
namespace Go.Proofs.Ytdolabpkgienkaa.PF
open Go.RowKit Go.Proofs.YtdolabpkgienkaaW.PrintWords Go.Proofs.YtdolabpkgienkaaW.PrintLast Go.Proofs.YtdolabpkgienkaaW.PrintMore
set_option linter.unusedVariables false
set_option linter.unusedSimpArgs false
theorem never_l2 {l : List S31} {w : List S35} (hr : RightH l w) (hl : l.length ≤ 1000) (acts : List S49) (n j : Int) {i : Nat} (hi : i < l.length) (hn : Ev (fun k => spilelaw52_BondNever.l1 k l w acts n j l (l.length : Int) ((i + 1 : Nat) : Int)) true) :
    ∀ d t : Nat, t + d = w.length → Ev (fun k => spilelaw52_BondNever.l2 k l w (sumH (w.take t) (rd_T31 l (i : Int)).f0) acts n j l (l.length : Int) (i : Int) w (w.length : Int) (t : Int) (rd_T31 l (i : Int)).f0 (rd_T31 l (i : Int)).f1 (rd_T31 l (i : Int)).f2 (rd_T31 l (i : Int)).f3) true := by
  have hmem : rd_T31 l (i : Int) ∈ l := by rw [rdB hi]; exact List.getElem_mem hi
  generalize rd_T31 l (i : Int) = b at hmem ⊢
  have hw := hr.2.1
  have hbr := hr.1.2.1 b hmem
  unfold okB at hbr
  intro d
  induction d with
  | zero =>
    intro t ht
    have hm := right_most hr hmem
    have hs := hr.sum b.f0
    have w1 : wrap64 ((i : Int) + 1) = ((i + 1 : Nat) : Int) := by rw [w64_ (by omega) (by omega)]; rfl
    refine Ev.step (fun k => by simp only [spilelaw52_BondNever.l2, clB hl, clH (show w.length ≤ 1000 by omega), Option.bind_some]; rw [if_neg (show ¬ (t : Int) < (w.length : Int) by omega)]) ?_
    refine Ev.bind (pFree_ev hl w b.f0) ?_
    have hfr : freR l w b.f0 = (b.f3 - sumH w b.f0, 0) := by
      unfold freR
      rw [if_pos ((hldR_zero l w).2 hr), findB_mem hr.1 hmem]
    rw [hfr, List.take_of_length_le (by omega)]
    refine Ev.same (fun k => ?_) hn
    rw [if_pos rfl, if_neg (by omega), w64_ (show -9223372036854775808 ≤ b.f3 - sumH w b.f0 by omega) (by omega), if_pos rfl, w1]
  | succ d ih =>
    intro t ht
    have htl : t < w.length := by omega
    have w1 : wrap64 ((t : Int) + 1) = ((t + 1 : Nat) : Int) := by rw [w64_ (by omega) (by omega)]; rfl
    have htk := takeH htl
    have hgo := ih (t + 1) (by omega)
    have hs : sumH (w.take (t + 1)) b.f0 = sumH (w.take t) b.f0 + (if (rd_T35 w (t : Int)).f0 = b.f0 then (rd_T35 w (t : Int)).f2 else 0) := by
      rw [htk, sumH_append]; simp [sumH]
    have hb : 0 ≤ sumH (w.take (t + 1)) b.f0 ∧ sumH (w.take (t + 1)) b.f0 ≤ 18014398509481984 := by
      have a1 := sumH_nonneg (h := w.take (t + 1)) (fun x hx => (hr.2.2.1 x (List.mem_of_mem_take hx)).2.2.1) b.f0
      have a2 := sumH_le (h := w.take (t + 1)) (M := 1125899906842624) (by decide) (fun x hx => (hr.2.2.1 x (List.mem_of_mem_take hx)).2.2.2) b.f0
      have a3 : ((w.take (t + 1)).length : Int) ≤ 16 := by rw [List.length_take]; omega
      omega
    by_cases e : (rd_T35 w (t : Int)).f0 = b.f0
    · rw [if_pos e] at hs
      refine Ev.step (fun k => ?_) hgo
      simp only [spilelaw52_BondNever.l2]
      rw [if_pos (by omega), if_pos (by omega), if_pos (by omega), if_pos e, w1, ← hs, w64_ (by omega) (by omega)]
    · rw [if_neg e, Int.add_zero] at hs
      refine Ev.step (fun k => ?_) hgo
      simp only [spilelaw52_BondNever.l2]
      rw [if_pos (by omega), if_pos (by omega), if_pos (by omega), if_neg e, w1, hs]
theorem never_l1 {l : List S31} {w : List S35} (hr : RightH l w) (hl : l.length ≤ 1000) (acts : List S49) (n j : Int) (hn : Ev (fun k => spilelaw52_BondNever.l0 k l w acts n (wrap64 (j + 1))) true) :
    ∀ d i : Nat, i + d = l.length → Ev (fun k => spilelaw52_BondNever.l1 k l w acts n j l (l.length : Int) (i : Int)) true := by
  intro d
  induction d with
  | zero =>
    intro i hi
    refine Ev.step (fun k => ?_) hn
    simp only [spilelaw52_BondNever.l1]
    rw [if_neg (by omega)]
  | succ d ih =>
    intro i hi
    have := never_l2 hr hl acts n j (show i < l.length by omega) (ih (i + 1) (by omega)) w.length 0 (by omega)
    refine Ev.step (fun k => ?_) this
    simp only [spilelaw52_BondNever.l1]
    rw [if_pos (by omega), if_pos (by omega), if_pos (by omega)]
    rfl
theorem never_j2 {l : List S31} {w nx : List S35} {e : Int} (hl : l.length ≤ 1000) (acts : List S49) (n j : Int) (he : e ≠ 0 → nx = []) (h0 : e = 0 → RightH l nx)
    (hw : Ev (fun k => spilelaw52_BondNever.l0 k l w acts n (wrap64 (j + 1))) true) (hx : e = 0 → Ev (fun k => spilelaw52_BondNever.l0 k l nx acts n (wrap64 (j + 1))) true) :
    Ev (fun k => spilelaw52_BondNever.j2 k l w nx e acts n j) true := by
  by_cases c : e = 0
  · have hr := h0 c
    have := hr.2.1
    subst c
    refine Ev.step (fun k => by simp only [spilelaw52_BondNever.j2, if_true, clB hl, clH (show nx.length ≤ 1000 by omega), bond_Holds.f, hldR_ok hr, Option.bind_some]; rfl) ?_
    refine Ev.step (fun k => ?_) (never_l1 hr hl acts n j (hx rfl) l.length 0 (by omega))
    simp only [spilelaw52_BondNever.j3]
    rfl
  · refine Ev.step (fun k => ?_) hw
    simp only [spilelaw52_BondNever.j2]
    rw [if_neg c, he c]
    rfl
theorem never_l0 {l : List S31} (hl : l.length ≤ 1000) (acts : List S49) (hwf : ∀ x ∈ acts, -9223372036854775808 ≤ x.f1.f1 ∧ x.f1.f1 ≤ 9223372036854775807) (hn : acts.length ≤ 20) : ∀ d j : Nat, j + d = acts.length → ∀ w, RightH l w → Ev (fun k => spilelaw52_BondNever.l0 k l w acts (acts.length : Int) (j : Int)) true := by
  intro d
  induction d with
  | zero =>
    intro j hj w _
    refine Ev.ret fun k => ?_
    simp only [spilelaw52_BondNever.l0]
    rw [if_neg (by omega)]
  | succ d ih =>
    intro j hj w hr
    have hjl : j < acts.length := by omega
    have w1 : wrap64 ((j : Int) + 1) = ((j + 1 : Nat) : Int) := by rw [w64_ (by omega) (by omega)]; rfl
    have hw := hr.2.1
    have hrd : rd_T49 acts (j : Int) = acts[j] := by
      unfold rd_T49
      rw [Int.toNat_natCast, List.getD_eq_getElem?_getD, List.getElem?_eq_getElem hjl]
      rfl
    have hwfj := hwf _ (List.getElem_mem hjl)
    rw [← hrd] at hwfj
    have hgo : ∀ w, RightH l w → Ev (fun k => spilelaw52_BondNever.l0 k l w acts (acts.length : Int) (wrap64 ((j : Int) + 1))) true := fun w h => by rw [w1]; exact ih (j + 1) (by omega) w h
    generalize rd_T49 acts (j : Int) = a at hwfj hrd
    have hrd' : rd_T49 acts (j : Int) = a := by rw [hrd]; unfold rd_T49; rw [Int.toNat_natCast, List.getD_eq_getElem?_getD, List.getElem?_eq_getElem hjl]; rfl
    by_cases c0 : a.f0 = 0
    · refine Ev.step (fun k => by simp only [spilelaw52_BondNever.l0, hrd', clB hl, clH (show w.length ≤ 1000 by omega), pBind, Option.bind_some]; rw [if_pos (show (j : Int) < (acts.length : Int) by omega), if_pos (show 0 ≤ (j : Int) by omega), if_pos (show (j : Int) < (acts.length : Int) by omega), if_pos c0]) ?_
      obtain ⟨⟨nx, e⟩, hb⟩ : ∃ q, bndR l w ⟨a.f1.f0, a.f1.f1, a.f1.f2⟩ a.f2 = q := ⟨_, rfl⟩
      simp only [hb]
      have h0 : e = 0 → RightH l nx := fun he => by
        subst he
        obtain ⟨hR, hx, hday, hno, ⟨b, hfb, hbd, hle⟩, hlen, rfl⟩ := bnd_ok hb
        exact right_ins hR hx hno hfb hle hlen
      refine never_j2 hl acts _ _ (fun he => ?_) h0 (hgo w hr) (fun he => hgo nx (h0 he))
      have := bnd_err (l := l) (h := w) (x := ⟨a.f1.f0, a.f1.f1, a.f1.f2⟩) (day := a.f2) (by rw [hb]; exact he)
      rw [hb] at this
      exact this
    by_cases c1 : a.f0 = 1
    · refine Ev.step (fun k => by simp only [spilelaw52_BondNever.l0, hrd', clB hl, clH (show w.length ≤ 1000 by omega), Option.bind_some]; rw [if_pos (show (j : Int) < (acts.length : Int) by omega), if_pos (show 0 ≤ (j : Int) by omega), if_pos (show (j : Int) < (acts.length : Int) by omega), if_neg c0, if_pos c1]) ?_
      refine Ev.bind (pChg_ev (l := l) w a.f1.f2 hwfj) ?_
      obtain ⟨⟨nx, e⟩, hb⟩ : ∃ q, chgR l w a.f1.f1 a.f1.f2 = q := ⟨_, rfl⟩
      simp only [hb]
      have h0 : e = 0 → RightH l nx := fun he => by
        subst he
        obtain ⟨hR, hv, _, ⟨b, hfb, hle⟩, rfl⟩ := chg_ok hb
        exact right_set hR hv hfb hle
      refine never_j2 hl acts _ _ (fun he => ?_) h0 (hgo w hr) (fun he => hgo nx (h0 he))
      have := chg_err (l := l) (h := w) (m := a.f1.f1) (v := a.f1.f2) (by rw [hb]; exact he)
      rw [hb] at this
      exact this
    · refine Ev.step (fun k => by simp only [spilelaw52_BondNever.l0, hrd', clB hl, clH (show w.length ≤ 1000 by omega), pRel l w hwfj, Option.bind_some]; rw [if_pos (show (j : Int) < (acts.length : Int) by omega), if_pos (show 0 ≤ (j : Int) by omega), if_pos (show (j : Int) < (acts.length : Int) by omega), if_neg c0, if_neg c1]) ?_
      obtain ⟨⟨nx, e⟩, hb⟩ : ∃ q, relR l w a.f1.f1 = q := ⟨_, rfl⟩
      simp only [hb]
      have h0 : e = 0 → RightH l nx := fun he => by
        subst he
        obtain ⟨hR, _, rfl⟩ := rel_ok hb
        exact right_del hR _
      refine never_j2 hl acts _ _ (fun he => ?_) h0 (hgo w hr) (fun he => hgo nx (h0 he))
      have := rel_err (l := l) (h := w) (m := a.f1.f1) (by rw [hb]; exact he)
      rw [hb] at this
      exact this
theorem BondNever_pure : Go.Proofs.Ytdolabpkgienkaa.bondNever.Pure := by
  intro l acts _ hwf
  refine Ev.ex ?_
  unfold spilelaw52_BondNever.f spilelaw52_awake.f
  simp only [Option.bind_some, if_true, few52]
  by_cases hf : (((l.length : Int) ≤ 8 ∨ (l.length : Int) = 17) ∧ ((([] : List S35).length : Nat) : Int) ≤ 17)
  case neg =>
    refine Ev.ret fun k => ?_
    rw [decide_eq_false hf]
    rfl
  simp only [decide_eq_true hf, if_true]
  have hl : l.length ≤ 1000 := by omega
  by_cases hn : (acts.length : Int) > 20
  · refine Ev.ret fun k => ?_
    rw [decide_eq_true hn]
    rfl
  rw [decide_eq_false hn]
  refine Ev.step (fun k => by simp only [spilelaw52_BondNever.j0, Bool.false_eq_true, if_false, clB hl, bond_Check_s.f, Option.bind_some]; rfl) ?_
  by_cases c : (chkB l).2 = 0
  · refine Ev.same (fun k => if_pos c) ?_
    refine never_l0 hl acts (fun x hx => ?_) (by omega) acts.length 0 (by omega) [] (right_nil ((chkB_zero l).1 c))
    have := (hwf.2 x hx).2.1.2.1
    simp only [Lit.wf, Bool.and_eq_true, decide_eq_true_eq] at this
    exact this
  · exact Ev.now fun k => if_neg c

end Go.Proofs.Ytdolabpkgienkaa.PF
namespace Go.Proofs.Ytdolabpkgienkaa
/-- The given statement. -/
theorem bondNever_holds : Rows.BondNeverSaid := bondNever.over PF.BondNever_pure
#print axioms bondNever_holds
end Go.Proofs.Ytdolabpkgienkaa
