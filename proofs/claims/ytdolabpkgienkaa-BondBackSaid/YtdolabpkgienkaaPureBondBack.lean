/- The law BondBack of package spilelaw52 returns true for every input and leaves its arguments as they were; there is no condition. -/
import Derived.Test.YtdolabpkgienkaaLawBondBack
import Derived.Test.YtdolabpkgienkaaMBnd52
import Derived.Test.YtdolabpkgienkaaMBnd52b
import Derived.Test.YtdolabpkgienkaaMBnd52c
import Derived.Test.YtdolabpkgienkaaMBnd52d
import Derived.Test.YtdolabpkgienkaaMBnd52e
import Derived.Test.YtdolabpkgienkaaMEv
import Derived.Test.YtdolabpkgienkaaPF0
import Derived.Test.YtdolabpkgienkaaPF1
import Derived.Test.YtdolabpkgienkaaPF10
import Derived.Test.YtdolabpkgienkaaPF22
import Derived.Test.YtdolabpkgienkaaPF23
import Derived.Test.YtdolabpkgienkaaPF3
import Derived.Test.YtdolabpkgienkaaPF4
import Derived.Test.YtdolabpkgienkaaPF5
namespace Go.Proofs.Ytdolabpkgienkaa.PF
open Go.RowKit Go.Proofs.YtdolabpkgienkaaW.PrintWords Go.Proofs.YtdolabpkgienkaaW.PrintLast Go.Proofs.YtdolabpkgienkaaW.PrintMore
set_option linter.unusedVariables false
set_option linter.unusedSimpArgs false
theorem cont_go {h : List S35} (hl : h.length ≤ 1000) (x : S35) : ∀ d i : Nat, i + d = h.length → x ∈ h.drop i → ∃ r : Int, 0 ≤ r ∧ Ev (fun k => api_Hold_51.l0 k h (h.length : Int) (i : Int) x.f0 x.f1 x.f2) r := by
  intro d
  induction d with
  | zero =>
    intro i hi hx
    rw [List.drop_eq_nil_of_le (by omega)] at hx
    simp at hx
  | succ d ih =>
    intro i hi hx
    have hil : i < h.length := by omega
    have w1 : wrap64 ((i : Int) + 1) = ((i + 1 : Nat) : Int) := by rw [w64_ (by omega) (by omega)]; rfl
    rw [dropH hil] at hx
    by_cases c : (x.f0 == (rd_T35 h (i : Int)).f0 && (x.f1 == (rd_T35 h (i : Int)).f1 && (x.f2 == (rd_T35 h (i : Int)).f2))) = true
    · refine ⟨(i : Int), by omega, Ev.ret fun k => ?_⟩
      simp only [api_Hold_51.l0]
      rw [if_pos (by omega), if_pos (by omega), if_pos (by omega), if_pos c]
    · have hx' : x ∈ h.drop (i + 1) := by
        rcases List.mem_cons.1 hx with e | e
        · exact absurd (by rw [← e]; simp) c
        · exact e
      obtain ⟨r, hr, hev⟩ := ih (i + 1) (by omega) hx'
      refine ⟨r, hr, Ev.step (fun k => ?_) hev⟩
      simp only [api_Hold_51.l0]
      rw [if_pos (by omega), if_pos (by omega), if_pos (by omega), if_neg c, w1]
theorem cont_ev {h : List S35} (hl : h.length ≤ 1000) {x : S35} (hx : x ∈ h) : Ev (fun k => api_Hold_35.f k h x.f0 x.f1 x.f2) true := by
  obtain ⟨r, hr, hev⟩ := cont_go hl x h.length 0 (by omega) hx
  have := Ev.bind_some (f := fun t : Int => decide (t ≥ 0)) hev
  rw [decide_eq_true hr] at this
  exact this
theorem BondBack_pure : Go.Proofs.Ytdolabpkgienkaa.bondBack.Pure := by
  intro l h x day amount _ _ _ _ _
  refine Ev.ex ?_
  unfold spilelaw52_BondBack.f spilelaw52_awake.f
  simp only [Option.bind_some, if_true, few52]
  by_cases hf : (((l.length : Int) ≤ 8 ∨ (l.length : Int) = 17) ∧ (h.length : Int) ≤ 17)
  case neg =>
    refine Ev.ret fun k => ?_
    rw [decide_eq_false hf]
    rfl
  rw [decide_eq_true hf]
  have hl : l.length ≤ 1000 := by omega
  have hh : h.length ≤ 1000 := by omega
  obtain ⟨x0, x1, x2⟩ := x
  refine Ev.step (fun k => by simp only [spilelaw52_BondBack.j0, Bool.not_true, Bool.false_eq_true, if_false, clB hl, clH hh, pBind, Option.bind_some]; rfl) ?_
  obtain ⟨⟨a, r⟩, hb⟩ : ∃ q, bndR l h ⟨x0, x1, x2⟩ day = q := ⟨_, rfl⟩
  simp only [hb]
  by_cases hr : r = 0
  case neg =>
    have ha := bnd_err (l := l) (h := h) (x := ⟨x0, x1, x2⟩) (day := day) (by rw [hb]; exact hr)
    rw [hb] at ha
    simp only at ha
    subst ha
    exact Ev.now fun k => by rw [if_neg hr]; rfl
  subst hr
  obtain ⟨hR, hx, hday, hno, ⟨b, hfb, hbd, hle⟩, hlen, rfl⟩ := bnd_ok hb
  have hRa := right_ins hR hx hno hfb hle hlen
  have hx' := hx
  unfold okH at hx'
  simp only at hx' hno
  have hla : (insH h ⟨x0, x1, x2⟩).length ≤ 1000 := by rw [len_ins]; omega
  have hmem : (⟨x0, x1, x2⟩ : S35) ∈ insH h ⟨x0, x1, x2⟩ := (mem_ins _ _ _).2 (.inl rfl)
  have hhas : has (insH h ⟨x0, x1, x2⟩) x1 = true := has_iff.2 ⟨_, hmem, rfl⟩
  have hdel : delH (insH h ⟨x0, x1, x2⟩) x1 = h := del_ins (x := ⟨x0, x1, x2⟩) hno
  have hr1 : relR l (insH h ⟨x0, x1, x2⟩) x1 = (h, 0) := by
    unfold relR
    rw [if_neg (not_not_intro ((hldR_zero l _).2 hRa)), hhas, if_neg (by decide), hdel]
  have hr2 : relR l h x1 = ([], 7) := by
    unfold relR
    rw [if_neg (not_not_intro ((hldR_zero l _).2 hR)), hno, if_pos rfl]
  simp only [if_true, clB hl, clH hla, Option.bind_some, pRel l (insH h ⟨x0, x1, x2⟩) (m := x1) (by omega), hr1, clH hh, pRel l h (m := x1) (by omega), hr2]
  refine Ev.bind (eqH hh) ?_
  refine Ev.same (fun k => if_pos rfl) ?_
  refine Ev.bind (cont_ev hla hmem) ?_
  refine Ev.step (fun k => by simp only [spilelaw52_BondBack.j1, Bool.not_true, Bool.false_eq_true, if_false, clB hl, clH hla, Option.bind_some]; rfl) ?_
  refine Ev.bind (pChg_ev (l := l) (insH h ⟨x0, x1, x2⟩) (m := x1) amount (by omega)) ?_
  obtain ⟨⟨c, s⟩, hc⟩ : ∃ q, chgR l (insH h ⟨x0, x1, x2⟩) x1 amount = q := ⟨_, rfl⟩
  simp only [hc]
  by_cases hs : s = 0
  case neg =>
    have hc' := chg_err (l := l) (h := insH h ⟨x0, x1, x2⟩) (m := x1) (v := amount) (by rw [hc]; exact hs)
    rw [hc] at hc'
    simp only at hc'
    subst hc'
    exact Ev.now fun k => by rw [if_neg hs]; rfl
  subst hs
  obtain ⟨_, hv, _, ⟨b', hfb', hle'⟩, rfl⟩ := chg_ok hc
  have hRc := right_set hRa hv hfb' hle'
  simp only [if_true, clH (show (setH (insH h ⟨x0, x1, x2⟩) x1 amount).length ≤ 1000 by rw [set_len]; exact hla), Option.bind_some]
  refine Ev.bind (pChg_ev (l := l) (setH (insH h ⟨x0, x1, x2⟩) x1 amount) (m := x1) x2 (by omega)) ?_
  rw [chg_back hRc hRa hmem rfl]
  refine Ev.same (fun k => if_pos rfl) ?_
  refine Ev.bind (eqH hla) ?_
  exact Ev.now fun k => rfl

end Go.Proofs.Ytdolabpkgienkaa.PF
namespace Go.Proofs.Ytdolabpkgienkaa
/-- The given statement. -/
theorem bondBack_holds : Rows.BondBackSaid := bondBack.over PF.BondBack_pure
#print axioms bondBack_holds
end Go.Proofs.Ytdolabpkgienkaa
