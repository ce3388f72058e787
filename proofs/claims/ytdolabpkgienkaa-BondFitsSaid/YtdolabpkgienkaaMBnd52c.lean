/- Layer 52: Choose and Short. -/
import Derived.Test.YtdolabpkgienkaaMBnd52
import Derived.Test.YtdolabpkgienkaaMEv
import Derived.Test.YtdolabpkgienkaaPF0
import Derived.Test.YtdolabpkgienkaaPF1
import Derived.Test.YtdolabpkgienkaaPF3
import Derived.Test.YtdolabpkgienkaaPF4
import Derived.Test.YtdolabpkgienkaaPF8
import Derived.Test.YtdolabpkgienkaaPF9
namespace Go.Proofs.Ytdolabpkgienkaa.PF
open Go.RowKit Go.Proofs.YtdolabpkgienkaaW.PrintWords Go.Proofs.YtdolabpkgienkaaW.PrintLast Go.Proofs.YtdolabpkgienkaaW.PrintMore
set_option linter.unusedVariables false
set_option linter.unusedSimpArgs false
def choF (h : List S35) (a day : Int) (st : Int × Int) (b : S31) : Int × Int :=
  if (b.f1 ≤ day ∧ day ≤ b.f2) ∧ b.f3 - sumH h b.f0 ≥ a ∧ (st.1 = 0 ∨ b.f3 - sumH h b.f0 < st.2) then (b.f0, b.f3 - sumH h b.f0) else st
def choE (st : Int × Int) : Int × Int := if st.1 = 0 then (0, 17) else (st.1, 0)
def choR (l : List S31) (h : List S35) (a day : Int) : Int × Int :=
  if (hldR l h).2 = 0 then (if (0 ≤ a ∧ a ≤ 1125899906842624) ∧ 0 ≤ day ∧ day ≤ 100000 then choE (l.foldl (choF h a day) (0, 0)) else (0, 2)) else (0, 1)
theorem pcho_go {l : List S31} {h : List S35} (hr : RightH l h) (a day : Int) : ∀ d i : Nat, i + d = l.length → ∀ st : Int × Int, Ev (fun k => bond_Choose.l0 k h a day st.1 st.2 l (l.length : Int) (i : Int)) (choE ((l.drop i).foldl (choF h a day) st)) := by
  have hl := hr.1.1
  intro d
  induction d with
  | zero =>
    intro i hi st
    refine Ev.ret fun k => ?_
    rw [List.drop_eq_nil_of_le (by omega)]
    simp only [bond_Choose.l0]
    rw [if_neg (by omega)]
    show _ = some (choE st)
    unfold choE
    by_cases e : st.1 = 0
    · rw [if_pos e, if_pos e]
    · rw [if_neg e, if_neg e]
  | succ d ih =>
    intro i hi st
    have hil : i < l.length := by omega
    have w1 : wrap64 ((i : Int) + 1) = ((i + 1 : Nat) : Int) := by rw [w64_ (by omega) (by omega)]; rfl
    rw [dropB hil, List.foldl_cons]
    have hmem : rd_T31 l (i : Int) ∈ l := by rw [rdB hil]; exact List.getElem_mem hil
    obtain ⟨b, hb⟩ : ∃ b, rd_T31 l (i : Int) = b := ⟨_, rfl⟩
    rw [hb] at hmem ⊢
    have hbr := hr.1.2.1 b hmem
    unfold okB at hbr
    have hbd := pfree_ev (h := h) b.f0 b.f1 b.f2 b.f3 (by have := hr.2.1; omega) hr.2.2.1 (by omega)
    refine Ev.step (fun k => by simp only [bond_Choose.l0]; rw [if_pos (show (i : Int) < l.length by omega), if_pos (show 0 ≤ (i : Int) by omega), if_pos (show (i : Int) < l.length by omega), hb, w1]) ?_
    refine Ev.bind hbd ?_
    have hgo := ih (i + 1) (by omega)
    simp only [bond_within.plain, Option.bind_some]
    unfold choF
    by_cases c1 : b.f1 ≤ day ∧ day ≤ b.f2
    case neg =>
      rw [if_neg (fun e => c1 e.1)]
      refine Ev.same (fun k => by rw [decide_eq_false c1, if_neg (by decide)]) (hgo st)
    simp only [decide_eq_true c1, if_true]
    by_cases c2 : b.f3 - sumH h b.f0 ≥ a
    case neg =>
      rw [if_neg (fun e => c2 e.2.1)]
      refine Ev.same (fun k => by rw [if_neg c2]) (hgo st)
    by_cases c3 : st.1 = 0
    · rw [if_pos ⟨c1, c2, .inl c3⟩]
      refine Ev.same (fun k => by rw [if_pos c2, if_pos c3]) (hgo (b.f0, b.f3 - sumH h b.f0))
    · by_cases c4 : b.f3 - sumH h b.f0 < st.2
      · rw [if_pos ⟨c1, c2, .inr c4⟩]
        refine Ev.same (fun k => by rw [if_pos c2, if_neg c3, if_pos c4]) (hgo (b.f0, b.f3 - sumH h b.f0))
      · rw [if_neg (fun e => e.2.2.elim c3 c4)]
        refine Ev.same (fun k => by rw [if_pos c2, if_neg c3, if_neg c4]) (hgo st)
theorem pChoose_ev (l : List S31) (h : List S35) (a day : Int) : Ev (fun k => bond_Choose.f k l h a day) (choR l h a day) := by
  unfold bond_Choose.f
  simp only [asks52, Option.bind_some]
  unfold choR
  by_cases e : (hldR l h).2 = 0
  case neg =>
    rw [if_neg e, if_neg e]
    exact Ev.now fun k => by rw [if_neg (by decide)]
  rw [if_pos e, if_pos e]
  refine Ev.same (fun k => if_pos rfl) ?_
  simp only [bond_within.plain, Option.bind_some]
  by_cases c1 : 0 ≤ a ∧ a ≤ 1125899906842624
  case neg =>
    rw [if_neg (fun x => c1 x.1)]
    refine Ev.ret fun k => ?_
    rw [decide_eq_false c1, if_neg (by decide)]
    simp only [bond_Choose.j0]
    rfl
  simp only [decide_eq_true c1, if_true]
  by_cases c2 : 0 ≤ day ∧ day ≤ 100000
  case neg =>
    rw [if_neg (fun x => c2 x.2)]
    refine Ev.ret fun k => ?_
    rw [decide_eq_false c2]
    simp only [bond_Choose.j0]
    rfl
  rw [if_pos ⟨c1, c2⟩, decide_eq_true c2]
  exact Ev.step (fun k => by simp only [bond_Choose.j0]; rw [if_neg (by decide)]; rfl) (pcho_go ((hldR_zero l h).1 e) a day l.length 0 (by omega) (0, 0))
theorem eqH_go {h : List S35} (hl : h.length ≤ 1000) : ∀ d i : Nat, i + d = h.length → Ev (fun k => api_Hold_26.l0 k h h (h.length : Int) (i : Int)) true := by
  intro d
  induction d with
  | zero =>
    intro i hi
    refine Ev.ret fun k => ?_
    simp only [api_Hold_26.l0]
    rw [if_neg (by omega)]
  | succ d ih =>
    intro i hi
    have w1 : wrap64 ((i : Int) + 1) = ((i + 1 : Nat) : Int) := by rw [w64_ (by omega) (by omega)]; rfl
    refine Ev.step (fun k => by simp only [api_Hold_26.l0]; rw [if_pos (show (i : Int) < h.length by omega), if_pos (show 0 ≤ (i : Int) by omega), if_pos (show (i : Int) < h.length by omega), if_pos (show (i : Int) < h.length by omega), w1, if_neg (by simp)]) (ih (i + 1) (by omega))
theorem eqH {h : List S35} (hl : h.length ≤ 1000) : Ev (fun k => api_Hold_26.f k h h) true := by
  unfold api_Hold_26.f
  exact Ev.same (fun k => if_pos rfl) (eqH_go hl h.length 0 (by omega))

end Go.Proofs.Ytdolabpkgienkaa.PF
