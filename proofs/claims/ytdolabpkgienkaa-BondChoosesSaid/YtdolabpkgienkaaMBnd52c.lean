/- Layer 52: Choose and Short. -/
import Derived.Test.YtdolabpkgienkaaMBnd52
import Derived.Test.YtdolabpkgienkaaMEv
import Derived.Test.YtdolabpkgienkaaPF0
import Derived.Test.YtdolabpkgienkaaPF1
import Derived.Test.YtdolabpkgienkaaPF10
import Derived.Test.YtdolabpkgienkaaPF18
import Derived.Test.YtdolabpkgienkaaPF19
import Derived.Test.YtdolabpkgienkaaPF3
import Derived.Test.YtdolabpkgienkaaPF4
import Derived.Test.YtdolabpkgienkaaPF8
import Derived.Test.YtdolabpkgienkaaPF9
namespace Go.Proofs.Ytdolabpkgienkaa.PF
open Go.RowKit Go.Proofs.YtdolabpkgienkaaW.PrintWords Go.Proofs.YtdolabpkgienkaaW.PrintLast Go.Proofs.YtdolabpkgienkaaW.PrintMore
set_option linter.unusedVariables false
set_option linter.unusedSimpArgs false
def choF (h : List S35) (a day : Int) (st : Int × Int) (b : S31) : Int × Int :=
  if (b.f1 ≤ day ∧ day ≤ b.f2) ∧ b.f3 - sumH h b.f0 ≥ a ∧ (st.1 = 0 ∨ b.f3 - sumH h b.f0 < st.2) then (b.f0, b.f3 - sumH h b.f0) else st
def choE (st : Int × Int) : Int × Int := if st.1 = 0 then (0, 17) else (st.1, 0)
def choR (l : List S31) (h : List S35) (a day : Int) : Int × Int :=
  if (hldR l h).2 = 0 then (if (0 ≤ a ∧ a ≤ 1125899906842624) ∧ 0 ≤ day ∧ day ≤ 100000 then choE (l.foldl (choF h a day) (0, 0)) else (0, 2)) else (0, 1)
theorem rcho_go {l : List S31} {h : List S35} (hr : RightH l h) (a day : Int) : ∀ d i : Nat, i + d = l.length → ∀ st : Int × Int, Ev (fun k => spileref52_Choose.l0 k l h a day st.1 st.2 (i : Int)) (choE ((l.drop i).foldl (choF h a day) st)) := by
  have hl := hr.1.1
  intro d
  induction d with
  | zero =>
    intro i hi st
    refine Ev.ret fun k => ?_
    rw [List.drop_eq_nil_of_le (by omega)]
    simp only [spileref52_Choose.l0]
    rw [if_neg (by omega)]
    show _ = some (choE st)
    unfold choE
    by_cases e : st.1 = 0
    · rw [if_pos e, if_pos e]
    · rw [if_neg e, if_neg e]
  | succ d ih =>
    intro i hi st
    have hil : i < l.length := by omega
    have w1 : wrap64 ((i : Int) + 1) = ((i + 1 : Nat) : Int) := by rw [w64_ (by omega) (by omega)]; rfl
    rw [dropB hil, List.foldl_cons]
    have hmem : rd_T31 l (i : Int) ∈ l := by rw [rdB hil]; exact List.getElem_mem hil
    obtain ⟨b, hb⟩ : ∃ b, rd_T31 l (i : Int) = b := ⟨_, rfl⟩
    rw [hb] at hmem ⊢
    have hbr := hr.1.2.1 b hmem
    unfold okB at hbr
    have hs := hr.sum b.f0
    have w2 : wrap64 (b.f3 - sumH h b.f0) = b.f3 - sumH h b.f0 := w64_ (by omega) (by omega)
    have hbd := rbound (h := h) (by have := hr.2.1; omega) (fun x hx => ⟨(hr.2.2.1 x hx).2.2.1, (hr.2.2.1 x hx).2.2.2⟩) b.f0
    refine Ev.step (fun k => by simp only [spileref52_Choose.l0]; rw [if_pos (show (i : Int) < l.length by omega), if_pos (show 0 ≤ (i : Int) by omega), hb, w1]) ?_
    refine Ev.bind hbd ?_
    have hgo := ih (i + 1) (by omega)
    simp only [betw, Option.bind_some, w2]
    unfold choF
    by_cases c1 : b.f1 ≤ day ∧ day ≤ b.f2
    case neg =>
      rw [if_neg (fun e => c1 e.1)]
      refine Ev.same (fun k => by rw [decide_eq_false c1, if_neg (by decide)]) (hgo st)
    simp only [decide_eq_true c1, if_true]
    by_cases c2 : b.f3 - sumH h b.f0 ≥ a
    case neg =>
      rw [if_neg (fun e => c2 e.2.1)]
      refine Ev.same (fun k => by rw [if_neg c2]) (hgo st)
    by_cases c3 : st.1 = 0
    · rw [if_pos ⟨c1, c2, .inl c3⟩]
      refine Ev.same (fun k => by rw [if_pos c2, if_pos c3]) (hgo (b.f0, b.f3 - sumH h b.f0))
    · by_cases c4 : b.f3 - sumH h b.f0 < st.2
      · rw [if_pos ⟨c1, c2, .inr c4⟩]
        refine Ev.same (fun k => by rw [if_pos c2, if_neg c3, if_pos c4]) (hgo (b.f0, b.f3 - sumH h b.f0))
      · rw [if_neg (fun e => e.2.2.elim c3 c4)]
        refine Ev.same (fun k => by rw [if_pos c2, if_neg c3, if_neg c4]) (hgo st)
theorem rChoose_ev {l : List S31} (hl : l.length ≤ 1000) (h : List S35) (a day : Int) : Ev (fun k => spileref52_Choose.f k l h a day) (choR l h a day) := by
  unfold spileref52_Choose.f
  refine Ev.bind (rright hl h) ?_
  unfold choR
  by_cases e : (hldR l h).2 = 0
  case neg =>
    rw [if_neg e]
    exact Ev.now fun k => by rw [if_neg (by simpa using e)]
  rw [if_pos e]
  refine Ev.same (fun k => if_pos (by simpa using e)) ?_
  simp only [betw, Option.bind_some]
  by_cases c1 : 0 ≤ a ∧ a ≤ 1125899906842624
  case neg =>
    rw [if_neg (fun x => c1 x.1)]
    refine Ev.ret fun k => ?_
    rw [decide_eq_false c1, if_neg (by decide)]
    simp only [spileref52_Choose.j0]
    rfl
  simp only [decide_eq_true c1, if_true]
  by_cases c2 : 0 ≤ day ∧ day ≤ 100000
  case neg =>
    rw [if_neg (fun x => c2 x.2)]
    refine Ev.ret fun k => ?_
    rw [decide_eq_false c2]
    simp only [spileref52_Choose.j0]
    rfl
  rw [if_pos ⟨c1, c2⟩, decide_eq_true c2]
  exact Ev.step (fun k => by simp only [spileref52_Choose.j0]; rw [if_neg (by decide)]; rfl) (rcho_go ((hldR_zero l h).1 e) a day l.length 0 (by omega) (0, 0))
theorem pcho_go {l : List S31} {h : List S35} (hr : RightH l h) (a day : Int) : ∀ d i : Nat, i + d = l.length → ∀ st : Int × Int, Ev (fun k => bond_Choose.l0 k h a day st.1 st.2 l (l.length : Int) (i : Int)) (choE ((l.drop i).foldl (choF h a day) st)) := by
  have hl := hr.1.1
  intro d
  induction d with
  | zero =>
    intro i hi st
    refine Ev.ret fun k => ?_
    rw [List.drop_eq_nil_of_le (by omega)]
    simp only [bond_Choose.l0]
    rw [if_neg (by omega)]
    show _ = some (choE st)
    unfold choE
    by_cases e : st.1 = 0
    · rw [if_pos e, if_pos e]
    · rw [if_neg e, if_neg e]
  | succ d ih =>
    intro i hi st
    have hil : i < l.length := by omega
    have w1 : wrap64 ((i : Int) + 1) = ((i + 1 : Nat) : Int) := by rw [w64_ (by omega) (by omega)]; rfl
    rw [dropB hil, List.foldl_cons]
    have hmem : rd_T31 l (i : Int) ∈ l := by rw [rdB hil]; exact List.getElem_mem hil
    obtain ⟨b, hb⟩ : ∃ b, rd_T31 l (i : Int) = b := ⟨_, rfl⟩
    rw [hb] at hmem ⊢
    have hbr := hr.1.2.1 b hmem
    unfold okB at hbr
    have hbd := pfree_ev (h := h) b.f0 b.f1 b.f2 b.f3 (by have := hr.2.1; omega) hr.2.2.1 (by omega)
    refine Ev.step (fun k => by simp only [bond_Choose.l0]; rw [if_pos (show (i : Int) < l.length by omega), if_pos (show 0 ≤ (i : Int) by omega), if_pos (show (i : Int) < l.length by omega), hb, w1]) ?_
    refine Ev.bind hbd ?_
    have hgo := ih (i + 1) (by omega)
    simp only [bond_within.plain, Option.bind_some]
    unfold choF
    by_cases c1 : b.f1 ≤ day ∧ day ≤ b.f2
    case neg =>
      rw [if_neg (fun e => c1 e.1)]
      refine Ev.same (fun k => by rw [decide_eq_false c1, if_neg (by decide)]) (hgo st)
    simp only [decide_eq_true c1, if_true]
    by_cases c2 : b.f3 - sumH h b.f0 ≥ a
    case neg =>
      rw [if_neg (fun e => c2 e.2.1)]
      refine Ev.same (fun k => by rw [if_neg c2]) (hgo st)
    by_cases c3 : st.1 = 0
    · rw [if_pos ⟨c1, c2, .inl c3⟩]
      refine Ev.same (fun k => by rw [if_pos c2, if_pos c3]) (hgo (b.f0, b.f3 - sumH h b.f0))
    · by_cases c4 : b.f3 - sumH h b.f0 < st.2
      · rw [if_pos ⟨c1, c2, .inr c4⟩]
        refine Ev.same (fun k => by rw [if_pos c2, if_neg c3, if_pos c4]) (hgo (b.f0, b.f3 - sumH h b.f0))
      · rw [if_neg (fun e => e.2.2.elim c3 c4)]
        refine Ev.same (fun k => by rw [if_pos c2, if_neg c3, if_neg c4]) (hgo st)
theorem pChoose_ev (l : List S31) (h : List S35) (a day : Int) : Ev (fun k => bond_Choose.f k l h a day) (choR l h a day) := by
  unfold bond_Choose.f
  simp only [asks52, Option.bind_some]
  unfold choR
  by_cases e : (hldR l h).2 = 0
  case neg =>
    rw [if_neg e, if_neg e]
    exact Ev.now fun k => by rw [if_neg (by decide)]
  rw [if_pos e, if_pos e]
  refine Ev.same (fun k => if_pos rfl) ?_
  simp only [bond_within.plain, Option.bind_some]
  by_cases c1 : 0 ≤ a ∧ a ≤ 1125899906842624
  case neg =>
    rw [if_neg (fun x => c1 x.1)]
    refine Ev.ret fun k => ?_
    rw [decide_eq_false c1, if_neg (by decide)]
    simp only [bond_Choose.j0]
    rfl
  simp only [decide_eq_true c1, if_true]
  by_cases c2 : 0 ≤ day ∧ day ≤ 100000
  case neg =>
    rw [if_neg (fun x => c2 x.2)]
    refine Ev.ret fun k => ?_
    rw [decide_eq_false c2]
    simp only [bond_Choose.j0]
    rfl
  rw [if_pos ⟨c1, c2⟩, decide_eq_true c2]
  exact Ev.step (fun k => by simp only [bond_Choose.j0]; rw [if_neg (by decide)]; rfl) (pcho_go ((hldR_zero l h).1 e) a day l.length 0 (by omega) (0, 0))
/-! Short -/
theorem rsho2 {l : List S31} {h : List S35} (hl : RightB l) (hh : h.length ≤ 64) (hk : ∀ x ∈ h, 0 ≤ x.f2 ∧ x.f2 ≤ 1125899906842624) : ∀ d i : Nat, i + d = l.length → Ev (fun k => spileref52_Short.l2 k l h (shtL (l.take i) h) (i : Int)) (shtL l h, 0) := by
  have hl1 := hl.1
  intro d
  induction d with
  | zero =>
    intro i hi
    refine Ev.ret fun k => ?_
    simp only [spileref52_Short.l2]
    rw [if_neg (by omega), List.take_of_length_le (by omega)]
  | succ d ih =>
    intro i hi
    have hil : i < l.length := by omega
    have w1 : wrap64 ((i : Int) + 1) = ((i + 1 : Nat) : Int) := by rw [w64_ (by omega) (by omega)]; rfl
    have hmem : rd_T31 l (i : Int) ∈ l := by rw [rdB hil]; exact List.getElem_mem hil
    have htk := takeB hil
    obtain ⟨b, hb⟩ : ∃ b, rd_T31 l (i : Int) = b := ⟨_, rfl⟩
    rw [hb] at hmem htk
    have hbr := hl.2.1 b hmem
    unfold okB at hbr
    have hs0 : 0 ≤ sumH h b.f0 ∧ sumH h b.f0 ≤ 72057594037927936 := by
      have a1 := sumH_nonneg (fun x hx => (hk x hx).1) b.f0
      have a2 := sumH_le (M := 1125899906842624) (by decide) (fun x hx => (hk x hx).2) b.f0
      omega
    have w2 : wrap64 (sumH h b.f0 - b.f3) = sumH h b.f0 - b.f3 := w64_ (by omega) (by omega)
    have hgo := ih (i + 1) (by omega)
    have hlen : (shtL (l.take i) h).length < 5864062014805 := by
      have a1 := shtL_length (l.take i) h
      rw [List.length_take] at a1
      omega
    refine Ev.step (fun k => by simp only [spileref52_Short.l2]; rw [if_pos (show (i : Int) < l.length by omega), if_pos (show 0 ≤ (i : Int) by omega), hb, w1]) ?_
    refine Ev.bind (rbound (h := h) (by omega) hk b.f0) ?_
    simp only [w2]
    rw [htk, shtL_snoc] at hgo
    by_cases c : 0 < sumH h b.f0 - b.f3
    · rw [if_pos c] at hgo
      refine Ev.same (fun k => by rw [if_pos c, if_pos hlen]) hgo
    · rw [if_neg c, List.append_nil] at hgo
      refine Ev.same (fun k => by rw [if_neg c]) hgo
theorem rsho1 {l : List S31} {h : List S35} (hl : RightB l) (hh : h.length ≤ 64) (hk : ∀ x ∈ h, 0 ≤ x.f2 ∧ x.f2 ≤ 1125899906842624) : ∀ d i : Nat, i + d = h.length → Ev (fun k => spileref52_Short.l1 k l h (i : Int)) (if (h.drop i).any (fun x => (findB l x.f0).isNone) = true then ([], 7) else (shtL l h, 0)) := by
  have hl1 := hl.1
  intro d
  induction d with
  | zero =>
    intro i hi
    rw [List.drop_eq_nil_of_le (by omega), List.any_nil, if_neg (by decide)]
    refine Ev.step (fun k => by simp only [spileref52_Short.l1]; rw [if_neg (by omega)]; rfl) (rsho2 hl hh hk l.length 0 (by omega))
  | succ d ih =>
    intro i hi
    have hil : i < h.length := by omega
    have w1 : wrap64 ((i : Int) + 1) = ((i + 1 : Nat) : Int) := by rw [w64_ (by omega) (by omega)]; rfl
    refine Ev.step (fun k => by simp only [spileref52_Short.l1]; rw [if_pos (show (i : Int) < h.length by omega), if_pos (show 0 ≤ (i : Int) by omega), w1]) ?_
    rw [dropH hil, List.any_cons]
    have hgo := ih (i + 1) (by omega)
    generalize rd_T35 h (i : Int) = x
    cases hf : findB l x.f0 with
    | none =>
      rw [Option.isNone_none, Bool.true_or, if_pos rfl]
      exact Ev.bind (rfind_none (by omega) hf) (Ev.now fun k => by rw [if_pos (by decide)])
    | some b =>
      obtain ⟨j, hj, _, hev⟩ := rfind_some (l := l) (by omega) hf
      rw [Option.isNone_some, Bool.false_or]
      exact Ev.bind hev (Ev.same (fun k => by rw [if_neg (by omega)]) hgo)
theorem rsho0 {l : List S31} {h : List S35} (hl : RightB l) (hh : h.length ≤ 64) : ∀ d i : Nat, i + d = h.length → (∀ x ∈ h.take i, okA x = true) → Ev (fun k => spileref52_Short.l0 k l h (i : Int)) (if (h.drop i).any (fun x => !okA x) = true then ([], 2) else if h.any (fun x => (findB l x.f0).isNone) = true then ([], 7) else (shtL l h, 0)) := by
  intro d
  induction d with
  | zero =>
    intro i hi hp
    rw [List.take_of_length_le (by omega)] at hp
    rw [List.drop_eq_nil_of_le (by omega), List.any_nil, if_neg (by decide)]
    refine Ev.step (fun k => by simp only [spileref52_Short.l0]; rw [if_neg (by omega)]) ?_
    exact rsho1 hl hh (fun x hx => by have := hp x hx; unfold okA at this; simpa using this) h.length 0 (by omega)
  | succ d ih =>
    intro i hi hp
    have hil : i < h.length := by omega
    have w1 : wrap64 ((i : Int) + 1) = ((i + 1 : Nat) : Int) := by rw [w64_ (by omega) (by omega)]; rfl
    have htk := takeH hil
    refine Ev.step (fun k => by simp only [spileref52_Short.l0, betw, Option.bind_some]; rw [if_pos (show (i : Int) < h.length by omega), if_pos (show 0 ≤ (i : Int) by omega), w1]) ?_
    rw [dropH hil, List.any_cons]
    have hgo := ih (i + 1) (by omega)
    generalize rd_T35 h (i : Int) = x at htk ⊢
    by_cases c : 0 ≤ x.f2 ∧ x.f2 ≤ 1125899906842624
    · have ha : okA x = true := decide_eq_true c
      rw [ha, Bool.not_true, Bool.false_or]
      refine Ev.same (fun k => by rw [decide_eq_true c, if_pos rfl]) (hgo fun y hy => ?_)
      rw [htk] at hy
      rcases List.mem_append.1 hy with hy | hy
      · exact hp y hy
      · rw [List.mem_singleton] at hy; rw [hy]; exact ha
    · have ha : okA x = false := decide_eq_false c
      rw [ha, Bool.not_false, Bool.true_or, if_pos rfl]
      exact Ev.now fun k => by rw [decide_eq_false c, if_neg (by decide)]
theorem rShort_ev (l : List S31) (h : List S35) : Ev (fun k => spileref52_Short.f k l h) (shtR l h) := by
  unfold spileref52_Short.f
  refine Ev.bind (rcheck l) ?_
  unfold shtR
  by_cases e : (chkB l).2 = 0
  case neg =>
    rw [if_pos e]
    exact Ev.now fun k => by rw [if_neg e]
  rw [if_neg (not_not_intro e)]
  refine Ev.same (fun k => if_pos e) ?_
  by_cases c : 64 < h.length
  · rw [if_pos c]
    exact Ev.now fun k => by rw [if_pos (by omega)]
  rw [if_neg c]
  refine Ev.same (fun k => if_neg (by omega)) ?_
  exact rsho0 ((chkB_zero l).1 e) (by omega) h.length 0 (by omega) (fun x hx => by simp at hx)
/-! Equal -/
theorem eqH_go {h : List S35} (hl : h.length ≤ 1000) : ∀ d i : Nat, i + d = h.length → Ev (fun k => api_Hold_26.l0 k h h (h.length : Int) (i : Int)) true := by
  intro d
  induction d with
  | zero =>
    intro i hi
    refine Ev.ret fun k => ?_
    simp only [api_Hold_26.l0]
    rw [if_neg (by omega)]
  | succ d ih =>
    intro i hi
    have w1 : wrap64 ((i : Int) + 1) = ((i + 1 : Nat) : Int) := by rw [w64_ (by omega) (by omega)]; rfl
    refine Ev.step (fun k => by simp only [api_Hold_26.l0]; rw [if_pos (show (i : Int) < h.length by omega), if_pos (show 0 ≤ (i : Int) by omega), if_pos (show (i : Int) < h.length by omega), if_pos (show (i : Int) < h.length by omega), w1, if_neg (by simp)]) (ih (i + 1) (by omega))
theorem eqH {h : List S35} (hl : h.length ≤ 1000) : Ev (fun k => api_Hold_26.f k h h) true := by
  unfold api_Hold_26.f
  exact Ev.same (fun k => if_pos rfl) (eqH_go hl h.length 0 (by omega))

end Go.Proofs.Ytdolabpkgienkaa.PF
