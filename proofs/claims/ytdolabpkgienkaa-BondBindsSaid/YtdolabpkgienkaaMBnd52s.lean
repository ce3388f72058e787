/- Layer 52: the reference's Bind, Change and Release. -/
import Derived.Test.YtdolabpkgienkaaMBnd52
import Derived.Test.YtdolabpkgienkaaMBnd52d
import Derived.Test.YtdolabpkgienkaaMBnd52r
import Derived.Test.YtdolabpkgienkaaMEv
import Derived.Test.YtdolabpkgienkaaPF0
import Derived.Test.YtdolabpkgienkaaPF1
import Derived.Test.YtdolabpkgienkaaPF14
import Derived.Test.YtdolabpkgienkaaPF15
import Derived.Test.YtdolabpkgienkaaPF16
import Derived.Test.YtdolabpkgienkaaPF17
import Derived.Test.YtdolabpkgienkaaPF3
import Derived.Test.YtdolabpkgienkaaPF4
import Derived.Test.YtdolabpkgienkaaPF5
namespace Go.Proofs.Ytdolabpkgienkaa.PF
open Go.RowKit Go.Proofs.YtdolabpkgienkaaW.PrintWords Go.Proofs.YtdolabpkgienkaaW.PrintLast Go.Proofs.YtdolabpkgienkaaW.PrintMore
set_option linter.unusedVariables false
set_option linter.unusedSimpArgs false
def heR : List S35 → Int → Int → Int
  | [], _, _ => -1
  | x :: r, m, i => if x.f1 = m then i else heR r m (i + 1)
theorem heR_find (h : List S35) (m : Int) : ∀ i : Nat, (has h m = false ∧ heR h m i = -1) ∨ ∃ j, ∃ hj : j < h.length, has h m = true ∧ h[j].f1 = m ∧ heR h m i = (i + j : Nat) := by
  induction h with
  | nil => intro i; exact .inl ⟨rfl, rfl⟩
  | cons x r ih =>
    intro i
    simp only [heR]
    have hc : has (x :: r) m = ((x.f1 == m) || has r m) := by unfold has; rw [List.any_cons]
    by_cases e : x.f1 = m
    · rw [if_pos e]
      exact .inr ⟨0, by simp, by rw [hc]; simp [e], e, by simp⟩
    · have e' : (x.f1 == m) = false := beq_eq_false_iff_ne.mpr e
      rw [if_neg e]
      rcases ih (i + 1) with ⟨h1, h2⟩ | ⟨j, hj, h1, h2, h3⟩
      · exact .inl ⟨by rw [hc, e', h1]; rfl, by rw [← h2]; rfl⟩
      · refine .inr ⟨j + 1, by simpa using hj, by rw [hc, h1, Bool.or_true], h2, ?_⟩
        rw [show (i : Int) + 1 = ((i + 1 : Nat) : Int) by omega, h3, show i + 1 + j = i + (j + 1) by omega]
theorem rhold_go {h : List S35} (hl : h.length ≤ 1000) (m : Int) : ∀ d i : Nat, i + d = h.length → Ev (fun k => spileref52_hold.l0 k h m (i : Int)) (heR (h.drop i) m (i : Int)) := by
  intro d
  induction d with
  | zero =>
    intro i hi
    refine Ev.ret fun k => ?_
    rw [List.drop_eq_nil_of_le (by omega)]
    simp only [spileref52_hold.l0]
    rw [if_neg (by omega)]
    rfl
  | succ d ih =>
    intro i hi
    have hil : i < h.length := by omega
    have w1 : wrap64 ((i : Int) + 1) = ((i + 1 : Nat) : Int) := by rw [w64_ (by omega) (by omega)]; rfl
    rw [dropH hil]
    simp only [heR]
    by_cases e : (rd_T35 h (i : Int)).f1 = m
    · refine Ev.ret fun k => ?_
      simp only [spileref52_hold.l0]
      rw [if_pos (by omega), if_pos (by omega), if_pos e, if_pos e]
    · refine Ev.step (G := fun k => spileref52_hold.l0 k h m ((i + 1 : Nat) : Int)) (fun k => ?_) ?_
      · simp only [spileref52_hold.l0]
        rw [if_pos (by omega), if_pos (by omega), if_neg e, w1]
      · rw [if_neg e]
        exact ih (i + 1) (by omega)
theorem rhold_no {h : List S35} (hl : h.length ≤ 1000) {m : Int} (hn : has h m = false) : Ev (fun k => spileref52_hold.f k h m) (-1) := by
  have := rhold_go hl m h.length 0 (by omega)
  rcases heR_find h m 0 with ⟨_, e⟩ | ⟨j, hj, e, _⟩
  · have e' : heR (h.drop 0) m ((0 : Nat) : Int) = -1 := e
    rw [e'] at this; exact this
  · rw [hn] at e; cases e
theorem rhold_yes {h : List S35} (hl : h.length ≤ 1000) {m : Int} (hn : has h m = true) : ∃ j, ∃ hj : j < h.length, h[j].f1 = m ∧ Ev (fun k => spileref52_hold.f k h m) (j : Int) := by
  have := rhold_go hl m h.length 0 (by omega)
  rcases heR_find h m 0 with ⟨e, _⟩ | ⟨j, hj, _, e1, e2⟩
  · rw [hn] at e; cases e
  · have e' : heR (h.drop 0) m ((0 : Nat) : Int) = ((0 + j : Nat) : Int) := e2
    rw [e', Nat.zero_add] at this
    exact ⟨j, hj, e1, this⟩
theorem rins {h : List S35} (hh : h.length ≤ 1000) (hs : SortH h) (x0 x1 x2 : Int) : ∀ d i : Nat, i + d = plc h x1 → Ev (fun k => spileref52_Bind.l0 k h (i : Int) x0 x1 x2) (insH h ⟨x0, x1, x2⟩, 0) := by
  obtain ⟨s1, s2⟩ := plc_spec hs x1
  have hp := plc_le h x1
  intro d
  induction d with
  | zero =>
    intro i hi
    have hi' : i = plc h x1 := by omega
    subst hi'
    refine Ev.ret fun k => ?_
    simp only [spileref52_Bind.l0]
    have hlen : (h.take (plc h x1)).length = plc h x1 := by rw [List.length_take]; omega
    have hlen2 : (h.drop (plc h x1)).length = h.length - plc h x1 := List.length_drop
    by_cases c : plc h x1 < h.length
    · have hn : ¬ (rd_T35 h ((plc h x1 : Nat) : Int)).f1 < x1 := by
        rw [rdH c]
        have := s2 _ c (Nat.le_refl _)
        omega
      rw [if_pos (by omega), if_pos (by omega), if_neg hn]
      simp only [Option.bind_some, List.nil_append, Int.toNat_natCast, List.length_nil, List.length_append, List.length_singleton, hlen, hlen2]
      rw [if_pos (by omega), if_pos (by omega), if_pos (by omega), if_pos (by omega)]
      unfold insH
      rw [List.append_assoc]
      rfl
    · rw [if_neg (by omega)]
      simp only [Option.bind_some, List.nil_append, Int.toNat_natCast, List.length_nil, List.length_append, List.length_singleton, hlen, hlen2]
      rw [if_pos (by omega), if_pos (by omega), if_pos (by omega), if_pos (by omega), if_pos (by omega)]
      unfold insH
      rw [List.append_assoc]
      rfl
  | succ d ih =>
    intro i hi
    have hil : i < h.length := by omega
    have w1 : wrap64 ((i : Int) + 1) = ((i + 1 : Nat) : Int) := by rw [w64_ (by omega) (by omega)]; rfl
    have hlt : (rd_T35 h (i : Int)).f1 < x1 := by rw [rdH hil]; exact s1 i hil (by omega)
    refine Ev.step (fun k => by simp only [spileref52_Bind.l0]; rw [if_pos (show (i : Int) < h.length by omega), if_pos (show 0 ≤ (i : Int) by omega), if_pos hlt, w1]) (ih (i + 1) (by omega))
theorem rBind_ev {l : List S31} (hl : l.length ≤ 1000) (h : List S35) (x0 x1 x2 day : Int) : Ev (fun k => spileref52_Bind.f k l h x0 x1 x2 day) (bndR l h ⟨x0, x1, x2⟩ day) := by
  unfold spileref52_Bind.f
  refine Ev.bind (rright hl h) ?_
  unfold bndR
  by_cases e : (hldR l h).2 = 0
  case neg =>
    rw [if_pos e]
    exact Ev.now fun k => by rw [if_neg (by simpa using e)]
  have hr := (hldR_zero l h).1 e
  have hh := hr.2.1
  rw [if_neg (not_not_intro e)]
  refine Ev.same (fun k => if_pos (by simpa using e)) ?_
  simp only [betw, Option.bind_some]
  by_cases c1 : 1 ≤ x1 ∧ x1 ≤ 1073741824
  case neg =>
    rw [if_pos c1]
    refine Ev.ret fun k => ?_
    rw [decide_eq_false c1, if_neg (by decide)]
    simp only [spileref52_Bind.j0]
    rfl
  rw [if_neg (not_not_intro c1)]
  by_cases c2 : 0 ≤ x2 ∧ x2 ≤ 1125899906842624
  case neg =>
    rw [if_pos c2]
    refine Ev.ret fun k => ?_
    rw [decide_eq_true c1, if_pos rfl, decide_eq_false c2, if_neg (by decide)]
    simp only [spileref52_Bind.j0]
    rfl
  rw [if_neg (not_not_intro c2)]
  simp only [decide_eq_true c1, decide_eq_true c2, if_true]
  by_cases c3 : 0 ≤ day ∧ day ≤ 100000
  case neg =>
    rw [if_pos c3]
    refine Ev.ret fun k => ?_
    rw [decide_eq_false c3]
    simp only [spileref52_Bind.j0]
    rfl
  rw [if_neg (not_not_intro c3), decide_eq_true c3]
  refine Ev.step (fun k => by simp only [spileref52_Bind.j0]; rw [if_neg (by decide)]) ?_
  cases hm : has h x1 with
  | true =>
    obtain ⟨j, hj, _, hev⟩ := rhold_yes (h := h) (by omega) hm
    rw [if_pos rfl]
    exact Ev.bind hev (Ev.now fun k => by rw [if_pos (by omega)])
  | false =>
  rw [if_neg (by decide)]
  refine Ev.bind (rhold_no (h := h) (by omega) hm) ?_
  refine Ev.same (fun k => by rw [if_neg (by decide)]) ?_
  cases hf : findB l x0 with
  | none => exact Ev.bind (rfind_none hl hf) (Ev.now fun k => by rw [if_pos (by decide)])
  | some b =>
  obtain ⟨j, hj, hb, hev⟩ := rfind_some hl hf
  refine Ev.bind hev ?_
  have hs := hr.sum x0
  have hbr := hr.1.2.1 b (findB_some hf).1
  unfold okB at hbr
  have hid := (findB_some hf).2
  refine Ev.same (fun k => by rw [if_neg (by omega), if_pos (by omega), if_pos (by omega), hb]) ?_
  simp only [betw, Option.bind_some]
  by_cases c4 : b.f1 ≤ day ∧ day ≤ b.f2
  case neg =>
    rw [if_pos c4]
    exact Ev.now fun k => by rw [decide_eq_false c4, if_neg (by decide)]
  rw [if_neg (not_not_intro c4)]
  simp only [decide_eq_true c4, if_true]
  refine Ev.bind (rbound (h := h) (by omega) (fun x hx => ⟨(hr.2.2.1 x hx).2.2.1, (hr.2.2.1 x hx).2.2.2⟩) x0) ?_
  simp only [hid, w64_ (show -9223372036854775808 ≤ b.f3 - sumH h x0 by omega) (by omega)]
  by_cases c5 : b.f3 - sumH h x0 < x2
  · rw [if_pos c5]
    exact Ev.now fun k => by rw [if_pos c5]
  rw [if_neg c5]
  refine Ev.same (fun k => if_neg c5) ?_
  by_cases c6 : h.length = 16
  · rw [if_pos c6]
    exact Ev.now fun k => by rw [if_pos (by omega)]
  rw [if_neg c6]
  refine Ev.same (fun k => if_neg (by omega)) ?_
  exact rins (by omega) hr.sort x0 x1 x2 (plc h x1) 0 (by omega)
theorem rRel_ev {l : List S31} (hl : l.length ≤ 1000) (h : List S35) (m : Int) : Ev (fun k => spileref52_Release.f k l h m) (relR l h m) := by
  unfold spileref52_Release.f
  refine Ev.bind (rright hl h) ?_
  unfold relR
  by_cases e : (hldR l h).2 = 0
  case neg =>
    rw [if_pos e]
    exact Ev.now fun k => by rw [if_neg (by simpa using e)]
  have hr := (hldR_zero l h).1 e
  have hh := hr.2.1
  rw [if_neg (not_not_intro e)]
  refine Ev.same (fun k => if_pos (by simpa using e)) ?_
  cases hm : has h m with
  | false =>
    rw [if_pos rfl]
    exact Ev.bind (rhold_no (h := h) (by omega) hm) (Ev.now fun k => by rw [if_pos (by decide)])
  | true =>
    obtain ⟨j, hj, e1, hev⟩ := rhold_yes (h := h) (by omega) hm
    rw [if_neg (by decide)]
    refine Ev.bind hev ?_
    refine Ev.now fun k => ?_
    have w1 : wrap64 ((j : Int) + 1) = ((j + 1 : Nat) : Int) := by rw [w64_ (by omega) (by omega)]; rfl
    have hlen : (h.take j).length = j := by rw [List.length_take]; omega
    have hlen2 : (h.drop (j + 1)).length = h.length - (j + 1) := List.length_drop
    rw [if_neg (by omega)]
    simp only [Option.bind_some, List.nil_append, w1, Int.toNat_natCast, List.length_nil, hlen, hlen2]
    rw [if_pos (by omega), if_pos (by omega), if_pos (by omega), if_pos (by omega), if_pos (by omega), if_pos (by omega)]
    rw [← List.eraseIdx_eq_take_drop_succ, erase_at hr.sort hj, e1]
theorem rChg_ev {l : List S31} (hl : l.length ≤ 1000) (h : List S35) (m a : Int) : Ev (fun k => spileref52_Change.f k l h m a) (chgR l h m a) := by
  unfold spileref52_Change.f
  refine Ev.bind (rright hl h) ?_
  unfold chgR
  by_cases e : (hldR l h).2 = 0
  case neg =>
    rw [if_pos e]
    exact Ev.now fun k => by rw [if_neg (by simpa using e)]
  have hr := (hldR_zero l h).1 e
  have hh := hr.2.1
  rw [if_neg (not_not_intro e)]
  refine Ev.same (fun k => if_pos (by simpa using e)) ?_
  simp only [betw, Option.bind_some]
  by_cases c1 : 0 ≤ a ∧ a ≤ 1125899906842624
  case neg =>
    rw [if_pos c1]
    exact Ev.now fun k => by rw [decide_eq_false c1, if_neg (by decide)]
  rw [if_neg (not_not_intro c1)]
  simp only [decide_eq_true c1, if_true]
  cases hhm : has h m with
  | false =>
    rw [if_pos rfl]
    exact Ev.bind (rhold_no (h := h) (by omega) hhm) (Ev.now fun k => by rw [if_pos (by decide)])
  | true =>
  rw [if_neg (by decide)]
  obtain ⟨j, hj, e1, hev⟩ := rhold_yes (h := h) (by omega) hhm
  refine Ev.bind hev ?_
  obtain ⟨b, hf, _⟩ := hr.2.2.2.2 h[j] (List.getElem_mem hj)
  have hhid : hidR h m = h[j].f0 := by rw [← e1]; exact hid_at hr.sort hj
  have hset : h.set j ⟨(rd_T35 h (j : Int)).f0, (rd_T35 h (j : Int)).f1, a⟩ = setH h m a := by rw [rdH hj, set_at hr.sort hj, e1]
  rw [hhid, hf]
  obtain ⟨i, hi, hb, hfe⟩ := rfind_some hl hf
  refine Ev.same (fun k => if_neg (by omega)) ?_
  simp only [Option.bind_some, List.nil_append, List.length_nil, Int.toNat_natCast, hset]
  refine Ev.same (fun k => by rw [if_pos (by omega), if_pos (by omega), if_pos (by omega), if_pos (by omega), rdH hj]) ?_
  refine Ev.bind (rbound (h := setH h m a) (by rw [set_len]; omega) (fun x hx => ⟨(set_ok hr.2.2.1 c1 x hx).2.2.1, (set_ok hr.2.2.1 c1 x hx).2.2.2⟩) h[j].f0) ?_
  refine Ev.bind hfe ?_
  refine Ev.now fun k => ?_
  have hid := (findB_some hf).2
  rw [if_pos (by omega), if_pos (by omega), hb]
  simp only [hid]
  by_cases c : b.f3 < sumH (setH h m a) h[j].f0
  · rw [if_pos c, if_pos c]
  · rw [if_neg c, if_neg c]

end Go.Proofs.Ytdolabpkgienkaa.PF
