/- Layer 52: what the reference's Check, Holds, Free and their helpers return, with enough rounds. -/
import Derived.Test.YtdolabpkgienkaaMBnd52
import Derived.Test.YtdolabpkgienkaaMEv
import Derived.Test.YtdolabpkgienkaaPF0
import Derived.Test.YtdolabpkgienkaaPF1
import Derived.Test.YtdolabpkgienkaaPF10
import Derived.Test.YtdolabpkgienkaaPF11
import Derived.Test.YtdolabpkgienkaaPF12
import Derived.Test.YtdolabpkgienkaaPF3
import Derived.Test.YtdolabpkgienkaaPF4
namespace Go.Proofs.Ytdolabpkgienkaa.PF
open Go.RowKit Go.Proofs.YtdolabpkgienkaaW.PrintWords Go.Proofs.YtdolabpkgienkaaW.PrintLast Go.Proofs.YtdolabpkgienkaaW.PrintMore
set_option linter.unusedVariables false
set_option linter.unusedSimpArgs false
theorem betw (a lo hi : Int) : spileref52_between.f a lo hi = some (decide (lo ≤ a ∧ a ≤ hi)) := by
  unfold spileref52_between.f spileref47_Between.f
  by_cases h : a ≥ lo
  · rw [if_pos h, Option.bind_some]
    congr 1
    rw [decide_eq_decide]
    exact ⟨fun h2 => ⟨h, h2⟩, fun h2 => h2.2⟩
  · rw [if_neg h, Option.bind_some, decide_eq_false (fun h2 => h h2.1)]
theorem rcheck_step {l : List S31} {i : Nat} (hi : i < l.length) (k : Nat) :
    spileref52_Check.l0 (k + 1) l (i : Int) = spileref52_Check.j1 k l (i : Int) (decide (¬ okB (rd_T31 l i))) (rd_T31 l i).f0 (rd_T31 l i).f1 (rd_T31 l i).f2 (rd_T31 l i).f3 := by
  simp only [spileref52_Check.l0]
  rw [if_pos (by omega), if_pos (by omega)]
  simp only [betw, Option.bind_some]
  generalize rd_T31 l i = b
  unfold okB
  by_cases h1 : 1 ≤ b.f0 ∧ b.f0 ≤ 1073741824
  · rw [decide_eq_true h1, if_pos rfl]
    by_cases h2 : 0 ≤ b.f1 ∧ b.f1 ≤ 100000
    · rw [decide_eq_true h2, if_pos rfl]
      by_cases h3 : b.f1 ≤ b.f2 ∧ b.f2 ≤ 100000
      · rw [decide_eq_true h3, if_pos rfl]
        by_cases h4 : 0 ≤ b.f3 ∧ b.f3 ≤ 1125899906842624
        · rw [decide_eq_true h4, decide_eq_false (by omega)]
          rfl
        · rw [decide_eq_false h4, decide_eq_true (by omega)]
          rfl
      · rw [decide_eq_false h3, if_neg (by decide), decide_eq_true (by omega)]
    · rw [decide_eq_false h2, if_neg (by decide), decide_eq_true (by omega)]
  · rw [decide_eq_false h1, if_neg (by decide), decide_eq_true (by omega)]
theorem rcheck_go {l : List S31} (hl : l.length ≤ 1000) : ∀ d i : Nat, i + d = l.length → Ev (fun k => spileref52_Check.l0 k l (i : Int)) (chkBs (l.drop i) (i : Int) (prvB l i)) := by
  intro d
  induction d with
  | zero =>
    intro i hi
    refine Ev.ret fun k => ?_
    rw [List.drop_eq_nil_of_le (by omega)]
    simp only [spileref52_Check.l0]
    rw [if_neg (by omega)]
    rfl
  | succ d ih =>
    intro i hi
    have hil : i < l.length := by omega
    have hn := ih (i + 1) (by omega)
    have hp : prvB l (i + 1) = (rd_T31 l (i : Int)).f0 := by
      unfold prvB
      rw [if_neg (by omega), show ((i + 1 : Nat) : Int) - 1 = (i : Int) by omega]
    rw [hp] at hn
    have w1 : wrap64 ((i : Int) + 1) = ((i + 1 : Nat) : Int) := by rw [w64_ (by omega) (by omega)]; rfl
    refine Ev.step (fun k => rcheck_step hil k) ?_
    rw [dropB hil]
    by_cases h1 : okB (rd_T31 l i)
    · by_cases h2 : i = 0
      · subst h2
        refine Ev.step (G := fun k => spileref52_Check.l0 k l ((0 + 1 : Nat) : Int)) (fun k => ?_) ?_
        · simp only [spileref52_Check.j1]
          rw [decide_eq_false (not_not_intro h1), if_neg (by decide), if_neg (by omega), w1]
        · have : ¬ (rd_T31 l ((0 : Nat) : Int)).f0 ≤ prvB l 0 := by unfold okB at h1; unfold prvB; rw [if_pos rfl]; omega
          simp only [chkBs]
          rw [if_neg (not_not_intro h1), if_neg this]
          exact hn
      · have w2 : wrap64 ((i : Int) - 1) = (i : Int) - 1 := w64_ (by omega) (by omega)
        have hq : prvB l i = (rd_T31 l ((i : Int) - 1)).f0 := by unfold prvB; rw [if_neg h2]
        by_cases h3 : (rd_T31 l (i : Int)).f0 ≤ prvB l i
        · refine Ev.ret fun k => ?_
          simp only [spileref52_Check.j1, chkBs]
          rw [decide_eq_false (not_not_intro h1), if_neg (by decide), if_pos (by omega), w2, if_pos (by omega), if_pos (by omega), if_pos (by rw [← hq]; exact h3), if_neg (not_not_intro h1), if_pos h3]
        · refine Ev.step (G := fun k => spileref52_Check.l0 k l ((i + 1 : Nat) : Int)) (fun k => ?_) ?_
          · simp only [spileref52_Check.j1]
            rw [decide_eq_false (not_not_intro h1), if_neg (by decide), if_pos (by omega), w2, if_pos (by omega), if_pos (by omega), if_neg (by rw [← hq]; exact h3), w1]
          · simp only [chkBs]
            rw [if_neg (not_not_intro h1), if_neg h3]
            exact hn
    · refine Ev.ret fun k => ?_
      simp only [spileref52_Check.j1, chkBs]
      rw [decide_eq_true h1, if_pos rfl, if_pos h1]
theorem rcheck (l : List S31) : Ev (fun k => spileref52_Check.f k l) (chkB l) := by
  unfold chkB
  by_cases h : 16 < l.length
  · refine Ev.now fun k => ?_
    unfold spileref52_Check.f
    rw [if_pos (by omega), if_pos h]
  · refine Ev.same (G := fun k => spileref52_Check.l0 k l ((0 : Nat) : Int)) (fun k => ?_) ?_
    · unfold spileref52_Check.f
      rw [if_neg (by omega)]
      rfl
    · rw [if_neg h]
      exact rcheck_go (by omega) l.length 0 (by omega)
/-- The index of the bond with an ID, from i on; -1 if there is none. -/
def fiR : List S31 → Int → Int → Int
  | [], _, _ => -1
  | b :: r, id, i => if b.f0 = id then i else fiR r id (i + 1)
theorem fiR_find (l : List S31) (id : Int) : ∀ i : Nat, (findB l id = none ∧ fiR l id i = -1) ∨ ∃ j, ∃ hj : j < l.length, findB l id = some l[j] ∧ fiR l id i = (i + j : Nat) := by
  induction l with
  | nil => intro i; exact .inl ⟨rfl, rfl⟩
  | cons b r ih =>
    intro i
    unfold findB fiR
    by_cases h : b.f0 = id
    · rw [List.find?_cons_of_pos (by simpa using h), if_pos h]
      exact .inr ⟨0, by simp, rfl, by simp⟩
    · rw [List.find?_cons_of_neg (by simpa using h), if_neg h]
      rcases ih (i + 1) with ⟨h1, h2⟩ | ⟨j, hj, h1, h2⟩
      · exact .inl ⟨h1, by rw [← h2]; rfl⟩
      · refine .inr ⟨j + 1, by simpa using hj, h1, ?_⟩
        rw [show (i : Int) + 1 = ((i + 1 : Nat) : Int) by omega, h2, show i + 1 + j = i + (j + 1) by omega]
theorem rfind_go {l : List S31} (hl : l.length ≤ 1000) (id : Int) : ∀ d i : Nat, i + d = l.length → Ev (fun k => spileref52_find.l0 k l id (i : Int)) (fiR (l.drop i) id (i : Int)) := by
  intro d
  induction d with
  | zero =>
    intro i hi
    refine Ev.ret fun k => ?_
    rw [List.drop_eq_nil_of_le (by omega)]
    simp only [spileref52_find.l0]
    rw [if_neg (by omega)]
    rfl
  | succ d ih =>
    intro i hi
    have hil : i < l.length := by omega
    have w1 : wrap64 ((i : Int) + 1) = ((i + 1 : Nat) : Int) := by rw [w64_ (by omega) (by omega)]; rfl
    rw [dropB hil]
    simp only [fiR]
    by_cases h : (rd_T31 l (i : Int)).f0 = id
    · refine Ev.ret fun k => ?_
      simp only [spileref52_find.l0]
      rw [if_pos (by omega), if_pos (by omega), if_pos h, if_pos h]
    · refine Ev.step (G := fun k => spileref52_find.l0 k l id ((i + 1 : Nat) : Int)) (fun k => ?_) ?_
      · simp only [spileref52_find.l0]
        rw [if_pos (by omega), if_pos (by omega), if_neg h, w1]
      · rw [if_neg h]
        exact ih (i + 1) (by omega)
theorem rfind {l : List S31} (hl : l.length ≤ 1000) (id : Int) : Ev (fun k => spileref52_find.f k l id) (fiR l id 0) := rfind_go hl id l.length 0 (by omega)
theorem rfind_none {l : List S31} (hl : l.length ≤ 1000) {id : Int} (h : findB l id = none) : Ev (fun k => spileref52_find.f k l id) (-1) := by
  have := rfind hl id
  rcases fiR_find l id 0 with ⟨_, e⟩ | ⟨j, hj, e, _⟩
  · have e' : fiR l id 0 = -1 := e
    rw [e'] at this; exact this
  · rw [h] at e; cases e
theorem rfind_some {l : List S31} (hl : l.length ≤ 1000) {id : Int} {b : S31} (h : findB l id = some b) : ∃ j : Nat, j < l.length ∧ rd_T31 l (j : Int) = b ∧ Ev (fun k => spileref52_find.f k l id) (j : Int) := by
  have := rfind hl id
  rcases fiR_find l id 0 with ⟨e, _⟩ | ⟨j, hj, e, e2⟩
  · rw [h] at e; cases e
  · rw [h] at e
    have e2' : fiR l id 0 = ((0 + j : Nat) : Int) := e2
    rw [e2', Nat.zero_add] at this
    exact ⟨j, hj, by rw [rdB hj]; exact (Option.some.inj e).symm, this⟩
theorem rbound_go {h : List S35} (hl : h.length ≤ 1000) (hk : ∀ x ∈ h, 0 ≤ x.f2 ∧ x.f2 ≤ 1125899906842624) (id : Int) : ∀ d i : Nat, i + d = h.length → Ev (fun k => spileref52_bound.l0 k h id (sumH (h.take i) id) (i : Int)) (sumH h id) := by
  intro d
  induction d with
  | zero =>
    intro i hi
    refine Ev.ret fun k => ?_
    simp only [spileref52_bound.l0]
    rw [if_neg (by omega), List.take_of_length_le (by omega)]
  | succ d ih =>
    intro i hi
    have hil : i < h.length := by omega
    have w1 : wrap64 ((i : Int) + 1) = ((i + 1 : Nat) : Int) := by rw [w64_ (by omega) (by omega)]; rfl
    have ht := takeH hil
    have hs : sumH (h.take (i + 1)) id = sumH (h.take i) id + (if (rd_T35 h (i : Int)).f0 = id then (rd_T35 h (i : Int)).f2 else 0) := by
      rw [ht, sumH_append]; simp [sumH]
    have hb : 0 ≤ sumH (h.take (i + 1)) id ∧ sumH (h.take (i + 1)) id ≤ 1125899906842624000 := by
      have a1 := sumH_nonneg (h := h.take (i + 1)) (fun x hx => (hk x (List.mem_of_mem_take hx)).1) id
      have a2 := sumH_le (h := h.take (i + 1)) (M := 1125899906842624) (by decide) (fun x hx => (hk x (List.mem_of_mem_take hx)).2) id
      have a3 : ((h.take (i + 1)).length : Int) ≤ 1000 := by rw [List.length_take]; omega
      omega
    have hi' := ih (i + 1) (by omega)
    by_cases e : (rd_T35 h (i : Int)).f0 = id
    · rw [if_pos e] at hs
      refine Ev.step (G := fun k => spileref52_bound.l0 k h id (sumH (h.take (i + 1)) id) ((i + 1 : Nat) : Int)) (fun k => ?_) hi'
      simp only [spileref52_bound.l0]
      rw [if_pos (by omega), if_pos (by omega), if_pos e, w1, ← hs, w64_ (by omega) (by omega)]
    · rw [if_neg e, Int.add_zero] at hs
      refine Ev.step (G := fun k => spileref52_bound.l0 k h id (sumH (h.take (i + 1)) id) ((i + 1 : Nat) : Int)) (fun k => ?_) hi'
      simp only [spileref52_bound.l0]
      rw [if_pos (by omega), if_pos (by omega), if_neg e, w1, hs]
theorem rbound {h : List S35} (hl : h.length ≤ 1000) (hk : ∀ x ∈ h, 0 ≤ x.f2 ∧ x.f2 ≤ 1125899906842624) (id : Int) : Ev (fun k => spileref52_bound.f k h id) (sumH h id) := by
  have := rbound_go hl hk id h.length 0 (by omega)
  rw [List.take_zero] at this
  exact this
theorem rholds_go {l : List S31} {h : List S35} (hl : l.length ≤ 1000) (hh : h.length ≤ 16) : ∀ d i : Nat, i + d = h.length → (∀ x ∈ h.take i, okH x) → Ev (fun k => spileref52_Holds.l0 k l h (i : Int)) (hldS l (h.take i) (h.drop i) (i : Int) (prvH h i)) := by
  intro d
  induction d with
  | zero =>
    intro i hi _
    refine Ev.ret fun k => ?_
    rw [List.drop_eq_nil_of_le (by omega)]
    simp only [spileref52_Holds.l0]
    rw [if_neg (by omega)]
    rfl
  | succ d ih =>
    intro i hi hpre
    have hil : i < h.length := by omega
    have w1 : wrap64 ((i : Int) + 1) = ((i + 1 : Nat) : Int) := by rw [w64_ (by omega) (by omega)]; rfl
    have hp : prvH h (i + 1) = (rd_T35 h (i : Int)).f1 := by
      unfold prvH
      rw [if_neg (by omega), show ((i + 1 : Nat) : Int) - 1 = (i : Int) by omega]
    have htk := takeH hil
    have hih := ih (i + 1) (by omega)
    rw [hp, htk] at hih
    rw [dropH hil]
    obtain ⟨x, hx⟩ : ∃ x, rd_T35 h (i : Int) = x := ⟨_, rfl⟩
    rw [hx] at hih htk ⊢
    have hfi := rfind hl x.f0
    -- the first step: to j1
    refine Ev.step (G := fun k => (spileref52_find.f k l x.f0).bind fun t => spileref52_Holds.j1 k l h (i : Int) t (decide (¬ okH x))) (fun k => ?_) ?_
    · simp only [spileref52_Holds.l0]
      rw [if_pos (by omega), if_pos (by omega), hx]
      simp only [betw, Option.bind_some]
      congr 1
      funext t
      unfold okH
      by_cases h1 : 1 ≤ x.f1 ∧ x.f1 ≤ 1073741824
      · rw [decide_eq_true h1, if_pos rfl]
        by_cases h2 : 0 ≤ x.f2 ∧ x.f2 ≤ 1125899906842624
        · rw [decide_eq_true h2, decide_eq_false (by omega)]; rfl
        · rw [decide_eq_false h2, decide_eq_true (by omega)]; rfl
      · rw [decide_eq_false h1, if_neg (by decide), decide_eq_true (by omega)]
    refine Ev.bind (G := fun k t => spileref52_Holds.j1 k l h (i : Int) t (decide (¬ okH x))) hfi ?_
    simp only [hldS]
    by_cases h1 : okH x
    case neg =>
      refine Ev.ret fun k => ?_
      simp only [spileref52_Holds.j1]
      rw [decide_eq_true h1, if_pos rfl, if_pos h1]
    rw [if_neg (not_not_intro h1)]
    have w2 : wrap64 ((i : Int) - 1) = (i : Int) - 1 := w64_ (by omega) (by omega)
    refine Ev.step (G := fun k => spileref52_Holds.j2 k l h (i : Int) (fiR l x.f0 0) (decide (x.f1 ≤ prvH h i))) (fun k => ?_) ?_
    · simp only [spileref52_Holds.j1]
      rw [decide_eq_false (not_not_intro h1), if_neg (by decide)]
      by_cases h2 : i = 0
      · subst h2
        rw [if_neg (by omega)]
        have : ¬ x.f1 ≤ prvH h 0 := by unfold okH at h1; unfold prvH; rw [if_pos rfl]; omega
        rw [decide_eq_false this]
      · rw [if_pos (by omega), if_pos (by omega), if_pos (by omega), w2, if_pos (by omega), if_pos (by omega), hx]
        have hq : prvH h i = (rd_T35 h ((i : Int) - 1)).f1 := by unfold prvH; rw [if_neg h2]
        rw [hq]
    by_cases h3 : x.f1 ≤ prvH h i
    · refine Ev.ret fun k => ?_
      simp only [spileref52_Holds.j2]
      rw [decide_eq_true h3, if_pos rfl, if_pos h3]
    rw [if_neg h3, decide_eq_false h3]
    have hnew : ∀ y ∈ h.take (i + 1), okH y := fun y hy => by
      rw [takeH hil, hx] at hy
      rcases List.mem_append.1 hy with hy | hy
      · exact hpre y hy
      · rw [List.mem_singleton] at hy; rw [hy]; exact h1
    rcases fiR_find l x.f0 0 with ⟨e, e2⟩ | ⟨j, hj, e, e2⟩
    · have e2' : fiR l x.f0 0 = -1 := e2
      rw [e, e2']
      refine Ev.ret fun k => ?_
      simp only [spileref52_Holds.j2]
      rw [if_neg (by decide), if_pos (by decide)]
    · have e2' : fiR l x.f0 0 = ((0 + j : Nat) : Int) := e2
      rw [e, e2', Nat.zero_add]
      have hrb : rd_T31 l (j : Int) = l[j] := rdB hj
      have hbd : Ev (fun k => spileref52_bound.f k (h.take (i + 1)) x.f0) (sumH (h.take i ++ [x]) x.f0) := by
        have := rbound (h := h.take (i + 1)) (by rw [List.length_take]; omega) (fun y hy => ⟨(hnew y hy).2.2.1, (hnew y hy).2.2.2⟩) x.f0
        rw [htk] at this ⊢
        exact this
      refine Ev.step (G := fun k => (spileref52_bound.f k (h.take (i + 1)) x.f0).bind fun t => if t > l[j].f3 then some ((i : Int), 17) else spileref52_Holds.l0 k l h ((i + 1 : Nat) : Int)) (fun k => ?_) ?_
      · simp only [spileref52_Holds.j2]
        rw [if_neg (by decide), if_neg (by omega), w1, if_pos (by omega), if_pos (by omega), if_pos (by omega), if_pos (by omega), hx]
        simp only [Int.toNat_natCast]
        congr 1
        funext t
        rw [if_pos (by omega), if_pos (by omega), hrb]
      refine Ev.bind (G := fun k t => if t > l[j].f3 then some ((i : Int), 17) else spileref52_Holds.l0 k l h ((i + 1 : Nat) : Int)) hbd ?_
      simp only
      by_cases h4 : l[j].f3 < sumH (h.take i ++ [x]) x.f0
      · refine Ev.now fun k => ?_
        rw [if_pos h4, if_pos h4]
      · rw [if_neg h4]
        refine Ev.same (fun k => if_neg h4) ?_
        exact hih (by rw [← htk]; exact hnew)
theorem rholds {l : List S31} (hl : l.length ≤ 1000) (h : List S35) : Ev (fun k => spileref52_Holds.f k l h) (hldR l h) := by
  refine Ev.bind (G := fun k bt => if bt.2 = 0 then (if (h.length : Int) > 16 then some ((-1 : Int), (8 : Int)) else spileref52_Holds.l0 k l h 0) else some (-1, 1)) (rcheck l) ?_
  unfold hldR
  by_cases e : (chkB l).2 = 0
  · rw [if_neg (not_not_intro e)]
    refine Ev.same (fun k => if_pos e) ?_
    by_cases hh : 16 < h.length
    · refine Ev.now fun k => ?_
      rw [if_pos (by omega), if_pos hh]
    · rw [if_neg hh]
      refine Ev.same (fun k => if_neg (by omega)) ?_
      exact rholds_go hl (by omega) h.length 0 (by omega) (fun x hx => by simp at hx)
  · refine Ev.now fun k => ?_
    rw [if_neg e, if_pos e]
theorem rright {l : List S31} (hl : l.length ≤ 1000) (h : List S35) : Ev (fun k => spileref52_right.f k l h) ((hldR l h).2 == 0) :=
  Ev.bind_some (f := fun bt : Int × Int => bt.2 == 0) (rholds hl h)
theorem rFree_ev {l : List S31} (hl : l.length ≤ 1000) (h : List S35) (id : Int) : Ev (fun k => spileref52_Free.f k l h id) (freR l h id) := by
  unfold spileref52_Free.f
  refine Ev.bind (G := fun k t => if t = true then ((spileref52_find.f k l id).bind fun t184 => (if t184 < 0 then (some ((0 : Int), (7 : Int))) else (if 0 ≤ t184 then (if t184 < (l.length : Int) then ((spileref52_bound.f k h id).bind fun t186 => (some (wrap64 (((rd_T31 l t184).f3) - t186), 0))) else (none)) else (none)))) else (some (0, 1))) (rright hl h) ?_
  unfold freR
  by_cases e : (hldR l h).2 = 0
  · have hr := (hldR_zero l h).1 e
    rw [if_pos e]
    refine Ev.same (fun k => if_pos (by simpa using e)) ?_
    cases hf : findB l id with
    | none => exact Ev.bind (G := fun k t184 => (if t184 < 0 then (some ((0 : Int), (7 : Int))) else (if 0 ≤ t184 then (if t184 < (l.length : Int) then ((spileref52_bound.f k h id).bind fun t186 => (some (wrap64 (((rd_T31 l t184).f3) - t186), 0))) else (none)) else (none)))) (rfind_none hl hf) (Ev.now fun k => by rw [if_pos (by decide)])
    | some b =>
      obtain ⟨j, hj, hb, hev⟩ := rfind_some hl hf
      refine Ev.bind (G := fun k t184 => (if t184 < 0 then (some ((0 : Int), (7 : Int))) else (if 0 ≤ t184 then (if t184 < (l.length : Int) then ((spileref52_bound.f k h id).bind fun t186 => (some (wrap64 (((rd_T31 l t184).f3) - t186), 0))) else (none)) else (none)))) hev ?_
      have hs := hr.sum id
      have hbr := hr.1.2.1 b (findB_some hf).1
      unfold okB at hbr
      have hid := (findB_some hf).2
      refine Ev.same (G := fun k => (spileref52_bound.f k h id).bind fun t186 => some (wrap64 (b.f3 - t186), (0 : Int))) (fun k => ?_) ?_
      · rw [if_neg (by omega), if_pos (by omega), if_pos (by omega), hb]
      · have := Ev.bind_some (f := fun t : Int => (wrap64 (b.f3 - t), (0 : Int))) (rbound (h := h) (by have := hr.2.1; omega) (fun x hx => ⟨(hr.2.2.1 x hx).2.2.1, (hr.2.2.1 x hx).2.2.2⟩) id)
        simp only at this ⊢
        rw [w64_ (by omega) (by omega)] at this
        rw [hid]
        exact this
  · rw [if_neg e]
    exact Ev.now fun k => by rw [if_neg (by simpa using e)]

end Go.Proofs.Ytdolabpkgienkaa.PF
