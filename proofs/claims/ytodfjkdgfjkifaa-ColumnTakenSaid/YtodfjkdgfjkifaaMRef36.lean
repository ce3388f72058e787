/- The reference of layer 36: with enough rounds it returns what column's functions return. -/
import Derived.Test.YtodfjkdgfjkifaaMBal36
import Derived.Test.YtodfjkdgfjkifaaMChk36
import Derived.Test.YtodfjkdgfjkifaaMCol36
import Derived.Test.YtodfjkdgfjkifaaMEv
import Derived.Test.YtodfjkdgfjkifaaMMrg36
import Derived.Test.YtodfjkdgfjkifaaMOpn36
import Derived.Test.YtodfjkdgfjkifaaPF0
import Derived.Test.YtodfjkdgfjkifaaPF1
import Derived.Test.YtodfjkdgfjkifaaPF4
import Derived.Test.YtodfjkdgfjkifaaPF5
import Derived.Test.YtodfjkdgfjkifaaPF7
namespace Go.Proofs.Ytodfjkdgfjkifaa.PF
open Go.RowKit Go.Proofs.YtodfjkdgfjkifaaW.PrintWords Go.Proofs.YtodfjkdgfjkifaaW.PrintLast Go.Proofs.YtodfjkdgfjkifaaW.PrintMore
set_option linter.unusedVariables false
set_option linter.unusedSimpArgs false
theorem refchk.l0_step {p : Int} {l : List S28} {i : Nat} (hi : i < l.length) (k : Nat) : spileref36_Check.l0 (k + 1) (i : Int) p l =
    spileref36_Check.j2 k (i : Int) (decide ((rd_T28 l i).f0 < 0 ∨ p < (rd_T28 l i).f0 ∨ (rd_T28 l i).f1 < 0 ∨ p < (rd_T28 l i).f1 ∨ (rd_T28 l i).f2 < 0 ∨ 10737418240000 < (rd_T28 l i).f2 ∨ (rd_T28 l i).f3 < 0 ∨ 128849018880000 < (rd_T28 l i).f3)) p l (rd_T28 l i).f0 (rd_T28 l i).f1 (rd_T28 l i).f2 (rd_T28 l i).f3 := by
  simp only [spileref36_Check.l0]
  rw [if_pos (by omega), if_pos (by omega)]
  generalize rd_T28 l i = f
  obtain ⟨y0, y1, y2, y3⟩ := f
  simp only
  by_cases h1 : y0 < 0
  · rw [if_pos h1, decide_eq_true (.inl h1)]
  rw [if_neg h1]
  by_cases h2 : y0 > p
  · rw [if_pos h2, decide_eq_true (by omega)]
  rw [if_neg h2]
  by_cases h3 : y1 < 0
  · rw [if_pos h3, decide_eq_true (by omega)]
  rw [if_neg h3]
  by_cases h4 : y1 > p
  · rw [if_pos h4, decide_eq_true (by omega)]
  rw [if_neg h4]
  by_cases h5 : y2 < 0
  · rw [if_pos h5, decide_eq_true (by omega)]
  rw [if_neg h5]
  by_cases h6 : y2 > 10737418240000
  · rw [if_pos h6, decide_eq_true (by omega)]
  rw [if_neg h6]
  by_cases h7 : y3 < 0
  · rw [if_pos h7, decide_eq_true (by omega)]
  rw [if_neg h7]
  congr 1
  rw [decide_eq_decide]
  omega
theorem refchk.j2_step {p : Int} {l : List S28} (i y0 y1 y2 y3 : Int) (k : Nat) : spileref36_Check.j2 (k + 1) i false p l y0 y1 y2 y3 = spileref36_Check.j3 k i (decide (y0 = y1 ∨ (0 < y2 ∧ y3 = 0))) p l y0 y1 y2 y3 := by
  simp only [spileref36_Check.j2, Bool.false_eq_true, if_false]
  by_cases h1 : y0 = y1
  · rw [if_pos h1, decide_eq_true (.inl h1)]
  rw [if_neg h1]
  by_cases h2 : y2 > 0
  · rw [if_pos h2]
    congr 1
    by_cases h3 : y3 = 0
    · rw [decide_eq_true (by omega)]; exact beq_iff_eq.mpr h3
    · rw [decide_eq_false (by omega)]; exact beq_eq_false_iff_ne.mpr h3
  · rw [if_neg h2, decide_eq_false (by omega)]
theorem refchk.seen {p : Int} {l : List S28} (hl : l.length ≤ 1000) {i : Nat} (hi : i < l.length) (y0 y1 y2 y3 : Int) {R : Int × Int} (hR : Ev (fun k => spileref36_Check.l0 k ((i + 1 : Nat) : Int) p l) R) (S : List (Int × Int))
    (hS : ∀ e, e ∈ S ↔ ∃ j, j < i ∧ endsF (rd_T28 l (j : Int)) = e) : ∀ d j : Nat, j + d = i → (∀ j', j' < j → endsF (rd_T28 l (j' : Int)) ≠ (y0, y1)) →
    Ev (fun k => spileref36_Check.l1 k (i : Int) (j : Int) p l y0 y1 y2 y3) (if (y0, y1) ∈ S then ((i : Int), 6) else R) := by
  intro d
  induction d with
  | zero =>
    intro j hj hn
    have hns : (y0, y1) ∉ S := fun h => by
      obtain ⟨j', h1, h2⟩ := (hS _).1 h
      exact hn j' (by omega) h2
    rw [if_neg hns]
    refine Ev.step (fun k => ?_) hR
    simp only [spileref36_Check.l1]
    rw [if_neg (by omega), w64_ (by omega) (by omega)]
    rfl
  | succ d ih =>
    intro j hj hn
    by_cases he : endsF (rd_T28 l (j : Int)) = (y0, y1)
    · rw [if_pos ((hS _).2 ⟨j, by omega, he⟩)]
      unfold endsF at he
      injection he with e0 e1
      refine Ev.ret (fun k => ?_)
      simp only [spileref36_Check.l1]
      rw [if_pos (by omega), if_pos (by omega), if_pos (by omega), if_pos e0, if_pos e1]
    · refine Ev.step (fun k => ?_) (ih (j + 1) (by omega) (fun j' hj' => ?_))
      · simp only [spileref36_Check.l1]
        rw [if_pos (by omega), if_pos (by omega), if_pos (by omega), w64_ (by omega) (by omega)]
        by_cases e0 : (rd_T28 l (j : Int)).f0 = y0
        · rw [if_pos e0, if_neg (fun e1 => he (by unfold endsF; rw [e0, e1]))]; rfl
        · rw [if_neg e0]; rfl
      · rcases Nat.lt_or_ge j' j with h | h
        · exact hn j' h
        · obtain rfl : j' = j := by omega
          exact he
theorem refchk.go {p : Int} {l : List S28} (hl : l.length ≤ 1000) : ∀ (d i : Nat) (S : List (Int × Int)), i + d = l.length → (∀ e, e ∈ S ↔ ∃ j, j < i ∧ endsF (rd_T28 l (j : Int)) = e) → Ev (fun k => spileref36_Check.l0 k (i : Int) p l) (ckR p (l.drop i) (i : Int) S) := by
  intro d
  induction d with
  | zero =>
    intro i S hi _
    rw [List.drop_of_length_le (by omega)]
    refine Ev.ret (fun k => ?_)
    simp only [spileref36_Check.l0]
    rw [if_neg (by omega)]
    rfl
  | succ d ih =>
    intro i S hi hS
    have hil : i < l.length := by omega
    rw [drop_rd hil]
    have hst := refchk.l0_step (p := p) hil
    have hI := ih (i + 1) (endsF (rd_T28 l (i : Int)) :: S) (by omega) (fun e => by
      rw [List.mem_cons, hS]
      constructor
      · rintro (rfl | ⟨j, h1, h2⟩)
        · exact ⟨i, Nat.lt_succ_self i, rfl⟩
        · exact ⟨j, by omega, h2⟩
      · rintro ⟨j, h1, h2⟩
        rcases Nat.lt_or_ge j i with h | h
        · exact .inr ⟨j, h, h2⟩
        · obtain rfl : j = i := by omega
          exact .inl h2.symm)
    generalize hf : rd_T28 l (i : Int) = f at *
    obtain ⟨y0, y1, y2, y3⟩ := f
    simp only at hst
    unfold ckR ckv
    simp only
    refine Ev.step hst ?_
    by_cases h1 : y0 < 0 ∨ p < y0 ∨ y1 < 0 ∨ p < y1 ∨ y2 < 0 ∨ 10737418240000 < y2 ∨ y3 < 0 ∨ 128849018880000 < y3
    · rw [if_pos h1, if_pos (by decide), decide_eq_true h1]
      exact Ev.ret (fun k => by simp only [spileref36_Check.j2, if_true])
    rw [if_neg h1, decide_eq_false h1]
    refine Ev.step (fun k => refchk.j2_step (i : Int) y0 y1 y2 y3 k) ?_
    by_cases h2 : y0 = y1 ∨ (0 < y2 ∧ y3 = 0)
    · rw [if_pos h2, if_pos (by decide), decide_eq_true h2]
      exact Ev.ret (fun k => by simp only [spileref36_Check.j3, if_true])
    rw [if_neg h2, decide_eq_false h2]
    refine Ev.step (G := fun k => spileref36_Check.l1 k (i : Int) 0 p l y0 y1 y2 y3) (fun k => by simp only [spileref36_Check.j3, Bool.false_eq_true, if_false]) ?_
    have := refchk.seen hl hil y0 y1 y2 y3 hI S hS i 0 (by omega) (fun j' h => by omega)
    by_cases hm : (y0, y1) ∈ S
    · rw [if_pos hm] at this
      rw [decide_eq_true hm, if_pos rfl, if_pos (by decide)]
      exact this
    · rw [if_neg hm] at this
      rw [decide_eq_false hm, if_neg (by decide)]
      exact this
theorem refchk.ev (p : Int) (l : List S28) : Ev (fun k => spileref36_Check.f k p l) (chk36 p l) := by
  unfold spileref36_Check.f chk36
  by_cases h1 : p < 1
  · rw [if_pos (.inl h1)]
    exact Ev.ret (fun k => by rw [if_pos h1]; simp only [spileref36_Check.j0, if_true])
  by_cases h2 : 16 < p
  · rw [if_pos (.inr h2)]
    exact Ev.ret (fun k => by rw [if_neg h1, decide_eq_true h2]; simp only [spileref36_Check.j0, if_true])
  rw [if_neg (by omega)]
  by_cases h3 : 64 < l.length
  · rw [if_pos h3]
    exact Ev.ret (fun k => by rw [if_neg h1, decide_eq_false (show ¬ p > 16 from h2)]; simp only [spileref36_Check.j0, Bool.false_eq_true, if_false]; rw [if_pos (by omega)])
  rw [if_neg h3]
  have := refchk.go (p := p) (l := l) (by omega) l.length 0 [] (by omega) (fun e => by simp)
  rw [List.drop_zero] at this
  refine Ev.step (G := fun k => spileref36_Check.l0 k 0 p l) (fun k => ?_) this
  rw [if_neg h1, decide_eq_false (show ¬ p > 16 from h2)]
  simp only [spileref36_Check.j0, Bool.false_eq_true, if_false]
  rw [if_neg (by omega)]
theorem refright.ev (p : Int) (l : List S28) : Ev (fun k => spileref36_right.f k p l) (rt36 p l) := by
  unfold spileref36_right.f rt36
  exact Ev.bind (refchk.ev p l) (Ev.now (fun k => rfl))

theorem refbal.go {l : List S28} (hl : l.length ≤ 64) (hf : ∀ f ∈ l, FlowOK f) (p : Int) (q : Nat) : ∀ d i : Nat, i + d = l.length → Ev (fun k => spileref36_balance.l0 k (q : Int) (balL (l.take i) q).1 (balL (l.take i) q).2 (i : Int) p l) (balL l q) := by
  intro d
  induction d with
  | zero =>
    intro i hi
    rw [List.take_of_length_le (by omega)]
    refine Ev.ret (fun k => ?_)
    simp only [spileref36_balance.l0]
    rw [if_neg (by omega)]
  | succ d ih =>
    intro i hi
    have hil : i < l.length := by omega
    have hm := rd_mem (out := l) hil
    have hy := hf _ hm
    have hsn : balL (l.take (i + 1)) = addB (balL (l.take i)) (rd_T28 l (i : Int)) := by
      rw [← balL_snoc, List.take_succ_eq_append_getElem hil]
      unfold rd_T28
      rw [Int.toNat_natCast, List.getD_eq_getElem?_getD, List.getElem?_eq_getElem hil]
      rfl
    have hb := balL_bnd (l.take i) (fun f h => hf f (List.mem_of_mem_take h)) q
    have hlt : ((l.take i).length : Int) * 128849018880000 ≤ 8246337208320000 := by rw [List.length_take]; omega
    refine Ev.step (fun k => ?_) (ih (i + 1) (by omega))
    simp only [spileref36_balance.l0]
    rw [if_pos (by omega), if_pos (by omega), hsn]
    generalize rd_T28 l (i : Int) = f at *
    obtain ⟨y0, y1, y2, y3⟩ := f
    unfold FlowOK at hy
    simp only at hy
    generalize (l.take i).length = nn at *
    have e1 : (addB (balL (l.take i)) ⟨y0, y1, y2, y3⟩ q).1 = (balL (l.take i) q).1 - (if (q : Int) = y0 then y2 else 0) + (if (q : Int) = y1 then y2 else 0) := rfl
    have e2 : (addB (balL (l.take i)) ⟨y0, y1, y2, y3⟩ q).2 = (balL (l.take i) q).2 - (if (q : Int) = y0 then y3 else 0) + (if (q : Int) = y1 then y3 else 0) := rfl
    rw [e1, e2]
    generalize (balL (l.take i) q).1 = u at *
    generalize (balL (l.take i) q).2 = v at *
    have w1 : wrap64 ((i : Int) + 1) = ((i + 1 : Nat) : Int) := by rw [w64_ (by omega) (by omega)]; rfl
    rw [w1]
    simp only
    by_cases c1 : y1 = (q : Int)
    · have t1 : (q : Int) = y1 := c1.symm
      rw [if_pos c1, if_pos t1, if_pos t1]
      by_cases c0 : y0 = (q : Int)
      · have t0 : (q : Int) = y0 := c0.symm
        rw [if_pos c0, if_pos t0, if_pos t0, w64_ (x := u + y2) (by omega) (by omega), w64_ (x := v + y3) (by omega) (by omega), w64_ (x := u + y2 - y2) (by omega) (by omega), w64_ (x := v + y3 - y3) (by omega) (by omega)]
        rw [show u + y2 - y2 = u - y2 + y2 by omega, show v + y3 - y3 = v - y3 + y3 by omega]
      · have t0 : ¬ (q : Int) = y0 := fun h => c0 h.symm
        rw [if_neg c0, if_neg t0, if_neg t0, w64_ (x := u + y2) (by omega) (by omega), w64_ (x := v + y3) (by omega) (by omega), Int.sub_zero, Int.sub_zero]
    · have t1 : ¬ (q : Int) = y1 := fun h => c1 h.symm
      rw [if_neg c1, if_neg t1, if_neg t1]
      by_cases c0 : y0 = (q : Int)
      · have t0 : (q : Int) = y0 := c0.symm
        rw [if_pos c0, if_pos t0, if_pos t0, w64_ (x := u - y2) (by omega) (by omega), w64_ (x := v - y3) (by omega) (by omega), Int.add_zero, Int.add_zero]
      · have t0 : ¬ (q : Int) = y0 := fun h => c0 h.symm
        rw [if_neg c0, if_neg t0, if_neg t0, Int.sub_zero, Int.sub_zero, Int.add_zero, Int.add_zero]
theorem refbal.ev {p : Int} {l : List S28} (h : RightC p l) (q : Nat) : Ev (fun k => spileref36_balance.f k p l (q : Int)) (balL l q) := by
  have := refbal.go h.2.2.1 h.ok p q l.length 0 (by omega)
  exact this
theorem balL_far {p : Int} {l : List S28} (h : RightC p l) {q : Nat} (hq : p < q) : balL l q = (0, 0) := by
  have key : ∀ (l : List S28) (B : Nat → Int × Int), (∀ f ∈ l, f.f0 ≤ p ∧ f.f1 ≤ p) → B q = (0, 0) → (l.foldl addB B) q = (0, 0) := by
    intro l
    induction l with
    | nil => intro B _ hB; exact hB
    | cons f l ih =>
      intro B hf hB
      have h1 := hf f (by simp)
      rw [List.foldl_cons]
      refine ih _ (fun g hg => hf g (by simp [hg])) ?_
      unfold addB
      rw [hB, if_neg (by omega), if_neg (by omega), if_neg (by omega), if_neg (by omega)]
      rfl
  exact key l _ (fun f hf => ⟨(h.2.2.2.1 f hf).2.1, (h.2.2.2.1 f hf).2.2.1⟩) rfl
theorem openTo_far {p : Int} {l : List S28} (h : RightC p l) (d : Nat) : openTo (balL l) (p.toNat + 1 + d) = openTo (balL l) (p.toNat + 1) := by
  induction d with
  | zero => rfl
  | succ d ih =>
    rw [← Nat.add_assoc, openTo_succ, ih, balL_far h (by have := h.1; omega), if_neg (by simp)]
theorem openS_right {p : Int} {l : List S28} (h : RightC p l) : openS (balL l) = openTo (balL l) (p.toNat + 1) := by
  have := openTo_far h (16 - p.toNat)
  rw [show p.toNat + 1 + (16 - p.toNat) = 17 by have := h.1; have := h.2.1; omega] at this
  exact this
theorem refopen.go {p : Int} {l : List S28} (h : RightC p l) : ∀ d x : Nat, x + d = p.toNat + 1 → 1 ≤ x → Ev (fun k => spileref36_open.l0 k (openTo (balL l) x) (x : Int) p l) (openTo (balL l) (p.toNat + 1)) := by
  have hp := h.1
  have hp2 := h.2.1
  intro d
  induction d with
  | zero =>
    intro x hx h1
    obtain rfl : x = p.toNat + 1 := by omega
    refine Ev.ret (fun k => ?_)
    simp only [spileref36_open.l0]
    rw [if_neg (by omega)]
  | succ d ih =>
    intro x hx h1
    have hI := ih (x + 1) (by omega) (by omega)
    rw [openTo_succ] at hI
    have hlen := openTo_length (balL l) x
    have w1 : wrap64 ((x : Int) + 1) = ((x + 1 : Nat) : Int) := by rw [w64_ (by omega) (by omega)]; rfl
    obtain ⟨N, hN⟩ := refbal.ev h x
    obtain ⟨M, hM⟩ := hI
    refine ⟨N + M + 1, fun k hk => ?_⟩
    obtain ⟨k', rfl⟩ : ∃ k', k = k' + 1 := ⟨k - 1, by omega⟩
    have hb : spileref36_balance.f k' p l (x : Int) = some (balL l x) := hN k' (by omega)
    have hr : spileref36_open.l0 k' (if (decide (0 < x) && !(balL l x == (0, 0))) = true then openTo (balL l) x ++ [(x : Int)] else openTo (balL l) x) ((x + 1 : Nat) : Int) p l = some (openTo (balL l) (p.toNat + 1)) := hM k' (by omega)
    show spileref36_open.l0 (k' + 1) (openTo (balL l) x) (x : Int) p l = _
    simp only [spileref36_open.l0]
    rw [if_pos (by omega), hb, Option.bind_some, w1]
    by_cases c1 : (balL l x).1 = 0
    · rw [if_pos c1]
      by_cases c2 : (balL l x).2 = 0
      · rw [if_pos c2]
        rw [if_neg (by simp [Prod.ext_iff, c1, c2])] at hr
        exact hr
      · rw [if_neg c2, if_pos (by omega)]
        rw [if_pos (by simp [Prod.ext_iff, c1, c2]; omega)] at hr
        exact hr
    · rw [if_neg c1, if_pos (by omega)]
      rw [if_pos (by simp [Prod.ext_iff, c1]; omega)] at hr
      exact hr
theorem refopen.ev {p : Int} {l : List S28} (h : RightC p l) : Ev (fun k => spileref36_open.f k p l) (openS (balL l)) := by
  rw [openS_right h]
  exact refopen.go h p.toNat 1 (by omega) (Nat.le_refl _)
theorem refBalance.ev (p : Int) (l : List S28) (q : Int) : Ev (fun k => spileref36_Balance.f k p l q) (blR p l q) := by
  unfold spileref36_Balance.f blR
  refine Ev.bind (refright.ev p l) ?_
  cases hb : rt36 p l
  · exact Ev.now (fun k => rfl)
  have RC := rt36_iff.1 hb
  simp only [if_true]
  by_cases h1 : q < 1
  · exact Ev.now (fun k => by rw [if_pos h1, if_pos (.inl h1)])
  by_cases h2 : q > p
  · exact Ev.now (fun k => by rw [if_neg h1, if_pos h2, if_pos (.inr h2)])
  rw [if_neg (by omega)]
  refine Ev.same (fun k => by rw [if_neg h1, if_neg h2]) ?_
  have := refbal.ev RC q.toNat
  rw [show ((q.toNat : Nat) : Int) = q by omega] at this
  exact Ev.bind this (Ev.now (fun k => rfl))
theorem refOpen.ev (p : Int) (l : List S28) : Ev (fun k => spileref36_Open.f k p l) (opR p l) := by
  unfold spileref36_Open.f opR
  refine Ev.bind (refright.ev p l) ?_
  cases hb : rt36 p l
  · exact Ev.now (fun k => rfl)
  simp only [if_true]
  exact Ev.bind (refopen.ev (rt36_iff.1 hb)) (Ev.now (fun k => rfl))
theorem refWhole.ev (p : Int) (l : List S28) : Ev (fun k => spileref36_Whole.f k p l) (whR p l) := by
  unfold spileref36_Whole.f whR
  refine Ev.bind (refright.ev p l) ?_
  cases hb : rt36 p l
  · exact Ev.now (fun k => rfl)
  have RC := rt36_iff.1 hb
  simp only [if_true]
  have hn := RC.bnd 0
  exact Ev.bind (refbal.ev RC 0) (Ev.now (fun k => by rw [w64_ (x := -(balL l 0).1) (by omega) (by omega), w64_ (x := -(balL l 0).2) (by omega) (by omega)]))
theorem refsame.go (l : List Int) (hl : l.length ≤ 1000) : ∀ d i : Nat, i + d = l.length → Ev (fun k => spileref33_Same.l0 k l l (i : Int)) true := by
  intro d
  induction d with
  | zero =>
    intro i hi
    refine Ev.ret (fun k => ?_)
    simp only [spileref33_Same.l0]
    rw [if_neg (by omega)]
  | succ d ih =>
    intro i hi
    refine Ev.step (fun k => ?_) (ih (i + 1) (by omega))
    simp only [spileref33_Same.l0]
    rw [if_pos (by omega), if_pos (by omega), if_pos (by omega), if_true, w64_ (by omega) (by omega)]
    rfl
theorem refsame.ev (l : List Int) (hl : l.length ≤ 1000) : Ev (fun k => spileref33_Same.f k l l) true := by
  unfold spileref33_Same.f
  exact Ev.same (fun k => by rw [if_pos rfl]; rfl) (refsame.go l hl l.length 0 (by omega))

end Go.Proofs.Ytodfjkdgfjkifaa.PF
