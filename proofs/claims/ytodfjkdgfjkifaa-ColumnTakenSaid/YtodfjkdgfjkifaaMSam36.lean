/- Merging adds the balances of both plates, and leaves all others as they were. -/
import Derived.Test.YtodfjkdgfjkifaaMBal36
import Derived.Test.YtodfjkdgfjkifaaMCnt36
import Derived.Test.YtodfjkdgfjkifaaMCol36
import Derived.Test.YtodfjkdgfjkifaaMMrg36
import Derived.Test.YtodfjkdgfjkifaaMRef36b
import Derived.Test.YtodfjkdgfjkifaaPF0
namespace Go.Proofs.Ytodfjkdgfjkifaa.PF
open Go.RowKit Go.Proofs.YtodfjkdgfjkifaaW.PrintWords Go.Proofs.YtodfjkdgfjkifaaW.PrintLast Go.Proofs.YtodfjkdgfjkifaaW.PrintMore
set_option linter.unusedVariables false
set_option linter.unusedSimpArgs false
def combB (q : Nat) (B : Nat → Int × Int) (n : Nat) : Int × Int := if n < q then B n else if n = q then ((B q).1 + (B (q + 1)).1, (B q).2 + (B (q + 1)).2) else B (n + 1)
theorem addB_1 (B : Nat → Int × Int) (f : S28) (n : Nat) : (addB B f n).1 = (B n).1 - (if (n : Int) = f.f0 then f.f2 else 0) + (if (n : Int) = f.f1 then f.f2 else 0) := rfl
theorem addB_2 (B : Nat → Int × Int) (f : S28) (n : Nat) : (addB B f n).2 = (B n).2 - (if (n : Int) = f.f0 then f.f3 else 0) + (if (n : Int) = f.f1 then f.f3 else 0) := rfl
theorem mgN_lo {q n : Nat} (h : n < q) (x v : Int) : (if (n : Int) = mgN q x then v else 0) = if (n : Int) = x then v else 0 := by
  unfold mgN
  by_cases c : (q : Int) < x
  · rw [if_pos c, if_neg (by omega), if_neg (by omega)]
  · rw [if_neg c]
theorem mgN_eq {q : Nat} (x v : Int) : (if (q : Int) = mgN q x then v else 0) = (if (q : Int) = x then v else 0) + (if ((q + 1 : Nat) : Int) = x then v else 0) := by
  unfold mgN
  by_cases c : (q : Int) < x
  · rw [if_pos c, if_neg (show ¬ (q : Int) = x by omega)]
    by_cases d : ((q + 1 : Nat) : Int) = x
    · rw [if_pos d, if_pos (by omega)]; omega
    · rw [if_neg d, if_neg (by omega)]; omega
  · rw [if_neg c, if_neg (show ¬ ((q + 1 : Nat) : Int) = x by omega)]; omega
theorem mgN_hi {q n : Nat} (h : q < n) (x v : Int) : (if (n : Int) = mgN q x then v else 0) = if ((n + 1 : Nat) : Int) = x then v else 0 := by
  unfold mgN
  by_cases c : (q : Int) < x
  · rw [if_pos c]
    by_cases d : ((n + 1 : Nat) : Int) = x
    · rw [if_pos d, if_pos (by omega)]
    · rw [if_neg d, if_neg (by omega)]
  · rw [if_neg c, if_neg (by omega), if_neg (by omega)]
theorem combB_addB (q : Nat) (B : Nat → Int × Int) (f : S28) : combB q (addB B f) = addB (combB q B) (mgF q f) := by
  funext n
  have e0 : (mgF q f).f0 = mgN q f.f0 := rfl
  have e1 : (mgF q f).f1 = mgN q f.f1 := rfl
  have e2 : (mgF q f).f2 = f.f2 := rfl
  have e3 : (mgF q f).f3 = f.f3 := rfl
  refine Prod.ext ?_ ?_
  · rw [addB_1, e0, e1, e2]
    unfold combB
    by_cases h1 : n < q
    · rw [if_pos h1, if_pos h1, mgN_lo h1, mgN_lo h1, addB_1]
    · by_cases h2 : n = q
      · subst h2
        rw [if_neg h1, if_pos rfl, if_neg h1, if_pos rfl, mgN_eq, mgN_eq]
        simp only [addB_1]
        omega
      · rw [if_neg h1, if_neg h2, if_neg h1, if_neg h2, mgN_hi (by omega), mgN_hi (by omega), addB_1]
  · rw [addB_2, e0, e1, e3]
    unfold combB
    by_cases h1 : n < q
    · rw [if_pos h1, if_pos h1, mgN_lo h1, mgN_lo h1, addB_2]
    · by_cases h2 : n = q
      · subst h2
        rw [if_neg h1, if_pos rfl, if_neg h1, if_pos rfl, mgN_eq, mgN_eq]
        simp only [addB_2]
        omega
      · rw [if_neg h1, if_neg h2, if_neg h1, if_neg h2, mgN_hi (by omega), mgN_hi (by omega), addB_2]
theorem addB_comm (B : Nat → Int × Int) (f g : S28) : addB (addB B f) g = addB (addB B g) f := by
  funext n
  refine Prod.ext ?_ ?_
  · simp only [addB_1]; omega
  · simp only [addB_2]; omega
theorem fold_addB (l : List S28) (B : Nat → Int × Int) (f : S28) : l.foldl addB (addB B f) = addB (l.foldl addB B) f := by
  induction l generalizing B with
  | nil => rfl
  | cons g l ih => rw [List.foldl_cons, List.foldl_cons, addB_comm, ih]
theorem addB_self {B : Nat → Int × Int} {f : S28} (h : f.f0 = f.f1) : addB B f = B := by
  funext n
  refine Prod.ext ?_ ?_
  · rw [addB_1, h]; omega
  · rw [addB_2, h]; omega
theorem addB_two {B : Nat → Int × Int} {f g : S28} (h : endsF g = endsF f) : addB B ⟨g.f0, g.f1, g.f2 + f.f2, g.f3 + f.f3⟩ = addB (addB B g) f := by
  have h0 : g.f0 = f.f0 := congrArg Prod.fst h
  have h1 : g.f1 = f.f1 := congrArg Prod.snd h
  funext n
  have k : ∀ (c : Prop) [Decidable c] (a b : Int), (if c then a + b else 0) = (if c then a else 0) + (if c then b else 0) := by intro c _ a b; split <;> omega
  refine Prod.ext ?_ ?_
  · simp only [addB_1]; rw [k, k, h0, h1]; omega
  · simp only [addB_2]; rw [k, k, h0, h1]; omega
theorem fold_set (f : S28) : ∀ (out : List S28) (B : Nat → Int × Int) (i : Nat) (hi : i < out.length), endsF out[i] = endsF f →
    (out.set i ⟨out[i].f0, out[i].f1, out[i].f2 + f.f2, out[i].f3 + f.f3⟩).foldl addB B = addB (out.foldl addB B) f := by
  intro out
  induction out with
  | nil => intro B i hi; exact absurd hi (Nat.not_lt_zero _)
  | cons g out ih =>
    intro B i hi he
    cases i with
    | zero =>
      rw [List.set_cons_zero, List.foldl_cons, List.foldl_cons]
      have he' : endsF g = endsF f := he
      show List.foldl addB (addB B ⟨g.f0, g.f1, g.f2 + f.f2, g.f3 + f.f3⟩) out = _
      rw [addB_two he', fold_addB]
    | succ i =>
      rw [List.set_cons_succ, List.foldl_cons, List.foldl_cons]
      exact ih (addB B g) i (Nat.lt_of_succ_lt_succ hi) he
theorem balL_mgS (out : List S28) (f : S28) : balL (mgS out f) = addB (balL out) f := by
  unfold mgS
  by_cases h1 : f.f0 = f.f1
  · rw [if_pos h1, addB_self h1]
  rw [if_neg h1]
  by_cases h2 : endsF f ∈ out.map endsF
  · rw [if_pos h2]
    have hi := idx_lt h2
    have he := idx_ends h2
    generalize (out.map endsF).idxOf (endsF f) = i at *
    have hrd : rd_T28 out (i : Int) = out[i] := by
      unfold rd_T28
      rw [Int.toNat_natCast, List.getD_eq_getElem?_getD, List.getElem?_eq_getElem hi]
      rfl
    unfold addAt
    rw [hrd] at he ⊢
    exact fold_set f out _ i hi he
  · rw [if_neg h2, balL_snoc]
theorem balL_mgO (q : Nat) (l : List S28) : balL (mgO q l) = combB q (balL l) := by
  have key : ∀ (l o : List S28) (B : Nat → Int × Int), balL o = combB q B → balL (l.foldl (fun o f => mgS o (mgF q f)) o) = combB q (l.foldl addB B) := by
    intro l
    induction l with
    | nil => intro o B h; exact h
    | cons f l ih =>
      intro o B h
      rw [List.foldl_cons, List.foldl_cons]
      refine ih _ _ ?_
      rw [balL_mgS, h, combB_addB]
  refine key l [] _ ?_
  funext n
  unfold combB balL
  simp only [List.foldl_nil]
  split
  · rfl
  · split <;> rfl
def NiceF (p : Int) (g : S28) : Prop := 0 ≤ g.f0 ∧ g.f0 ≤ p ∧ 0 ≤ g.f1 ∧ g.f1 ≤ p ∧ 0 ≤ g.f2 ∧ 0 ≤ g.f3 ∧ (0 < g.f2 → g.f3 ≠ 0)
theorem mgS_nice {p : Int} {out : List S28} {f : S28} (h : ∀ g ∈ out, NiceF p g) (hf : NiceF p f) : ∀ g ∈ mgS out f, NiceF p g := by
  unfold mgS
  split
  · exact h
  · split
    · rename_i hm
      unfold addAt
      intro g hg
      rcases List.mem_or_eq_of_mem_set hg with hg | rfl
      · exact h g hg
      · have := h _ (rd_mem (idx_lt hm))
        unfold NiceF at this hf ⊢
        simp only
        omega
    · intro g hg
      rcases List.mem_append.1 hg with hg | hg
      · exact h g hg
      · rw [List.mem_singleton] at hg
        rw [hg]
        exact hf
theorem mgO_nice {p q : Int} {l : List S28} (hq : 1 ≤ q ∧ q < p) (h : ∀ g ∈ l, NiceF p g) : ∀ g ∈ mgO q l, NiceF (p - 1) g := by
  have key : ∀ (l o : List S28), (∀ g ∈ l, NiceF p g) → (∀ g ∈ o, NiceF (p - 1) g) → ∀ g ∈ l.foldl (fun o f => mgS o (mgF q f)) o, NiceF (p - 1) g := by
    intro l
    induction l with
    | nil => intro o _ ho; exact ho
    | cons f l ih =>
      intro o hl ho
      refine ih _ (fun g hg => hl g (by simp [hg])) (mgS_nice ho ?_)
      have hf := hl f (by simp)
      have hN : ∀ x : Int, 0 ≤ x → x ≤ p → 0 ≤ mgN q x ∧ mgN q x ≤ p - 1 := by
        intro x h0 h1
        unfold mgN
        split <;> omega
      unfold NiceF at hf ⊢
      exact ⟨(hN _ hf.1 hf.2.1).1, (hN _ hf.1 hf.2.1).2, (hN _ hf.2.2.1 hf.2.2.2.1).1, (hN _ hf.2.2.1 hf.2.2.2.1).2, hf.2.2.2.2.1, hf.2.2.2.2.2.1, hf.2.2.2.2.2.2⟩
  exact key l [] h (fun g hg => by cases hg)
theorem mgO_right {p q : Int} {l : List S28} (hq : 1 ≤ q ∧ q < p) (h : RightC p l) (hb : bgS (mgO q l) = false) : RightC (p - 1) (mgO q l) := by
  have hn := mgO_nice hq (l := l) (fun g hg => by
    have := h.2.2.2.1 g hg
    unfold FlowOK at this
    exact ⟨this.1.1, this.2.1, this.1.2.2.1, this.2.2.1, this.1.2.2.2.2.1, this.1.2.2.2.2.2.2.1, this.2.2.2.2⟩)
  have hinv := mgO_inv q l h.ok
  have hnd := mgO_nodup q l
  have hbg : ∀ g ∈ mgO q l, g.f2 ≤ 10737418240000 ∧ g.f3 ≤ 128849018880000 := by
    intro g hg
    obtain ⟨i, hi, rfl⟩ := List.mem_iff_getElem.1 hg
    have hrd : rd_T28 (mgO q l) (i : Int) = (mgO q l)[i] := by
      unfold rd_T28
      rw [Int.toNat_natCast, List.getD_eq_getElem?_getD, List.getElem?_eq_getElem hi]
      rfl
    cases hbi : big36 (rd_T28 (mgO q l) (i : Int))
    · rw [hrd] at hbi
      unfold big36 at hbi
      simp only [Bool.or_eq_false_iff, decide_eq_false_iff_not] at hbi
      omega
    · have := (bgS_iff (mgO q l)).2 ⟨i, Nat.zero_le _, hi, hbi⟩
      rw [hb] at this
      cases this
  have h1 := h.1
  have h2 := h.2.1
  have h3 := h.2.2.1
  refine ⟨by omega, by omega, Nat.le_trans hinv.1 h3, fun g hg => ?_, ?_⟩
  · have a := hn g hg
    have b := hbg g hg
    have c := hnd.2 g hg
    unfold NiceF at a
    unfold FlowOK
    exact ⟨⟨a.1, by omega, a.2.2.1, by omega, a.2.2.2.2.1, b.1, a.2.2.2.2.2.1, b.2⟩, a.2.1, a.2.2.2.1, c, a.2.2.2.2.2.2⟩
  · have := hnd.1
    unfold List.Nodup at this
    rw [List.pairwise_map] at this
    exact this.imp (fun hne he => hne (Prod.ext he.1 he.2))
theorem mgR_err {p q m e : Int} {l O : List S28} (h : mgR p l q = (m, O, e)) (he : e ≠ 0) : m = 0 ∧ O = [] := by
  unfold mgR at h
  split at h
  · split at h
    · exact ⟨(congrArg Prod.fst h).symm, (congrArg (fun x => x.2.1) h).symm⟩
    · split at h
      · exact ⟨(congrArg Prod.fst h).symm, (congrArg (fun x => x.2.1) h).symm⟩
      · exact absurd (congrArg (fun x => x.2.2) h).symm he
  · exact ⟨(congrArg Prod.fst h).symm, (congrArg (fun x => x.2.1) h).symm⟩
theorem mgR_ok {p q m : Int} {l O : List S28} (h : mgR p l q = (m, O, 0)) : RightC p l ∧ 1 ≤ q ∧ q < p ∧ m = p - 1 ∧ RightC m O ∧ balL O = combB q.toNat (balL l) := by
  unfold mgR at h
  split at h
  · rename_i hrt
    split at h
    · cases congrArg (fun x => x.2.2) h
    · rename_i hq
      split at h
      · cases congrArg (fun x => x.2.2) h
      · rename_i hb
        have RC := rt36_iff.1 hrt
        have em : p - 1 = m := congrArg Prod.fst h
        have eO : mgO q l = O := congrArg (fun x => x.2.1) h
        subst em
        subst eO
        refine ⟨RC, by omega, by omega, rfl, mgO_right (by omega) RC (by simpa using hb), ?_⟩
        have := balL_mgO q.toNat l
        rwa [show ((q.toNat : Nat) : Int) = q by omega] at this
  · cases congrArg (fun x => x.2.2) h

end Go.Proofs.Ytodfjkdgfjkifaa.PF
