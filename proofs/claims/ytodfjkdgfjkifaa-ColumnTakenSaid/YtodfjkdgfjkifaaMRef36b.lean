/- Merged columns: their ends are distinct; the reference's last loop; equal columns are the same. -/
import Derived.Test.YtodfjkdgfjkifaaMCnt36
import Derived.Test.YtodfjkdgfjkifaaMEv
import Derived.Test.YtodfjkdgfjkifaaMMrg36
import Derived.Test.YtodfjkdgfjkifaaPF0
import Derived.Test.YtodfjkdgfjkifaaPF1
import Derived.Test.YtodfjkdgfjkifaaPF6
import Derived.Test.YtodfjkdgfjkifaaPF7
namespace Go.Proofs.Ytodfjkdgfjkifaa.PF
open Go.RowKit Go.Proofs.YtodfjkdgfjkifaaW.PrintWords Go.Proofs.YtodfjkdgfjkifaaW.PrintLast Go.Proofs.YtodfjkdgfjkifaaW.PrintMore
set_option linter.unusedVariables false
set_option linter.unusedSimpArgs false
theorem addAt_ends' {out : List S28} {i : Nat} (h : i < out.length) (f : S28) : (addAt out i f).map endsF = out.map endsF := addAt_ends h f
/-- The ends of a merged column are distinct, and no flow ends where it begins. -/
theorem mgS_nodup {out : List S28} {f : S28} (h : (out.map endsF).Nodup ∧ ∀ g ∈ out, g.f0 ≠ g.f1) : ((mgS out f).map endsF).Nodup ∧ ∀ g ∈ mgS out f, g.f0 ≠ g.f1 := by
  unfold mgS
  by_cases h1 : f.f0 = f.f1
  · rw [if_pos h1]; exact h
  rw [if_neg h1]
  by_cases h2 : endsF f ∈ out.map endsF
  · rw [if_pos h2]
    have hi := idx_lt h2
    refine ⟨by rw [addAt_ends hi]; exact h.1, fun g hg => ?_⟩
    unfold addAt at hg
    rcases List.mem_or_eq_of_mem_set hg with hg | rfl
    · exact h.2 g hg
    · have := h.2 _ (rd_mem hi)
      exact this
  · rw [if_neg h2]
    refine ⟨?_, fun g hg => ?_⟩
    · rw [List.map_append, List.nodup_append]
      refine ⟨h.1, by simp, fun a ha b hb => ?_⟩
      simp at hb
      rintro rfl
      rw [hb] at ha
      exact h2 ha
    · rcases List.mem_append.1 hg with hg | hg
      · exact h.2 g hg
      · rw [List.mem_singleton] at hg
        rw [hg]
        exact h1
theorem mgO_nodup (q : Int) (l : List S28) : ((mgO q l).map endsF).Nodup ∧ ∀ g ∈ mgO q l, g.f0 ≠ g.f1 := by
  have key : ∀ (l o : List S28), ((o.map endsF).Nodup ∧ ∀ g ∈ o, g.f0 ≠ g.f1) → ((l.foldl (fun o f => mgS o (mgF q f)) o).map endsF).Nodup ∧ ∀ g ∈ l.foldl (fun o f => mgS o (mgF q f)) o, g.f0 ≠ g.f1 := by
    intro l
    induction l with
    | nil => intro o ho; exact ho
    | cons f l ih => intro o ho; exact ih _ (mgS_nodup ho)
  exact key l [] ⟨by simp, fun g hg => by cases hg⟩
theorem refmg.last (P : Int) (out : List S28) (hl : out.length ≤ 1000) : ∀ d i : Nat, i + d = out.length →
    ((∃ j, i ≤ j ∧ j < out.length ∧ big36 (rd_T28 out (j : Int)) = true) → Ev (fun k => spileref36_Merge.l2 k (i : Int) P out) (0, [], 15)) ∧
    ((¬ ∃ j, i ≤ j ∧ j < out.length ∧ big36 (rd_T28 out (j : Int)) = true) → Ev (fun k => spileref36_Merge.l2 k (i : Int) P out) (P, out, 0)) := by
  intro d
  induction d with
  | zero =>
    intro i hi
    refine ⟨fun ⟨j, h1, h2, _⟩ => by omega, fun _ => Ev.ret (fun k => ?_)⟩
    simp only [spileref36_Merge.l2]
    rw [if_neg (by omega)]
  | succ d ih =>
    intro i hi
    have hil : i < out.length := by omega
    obtain ⟨i1, i2⟩ := ih (i + 1) (by omega)
    cases hb : big36 (rd_T28 out (i : Int))
    · have hst : ∀ k, spileref36_Merge.l2 (k + 1) (i : Int) P out = spileref36_Merge.l2 k ((i + 1 : Nat) : Int) P out := fun k => by
        simp only [spileref36_Merge.l2]
        have hb' := hb
        unfold big36 at hb'
        simp only [Bool.or_eq_false_iff, decide_eq_false_iff_not] at hb'
        rw [if_pos (by omega), if_pos (by omega), if_neg (by omega), if_neg (by omega), w64_ (by omega) (by omega)]
        rfl
      have hiff : (∃ j, i ≤ j ∧ j < out.length ∧ big36 (rd_T28 out (j : Int)) = true) ↔ ∃ j, i + 1 ≤ j ∧ j < out.length ∧ big36 (rd_T28 out (j : Int)) = true := by
        constructor
        · rintro ⟨j, h1, h2, h3⟩
          rcases Nat.eq_or_lt_of_le h1 with rfl | h4
          · rw [hb] at h3; cases h3
          · exact ⟨j, h4, h2, h3⟩
        · rintro ⟨j, h1, h2, h3⟩; exact ⟨j, by omega, h2, h3⟩
      rw [hiff]
      exact ⟨fun h => Ev.step hst (i1 h), fun h => Ev.step hst (i2 h)⟩
    · refine ⟨fun _ => Ev.ret (fun k => ?_), fun h => absurd ⟨i, Nat.le_refl _, hil, hb⟩ h⟩
      simp only [spileref36_Merge.l2]
      rw [if_pos (by omega), if_pos (by omega)]
      have hb' := hb
      unfold big36 at hb'
      simp only [Bool.or_eq_true, decide_eq_true_eq] at hb'
      by_cases h2 : (rd_T28 out (i : Int)).f2 > 10737418240000
      · rw [if_pos h2]
      · rw [if_neg h2, if_pos (by omega)]
theorem refsame36.go (p : Int) (l : List S28) (hl : l.length ≤ 1000) : ∀ d i : Nat, i + d = l.length → Ev (fun k => spileref36_Same.l0 k (i : Int) p l p l) true := by
  intro d
  induction d with
  | zero =>
    intro i hi
    refine Ev.ret (fun k => ?_)
    simp only [spileref36_Same.l0]
    rw [if_neg (by omega)]
  | succ d ih =>
    intro i hi
    refine Ev.step (fun k => ?_) (ih (i + 1) (by omega))
    simp only [spileref36_Same.l0]
    rw [if_pos (by omega), if_pos (by omega), if_pos (by omega), if_neg (by simp), w64_ (by omega) (by omega)]
    rfl
theorem refsame36.ev (p : Int) (l : List S28) (hl : l.length ≤ 1000) : Ev (fun k => spileref36_Same.f k p l p l) true := by
  unfold spileref36_Same.f
  refine Ev.step (G := fun k => spileref36_Same.l0 k ((0 : Nat) : Int) p l p l) (fun k => ?_) (refsame36.go p l hl l.length 0 (by omega))
  rw [if_pos rfl]
  simp only [spileref36_Same.j0, bne_self_eq_false, Bool.false_eq_true, if_false]
  rfl

theorem bgS_iff (o : List S28) : bgS o = true ↔ ∃ j, 0 ≤ j ∧ j < o.length ∧ big36 (rd_T28 o (j : Int)) = true := by
  unfold bgS
  rw [decide_eq_true_eq, idxP_any]
  simp only [Nat.zero_add]
theorem nodup_idx {out : List S28} (h : (out.map endsF).Nodup) {i j : Nat} (hi : i < out.length) (hj : j < out.length) (e : endsF (rd_T28 out (i : Int)) = endsF (rd_T28 out (j : Int))) : i = j := by
  have g : ∀ k (hk : k < out.length), endsF (rd_T28 out (k : Int)) = (out.map endsF)[k]'(by rw [List.length_map]; exact hk) := fun k hk => by
    rw [List.getElem_map]
    unfold rd_T28
    rw [Int.toNat_natCast, List.getD_eq_getElem?_getD, List.getElem?_eq_getElem hk]
    rfl
  rw [g i hi, g j hj] at e
  exact (List.getElem_inj h).1 e
/-- The inner loop behind the flow that was found: nothing more is found. -/
theorem refmg.rest {p q P n0 n1 y2 y3 i : Int} {l out : List S28} (hl : out.length ≤ 1000) {R : Int × List S28 × Int} (b : Bool) (hR : Ev (fun k => spileref36_Merge.l0 k q (wrap64 (i + 1)) p l P (if b = true then out else out ++ [(⟨n0, n1, y2, y3⟩ : S28)])) R) :
    ∀ d j : Nat, j + d = out.length → (∀ j', j ≤ j' → j' < out.length → endsF (rd_T28 out (j' : Int)) ≠ (n0, n1)) → Ev (fun k => spileref36_Merge.l1 k q i b (j : Int) p l P out n0 n1 y2 y3) R := by
  intro d
  induction d with
  | zero =>
    intro j hj _
    refine Ev.step (fun k => ?_) hR
    simp only [spileref36_Merge.l1]
    rw [if_neg (by omega)]
    cases b
    · rw [if_neg (by decide), if_pos (by omega), if_neg (by decide)]
    · rw [if_pos rfl, if_pos rfl]
  | succ d ih =>
    intro j hj hn
    have hne := hn j (Nat.le_refl _) (by omega)
    refine Ev.step (fun k => ?_) (ih (j + 1) (by omega) (fun j' h1 h2 => hn j' (by omega) h2))
    simp only [spileref36_Merge.l1]
    rw [if_pos (by omega), if_pos (by omega), w64_ (x := (j : Int) + 1) (by omega) (by omega)]
    by_cases e0 : (rd_T28 out (j : Int)).f0 = n0
    · rw [if_pos e0, if_neg (fun e1 => hne (by unfold endsF; rw [e0, e1]))]; rfl
    · rw [if_neg e0]; rfl

/-- The inner loop: one flow more. -/
theorem refmg.find {p q P n0 n1 y2 y3 i : Int} {l out : List S28} (hl : out.length ≤ 1000) (hnd : (out.map endsF).Nodup) (hw : ∀ g ∈ out, wrap64 (g.f2 + y2) = g.f2 + y2 ∧ wrap64 (g.f3 + y3) = g.f3 + y3) {R : Int × List S28 × Int}
    (hne : n0 ≠ n1) (hR : Ev (fun k => spileref36_Merge.l0 k q (wrap64 (i + 1)) p l P (mgS out ⟨n0, n1, y2, y3⟩)) R) :
    ∀ d j : Nat, j + d = out.length → (∀ j', j' < j → endsF (rd_T28 out (j' : Int)) ≠ (n0, n1)) → Ev (fun k => spileref36_Merge.l1 k q i false (j : Int) p l P out n0 n1 y2 y3) R := by
  intro d
  induction d with
  | zero =>
    intro j hj hn
    have hnm : ¬ endsF (⟨n0, n1, y2, y3⟩ : S28) ∈ out.map endsF := fun h => by
      have h' : (n0, n1) ∈ out.map endsF := h
      have hlt := idx_lt h'
      exact hn _ (by omega) (idx_ends h')
    unfold mgS at hR
    rw [if_neg hne, if_neg hnm] at hR
    exact refmg.rest hl false (by simpa using hR) 0 j hj (fun j' h1 h2 => by omega)
  | succ d ih =>
    intro j hj hn
    have hjl : j < out.length := by omega
    by_cases he : endsF (rd_T28 out (j : Int)) = (n0, n1)
    · have hm : endsF (⟨n0, n1, y2, y3⟩ : S28) ∈ out.map endsF := by
        show (n0, n1) ∈ _
        rw [← he]
        exact List.mem_map_of_mem (rd_mem hjl)
      have hidx : (out.map endsF).idxOf (endsF (⟨n0, n1, y2, y3⟩ : S28)) = j := nodup_idx hnd (idx_lt hm) hjl ((idx_ends hm).trans he.symm)
      have hms : mgS out ⟨n0, n1, y2, y3⟩ = addAt out j ⟨n0, n1, y2, y3⟩ := by
        unfold mgS
        rw [if_neg hne, if_pos hm, hidx]
      rw [hms] at hR
      have hae := addAt_ends hjl (⟨n0, n1, y2, y3⟩ : S28)
      have hal : (addAt out j ⟨n0, n1, y2, y3⟩).length = out.length := by unfold addAt; rw [List.length_set]
      have hrest := refmg.rest (p := p) (q := q) (P := P) (n0 := n0) (n1 := n1) (y2 := y2) (y3 := y3) (i := i) (l := l) (out := addAt out j ⟨n0, n1, y2, y3⟩) (by omega) true (R := R) (by simpa using hR) d (j + 1) (by omega) (fun j' h1 h2 e => by
        have hnd' : ((addAt out j ⟨n0, n1, y2, y3⟩).map endsF).Nodup := by rw [hae]; exact hnd
        have hj2 : endsF (rd_T28 (addAt out j ⟨n0, n1, y2, y3⟩) (j : Int)) = (n0, n1) := by
          rw [← he]
          unfold addAt rd_T28
          rw [Int.toNat_natCast, List.getD_eq_getElem?_getD, List.getElem?_set_self hjl]
          rfl
        have := nodup_idx hnd' (by omega) h2 (hj2.trans e.symm)
        omega)
      refine Ev.step (fun k => ?_) hrest
      obtain ⟨w2, w3⟩ := hw _ (rd_mem hjl)
      have e0 : (rd_T28 out (j : Int)).f0 = n0 := congrArg Prod.fst he
      have e1 : (rd_T28 out (j : Int)).f1 = n1 := congrArg Prod.snd he
      simp only [spileref36_Merge.l1]
      rw [if_pos (by omega), if_pos (by omega), if_pos e0, if_pos e1, Option.bind_some, w64_ (x := (j : Int) + 1) (by omega) (by omega), w2, Int.toNat_natCast]
      have er : rd_T28 (out.set j (⟨(rd_T28 out (j : Int)).f0, (rd_T28 out (j : Int)).f1, (rd_T28 out (j : Int)).f2 + y2, (rd_T28 out (j : Int)).f3⟩ : S28)) (j : Int) = ⟨(rd_T28 out (j : Int)).f0, (rd_T28 out (j : Int)).f1, (rd_T28 out (j : Int)).f2 + y2, (rd_T28 out (j : Int)).f3⟩ := by
        conv => lhs; unfold rd_T28
        rw [Int.toNat_natCast, List.getD_eq_getElem?_getD, List.getElem?_set_self hjl]
        rfl
      rw [er]
      simp only
      rw [w3, List.set_set]
      rfl
    · refine Ev.step (fun k => ?_) (ih (j + 1) (by omega) (fun j' h1 => ?_))
      · simp only [spileref36_Merge.l1]
        rw [if_pos (by omega), if_pos (by omega), w64_ (x := (j : Int) + 1) (by omega) (by omega)]
        by_cases e0 : (rd_T28 out (j : Int)).f0 = n0
        · rw [if_pos e0, if_neg (fun e1 => he (by unfold endsF; rw [e0, e1]))]; rfl
        · rw [if_neg e0]; rfl
      · rcases Nat.lt_or_ge j' j with h | h
        · exact hn j' h
        · obtain rfl : j' = j := by omega
          exact he

end Go.Proofs.Ytodfjkdgfjkifaa.PF
