/- The law AuditOptimal of package spilelaw17 returns true for every input and leaves its arguments as they were; there is no condition. -/
import Derived.Test.YtcapbigknimgnaaLawAuditOptimal
import Derived.Test.YtcapbigknimgnaaMAud
import Derived.Test.YtcapbigknimgnaaMAud2
import Derived.Test.YtcapbigknimgnaaMAud4
import Derived.Test.YtcapbigknimgnaaMAudAwake
import Derived.Test.YtcapbigknimgnaaMEv
import Derived.Test.YtcapbigknimgnaaMOpt
import Derived.Test.YtcapbigknimgnaaPF0
import Derived.Test.YtcapbigknimgnaaPF1
import Derived.Test.YtcapbigknimgnaaPF19
import Derived.Test.YtcapbigknimgnaaPF5
import Derived.Test.YtcapbigknimgnaaPF6
import Derived.Test.YtcapbigknimgnaaPF8
namespace Go.Proofs.Ytcapbigknimgnaa.PF
open Go.RowKit Go.Proofs.YtcapbigknimgnaaW.PrintWords Go.Proofs.YtcapbigknimgnaaW.PrintLast Go.Proofs.YtcapbigknimgnaaW.PrintMore
set_option linter.unusedVariables false
set_option linter.unusedSimpArgs false
theorem AuditOptimal.last {l : List S44} (h : RightR l) (other : List Int) (ho : ∀ x ∈ other, 0 ≤ x ∧ x ≤ 65535) : ∀ (d i : Nat), i + d = l.length → ∀ (m : List S44) (x : Int), StO l m i x →
    Ev (fun k => spilelaw17_AuditOptimal.l1 k l other (repC l l.length) true m x (l.length : Int) (i : Int)) true := by
  have hn := h.hi
  intro d
  induction d with
  | zero =>
    intro i hi m x hS
    obtain rfl : i = l.length := by omega
    have hm := hS.right h
    refine Ev.step (G := fun k => (audit_Clashes.f k m 0).bind fun bt324 => (if bt324.2 = 0 then (if (bt324.1.length : Int) > 0 then (some true) else (some (decide (x ≥ repC l l.length)))) else (some false))) (fun k => ?_) ?_
    · simp only [spilelaw17_AuditOptimal.l1]
      rw [if_neg (by omega)]
      simp only [if_true]
    · refine Ev.bind (audit_Clashes.ev m 0) (Ev.now (fun k => ?_))
      rw [clS_right hm (Int.le_refl _) (by decide)]
      show (if (0 : Int) = 0 then _ else _) = _
      rw [if_pos rfl]
      by_cases hc : ((((allP m.length 0).foldl (clF m 0) []).length : Nat) : Int) > 0
      · rw [if_pos hc]
      · rw [if_neg hc]
        have he : (clS m 0).1 = [] := by
          rw [clS_right hm (Int.le_refl _) (by decide)]
          show (allP m.length 0).foldl (clF m 0) [] = []
          exact List.length_eq_zero_iff.1 (by omega)
        have := hS.last h ((clS_nil hm (Int.le_refl _) (by decide)).1 he)
        rw [decide_eq_true (by omega)]
  | succ d ih =>
    intro i hi m x hS
    have hlen := hS.len
    have hrow := h.row i (by omega)
    by_cases hc : i < other.length
    · have hv : 0 ≤ rd other (i : Int) ∧ rd other (i : Int) ≤ 65535 := by
        unfold rd
        rw [Int.toNat_natCast, List.getD_eq_getElem?_getD, List.getElem?_eq_getElem hc]
        exact ho _ (List.getElem_mem hc)
      have ht : 0 ≤ Int.tmod (rd other (i : Int)) 400 ∧ Int.tmod (rd other (i : Int)) 400 < 400 := by
        rw [Int.tmod_eq_emod_of_nonneg hv.1]
        exact ⟨Int.emod_nonneg _ (by decide), Int.emod_lt_of_pos _ (by decide)⟩
      obtain ⟨v, hv0⟩ : ∃ v, v = mn (mx ((rd_T44 l (i : Int)).f1 + Int.tmod (rd other (i : Int)) 400 - 200) 50000) 120000 := ⟨_, rfl⟩
      have hvr : 50000 ≤ v ∧ v ≤ 120000 := by rw [hv0]; unfold mn mx; split <;> (try split) <;> omega
      obtain ⟨hP, hg⟩ := hS.put (by omega) hvr.1 hvr.2
      have hnext := hP.keep h (show i < l.length by omega)
      rw [hg] at hnext
      have hd := hP.d i (by omega)
      refine Ev.step (fun k => ?_) (ih (i + 1) (by omega) _ _ hnext)
      simp only [spilelaw17_AuditOptimal.l1]
      rw [if_pos (by omega), if_pos (by omega), if_pos (by omega), if_pos (by omega), if_pos (by omega), w64_ (x := rd other (i : Int)) (by omega) (by omega), w64_ (x := _ + Int.tmod _ _) (by omega) (by omega), w64_ (x := _ - 200) (by omega) (by omega), ← hv0, Int.toNat_natCast]
      simp only [Option.bind_some]
      rw [show (rd_T44 (m.set i ⟨(rd_T44 m (i : Int)).f0, v⟩) (i : Int)).f1 = v from hg, w64_ (x := v - _) (by omega) (by omega), w64_ (x := _ - v) (by omega) (by omega), w64_ (x := (i : Int) + 1) (by omega) (by omega)]
      rfl
    · have hnext := hS.keep h (show i < l.length by omega)
      have hd := hS.d i (by omega)
      unfold gd at hd
      refine Ev.step (fun k => ?_) (ih (i + 1) (by omega) _ _ hnext)
      simp only [spilelaw17_AuditOptimal.l1]
      rw [if_pos (by omega), if_neg (by omega), if_pos (by omega), if_pos (by omega), if_pos (by omega), w64_ (x := (rd_T44 m (i : Int)).f1 - _) (by omega) (by omega), w64_ (x := _ - (rd_T44 m (i : Int)).f1) (by omega) (by omega), w64_ (x := (i : Int) + 1) (by omega) (by omega)]
      rfl
theorem AuditOptimal.rows {l : List S44} (h : RightR l) (other : List Int) (ho : ∀ x ∈ other, 0 ≤ x ∧ x ≤ 65535) : ∀ (d i : Nat), i + d = l.length → ∀ b : Bool, (b = true ∨ ∃ j, i ≤ j ∧ j < l.length ∧ mx (repD l j - gd l j) (gd l j - repD l j) = repC l l.length) →
    Ev (fun k => spilelaw17_AuditOptimal.l0 k l other (repL l) (repC l l.length) b (l.length : Int) (i : Int)) true := by
  have hn := h.hi
  have hL := repL_length l
  intro d
  induction d with
  | zero =>
    intro i hi b hb
    have hb' : b = true := by
      rcases hb with hb | ⟨j, h1, h2, _⟩
      · exact hb
      · omega
    subst hb'
    refine Ev.step (fun k => ?_) (AuditOptimal.last h other ho l.length 0 (by omega) l 0 ⟨rfl, fun _ _ => rfl, fun j hj => (h.row j hj).2.2, ⟨Int.le_refl _, by decide⟩, fun j hj => by omega⟩)
    simp only [spilelaw17_AuditOptimal.l0]
    rw [if_neg (by omega)]
    unfold api_Grade_25.f
    rw [if_pos (by omega)]
    rfl
  | succ d ih =>
    intro i hi b hb
    have hrow := h.row i (by omega)
    have hdr := h.repD_rng (i := i) (by omega)
    obtain ⟨_, hs, _⟩ := repC_spec l l.length
    have hs' := hs i (by omega)
    have hnot : ¬ mx (repD l i - gd l i) (gd l i - repD l i) > repC l l.length := by
      rcases mx_or_ (repD l i - gd l i) (gd l i - repD l i) with e | e <;> rw [e] <;> omega
    have hnot' : ¬ mx (repD l i - (rd_T44 l (i : Int)).f1) ((rd_T44 l (i : Int)).f1 - repD l i) > repC l l.length := hnot
    refine Ev.step (fun k => ?_) (ih (i + 1) (by omega) (if b = true then true else (mx (repD l i - gd l i) (gd l i - repD l i) == repC l l.length)) ?_)
    · simp only [spilelaw17_AuditOptimal.l0]
      rw [if_pos (by omega), if_pos (by omega), if_pos (by omega), if_pos (by omega), rd_repL l (show i < l.length by omega), if_pos (show (repV l i).f0 = (rd_T44 l (i : Int)).f0 from rfl), show (repV l i).f1 = repD l i from rfl, w64_ (x := repD l i - _) (by omega) (by omega), w64_ (x := _ - repD l i) (by omega) (by omega), if_neg hnot', w64_ (x := (i : Int) + 1) (by omega) (by omega)]
      cases b <;> rfl
    · rcases hb with hb | ⟨j, h1, h2, h3⟩
      · exact Or.inl (by rw [if_pos hb])
      · rcases Nat.eq_or_lt_of_le h1 with rfl | h4
        · left
          split
          · rfl
          · exact beq_iff_eq.2 h3
        · exact Or.inr ⟨j, h4, h2, h3⟩
theorem AuditOptimal_pure : Go.Proofs.Ytcapbigknimgnaa.auditOptimal.Pure := by
  intro l other _ hw
  have ho : ∀ x ∈ other, 0 ≤ x ∧ x ≤ 65535 := fun x hx => YtcapbigknimgnaaR.wf_u16_ (hw.2 x hx)
  refine Ev.given ?_
  unfold spilelaw17_AuditOptimal.f
  refine Ev.bind awake17 ?_
  simp only [if_true]
  by_cases h20 : (l.length : Int) > 20
  · refine Ev.ret (fun k => ?_)
    rw [if_pos h20]
    simp only [spilelaw17_AuditOptimal.j0, if_true]
  by_cases h40 : (other.length : Int) > 40
  · refine Ev.ret (fun k => ?_)
    rw [if_neg h20, decide_eq_true h40]
    simp only [spilelaw17_AuditOptimal.j0, if_true]
  refine Ev.step (G := fun k => ((audit_Repair.f k l).bind fun bt293 => (if bt293.2.2 = 0 then ((audit_Clashes.f k bt293.1 0).bind fun bt298 => ((audit_Least.f k l).bind fun bt302 => (if bt298.2 = 0 then (if bt302.2 = 0 then (if (bt298.1.length : Int) = 0 then (if (bt293.1.length : Int) = (l.length : Int) then (spilelaw17_AuditOptimal.j1 k l other bt293.1 bt293.2.1 (bt293.2.1 != (wrap64 (Int.tdiv (wrap64 (bt302.1 + 1)) 2)))) else (spilelaw17_AuditOptimal.j1 k l other bt293.1 bt293.2.1 true)) else (spilelaw17_AuditOptimal.j1 k l other bt293.1 bt293.2.1 true)) else (spilelaw17_AuditOptimal.j1 k l other bt293.1 bt293.2.1 true)) else (spilelaw17_AuditOptimal.j1 k l other bt293.1 bt293.2.1 true)))) else (if (bt293.1.length : Int) = 0 then (some (bt293.2.1 == 0)) else (some false))))) (fun k => ?_) ?_
  · rw [if_neg h20, decide_eq_false h40]
    simp only [spilelaw17_AuditOptimal.j0, Bool.false_eq_true, if_false]
  refine Ev.bind (audit_Repair.ev l) ?_
  by_cases hr : (rchk l).2 = 0
  · have h := (rchk_iff l).1 hr
    have hn := h.hi
    have e1 : repS l = (repL l, repC l l.length, 0) := by unfold repS; rw [if_neg (not_not_intro hr)]; rfl
    have e2 : clS (repL l) 0 = ([], 0) := by
      have hz := (clS_nil h.rep (Int.le_refl _) (by decide)).2 (by rw [h.rep_zero]; exact Int.le_refl _)
      rw [clS_right h.rep (Int.le_refl _) (by decide)] at hz ⊢
      exact Prod.ext hz rfl
    have e3 : leS l = (leT l, 0) := by unfold leS; rw [if_neg (not_not_intro hr)]
    have hL := repL_length l
    have t0 := leT_nonneg l
    have t1 := h.leT_le
    rw [e1]
    refine Ev.same (G := fun k => ((audit_Clashes.f k (repL l) 0).bind fun bt298 => ((audit_Least.f k l).bind fun bt302 => (if bt298.2 = 0 then (if bt302.2 = 0 then (if (bt298.1.length : Int) = 0 then (if ((repL l).length : Int) = (l.length : Int) then (spilelaw17_AuditOptimal.j1 k l other (repL l) (repC l l.length) (repC l l.length != (wrap64 (Int.tdiv (wrap64 (bt302.1 + 1)) 2)))) else (spilelaw17_AuditOptimal.j1 k l other (repL l) (repC l l.length) true)) else (spilelaw17_AuditOptimal.j1 k l other (repL l) (repC l l.length) true)) else (spilelaw17_AuditOptimal.j1 k l other (repL l) (repC l l.length) true)) else (spilelaw17_AuditOptimal.j1 k l other (repL l) (repC l l.length) true))))) (fun k => if_pos rfl) ?_
    refine Ev.bind (audit_Clashes.ev (repL l) 0) ?_
    rw [e2]
    refine Ev.bind (audit_Least.ev l) ?_
    rw [e3]
    refine Ev.same (G := fun k => spilelaw17_AuditOptimal.j1 k l other (repL l) (repC l l.length) false) (fun k => ?_) ?_
    · rw [if_pos rfl, if_pos rfl, if_pos (by rfl), if_pos (by rw [hL])]
      rw [w64_ (x := _ + 1) (by omega) (by omega), Int.tdiv_eq_ediv_of_nonneg (by omega), w64_ (by omega) (by omega), h.repC_eq]
      congr 1
      simp
    · obtain ⟨c0, c1, c2⟩ := repC_spec l l.length
      refine Ev.step (fun k => ?_) (AuditOptimal.rows h other ho l.length 0 (by omega) (repC l l.length == 0) ?_)
      · simp only [spilelaw17_AuditOptimal.j1, Bool.false_eq_true, if_false]
        rfl
      · rcases c2 with c2 | ⟨i, hi, c2⟩
        · exact Or.inl (beq_iff_eq.2 c2)
        · refine Or.inr ⟨i, Nat.zero_le _, hi, ?_⟩
          have := c1 i hi
          have g := mx_ge_ (repD l i - gd l i) (gd l i - repD l i)
          rcases mx_or_ (repD l i - gd l i) (gd l i - repD l i) with e | e <;> rw [e] at g ⊢ <;> omega
  · have e1 : repS l = ([], 0, 1) := by unfold repS; rw [if_pos hr]
    rw [e1]
    exact Ev.now (fun k => rfl)

end Go.Proofs.Ytcapbigknimgnaa.PF
namespace Go.Proofs.Ytcapbigknimgnaa
/-- The given statement. -/
theorem auditOptimal_holds : Rows.AuditOptimalSaid := auditOptimal.over PF.AuditOptimal_pure
#print axioms auditOptimal_holds
end Go.Proofs.Ytcapbigknimgnaa
