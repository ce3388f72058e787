/- The rows of a right density table agree; a table that was made has all rows. -/
import Derived.Test.YtcapbigknimgnaaMAud
import Derived.Test.YtcapbigknimgnaaMAud2
import Derived.Test.YtcapbigknimgnaaMAud4
import Derived.Test.YtcapbigknimgnaaMAudAwake
import Derived.Test.YtcapbigknimgnaaMCf17
import Derived.Test.YtcapbigknimgnaaMEv
import Derived.Test.YtcapbigknimgnaaMOpt
import Derived.Test.YtcapbigknimgnaaMTab17
import Derived.Test.YtcapbigknimgnaaPF0
import Derived.Test.YtcapbigknimgnaaPF1
import Derived.Test.YtcapbigknimgnaaPF21
import Derived.Test.YtcapbigknimgnaaPF23
import Derived.Test.YtcapbigknimgnaaPF8
namespace Go.Proofs.Ytcapbigknimgnaa.PF
open Go.RowKit Go.Proofs.YtcapbigknimgnaaW.PrintWords Go.Proofs.YtcapbigknimgnaaW.PrintLast Go.Proofs.YtcapbigknimgnaaW.PrintMore
set_option linter.unusedVariables false
set_option linter.unusedSimpArgs false
theorem RightT.mono_f0 {l : List S44} (h : RightT l) (d : Nat) : ∀ i, i + d < l.length → 0 < d → gs l i < gs l (i + d) := by
  induction d with
  | zero => intro i _ h0; omega
  | succ d ih =>
    intro i hi _
    have h1 := h.inc (i + d) (by omega)
    rw [show ((i + d : Nat) : Int) + 1 = ((i + (d + 1) : Nat) : Int) by omega] at h1
    rcases Nat.eq_zero_or_pos d with rfl | hp
    · exact h1
    · have h2 := ih i (by omega) hp
      unfold gs at *
      omega
theorem RightT.anti_f1 {l : List S44} (h : RightT l) (d : Nat) : ∀ i, i + d < l.length → gd l (i + d) ≤ gd l i := by
  induction d with
  | zero => intro i _; exact Int.le_refl _
  | succ d ih =>
    intro i hi
    have h1 := h.dec (i + d) (by omega)
    rw [show ((i + d : Nat) : Int) + 1 = ((i + (d + 1) : Nat) : Int) by omega] at h1
    have h2 := ih i (by omega)
    unfold gd at *
    omega
theorem RightT.rows {l : List S44} (h : RightT l) : RightR l := by
  refine ⟨by have := h.lo; omega, h.hi, fun i hi => h.rng i hi, fun i hi => ?_⟩
  have h1 := h.inc i hi
  rw [show ((i : Int) + 1) = ((i + 1 : Nat) : Int) by omega] at h1
  omega
theorem RightT.least {l : List S44} (h : RightT l) : leT l = 0 := by
  refine leT_zero h.rows (fun i j hi hj hs => ?_)
  rcases Nat.lt_or_ge j i with hji | hij
  · have h1 := h.mono_f0 (i - j) j (by omega) (by omega)
    rw [show j + (i - j) = i by omega] at h1
    omega
  · have h1 := h.anti_f1 (j - i) i (by omega)
    rw [show i + (j - i) = j by omega] at h1
    exact h1
theorem RightT.leS_ {l : List S44} (h : RightT l) : leS l = (0, 0) := by
  unfold leS
  rw [if_neg (not_not_intro ((rchk_iff l).2 h.rows)), h.least]
theorem RightT.repS_ {l : List S44} (h : RightT l) : repS l = (l, 0, 0) := by
  unfold repS
  rw [if_neg (not_not_intro ((rchk_iff l).2 h.rows))]
  have h1 := h.rows.repC_eq
  rw [h.least] at h1
  have h2 : repC l l.length = 0 := by rw [h1]; decide
  have h3 : (List.range l.length).map (repV l) = l := by
    apply List.ext_getElem
    · simp
    · intro i h4 h5
      rw [List.getElem_map, List.getElem_range]
      have h6 := h.rows.repD_near (i := i) h5
      rw [h.least] at h6
      have h7 : ((0 : Int) + 1) / 2 = 0 := by decide
      rw [h7] at h6
      unfold repV
      have h8 : repD l i = gd l i := by omega
      rw [h8]
      unfold gd
      rw [rd_grade l i h5]
  rw [h2, h3]
theorem RightT.tabS_ {l : List S44} (h : RightT l) : tabS l = (l, 0) := by
  unfold tabS
  rw [if_neg (not_not_intro ((rchk_iff l).2 h.rows)), h.least, if_neg (by omega)]
  have h1 : cmS l l.length = l := by
    rw [cmS_all l _ (Nat.le_refl _) (fun j hj => ?_), List.take_length]
    unfold kpS
    rcases Nat.eq_zero_or_pos j with rfl | hp
    · rfl
    · have h2 := h.inc (j - 1) (by omega)
      rw [show ((j - 1 : Nat) : Int) = (j : Int) - 1 by omega, show (j : Int) - 1 + 1 = (j : Int) by omega] at h2
      have h3 : ((rd_T44 l (j : Int)).f0 == (rd_T44 l ((j : Int) - 1)).f0) = false := by
        rw [beq_eq_false_iff_ne]
        omega
      rw [h3]
      simp
  rw [h1]
  unfold tabE
  rw [if_pos ((right_iff l).2 h)]
/-- All rows are among those that are kept, if no rows contradict each other. -/
theorem RightR.kept {l : List S44} (h : RightR l) (hz : leT l ≤ 0) : ∀ m, m ≤ l.length → ∀ j, j < m → rd_T44 l (j : Int) ∈ cmS l m := by
  intro m
  induction m with
  | zero => intro _ j hj; omega
  | succ m ih =>
    intro hm j hj
    have e1 : cmS l (m + 1) = if kpS l m then cmS l m ++ [rd_T44 l (m : Int)] else cmS l m := rfl
    rw [e1]
    rcases Nat.lt_or_ge j m with h1 | h1
    · have h2 := ih (by omega) j h1
      split
      · exact List.mem_append_left _ h2
      · exact h2
    · have e : j = m := by omega
      subst e
      split
      · exact List.mem_append_right _ (List.mem_singleton.2 rfl)
      · rename_i hk
        unfold kpS at hk
        rcases Nat.eq_zero_or_pos j with rfl | hp
        · exact absurd rfl hk
        · have h3 : ((rd_T44 l (j : Int)).f0 == (rd_T44 l ((j : Int) - 1)).f0) = true := by
            cases hq : ((rd_T44 l (j : Int)).f0 == (rd_T44 l ((j : Int) - 1)).f0)
            · rw [hq] at hk; simp at hk
            · rfl
          have h4 : (rd_T44 l (j : Int)).f0 = (rd_T44 l ((j - 1 : Nat) : Int)).f0 := by
            rw [show ((j - 1 : Nat) : Int) = (j : Int) - 1 by omega]
            simpa using h3
          have h5 := h.anti hz (i := j) (j := j - 1) (by omega) (by omega) (by unfold gs; omega)
          have h6 := h.anti hz (i := j - 1) (j := j) (by omega) (by omega) (by unfold gs; omega)
          unfold gd at h5 h6
          have h7 : rd_T44 l (j : Int) = rd_T44 l ((j - 1 : Nat) : Int) := by
            generalize rd_T44 l (j : Int) = x at *
            generalize rd_T44 l ((j - 1 : Nat) : Int) = y at *
            cases x
            cases y
            simp only at h4 h5 h6
            have h8 : _ = _ := Int.le_antisymm h6 h5
            rw [h4, h8]
          rw [h7]
          exact ih (by omega) (j - 1) (by omega)
theorem tabS_has {l r : List S44} (h : tabS l = (r, 0)) : (dchk r).2 = 0 ∧ r.length ≤ l.length ∧ ∀ j, j < l.length → rd_T44 l (j : Int) ∈ r := by
  have hlen := tabS_length l
  rw [h] at hlen
  unfold tabS at h
  by_cases hk : (rchk l).2 = 0
  · rw [if_neg (not_not_intro hk)] at h
    by_cases hp : 0 < leT l
    · rw [if_pos hp] at h
      exact absurd (show (18 : Int) = 0 from congrArg Prod.snd h) (by decide)
    · rw [if_neg hp] at h
      unfold tabE at h
      by_cases hd : (dchk (cmS l l.length)).2 = 0
      · rw [if_pos hd] at h
        have e := congrArg Prod.fst h
        simp only at e
        rw [← e]
        exact ⟨hd, by rw [e]; exact hlen, fun j hj => ((rchk_iff l).1 hk).kept (by omega) l.length (Nat.le_refl _) j hj⟩
      · rw [if_neg hd] at h
        exact absurd (congrArg Prod.snd h) hd
  · rw [if_pos hk] at h
    exact absurd (show (1 : Int) = 0 from congrArg Prod.snd h) (by decide)
theorem tabS_none {l r : List S44} {e : Int} (h : tabS l = (r, e)) (he : e ≠ 0) : r = [] := by
  unfold tabS at h
  by_cases hk : (rchk l).2 = 0
  · rw [if_neg (not_not_intro hk)] at h
    by_cases hp : 0 < leT l
    · rw [if_pos hp] at h
      exact (congrArg Prod.fst h).symm
    · rw [if_neg hp] at h
      unfold tabE at h
      by_cases hd : (dchk (cmS l l.length)).2 = 0
      · rw [if_pos hd] at h
        exact absurd (congrArg Prod.snd h).symm he
      · rw [if_neg hd] at h
        exact (congrArg Prod.fst h).symm
  · rw [if_pos hk] at h
    exact (congrArg Prod.fst h).symm
theorem equal_grade.same (x : List S44) (hx : x.length ≤ 20000) : Ev (fun k => api_Grade_39.f k x x) true := by
  have key : ∀ d i : Nat, i + d = x.length → Ev (fun k => api_Grade_39.l0 k x x (x.length : Int) (i : Int)) true := by
    intro d
    induction d with
    | zero =>
      intro i hi
      refine Ev.ret (fun k => ?_)
      simp only [api_Grade_39.l0]
      rw [if_neg (by omega)]
    | succ d ih =>
      intro i hi
      refine Ev.step (fun k => ?_) (ih (i + 1) (by omega))
      simp only [api_Grade_39.l0]
      rw [if_pos (by omega), if_pos (by omega), if_pos (by omega), if_pos (by omega), if_neg (by simp), w64_ (by omega) (by omega)]
      rfl
  unfold api_Grade_39.f
  exact Ev.same (fun k => by rw [if_pos rfl]; rfl) (key x.length 0 (by omega))
theorem equal_grade.known {l : List S44} (hn : l.length ≤ 20000) (A B : Option Addr) (c d : Nat) (w : World) (hr : Kd.C k44 w A l.length l) (hc : l.length ≤ c) (hs : Kd.C k44 w B l.length l) (hd : l.length ≤ d) :
    Calls Try.prog 39 #[.slice A l.length c, .slice B l.length d] w fun x w' => x = .returned (.bool true) ∧ Below w.heap.size w w' := by
  obtain ⟨k, hk⟩ := Ev.given (equal_grade.same l hn)
  exact (api_Grade_39.calls k A c l B d l true w hr hc hs hd hk).mono fun x w' ⟨h1, h2⟩ => ⟨h1, h2.below⟩
theorem density_Check.known {l : List S44} {i e : Int} (A : Option Addr) (c : Nat) (w : World) (hr : Kd.C k44 w A l.length l) (hc : l.length ≤ c) (h : dchk l = (i, e)) :
    Calls Try.prog 38 #[.slice A l.length c] w fun x w' => x = .returned (.tuple #[.int .i64 i, .int .i64 e]) ∧ Below w.heap.size w w' :=
  density_Check_s.calls A c l i e w hr hc (by unfold density_Check_s.f; rw [h])
theorem audit_Repair.known {l r : List S44} {n e : Int} (A : Option Addr) (c : Nat) (w : World) (hr : Kd.C k44 w A l.length l) (hc : l.length ≤ c) (h : repS l = (r, n, e)) :
    Calls Try.prog 21 #[.slice A l.length c] w fun x w' => ∃ A' c', x = .returned (.tuple #[.slice A' r.length c', .int .i64 n, .int .i64 e]) ∧ r.length ≤ c' ∧ Kd.C k44 w' A' r.length r ∧ Below w.heap.size w w' := by
  obtain ⟨k, hk⟩ := Ev.given (audit_Repair.ev l)
  rw [h] at hk
  refine (audit_Repair.calls k A c l r n e w hr hc hk).mono ?_
  rintro x w' ⟨v, rfl, hR, hb⟩
  obtain ⟨A', c', rfl⟩ := Kd.R_slice hR
  exact ⟨A', c', rfl, (Kd.R_reads' hR).2.1, (Kd.R_reads' hR).2.2, hb⟩

end Go.Proofs.Ytcapbigknimgnaa.PF
