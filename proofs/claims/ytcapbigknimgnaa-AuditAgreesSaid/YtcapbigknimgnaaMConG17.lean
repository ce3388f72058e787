/- slices.Contains at rows: what it returns. -/
import Derived.Test.YtcapbigknimgnaaMAudAwake
import Derived.Test.YtcapbigknimgnaaMCf17
import Derived.Test.YtcapbigknimgnaaMEv
import Derived.Test.YtcapbigknimgnaaPF0
import Derived.Test.YtcapbigknimgnaaPF1
import Derived.Test.YtcapbigknimgnaaPF23
namespace Go.Proofs.Ytcapbigknimgnaa.PF
open Go.RowKit Go.Proofs.YtcapbigknimgnaaW.PrintWords Go.Proofs.YtcapbigknimgnaaW.PrintLast Go.Proofs.YtcapbigknimgnaaW.PrintMore
set_option linter.unusedVariables false
set_option linter.unusedSimpArgs false
/-- Does a list of rows hold a row? -/
def grIn (x : S44) (l : List S44) : Bool := l.any (fun y => x.f0 == y.f0 && x.f1 == y.f1)
theorem grIn_iff (x : S44) (l : List S44) : grIn x l = true ↔ x ∈ l := by
  unfold grIn
  rw [List.any_eq_true]
  constructor
  · rintro ⟨y, hy, e⟩
    simp only [Bool.and_eq_true, beq_iff_eq] at e
    have : x = y := by
      cases x
      cases y
      simp only at e
      rw [e.1, e.2]
    rw [this]
    exact hy
  · intro h
    exact ⟨x, h, by simp⟩
theorem idx_grade.go (l : List S44) (x : S44) (hn : l.length ≤ 20000) : ∀ d i : Nat, i + d = l.length → ∃ r : Int, Ev (fun k => api_Grade_59.l0 k l (l.length : Int) (i : Int) x.f0 x.f1) r ∧ (0 ≤ r ↔ ∃ j, i ≤ j ∧ ∃ hj : j < l.length, l[j] = x) := by
  intro d
  induction d with
  | zero =>
    intro i hi
    refine ⟨-1, Ev.ret (fun k => ?_), fun h => absurd h (by decide), fun ⟨j, h1, h2, _⟩ => by omega⟩
    simp only [api_Grade_59.l0]
    rw [if_neg (by omega)]
  | succ d ih =>
    intro i hi
    have hil : i < l.length := by omega
    by_cases hb : (x.f0 == (rd_T44 l (i : Int)).f0 && (x.f1 == (rd_T44 l (i : Int)).f1)) = true
    · refine ⟨(i : Int), Ev.ret (fun k => ?_), fun _ => ⟨i, Nat.le_refl _, hil, ?_⟩, fun _ => by omega⟩
      · simp only [api_Grade_59.l0]
        rw [if_pos (by omega), if_pos (by omega), if_pos (by omega), if_pos hb]
      · rw [rd_grade l i hil] at hb
        simp only [Bool.and_eq_true, beq_iff_eq] at hb
        generalize l[i] = y at hb
        cases x
        cases y
        simp only at hb
        rw [hb.1, hb.2]
    · obtain ⟨r, hr, hiff⟩ := ih (i + 1) (by omega)
      refine ⟨r, Ev.step (fun k => ?_) hr, ?_⟩
      · simp only [api_Grade_59.l0]
        rw [if_pos (by omega), if_pos (by omega), if_pos (by omega), if_neg hb, w64_ (by omega) (by omega)]
        rfl
      · rw [hiff]
        constructor
        · rintro ⟨j, h1, h2, h3⟩
          exact ⟨j, by omega, h2, h3⟩
        · rintro ⟨j, h1, h2, h3⟩
          rcases Nat.eq_or_lt_of_le h1 with rfl | h4
          · refine absurd ?_ hb
            rw [rd_grade l i hil, h3]
            simp
          · exact ⟨j, h4, h2, h3⟩
theorem contains_grade.known (l : List S44) (x : S44) (A : Option Addr) (c : Nat) (w : World) (hr : Kd.C k44 w A l.length l) (hc : l.length ≤ c) (hn : l.length ≤ 20000) :
    Calls Try.prog 42 #[.slice A l.length c, .agg #[.int .i64 x.f0, .int .i64 x.f1]] w fun e w' => e = .returned (.bool (grIn x l)) ∧ Below w.heap.size w w' := by
  obtain ⟨r, hE, hiff⟩ := idx_grade.go l x hn l.length 0 (by omega)
  have h : Ev (fun k => api_Grade_42.f k l x.f0 x.f1) (grIn x l) := by
    unfold api_Grade_42.f
    refine Ev.bind (b := r) hE (Ev.now (fun k => ?_))
    congr 1
    rw [Bool.eq_iff_iff, decide_eq_true_iff, grIn_iff]
    show 0 ≤ r ↔ _
    rw [hiff, List.mem_iff_getElem]
    constructor
    · rintro ⟨j, _, hj, e⟩; exact ⟨j, hj, e⟩
    · rintro ⟨j, hj, e⟩; exact ⟨j, Nat.zero_le _, hj, e⟩
  obtain ⟨k, hk⟩ := Ev.given h
  exact api_Grade_42.calls k A c l x.f0 x.f1 _ w hr hc hk

end Go.Proofs.Ytcapbigknimgnaa.PF
