/- What calls of package audit return, as the plain functions say it (contracts with known answers). -/
import Derived.Test.YtcapbigknimgnaaMAud2
import Derived.Test.YtcapbigknimgnaaMAud3
import Derived.Test.YtcapbigknimgnaaMAudAwake
import Derived.Test.YtcapbigknimgnaaMEv
import Derived.Test.YtcapbigknimgnaaMOpt
import Derived.Test.YtcapbigknimgnaaPF0
import Derived.Test.YtcapbigknimgnaaPF1
import Derived.Test.YtcapbigknimgnaaPF10
import Derived.Test.YtcapbigknimgnaaPF23
import Derived.Test.YtcapbigknimgnaaPF5
import Derived.Test.YtcapbigknimgnaaPF6
import Derived.Test.YtcapbigknimgnaaPF7
namespace Go.Proofs.Ytcapbigknimgnaa.PF
open Go.RowKit Go.Proofs.YtcapbigknimgnaaW.PrintWords Go.Proofs.YtcapbigknimgnaaW.PrintLast Go.Proofs.YtcapbigknimgnaaW.PrintMore
set_option linter.unusedVariables false
set_option linter.unusedSimpArgs false
theorem audit_awake.known (w : World) : Calls Try.prog 10 #[] w fun e w' => e = .returned (.bool true) ∧ Below w.heap.size w w' := by
  obtain ⟨k, hk⟩ := Ev.given awake17
  exact spilelaw17_awake.calls k true w hk
theorem audit_Least.known {l : List S44} {n e : Int} (A : Option Addr) (c : Nat) (w : World) (hr : Kd.C k44 w A l.length l) (hc : l.length ≤ c) (h : leS l = (n, e)) :
    Calls Try.prog 16 #[.slice A l.length c] w fun x w' => x = .returned (.tuple #[.int .i64 n, .int .i64 e]) ∧ Below w.heap.size w w' := by
  obtain ⟨k, hk⟩ := Ev.given (audit_Least.ev l)
  rw [h] at hk
  exact audit_Least.calls k A c l n e w hr hc hk
theorem audit_Clashes.known {l : List S44} {t : Int} {r : List S33} {e : Int} (A : Option Addr) (c : Nat) (w : World) (hr : Kd.C k44 w A l.length l) (hc : l.length ≤ c) (h : clS l t = (r, e)) :
    Calls Try.prog 14 #[.slice A l.length c, .int .i64 t] w fun x w' => ∃ A' c', x = .returned (.tuple #[.slice A' r.length c', .int .i64 e]) ∧ r.length ≤ c' ∧ Kd.C k33 w' A' r.length r ∧ Below w.heap.size w w' := by
  obtain ⟨k, hk⟩ := Ev.given (audit_Clashes.ev l t)
  rw [h] at hk
  refine (audit_Clashes.calls k A c l t r e w hr hc hk).mono ?_
  rintro x w' ⟨v, rfl, hR, hb⟩
  obtain ⟨A', c', rfl⟩ := Kd.R_slice hR
  exact ⟨A', c', rfl, (Kd.R_reads' hR).2.1, (Kd.R_reads' hR).2.2, hb⟩
theorem audit_Largest.known {l : List S44} {r : List Int} {e : Int} (A : Option Addr) (c : Nat) (w : World) (hr : Kd.C k44 w A l.length l) (hc : l.length ≤ c) (h : lgS l = (r, e)) :
    Calls Try.prog 19 #[.slice A l.length c] w fun x w' => ∃ A' c', x = .returned (.tuple #[.slice A' r.length c', .int .i64 e]) ∧ r.length ≤ c' ∧ Kd.C (Kd.int .i64) w' A' r.length r ∧ Below w.heap.size w w' := by
  obtain ⟨k, hk⟩ := Ev.given (audit_Largest.ev l)
  rw [h] at hk
  refine (audit_Largest.calls k A c l r e w hr hc hk).mono ?_
  rintro x w' ⟨v, rfl, hR, hb⟩
  obtain ⟨A', c', rfl⟩ := Kd.R_slice hR
  exact ⟨A', c', rfl, (Kd.R_reads' hR).2.1, (Kd.R_reads' hR).2.2, hb⟩
/-- Does a list of pairs hold a pair? -/
def clIn (x : S33) (l : List S33) : Bool := l.any (fun y => x.f0 == y.f0 && x.f1 == y.f1)
theorem clIn_iff (x : S33) (l : List S33) : clIn x l = true ↔ x ∈ l := by
  unfold clIn
  rw [List.any_eq_true]
  constructor
  · rintro ⟨y, hy, e⟩
    simp only [Bool.and_eq_true, beq_iff_eq] at e
    have : x = y := by
      cases x
      cases y
      simp only at e
      rw [e.1, e.2]
    rw [this]
    exact hy
  · intro h
    exact ⟨x, h, by simp⟩
theorem rd_clash (l : List S33) (j : Nat) (hj : j < l.length) : rd_T33 l (j : Int) = l[j] := by
  unfold rd_T33
  rw [Int.toNat_natCast, List.getD_eq_getElem?_getD, List.getElem?_eq_getElem hj]
  rfl
theorem idx_clash.go (l : List S33) (x : S33) (hn : l.length ≤ 20000) : ∀ d i : Nat, i + d = l.length → ∃ r : Int, Ev (fun k => api_Clash_53.l0 k l (l.length : Int) (i : Int) x.f0 x.f1) r ∧ (0 ≤ r ↔ ∃ j, i ≤ j ∧ ∃ hj : j < l.length, l[j] = x) := by
  intro d
  induction d with
  | zero =>
    intro i hi
    refine ⟨-1, Ev.ret (fun k => ?_), fun h => absurd h (by decide), fun ⟨j, h1, h2, _⟩ => by omega⟩
    simp only [api_Clash_53.l0]
    rw [if_neg (by omega)]
  | succ d ih =>
    intro i hi
    have hil : i < l.length := by omega
    by_cases hb : (x.f0 == (rd_T33 l (i : Int)).f0 && (x.f1 == (rd_T33 l (i : Int)).f1)) = true
    · refine ⟨(i : Int), Ev.ret (fun k => ?_), fun _ => ⟨i, Nat.le_refl _, hil, ?_⟩, fun _ => by omega⟩
      · simp only [api_Clash_53.l0]
        rw [if_pos (by omega), if_pos (by omega), if_pos (by omega), if_pos hb]
      · rw [rd_clash l i hil] at hb
        simp only [Bool.and_eq_true, beq_iff_eq] at hb
        generalize l[i] = y at hb
        cases x
        cases y
        simp only at hb
        rw [hb.1, hb.2]
    · obtain ⟨r, hr, hiff⟩ := ih (i + 1) (by omega)
      refine ⟨r, Ev.step (fun k => ?_) hr, ?_⟩
      · simp only [api_Clash_53.l0]
        rw [if_pos (by omega), if_pos (by omega), if_pos (by omega), if_neg hb, w64_ (by omega) (by omega)]
        rfl
      · rw [hiff]
        constructor
        · rintro ⟨j, h1, h2, h3⟩
          exact ⟨j, by omega, h2, h3⟩
        · rintro ⟨j, h1, h2, h3⟩
          rcases Nat.eq_or_lt_of_le h1 with rfl | h4
          · refine absurd ?_ hb
            rw [rd_clash l i hil, h3]
            simp
          · exact ⟨j, h4, h2, h3⟩
theorem contains_clash.known (l : List S33) (x : S33) (A : Option Addr) (c : Nat) (w : World) (hr : Kd.C k33 w A l.length l) (hc : l.length ≤ c) (hn : l.length ≤ 20000) :
    Calls Try.prog 35 #[.slice A l.length c, .agg #[.int .i64 x.f0, .int .i64 x.f1]] w fun e w' => e = .returned (.bool (clIn x l)) ∧ Below w.heap.size w w' := by
  obtain ⟨r, hE, hiff⟩ := idx_clash.go l x hn l.length 0 (by omega)
  have h : Ev (fun k => api_Clash_35.f k l x.f0 x.f1) (clIn x l) := by
    unfold api_Clash_35.f
    refine Ev.bind (b := r) hE (Ev.now (fun k => ?_))
    congr 1
    rw [Bool.eq_iff_iff, decide_eq_true_iff, clIn_iff]
    show 0 ≤ r ↔ _
    rw [hiff, List.mem_iff_getElem]
    constructor
    · rintro ⟨j, _, hj, e⟩; exact ⟨j, hj, e⟩
    · rintro ⟨j, hj, e⟩; exact ⟨j, Nat.zero_le _, hj, e⟩
  obtain ⟨k, hk⟩ := Ev.given h
  exact api_Clash_35.calls k A c l x.f0 x.f1 _ w hr hc hk

end Go.Proofs.Ytcapbigknimgnaa.PF
