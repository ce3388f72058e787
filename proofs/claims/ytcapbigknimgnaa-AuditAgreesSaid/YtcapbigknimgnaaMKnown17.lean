/- What calls of package audit return, as the plain functions say it (contracts with known answers). -/
import Derived.Test.YtcapbigknimgnaaMAud2
import Derived.Test.YtcapbigknimgnaaMAudAwake
import Derived.Test.YtcapbigknimgnaaMOpt
import Derived.Test.YtcapbigknimgnaaPF0
import Derived.Test.YtcapbigknimgnaaPF10
import Derived.Test.YtcapbigknimgnaaPF5
import Derived.Test.YtcapbigknimgnaaPF6
namespace Go.Proofs.Ytcapbigknimgnaa.PF
open Go.RowKit Go.Proofs.YtcapbigknimgnaaW.PrintWords Go.Proofs.YtcapbigknimgnaaW.PrintLast Go.Proofs.YtcapbigknimgnaaW.PrintMore
set_option linter.unusedVariables false
set_option linter.unusedSimpArgs false
theorem audit_awake.known (w : World) : Calls Try.prog 10 #[] w fun e w' => e = .returned (.bool true) ∧ Below w.heap.size w w' := by
  obtain ⟨k, hk⟩ := Ev.given awake17
  exact spilelaw17_awake.calls k true w hk
theorem audit_Least.known {l : List S44} {n e : Int} (A : Option Addr) (c : Nat) (w : World) (hr : Kd.C k44 w A l.length l) (hc : l.length ≤ c) (h : leS l = (n, e)) :
    Calls Try.prog 16 #[.slice A l.length c] w fun x w' => x = .returned (.tuple #[.int .i64 n, .int .i64 e]) ∧ Below w.heap.size w w' := by
  obtain ⟨k, hk⟩ := Ev.given (audit_Least.ev l)
  rw [h] at hk
  exact audit_Least.calls k A c l n e w hr hc hk
theorem audit_Clashes.known {l : List S44} {t : Int} {r : List S33} {e : Int} (A : Option Addr) (c : Nat) (w : World) (hr : Kd.C k44 w A l.length l) (hc : l.length ≤ c) (h : clS l t = (r, e)) :
    Calls Try.prog 14 #[.slice A l.length c, .int .i64 t] w fun x w' => ∃ A' c', x = .returned (.tuple #[.slice A' r.length c', .int .i64 e]) ∧ r.length ≤ c' ∧ Kd.C k33 w' A' r.length r ∧ Below w.heap.size w w' := by
  obtain ⟨k, hk⟩ := Ev.given (audit_Clashes.ev l t)
  rw [h] at hk
  refine (audit_Clashes.calls k A c l t r e w hr hc hk).mono ?_
  rintro x w' ⟨v, rfl, hR, hb⟩
  obtain ⟨A', c', rfl⟩ := Kd.R_slice hR
  exact ⟨A', c', rfl, (Kd.R_reads' hR).2.1, (Kd.R_reads' hR).2.2, hb⟩
theorem rd_clash (l : List S33) (j : Nat) (hj : j < l.length) : rd_T33 l (j : Int) = l[j] := by
  unfold rd_T33
  rw [Int.toNat_natCast, List.getD_eq_getElem?_getD, List.getElem?_eq_getElem hj]
  rfl

end Go.Proofs.Ytcapbigknimgnaa.PF
