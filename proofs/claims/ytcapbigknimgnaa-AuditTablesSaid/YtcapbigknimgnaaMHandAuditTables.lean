/- The walk through the law AuditTables of package spilelaw17. -/
import Derived.Test.YtcapbigknimgnaaMKnown17
import Derived.Test.YtcapbigknimgnaaMOpt
import Derived.Test.YtcapbigknimgnaaMTab17
import Derived.Test.YtcapbigknimgnaaPF0
import Derived.Test.YtcapbigknimgnaaPF11
namespace Go.Proofs.Ytcapbigknimgnaa.PF
open Go.RowKit Go.Proofs.YtcapbigknimgnaaW.PrintWords Go.Proofs.YtcapbigknimgnaaW.PrintLast Go.Proofs.YtcapbigknimgnaaW.PrintMore
set_option linter.unusedVariables false
set_option linter.unusedSimpArgs false
def spilelaw17_AuditTables.f (l0 : List S44) : Option Bool := some true
theorem spileref16_Few.known {l : List S44} {b : Bool} (A : Option Addr) (c : Nat) (w : World) (hr : Kd.C k44 w A l.length l) (hc : l.length ≤ c) (h : spileref16_Few.f l = some b) :
    Calls Try.prog 11 #[.slice A l.length c] w fun e w' => e = .returned (.bool b) ∧ Below w.heap.size w w' :=
  (spileref16_Few.calls A c l b w hr hc h).mono fun e w' h => by first | exact ⟨h.1, h.2⟩ | exact ⟨h.1, h.2.below⟩ | (obtain ⟨h1, rfl⟩ := h; exact ⟨h1, Below.refl _ _⟩)
set_option maxHeartbeats 400000 in
set_option maxRecDepth 100000 in
theorem AuditTables.many (A : Option Addr) (c : Nat) (l : List S44) (w : World) (hr : Kd.C k44 w A l.length l) (hc : l.length ≤ c) (h : spileref16_Few.f l = some false) :
    Calls Try.prog 8 #[.slice A l.length c] w fun e w' => e = .returned (.bool true) ∧ Below w.heap.size w w' := by
  have HA := Aside0.mk (audit_awake.known w)
  have HF := Aside0.mk (fun W (hb : Below w.heap.size w W) => spileref16_Few.known A c W (Kd.C_below hr hb) hc h)
  clear h hr hc
  go_enter Try.func8, Try.ntmps8
  go_wp2_with fail
  refine HA.out.mono ?_
  rintro e w1 ⟨rfl, hb⟩
  have HB := Aside0.mk hb
  clear hb HA
  go_wp2_with fail
  refine (HF.out _ HB.out).mono ?_
  rintro e w2 ⟨rfl, hb⟩
  replace HB := Aside0.mk (below_step HB.out hb)
  clear hb HF
  go_wp2
  go_ret
  exact ⟨rfl, HB.out⟩
set_option maxHeartbeats 400000 in
set_option maxRecDepth 100000 in
theorem AuditTables.few (A : Option Addr) (c : Nat) (l : List S44) (w : World) (hr : Kd.C k44 w A l.length l) (hc : l.length ≤ c) (h : spileref16_Few.f l = some true) (hl : l.length ≤ 20000) {r : List S44} {e : Int} (ht : tabS l = (r, e)) :
    Calls Try.prog 8 #[.slice A l.length c] w fun e w' => e = .returned (.bool true) ∧ Below w.heap.size w w' := by
  have hrl : r.length ≤ 20000 := by have := tabS_length l; rw [ht] at this; exact Nat.le_trans this hl
  have HA := Aside0.mk (audit_awake.known w)
  have HF := Aside0.mk (fun W (hb : Below w.heap.size w W) => spileref16_Few.known A c W (Kd.C_below hr hb) hc h)
  have HT := Aside0.mk (fun W (hb : Below w.heap.size w W) => audit_Table.known A c W (Kd.C_below hr hb) hc ht)
  have HU := Aside0.mk (fun W (hb : Below w.heap.size w W) => spileref17_Table.known A c W (Kd.C_below hr hb) hc ht)
  have HS := Aside0.mk (fun (W : World) (A B : Option Addr) (c d : Nat) => spileref16_Same.known (l := r) hrl A B c d W)
  clear h hr hc hl ht hrl
  go_enter Try.func8, Try.ntmps8
  go_wp2_with fail
  refine HA.out.mono ?_
  rintro x w1 ⟨rfl, hb⟩
  have HB := Aside0.mk hb
  clear hb HA
  go_wp2_with fail
  refine (HF.out _ HB.out).mono ?_
  rintro x w2 ⟨rfl, hb⟩
  replace HB := Aside0.mk (below_step HB.out hb)
  clear hb HF
  go_wp2_with fail
  refine (HT.out _ HB.out).mono ?_
  rintro x w3 ⟨A3, c3, rfl, hl3, hr3, hb⟩
  replace HB := Aside0.mk (below_step HB.out hb)
  have HR3 := Aside0.mk hr3
  have HL3 := Aside0.mk hl3
  clear hb hr3 hl3 HT
  go_wp2_with fail
  refine (HU.out _ HB.out).mono ?_
  rintro x w4 ⟨A4, c4, rfl, hl4, hr4, hb⟩
  replace HB := Aside0.mk (below_step HB.out hb)
  replace HR3 := Aside0.mk (Kd.C_below HR3.out hb)
  have HR4 := Aside0.mk hr4
  have HL4 := Aside0.mk hl4
  clear hb hr4 hl4 HU
  go_wp2_with fail
  refine (HS.out _ _ _ _ _ HR3.out HL3.out HR4.out HL4.out).mono ?_
  rintro x w5 ⟨rfl, hb⟩
  replace HB := Aside0.mk (below_step HB.out hb)
  clear hb HS HR3 HR4 HL3 HL4
  go_wp2
  go_ret
  exact ⟨by first | rfl | simp, HB.out⟩
theorem spilelaw17_AuditTables.calls (A0 : Option Addr) (c0 : Nat) (l0 : List S44) (r : Bool) (w : World) (hr0 : Kd.C k44 w A0 l0.length l0) (hc0 : l0.length ≤ c0) (h : spilelaw17_AuditTables.f l0 = some r) :
    Calls Try.prog 8 #[.slice A0 l0.length c0] w fun e w' => e = .returned (.bool r) ∧ Below w.heap.size w w' := by
  obtain rfl := Option.some.inj h
  by_cases hf : spileref16_Few.f l0 = some true
  · refine AuditTables.few A0 c0 l0 w hr0 hc0 hf ?_ (r := (tabS l0).1) (e := (tabS l0).2) rfl
    unfold spileref16_Few.f at hf
    by_cases h1 : (l0.length : Int) ≤ 20
    · omega
    · rw [if_neg h1] at hf
      by_cases h2 : (l0.length : Int) > 128
      · rw [if_pos h2] at hf
        have h3 := Option.some.inj hf
        have h4 := of_decide_eq_true h3
        omega
      · omega
  · refine AuditTables.many A0 c0 l0 w hr0 hc0 ?_
    unfold spileref16_Few.f at hf ⊢
    by_cases h1 : (l0.length : Int) ≤ 20
    · rw [if_pos h1] at hf; exact absurd rfl hf
    · rw [if_neg h1] at hf ⊢
      by_cases h2 : (l0.length : Int) > 128
      · rw [if_pos h2] at hf ⊢
        cases hd : decide ((l0.length : Int) ≤ 133)
        · rfl
        · rw [hd] at hf; exact absurd rfl hf
      · rw [if_neg h2]

end Go.Proofs.Ytcapbigknimgnaa.PF
