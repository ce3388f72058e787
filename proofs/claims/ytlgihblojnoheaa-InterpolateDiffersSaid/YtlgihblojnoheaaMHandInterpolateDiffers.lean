/- The walk through the law InterpolateDiffers of package spilelaw18. -/
import Derived.Test.YtlgihblojnoheaaMDif18c
import Derived.Test.YtlgihblojnoheaaPF0
import Derived.Test.YtlgihblojnoheaaPF8
namespace Go.Proofs.Ytlgihblojnoheaa.PF
open Go.RowKit Go.Proofs.YtlgihblojnoheaaW.PrintWords Go.Proofs.YtlgihblojnoheaaW.PrintLast Go.Proofs.YtlgihblojnoheaaW.PrintMore
set_option linter.unusedVariables false
set_option linter.unusedSimpArgs false
def spilelaw18_InterpolateDiffers.f (l0 l1 : List S34) (a2 : Int) : Option Bool := some true
theorem InterpolateDiffers.few (l : List S34) : ∃ b, spileref16_Few.f l = some b := by
  unfold spileref16_Few.f
  split
  · exact ⟨_, rfl⟩
  · split <;> exact ⟨_, rfl⟩
theorem InterpolateDiffers.few18 (l : List S34) (b : Bool) (A : Option Addr) (c : Nat) (w : World) (hr : Kd.C k34 w A l.length l) (hc : l.length ≤ c) (h : spileref16_Few.f l = some b) :
    Calls Try.prog 10 #[.slice A l.length c] w fun e w' => e = .returned (.bool b) ∧ Below w.heap.size w w' := by
  refine (spileref16_Few.calls A c l b w hr hc h).mono ?_
  rintro e w' ⟨rfl, hd⟩
  exact ⟨rfl, hd.below⟩
set_option maxHeartbeats 1000000 in
set_option maxRecDepth 100000 in
theorem InterpolateDiffers.walk (A1 A2 : Option Addr) (c1 c2 : Nat) (t u : List S34) (n : Int) (w : World) (h1 : Kd.C k34 w A1 t.length t) (hc1 : t.length ≤ c1) (h2 : Kd.C k34 w A2 u.length u) (hc2 : u.length ≤ c2) (b1 b2 : Bool) (hb1 : spileref16_Few.f t = some b1) (hb2 : spileref16_Few.f u = some b2) (r1 r2 r3 : Int) (hr : difR t u n = (r1, r2, r3)) :
    Calls Try.prog 7 #[.slice A1 t.length c1, .slice A2 u.length c2, .int .i64 n] w fun e w' => e = .returned (.bool true) ∧ Below w.heap.size w w' := by
  have HA := Aside0.mk (spilelaw18_awake.calls true w rfl)
  have HF1 := Aside0.mk (fun W (hb : Below w.heap.size w W) => InterpolateDiffers.few18 t b1 A1 c1 W (Kd.C_below h1 hb) hc1 hb1)
  have HF2 := Aside0.mk (fun W (hb : Below w.heap.size w W) => InterpolateDiffers.few18 u b2 A2 c2 W (Kd.C_below h2 hb) hc2 hb2)
  have HD := Aside0.mk (fun W (hb : Below w.heap.size w W) => differ.known A1 A2 c1 c2 W (Kd.C_below h1 hb) hc1 (Kd.C_below h2 hb) hc2 hr)
  have HU := Aside0.mk (fun W (hb : Below w.heap.size w W) => spileref18_Differ.known A1 A2 c1 c2 W (Kd.C_below h1 hb) hc1 (Kd.C_below h2 hb) hc2 hr)
  clear h1 h2 hc1 hc2 hb1 hb2 hr
  go_enter Try.func7, Try.ntmps7
  go_wp2_with fail
  refine HA.out.mono ?_
  rintro x w1 ⟨rfl, hb⟩
  have HB := Aside0.mk hb
  clear hb HA
  cases b1 <;> cases b2
  all_goals
    go_wp2_with (first
      | (go_at_call 10; (first | (refine (HF1.out _ HB.out).mono ?_; clear HF1) | (refine (HF2.out _ HB.out).mono ?_; clear HF2)); rintro x w2 ⟨rfl, hb⟩; replace HB := Aside0.mk (below_step HB.out hb); clear hb)
      | (go_at_call 24; refine (HD.out _ HB.out).mono ?_; rintro x w2 ⟨rfl, hb⟩; replace HB := Aside0.mk (below_step HB.out hb); clear hb HD)
      | (go_at_call 25; refine (HU.out _ HB.out).mono ?_; rintro x w2 ⟨rfl, hb⟩; replace HB := Aside0.mk (below_step HB.out hb); clear hb HU))
    go_ret
    exact ⟨by first | rfl | simp, HB.out⟩
theorem spilelaw18_InterpolateDiffers.calls (A0 : Option Addr) (c0 : Nat) (l0 : List S34) (A1 : Option Addr) (c1 : Nat) (l1 : List S34) (a2 : Int) (r : Bool) (w : World) (hr0 : Kd.C k34 w A0 l0.length l0) (hc0 : l0.length ≤ c0) (hr1 : Kd.C k34 w A1 l1.length l1) (hc1 : l1.length ≤ c1) (h : spilelaw18_InterpolateDiffers.f l0 l1 a2 = some r) :
    Calls Try.prog 7 #[.slice A0 l0.length c0, .slice A1 l1.length c1, .int .i64 a2] w fun e w' => e = .returned (.bool r) ∧ Below w.heap.size w w' := by
  obtain rfl := Option.some.inj h
  obtain ⟨b1, hb1⟩ := InterpolateDiffers.few l0
  obtain ⟨b2, hb2⟩ := InterpolateDiffers.few l1
  exact InterpolateDiffers.walk A0 A1 c0 c1 l0 l1 a2 w hr0 hc0 hr1 hc1 b1 b2 hb1 hb2 _ _ _ rfl

end Go.Proofs.Ytlgihblojnoheaa.PF
