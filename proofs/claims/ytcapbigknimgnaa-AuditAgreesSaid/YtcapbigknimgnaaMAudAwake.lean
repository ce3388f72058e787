/- The chapter's example of package audit comes out as it is told; equal rows are equal. -/
import Derived.Test.YtcapbigknimgnaaMAud
import Derived.Test.YtcapbigknimgnaaMAud2
import Derived.Test.YtcapbigknimgnaaMEv
import Derived.Test.YtcapbigknimgnaaPF0
import Derived.Test.YtcapbigknimgnaaPF1
import Derived.Test.YtcapbigknimgnaaPF10
import Derived.Test.YtcapbigknimgnaaPF11
import Derived.Test.YtcapbigknimgnaaPF6
namespace Go.Proofs.Ytcapbigknimgnaa.PF
open Go.RowKit Go.Proofs.YtcapbigknimgnaaW.PrintWords Go.Proofs.YtcapbigknimgnaaW.PrintLast Go.Proofs.YtcapbigknimgnaaW.PrintMore
set_option linter.unusedVariables false
set_option linter.unusedSimpArgs false
set_option maxRecDepth 1000000 in
theorem awake17k : spilelaw17_awake.f 60 = some true := by kernel_rfl
theorem awake17 : Ev (fun k => spilelaw17_awake.f k) true := by
  refine ⟨60, fun k hk => ?_⟩
  obtain ⟨d, rfl⟩ : ∃ d, k = 60 + d := ⟨k - 60, by omega⟩
  induction d with
  | zero => exact awake17k
  | succ d ih => exact spilelaw17_awake.mono (60 + d) true (ih (by omega))
theorem few_some (l : List S44) : ∃ b, spileref16_Few.f l = some b := by
  unfold spileref16_Few.f
  split
  · exact ⟨_, rfl⟩
  · split <;> exact ⟨_, rfl⟩
theorem Ev.given {α : Type} {F : Nat → Option α} {r : α} (h : Ev F r) : ∃ k, F k = some r := by
  obtain ⟨N, hN⟩ := h
  exact ⟨N, hN N (Nat.le_refl _)⟩
theorem api_Clash_18.same (x : List S33) (hx : x.length ≤ 20000) : Ev (fun k => api_Clash_18.f k x x) true := by
  have key : ∀ d i : Nat, i + d = x.length → Ev (fun k => api_Clash_18.l0 k x x (x.length : Int) (i : Int)) true := by
    intro d
    induction d with
    | zero =>
      intro i hi
      refine Ev.ret (fun k => ?_)
      simp only [api_Clash_18.l0]
      rw [if_neg (by omega)]
    | succ d ih =>
      intro i hi
      refine Ev.step (fun k => ?_) (ih (i + 1) (by omega))
      simp only [api_Clash_18.l0]
      rw [if_pos (by omega), if_pos (by omega), if_pos (by omega), if_pos (by omega), if_neg (by simp), w64_ (by omega) (by omega)]
      rfl
  unfold api_Clash_18.f
  exact Ev.same (fun k => by rw [if_pos rfl]; rfl) (key x.length 0 (by omega))
theorem clF_length (l : List S44) (t : Int) (ps : List (Nat × Nat)) : ∀ acc, (ps.foldl (clF l t) acc).length ≤ acc.length + ps.length := by
  induction ps with
  | nil => intro acc; simp
  | cons p ps ih =>
    intro acc
    rw [List.foldl_cons, List.length_cons]
    have h1 := ih (clF l t acc p)
    have h2 : (clF l t acc p).length ≤ acc.length + 1 := by
      unfold clF
      split
      · rw [List.length_append, List.length_singleton]; omega
      · omega
    omega
theorem clS_length (l : List S44) (t : Int) : (clS l t).1.length ≤ 20000 := by
  unfold clS
  by_cases hr : (rchk l).2 = 0
  · have hn := RightR.hi ((rchk_iff l).1 hr)
    rw [if_neg (not_not_intro hr)]
    split
    · simp
    · have h1 := clF_length l t (allP l.length 0) []
      have h2 := allP_length l.length l.length 0 (by omega)
      have h3 := Nat.mul_le_mul hn hn
      simp only [List.length_nil] at h1
      simp only
      omega
  · rw [if_pos hr]
    simp

end Go.Proofs.Ytcapbigknimgnaa.PF
