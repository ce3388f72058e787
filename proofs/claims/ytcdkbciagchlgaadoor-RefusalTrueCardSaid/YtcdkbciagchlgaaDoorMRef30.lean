/- Orders of layer 30 without a fault, and the excesses of their liquids, in plain numbers (the program). -/
import Derived.Test.YtcdkbciagchlgaaDoorMEv
import Derived.Test.YtcdkbciagchlgaaDoorPF0
import Derived.Test.YtcdkbciagchlgaaDoorPF1
import Derived.Test.YtcdkbciagchlgaaDoorPF3
import Derived.Test.YtcdkbciagchlgaaDoorPF4
import Derived.Test.YtcdkbciagchlgaaDoorPF5
import Derived.Test.YtcdkbciagchlgaaDoorPF6
namespace Go.Proofs.YtcdkbciagchlgaaDoor.PF
open Go.RowKit Go.Proofs.YtcdkbciagchlgaaDoorW.PrintWords Go.Proofs.YtcdkbciagchlgaaDoorW.PrintLast Go.Proofs.YtcdkbciagchlgaaDoorW.PrintMore
set_option linter.unusedVariables false
set_option linter.unusedSimpArgs false
def tab (n : Nat) (g : Nat → Int) : List Int := (List.range n).map g
theorem tab_len (n : Nat) (g : Nat → Int) : (tab n g).length = n := by simp [tab]
theorem tab_succ (n : Nat) (g : Nat → Int) : tab (n + 1) g = tab n g ++ [g n] := by simp [tab, List.range_succ]
theorem tab_rd {n : Nat} {g : Nat → Int} {i : Nat} (h : i < n) : rd (tab n g) (i : Int) = g i := by
  unfold rd tab
  rw [Int.toNat_natCast]
  simp [List.getD_eq_getElem?_getD, h]
theorem inc30 {i n : Nat} (h : i < n) (hn : n ≤ 1000000) : wrap64 ((i : Int) + 1) = ((i + 1 : Nat) : Int) := by rw [w64_ (by omega) (by omega)]; rfl
structure OrdOK (l : List S82) (L : List S45) (U C : List Int) (lo hi al : Int) : Prop where
  right : RightT l
  n0 : 0 < L.length
  n4 : L.length ≤ 4
  lu : U.length = L.length
  lc : C.length = L.length
  liq : ∀ j : Nat, j < L.length → LiqOK l (rd_T45 L (j : Int)).f0 (rd_T45 L (j : Int)).f1 ∧ 1 ≤ (rd_T45 L (j : Int)).f1 ∧ (rd_T45 L (j : Int)).f1 ≤ 1000000000
  us : ∀ j : Nat, j < L.length → 0 ≤ rd U (j : Int) ∧ rd U (j : Int) ≤ 64
  cs : ∀ j : Nat, j < L.length → 0 ≤ rd C (j : Int) ∧ rd C (j : Int) ≤ 1000000
  lo0 : 0 ≤ lo
  lh : lo ≤ hi
  h1 : hi ≤ 10000
  al1 : 1 ≤ al
  al2 : al ≤ 256
  pl : prodU U ≤ 4096
def bchk (l : List S82) (L : List S45) (U C : List Int) (lo hi al : Int) : Int := if (dchk l).2 = 0 then faultO l L U C lo hi al else 1
theorem bchk_plain (l : List S82) (L : List S45) (U C : List Int) (lo hi al : Int) : blend_Check.f l L U C lo hi al = some (bchk l L U C lo hi al) := by
  unfold blend_Check.f bchk density_Check_s.f blend_fault.f
  rw [Option.bind_some]
  split <;> rfl
theorem idx_no {q : Nat → Bool} {n : Nat} : ¬ 0 ≤ idxP q n 0 ↔ ∀ j, j < n → q j = false := by
  rw [idxP_any]
  constructor
  · intro h j hj
    cases e : q j
    · rfl
    · exact absurd ⟨j, Nat.zero_le _, by omega, e⟩ h
  · rintro h ⟨j, -, h2, h3⟩
    rw [h j (by omega)] at h3
    cases h3
theorem outB_no {M n : Int} : outB M n = false ↔ 0 ≤ n ∧ n ≤ M := by
  unfold outB
  rw [decide_eq_false_iff_not]
  omega
theorem strB_no {l : List S82} {a m : Int} : strB l a m = false ↔ LiqOK l a m ∧ 1 ≤ m ∧ m ≤ 1000000000 := by
  unfold strB
  rw [decide_eq_false_iff_not, ← lchk_iff]
  omega
theorem bchk_iff (l : List S82) (L : List S45) (U C : List Int) (lo hi al : Int) : bchk l L U C lo hi al = 0 ↔ OrdOK l L U C lo hi al := by
  unfold bchk faultO
  constructor
  · intro h
    by_cases hr : (dchk l).2 = 0
    case neg => rw [if_neg hr] at h; exact absurd h (by decide)
    rw [if_pos hr] at h
    by_cases c1 : L.length = 0
    case pos => rw [if_pos c1] at h; exact absurd h (by decide)
    rw [if_neg c1] at h
    by_cases c2 : 4 < L.length
    case pos => rw [if_pos c2] at h; exact absurd h (by decide)
    rw [if_neg c2] at h
    by_cases c3 : U.length ≠ L.length ∨ C.length ≠ L.length
    case pos => rw [if_pos c3] at h; exact absurd h (by decide)
    rw [if_neg c3] at h
    by_cases c4 : 0 ≤ idxP (fun j => strB l (rd_T45 L (j : Int)).f0 (rd_T45 L (j : Int)).f1) L.length 0
    case pos => rw [if_pos c4] at h; exact absurd h (by decide)
    rw [if_neg c4] at h
    by_cases c5 : 0 ≤ idxP (fun j => outB 64 (rd U (j : Int))) U.length 0 ∨ 0 ≤ idxP (fun j => outB 1000000 (rd C (j : Int))) C.length 0
    case pos => rw [if_pos c5] at h; exact absurd h (by decide)
    rw [if_neg c5] at h
    by_cases c6 : 0 ≤ idxP (fun j => outB 10000 (rd [lo, hi] (j : Int))) 2 0 ∨ lo > hi ∨ al < 1 ∨ al > 256
    case pos => rw [if_pos c6] at h; exact absurd h (by decide)
    rw [if_neg c6] at h
    by_cases c7 : prodU U > 4096
    case pos => rw [if_pos c7] at h; exact absurd h (by decide)
    have e3 : U.length = L.length ∧ C.length = L.length := by omega
    rw [not_or] at c5 c6
    have d6 := idx_no.1 c6.1
    have l0 : outB 10000 lo = false := d6 0 (by decide)
    have l1 : outB 10000 hi = false := d6 1 (by decide)
    rw [outB_no] at l0 l1
    refine ⟨(right_iff l).1 hr, by omega, by omega, e3.1, e3.2, fun j hj => ?_, fun j hj => ?_, fun j hj => ?_, l0.1, by omega, l1.2, by omega, by omega, by omega⟩
    · exact strB_no.1 (idx_no.1 c4 j hj)
    · exact outB_no.1 (idx_no.1 c5.1 j (by omega))
    · exact outB_no.1 (idx_no.1 c5.2 j (by omega))
  · intro h
    have e1 := h.n0; have e2 := h.n4; have e3 := h.lu; have e4 := h.lc; have e5 := h.lh; have e6 := h.h1; have e7 := h.al1; have e8 := h.al2; have e9 := h.pl; have e0 := h.lo0
    have f4 : ¬ 0 ≤ idxP (fun j => strB l (rd_T45 L (j : Int)).f0 (rd_T45 L (j : Int)).f1) L.length 0 := idx_no.2 (fun j hj => strB_no.2 (h.liq j hj))
    have f5 : ¬ 0 ≤ idxP (fun j => outB 64 (rd U (j : Int))) U.length 0 := idx_no.2 (fun j hj => outB_no.2 (h.us j (by omega)))
    have f6 : ¬ 0 ≤ idxP (fun j => outB 1000000 (rd C (j : Int))) C.length 0 := idx_no.2 (fun j hj => outB_no.2 (h.cs j (by omega)))
    have f7 : ¬ 0 ≤ idxP (fun j => outB 10000 (rd [lo, hi] (j : Int))) 2 0 := idx_no.2 (fun j hj => by
      rcases (show j = 0 ∨ j = 1 by omega) with rfl | rfl
      · exact outB_no.2 ⟨e0, by show lo ≤ 10000; omega⟩
      · exact outB_no.2 ⟨by show 0 ≤ hi; omega, e6⟩)
    rw [if_pos ((right_iff l).2 h.right), if_neg (by omega), if_neg (by omega), if_neg (by omega), if_neg f4, if_neg (by rw [not_or]; exact ⟨f5, f6⟩), if_neg (by rw [not_or]; exact ⟨f7, by omega⟩), if_neg (by omega)]
def ovr (s d : Int) (L : List S45) (j : Nat) : Int := (rd_T45 L (j : Int)).f0 * d - (rd_T45 L (j : Int)).f1 * s
def overS (l : List S82) (L : List S45) (s : Int) : List Int := tab L.length (ovr s (dens l s) L)
theorem overS_len (l : List S82) (L : List S45) (s : Int) : (overS l L s).length = L.length := tab_len _ _
theorem LiqOK.ovr_rng {l : List S82} {a m : Int} (h : LiqOK l a m) (hm : m ≤ 1000000000) {s : Int} (h0 : 0 ≤ s) (h1 : s ≤ 10000) :
    -10000000000000 ≤ a * dens l s - m * s ∧ a * dens l s - m * s ≤ 1288490188800000000 ∧ wrap64 (wrap64 (a * dens l s) - wrap64 (m * s)) = a * dens l s - m * s := by
  have hd := h.right.dens_rng h0 h1
  have a0 := h.a0; have a1 := h.a1; have m0 := h.m0
  have p1 : 0 ≤ a * dens l s := Int.mul_nonneg a0 (by omega)
  have p2 : a * dens l s ≤ 10737418240000 * 120000 := Int.mul_le_mul a1 hd.2 (by omega) (by omega)
  have p3 : 0 ≤ m * s := Int.mul_nonneg m0 h0
  have p4 : m * s ≤ 1000000000 * 10000 := Int.mul_le_mul hm h1 h0 (by omega)
  rw [w64_ (x := a * dens l s) (by omega) (by omega), w64_ (x := m * s) (by omega) (by omega)]
  exact ⟨by omega, by omega, w64_ (by omega) (by omega)⟩
section
variable {l : List S82} {L : List S45} {U C : List Int} {lo hi al : Int}
theorem OrdOK.ovr_rng (h : OrdOK l L U C lo hi al) {s : Int} (h0 : 0 ≤ s) (h1 : s ≤ 10000) {j : Nat} (hj : j < L.length) : -2000000000000000000 ≤ ovr s (dens l s) L j ∧ ovr s (dens l s) L j ≤ 2000000000000000000 := by
  have := (h.liq j hj).1.ovr_rng (h.liq j hj).2.2 h0 h1
  unfold ovr
  omega
theorem OrdOK.overS_rng (h : OrdOK l L U C lo hi al) {s : Int} (h0 : 0 ≤ s) (h1 : s ≤ 10000) {j : Nat} (hj : j < L.length) : -2000000000000000000 ≤ rd (overS l L s) (j : Int) ∧ rd (overS l L s) (j : Int) ≤ 2000000000000000000 := by
  unfold overS
  rw [tab_rd hj]
  exact h.ovr_rng h0 h1 hj
theorem over_l0 (h : OrdOK l L U C lo hi al) {s : Int} (h0 : 0 ≤ s) (h1 : s ≤ 10000) : ∀ (m i : Nat), i + m = L.length → Ev (fun k => refusal_over.l0 k s (dens l s) (tab i (ovr s (dens l s) L)) L (L.length : Int) (i : Int)) (overS l L s)
  | 0, i, hi_ => Ev.ret (fun k => by
    simp only [refusal_over.l0]
    rw [if_neg (by omega)]
    obtain rfl : i = L.length := by omega
    rfl)
  | m + 1, i, hi_ => Ev.step (fun k => by
    have hn := h.n4
    have hw := ((h.liq i (by omega)).1.ovr_rng (h.liq i (by omega)).2.2 h0 h1).2.2
    simp only [refusal_over.l0]
    rw [if_pos (by omega), if_pos (by omega), if_pos (by omega), if_pos (by rw [tab_len]; omega), hw, inc30 (n := L.length) (by omega) (by omega)]
    show refusal_over.l0 k s (dens l s) (tab i (ovr s (dens l s) L) ++ [ovr s (dens l s) L i]) L _ _ = _
    rw [← tab_succ]) (over_l0 h h0 h1 m (i + 1) (by omega))
theorem over_ev (h : OrdOK l L U C lo hi al) {s : Int} (h0 : 0 ≤ s) (h1 : s ≤ 10000) (a : List Int) (b : List Int) (c d e : Int) : Ev (fun k => refusal_over.f k l L a b c d e s) (overS l L s) := by
  refine Ev.same (fun k => ?_) (over_l0 h h0 h1 L.length 0 (by omega))
  unfold refusal_over.f interpolate_Density.f interpolate_right.f density_Check_s.f
  rw [Option.bind_some, Option.bind_some, (right_iff l).2 h.right, if_pos (show ((0 : Int) == 0) = true from rfl), if_neg (by omega), if_neg (by omega), h.right.at h0 h1]
  rfl
def exLow (l : List S82) (L : List S45) (lo : Int) : List Int := overS l L lo
def exHigh (l : List S82) (L : List S45) (hi : Int) : List Int := if hi = 10000 then [] else overS l L (hi + 1)
theorem exHigh_len (l : List S82) (L : List S45) (hi : Int) : (exHigh l L hi).length = if hi = 10000 then 0 else L.length := by
  unfold exHigh
  split
  · rfl
  · exact overS_len _ _ _
theorem OrdOK.low_rng (h : OrdOK l L U C lo hi al) {j : Nat} (hj : j < L.length) : -2000000000000000000 ≤ rd (exLow l L lo) (j : Int) ∧ rd (exLow l L lo) (j : Int) ≤ 2000000000000000000 := h.overS_rng h.lo0 (by have := h.lh; have := h.h1; omega) hj
theorem OrdOK.high_rng (h : OrdOK l L U C lo hi al) {j : Nat} (hj : j < L.length) : -2000000000000000000 ≤ rd (exHigh l L hi) (j : Int) ∧ rd (exHigh l L hi) (j : Int) ≤ 2000000000000000000 := by
  unfold exHigh
  split
  · have e : rd [] (j : Int) = 0 := by unfold rd; simp
    rw [e]; exact ⟨by decide, by decide⟩
  · exact h.overS_rng (by have := h.lh; have := h.lo0; omega) (by have := h.h1; omega) hj
theorem excess_ev (h : OrdOK l L U C lo hi al) : Ev (fun k => refusal_excess.f k l L U C lo hi al) (exLow l L lo, exHigh l L hi) := by
  have h1 := h.h1; have h2 := h.lh; have h3 := h.lo0
  unfold exHigh exLow
  by_cases c : hi = 10000
  · simp only [refusal_excess.f, if_pos c]
    exact Ev.bind (over_ev h h3 (by omega) U C lo hi al) (Ev.now fun _ => rfl)
  · simp only [refusal_excess.f, if_neg c]
    rw [w64_ (x := hi + 1) (by omega) (by omega)]
    exact Ev.bind (over_ev h h3 (by omega) U C lo hi al) (Ev.bind (over_ev h (by omega) (by omega) U C lo hi al) (Ev.now fun _ => rfl))
theorem Excess_ev (h : OrdOK l L U C lo hi al) : Ev (fun k => refusal_Excess.f k l L U C lo hi al) (exLow l L lo, exHigh l L hi, 0) := by
  unfold refusal_Excess.f
  simp only [bchk_plain, (bchk_iff l L U C lo hi al).2 h, Option.bind_some, if_true]
  exact Ev.bind (excess_ev h) (Ev.now fun _ => rfl)
theorem Excess_no (h : ¬ OrdOK l L U C lo hi al) (k : Nat) : refusal_Excess.f k l L U C lo hi al = some ([], [], 1) := by
  unfold refusal_Excess.f
  rw [bchk_plain, Option.bind_some, if_neg (fun e => h ((bchk_iff l L U C lo hi al).1 e))]
end
end Go.Proofs.YtcdkbciagchlgaaDoor.PF
