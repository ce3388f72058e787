/- Blends of units: their sums, their strength and the sums of their excesses, in plain numbers. -/
import Derived.Test.YtcdkbciagchlgaaDoorMEv
import Derived.Test.YtcdkbciagchlgaaDoorMRef30
import Derived.Test.YtcdkbciagchlgaaDoorMRef30b
import Derived.Test.YtcdkbciagchlgaaDoorPF0
import Derived.Test.YtcdkbciagchlgaaDoorPF1
import Derived.Test.YtcdkbciagchlgaaDoorPF20
import Derived.Test.YtcdkbciagchlgaaDoorPF3
import Derived.Test.YtcdkbciagchlgaaDoorPF4
import Derived.Test.YtcdkbciagchlgaaDoorPF5
namespace Go.Proofs.YtcdkbciagchlgaaDoor.PF
open Go.RowKit Go.Proofs.YtcdkbciagchlgaaDoorW.PrintWords Go.Proofs.YtcdkbciagchlgaaDoorW.PrintLast Go.Proofs.YtcdkbciagchlgaaDoorW.PrintMore
set_option linter.unusedVariables false
set_option linter.unusedSimpArgs false
def mixA (L : List S45) (u : List Int) : Nat → Int
  | 0 => 0
  | i + 1 => mixA L u i + rd u (i : Int) * (rd_T45 L (i : Int)).f0
def mixM (L : List S45) (u : List Int) : Nat → Int
  | 0 => 0
  | i + 1 => mixM L u i + rd u (i : Int) * (rd_T45 L (i : Int)).f1
section
variable {l : List S82} {L : List S45} {V C u : List Int} {lo hi al : Int}
structure UOK (l : List S82) (L : List S45) (u : List Int) : Prop where
  n : L.length ≤ 4
  u : ∀ j : Nat, j < L.length → 0 ≤ rd u (j : Int) ∧ rd u (j : Int) ≤ 64
  q : ∀ j : Nat, j < L.length → LiqOK l (rd_T45 L (j : Int)).f0 (rd_T45 L (j : Int)).f1 ∧ 1 ≤ (rd_T45 L (j : Int)).f1 ∧ (rd_T45 L (j : Int)).f1 ≤ 1000000000
theorem UOK.sums (h : UOK l L u) : ∀ i : Nat, i ≤ L.length → mixW L u i = (mixA L u i, mixM L u i) ∧ (0 ≤ mixA L u i ∧ mixA L u i ≤ 687194767360000 * i) ∧ (0 ≤ mixM L u i ∧ mixM L u i ≤ 64000000000 * i)
  | 0, _ => ⟨rfl, ⟨Int.le_refl _, by show (0 : Int) ≤ 687194767360000 * ((0 : Nat) : Int); omega⟩, Int.le_refl _, by show (0 : Int) ≤ 64000000000 * ((0 : Nat) : Int); omega⟩
  | i + 1, hi => by
    obtain ⟨e, ⟨a1, a2⟩, b1, b2⟩ := h.sums i (by omega)
    have n4 := h.n
    obtain ⟨u0, u1⟩ := h.u i (by omega)
    obtain ⟨hq, q1, q2⟩ := h.q i (by omega)
    have qa := hq.a0; have qb := hq.a1
    have p1 : 0 ≤ rd u (i : Int) * (rd_T45 L (i : Int)).f0 := Int.mul_nonneg u0 qa
    have p2 : rd u (i : Int) * (rd_T45 L (i : Int)).f0 ≤ 64 * 10737418240000 := Int.mul_le_mul u1 qb qa (by decide)
    have p3 : 0 ≤ rd u (i : Int) * (rd_T45 L (i : Int)).f1 := Int.mul_nonneg u0 (by omega)
    have p4 : rd u (i : Int) * (rd_T45 L (i : Int)).f1 ≤ 64 * 1000000000 := Int.mul_le_mul u1 q2 (by omega) (by decide)
    show (wrap64 ((mixW L u i).1 + wrap64 (rd u (i : Int) * (rd_T45 L (i : Int)).f0)), wrap64 ((mixW L u i).2 + wrap64 (rd u (i : Int) * (rd_T45 L (i : Int)).f1))) = (mixA L u i + rd u (i : Int) * (rd_T45 L (i : Int)).f0, mixM L u i + rd u (i : Int) * (rd_T45 L (i : Int)).f1) ∧
      (0 ≤ mixA L u i + rd u (i : Int) * (rd_T45 L (i : Int)).f0 ∧ mixA L u i + rd u (i : Int) * (rd_T45 L (i : Int)).f0 ≤ 687194767360000 * ((i + 1 : Nat) : Int)) ∧ (0 ≤ mixM L u i + rd u (i : Int) * (rd_T45 L (i : Int)).f1 ∧ mixM L u i + rd u (i : Int) * (rd_T45 L (i : Int)).f1 ≤ 64000000000 * ((i + 1 : Nat) : Int))
    rw [e]
    simp only
    rw [w64_ (x := rd u (i : Int) * (rd_T45 L (i : Int)).f0) (by omega) (by omega), w64_ (x := rd u (i : Int) * (rd_T45 L (i : Int)).f1) (by omega) (by omega), w64_ (x := mixA L u i + _) (by omega) (by omega), w64_ (x := mixM L u i + _) (by omega) (by omega)]
    exact ⟨rfl, by omega, by omega⟩
theorem dot_over (s d : Int) : ∀ i : Nat, i ≤ L.length → dotS u (tab L.length (ovr s d L)) i = mixA L u i * d - mixM L u i * s
  | 0, _ => by show (0 : Int) = 0 * d - 0 * s; rw [Int.zero_mul, Int.zero_mul]; rfl
  | i + 1, hi => by
    show dotS u (tab L.length (ovr s d L)) i + rd u (i : Int) * rd (tab L.length (ovr s d L)) (i : Int) = (mixA L u i + rd u (i : Int) * (rd_T45 L (i : Int)).f0) * d - (mixM L u i + rd u (i : Int) * (rd_T45 L (i : Int)).f1) * s
    rw [dot_over s d i (by omega), tab_rd (by omega)]
    unfold ovr
    rw [Int.mul_sub, Int.add_mul, Int.add_mul, Int.mul_assoc, Int.mul_assoc]
    omega
theorem UOK.fit (h : UOK l L u) (hr : RightT l) : ∀ i : Nat, i ≤ L.length → mixA L u i * dens l 10000 ≤ mixM L u i * 10000
  | 0, _ => by show (0 : Int) * _ ≤ 0 * 10000; rw [Int.zero_mul]; decide
  | i + 1, hi => by
    have ih := h.fit hr i (by omega)
    obtain ⟨hq, -, -⟩ := h.q i (by omega)
    have p := Int.mul_le_mul_of_nonneg_left hq.fit (h.u i (by omega)).1
    show (mixA L u i + rd u (i : Int) * (rd_T45 L (i : Int)).f0) * dens l 10000 ≤ (mixM L u i + rd u (i : Int) * (rd_T45 L (i : Int)).f1) * 10000
    rw [Int.add_mul, Int.add_mul, Int.mul_assoc, Int.mul_assoc]
    omega
theorem UOK.liq (h : UOK l L u) (hr : RightT l) (hp : plainB (mixA L u L.length) (mixM L u L.length) = true) : LiqOK l (mixA L u L.length) (mixM L u L.length) := by
  have h1 := of_decide_eq_true hp
  exact ⟨hr, h1.1, h1.2.1, h1.2.2.1, h1.2.2.2.1, h.fit hr L.length (Nat.le_refl _)⟩
theorem OrdOK.uok (h : OrdOK l L V C lo hi al) (hu : ∀ j : Nat, j < L.length → 0 ≤ rd u (j : Int) ∧ rd u (j : Int) ≤ 64) : UOK l L u := ⟨h.n4, hu, h.liq⟩
end
end Go.Proofs.YtcdkbciagchlgaaDoor.PF
