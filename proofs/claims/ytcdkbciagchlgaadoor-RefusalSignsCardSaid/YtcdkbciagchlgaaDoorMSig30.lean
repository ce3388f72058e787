/- Blends of units: their sums, their strength and the sums of their excesses, in plain numbers. -/
import Derived.Test.YtcdkbciagchlgaaDoorMEv
import Derived.Test.YtcdkbciagchlgaaDoorMRef30
import Derived.Test.YtcdkbciagchlgaaDoorMRef30b
import Derived.Test.YtcdkbciagchlgaaDoorPF0
import Derived.Test.YtcdkbciagchlgaaDoorPF1
import Derived.Test.YtcdkbciagchlgaaDoorPF20
import Derived.Test.YtcdkbciagchlgaaDoorPF3
import Derived.Test.YtcdkbciagchlgaaDoorPF4
import Derived.Test.YtcdkbciagchlgaaDoorPF5
namespace Go.Proofs.YtcdkbciagchlgaaDoor.PF
open Go.RowKit Go.Proofs.YtcdkbciagchlgaaDoorW.PrintWords Go.Proofs.YtcdkbciagchlgaaDoorW.PrintLast Go.Proofs.YtcdkbciagchlgaaDoorW.PrintMore
set_option linter.unusedVariables false
set_option linter.unusedSimpArgs false
def mixA (L : List S45) (u : List Int) : Nat → Int
  | 0 => 0
  | i + 1 => mixA L u i + rd u (i : Int) * (rd_T45 L (i : Int)).f0
def mixM (L : List S45) (u : List Int) : Nat → Int
  | 0 => 0
  | i + 1 => mixM L u i + rd u (i : Int) * (rd_T45 L (i : Int)).f1
theorem mul_rng2 {u y X : Int} (h0 : 0 ≤ u) (h1 : u ≤ 64) (hx : 0 ≤ X) (h2 : -X ≤ y) (h3 : y ≤ X) : -(64 * X) ≤ u * y ∧ u * y ≤ 64 * X := by
  have a1 : u * y ≤ u * X := Int.mul_le_mul_of_nonneg_left h3 h0
  have a2 : u * X ≤ 64 * X := Int.mul_le_mul_of_nonneg_right h1 hx
  have a3 : u * -X ≤ u * y := Int.mul_le_mul_of_nonneg_left h2 h0
  rw [Int.mul_neg] at a3
  omega
section
variable {l : List S82} {L : List S45} {V C u : List Int} {lo hi al : Int}
/-- Units from 0 to 64 of liquids that can be units. -/
structure UOK (l : List S82) (L : List S45) (u : List Int) : Prop where
  n : L.length ≤ 4
  u : ∀ j : Nat, j < L.length → 0 ≤ rd u (j : Int) ∧ rd u (j : Int) ≤ 64
  q : ∀ j : Nat, j < L.length → LiqOK l (rd_T45 L (j : Int)).f0 (rd_T45 L (j : Int)).f1 ∧ 1 ≤ (rd_T45 L (j : Int)).f1 ∧ (rd_T45 L (j : Int)).f1 ≤ 1000000000
theorem UOK.sums (h : UOK l L u) : ∀ i : Nat, i ≤ L.length → mixW L u i = (mixA L u i, mixM L u i) ∧ (0 ≤ mixA L u i ∧ mixA L u i ≤ 687194767360000 * i) ∧ (0 ≤ mixM L u i ∧ mixM L u i ≤ 64000000000 * i)
  | 0, _ => ⟨rfl, ⟨Int.le_refl _, by show (0 : Int) ≤ 687194767360000 * ((0 : Nat) : Int); omega⟩, Int.le_refl _, by show (0 : Int) ≤ 64000000000 * ((0 : Nat) : Int); omega⟩
  | i + 1, hi => by
    obtain ⟨e, ⟨a1, a2⟩, b1, b2⟩ := h.sums i (by omega)
    have n4 := h.n
    obtain ⟨u0, u1⟩ := h.u i (by omega)
    obtain ⟨hq, q1, q2⟩ := h.q i (by omega)
    have qa := hq.a0; have qb := hq.a1
    have p1 : 0 ≤ rd u (i : Int) * (rd_T45 L (i : Int)).f0 := Int.mul_nonneg u0 qa
    have p2 : rd u (i : Int) * (rd_T45 L (i : Int)).f0 ≤ 64 * 10737418240000 := Int.mul_le_mul u1 qb qa (by decide)
    have p3 : 0 ≤ rd u (i : Int) * (rd_T45 L (i : Int)).f1 := Int.mul_nonneg u0 (by omega)
    have p4 : rd u (i : Int) * (rd_T45 L (i : Int)).f1 ≤ 64 * 1000000000 := Int.mul_le_mul u1 q2 (by omega) (by decide)
    show (wrap64 ((mixW L u i).1 + wrap64 (rd u (i : Int) * (rd_T45 L (i : Int)).f0)), wrap64 ((mixW L u i).2 + wrap64 (rd u (i : Int) * (rd_T45 L (i : Int)).f1))) = (mixA L u i + rd u (i : Int) * (rd_T45 L (i : Int)).f0, mixM L u i + rd u (i : Int) * (rd_T45 L (i : Int)).f1) ∧
      (0 ≤ mixA L u i + rd u (i : Int) * (rd_T45 L (i : Int)).f0 ∧ mixA L u i + rd u (i : Int) * (rd_T45 L (i : Int)).f0 ≤ 687194767360000 * ((i + 1 : Nat) : Int)) ∧ (0 ≤ mixM L u i + rd u (i : Int) * (rd_T45 L (i : Int)).f1 ∧ mixM L u i + rd u (i : Int) * (rd_T45 L (i : Int)).f1 ≤ 64000000000 * ((i + 1 : Nat) : Int))
    rw [e]
    simp only
    rw [w64_ (x := rd u (i : Int) * (rd_T45 L (i : Int)).f0) (by omega) (by omega), w64_ (x := rd u (i : Int) * (rd_T45 L (i : Int)).f1) (by omega) (by omega), w64_ (x := mixA L u i + _) (by omega) (by omega), w64_ (x := mixM L u i + _) (by omega) (by omega)]
    exact ⟨rfl, by omega, by omega⟩
/-- The excesses of units sum to the excess of their blend. -/
theorem dot_over (s d : Int) : ∀ i : Nat, i ≤ L.length → dotS u (tab L.length (ovr s d L)) i = mixA L u i * d - mixM L u i * s
  | 0, _ => by show (0 : Int) = 0 * d - 0 * s; rw [Int.zero_mul, Int.zero_mul]; rfl
  | i + 1, hi => by
    show dotS u (tab L.length (ovr s d L)) i + rd u (i : Int) * rd (tab L.length (ovr s d L)) (i : Int) = (mixA L u i + rd u (i : Int) * (rd_T45 L (i : Int)).f0) * d - (mixM L u i + rd u (i : Int) * (rd_T45 L (i : Int)).f1) * s
    rw [dot_over s d i (by omega), tab_rd (by omega)]
    unfold ovr
    rw [Int.mul_sub, Int.add_mul, Int.add_mul, Int.mul_assoc, Int.mul_assoc]
    omega
theorem dot_nil : ∀ i : Nat, dotS u [] i = 0
  | 0 => rfl
  | i + 1 => by
    show dotS u [] i + rd u (i : Int) * rd [] (i : Int) = 0
    rw [dot_nil i, show rd [] (i : Int) = 0 by unfold rd; simp, Int.mul_zero]
    rfl
/-- A blend of units has at least the strength t exactly if it has no less alcohol than the strength asks. -/
theorem UOK.fit (h : UOK l L u) (hr : RightT l) : ∀ i : Nat, i ≤ L.length → mixA L u i * dens l 10000 ≤ mixM L u i * 10000
  | 0, _ => by show (0 : Int) * _ ≤ 0 * 10000; rw [Int.zero_mul]; decide
  | i + 1, hi => by
    have ih := h.fit hr i (by omega)
    obtain ⟨hq, -, -⟩ := h.q i (by omega)
    have p := Int.mul_le_mul_of_nonneg_left hq.fit (h.u i (by omega)).1
    show (mixA L u i + rd u (i : Int) * (rd_T45 L (i : Int)).f0) * dens l 10000 ≤ (mixM L u i + rd u (i : Int) * (rd_T45 L (i : Int)).f1) * 10000
    rw [Int.add_mul, Int.add_mul, Int.mul_assoc, Int.mul_assoc]
    omega
theorem UOK.liq (h : UOK l L u) (hr : RightT l) (hp : plainB (mixA L u L.length) (mixM L u L.length) = true) : LiqOK l (mixA L u L.length) (mixM L u L.length) := by
  have h1 := of_decide_eq_true hp
  exact ⟨hr, h1.1, h1.2.1, h1.2.2.1, h1.2.2.2.1, h.fit hr L.length (Nat.le_refl _)⟩
theorem LiqOK.grade_iff {a m : Int} (h : LiqOK l a m) (hm : m ≠ 0) {t : Int} (h0 : 0 ≤ t) (h1 : t ≤ 10000) : 0 ≤ a * dens l t - m * t ↔ t ≤ gradeS l a m := by
  obtain ⟨g0, g1, g2, g3⟩ := h.grade
  constructor
  · intro hh
    rcases Int.lt_or_le (gradeS l a m) t with c | c
    · have := g3 hm t c h1
      omega
    · exact c
  · intro hh
    have := g2 t h0 hh
    omega
theorem OrdOK.uok (h : OrdOK l L V C lo hi al) (hu : ∀ j : Nat, j < L.length → 0 ≤ rd u (j : Int) ∧ rd u (j : Int) ≤ 64) : UOK l L u := ⟨h.n4, hu, h.liq⟩
theorem OrdOK.sign_low (h : OrdOK l L V C lo hi al) (hu : ∀ j : Nat, j < L.length → 0 ≤ rd u (j : Int) ∧ rd u (j : Int) ≤ 64) (hp : plainB (mixA L u L.length) (mixM L u L.length) = true) (hm : mixM L u L.length ≠ 0) :
    0 ≤ dotS u (exLow l L lo) L.length ↔ lo ≤ gradeS l (mixA L u L.length) (mixM L u L.length) := by
  unfold exLow overS
  rw [dot_over _ _ _ (Nat.le_refl _)]
  exact ((h.uok hu).liq h.right hp).grade_iff hm h.lo0 (by have := h.lh; have := h.h1; omega)
theorem OrdOK.sign_high (h : OrdOK l L V C lo hi al) (hh : hi ≠ 10000) (hu : ∀ j : Nat, j < L.length → 0 ≤ rd u (j : Int) ∧ rd u (j : Int) ≤ 64) (hp : plainB (mixA L u L.length) (mixM L u L.length) = true) (hm : mixM L u L.length ≠ 0) :
    0 ≤ dotS u (exHigh l L hi) L.length ↔ hi < gradeS l (mixA L u L.length) (mixM L u L.length) := by
  unfold exHigh
  rw [if_neg hh]
  unfold overS
  rw [dot_over _ _ _ (Nat.le_refl _)]
  exact ((h.uok hu).liq h.right hp).grade_iff hm (by have := h.lh; have := h.lo0; omega) (by have := h.h1; omega)
/-- Sums of units and excesses leave the machine's numbers nowhere. -/
theorem dot_rng {x : List Int} {n : Nat} (hu : ∀ j : Nat, j < n → 0 ≤ rd u (j : Int) ∧ rd u (j : Int) ≤ 64) (hx : ∀ j : Nat, j < n → -24000000000000 ≤ rd x (j : Int) ∧ rd x (j : Int) ≤ 24000000000000) :
    ∀ i : Nat, i ≤ n → -(1536000000000000 * (i : Int)) ≤ dotS u x i ∧ dotS u x i ≤ 1536000000000000 * i
  | 0, _ => by show -(1536000000000000 * ((0 : Nat) : Int)) ≤ 0 ∧ (0 : Int) ≤ 1536000000000000 * ((0 : Nat) : Int); omega
  | i + 1, hi => by
    have ih := dot_rng hu hx i (by omega)
    have hm := mul_rng2 (hu i (by omega)).1 (hu i (by omega)).2 (by decide) (hx i (by omega)).1 (hx i (by omega)).2
    show -(1536000000000000 * ((i + 1 : Nat) : Int)) ≤ dotS u x i + rd u (i : Int) * rd x (i : Int) ∧ dotS u x i + rd u (i : Int) * rd x (i : Int) ≤ 1536000000000000 * ((i + 1 : Nat) : Int)
    omega
theorem dot_w {x : List Int} {n : Nat} (hn : n ≤ 4) (hu : ∀ j : Nat, j < n → 0 ≤ rd u (j : Int) ∧ rd u (j : Int) ≤ 64) (hx : ∀ j : Nat, j < n → -24000000000000 ≤ rd x (j : Int) ∧ rd x (j : Int) ≤ 24000000000000) {i : Nat} (hi : i < n) :
    wrap64 (dotS u x i + wrap64 (rd u (i : Int) * rd x (i : Int))) = dotS u x (i + 1) := by
  have h1 := dot_rng hu hx (i + 1) (by omega)
  have hm := mul_rng2 (hu i hi).1 (hu i hi).2 (by decide) (hx i hi).1 (hx i hi).2
  rw [w64_ (x := rd u (i : Int) * rd x (i : Int)) (by omega) (by omega)]
  exact w64_ (by show _ ≤ dotS u x (i + 1); omega) (by show dotS u x (i + 1) ≤ _; omega)
/-! ### Of -/
theorem few_l0 (hl : u.length ≤ V.length) (hn : u.length ≤ 4) : ∀ (m i : Nat), i + m = u.length → (∀ j : Nat, j < i → 0 ≤ rd u (j : Int) ∧ rd u (j : Int) ≤ rd V (j : Int)) →
    ∃ b, Ev (fun k => blend_few.l0 k u (u.length : Int) (i : Int) L V C lo hi al) b ∧ (b = true → ∀ j : Nat, j < u.length → 0 ≤ rd u (j : Int) ∧ rd u (j : Int) ≤ rd V (j : Int))
  | 0, i, hi_, hd => ⟨true, Ev.ret (fun k => by simp only [blend_few.l0]; rw [if_neg (by omega)]), fun _ j hj => hd j (by omega)⟩
  | m + 1, i, hi_, hd => by
    by_cases c : 0 ≤ rd u (i : Int) ∧ rd u (i : Int) ≤ rd V (i : Int)
    · obtain ⟨b, hb, hz⟩ := few_l0 hl hn m (i + 1) (by omega) (fun j hj => by
        rcases Nat.lt_or_ge j i with hh | hh
        · exact hd j hh
        · obtain rfl : j = i := by omega
          exact c)
      refine ⟨b, Ev.step (fun k => ?_) hb, hz⟩
      simp only [blend_few.l0]
      rw [if_pos (by omega), if_pos (by omega), if_pos (by omega), if_neg (by omega), if_pos (by omega), if_neg (by omega), inc30 (n := u.length) (by omega) (by omega)]
    · refine ⟨false, Ev.ret (fun k => ?_), fun z => by cases z⟩
      simp only [blend_few.l0]
      rw [if_pos (by omega), if_pos (by omega), if_pos (by omega)]
      by_cases c2 : rd u (i : Int) < 0
      · rw [if_pos c2]
      · rw [if_neg c2, if_pos (by omega), if_pos (by omega)]
theorem Of_ev (h : OrdOK l L V C lo hi al) (u : List Int) : ∃ r : Int × Int × Int, Ev (fun k => blend_Of.f k L V C lo hi al u) r ∧ (r.2.2 = 0 → u.length = L.length ∧ (∀ j : Nat, j < L.length → 0 ≤ rd u (j : Int) ∧ rd u (j : Int) ≤ 64) ∧ r = (mixA L u L.length, mixM L u L.length, 0) ∧ plainB (mixA L u L.length) (mixM L u L.length) = true) := by
  have n4 := h.n4; have lu := h.lu
  unfold blend_Of.f
  simp only [if_neg (show ¬ 4 < L.length by omega)]
  by_cases c1 : V.length ≠ L.length ∨ u.length ≠ L.length
  · simp only [if_pos c1]
    exact ⟨_, Ev.now (fun _ => rfl), fun z => absurd z (by decide)⟩
  simp only [if_neg c1]
  rw [not_or] at c1
  have hul : u.length = L.length := Decidable.not_not.1 c1.2
  by_cases c2 : 0 ≤ idxP (badL L) L.length 0
  · simp only [if_pos c2]
    exact ⟨_, Ev.now (fun _ => rfl), fun z => absurd z (by decide)⟩
  simp only [if_neg c2]
  obtain ⟨b, hb, hz⟩ := few_l0 (u := u) (V := V) (L := L) (C := C) (lo := lo) (hi := hi) (al := al) (by omega) (by omega) u.length 0 (by omega) (fun j hj => absurd hj (Nat.not_lt_zero _))
  have hb' : Ev (fun k => blend_few.f k L V C lo hi al u) b := hb
  by_cases c3 : b = false ∨ 0 ≤ idxP (fun j => outB 64 (rd u (j : Int))) u.length 0
  · refine ⟨(0, 0, 2), Ev.bind hb' ?_, fun z => absurd z (by decide)⟩
    simp only [if_pos c3]
    exact Ev.now (fun _ => rfl)
  · have hu := hz (by cases b; exact absurd (.inl rfl) c3; rfl)
    have hu2 : ∀ j : Nat, j < L.length → 0 ≤ rd u (j : Int) ∧ rd u (j : Int) ≤ 64 := fun j hj => by
      have h1 := hu j (by omega)
      have h2 := h.us j hj
      omega
    have es := ((h.uok hu2).sums L.length (Nat.le_refl _)).1
    rw [es]
    by_cases c4 : plainB (mixA L u L.length) (mixM L u L.length) = true
    · refine ⟨(mixA L u L.length, mixM L u L.length, 0), Ev.bind hb' ?_, fun _ => ⟨hul, hu2, rfl, c4⟩⟩
      simp only [if_neg c3, if_pos c4]
      exact Ev.now (fun _ => rfl)
    · refine ⟨(0, 0, 15), Ev.bind hb' ?_, fun z => absurd z (by decide)⟩
      simp only [if_neg c3, if_neg c4]
      exact Ev.now (fun _ => rfl)
end

end Go.Proofs.YtcdkbciagchlgaaDoor.PF
