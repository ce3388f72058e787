/- What right and formed of package refusal return, in plain numbers. -/
import Derived.Test.YtcdkbciagchlgaaDoorMEv
import Derived.Test.YtcdkbciagchlgaaDoorMRef30
import Derived.Test.YtcdkbciagchlgaaDoorPF0
import Derived.Test.YtcdkbciagchlgaaDoorPF1
import Derived.Test.YtcdkbciagchlgaaDoorPF7
import Derived.Test.YtcdkbciagchlgaaDoorPF8
namespace Go.Proofs.YtcdkbciagchlgaaDoor.PF
open Go.RowKit Go.Proofs.YtcdkbciagchlgaaDoorW.PrintWords Go.Proofs.YtcdkbciagchlgaaDoorW.PrintLast Go.Proofs.YtcdkbciagchlgaaDoorW.PrintMore
set_option linter.unusedVariables false
set_option linter.unusedSimpArgs false
def lst (f1 f2 f3 : Int) (low high : List Int) (i : Nat) : Int := f1 * rd low (i : Int) + f3 - f2 * rd high (i : Int)
structure LstOK (low high : List Int) (f1 f2 f3 : Int) : Prop where
  n : low.length ≤ 4
  b : ∀ i : Nat, i < low.length → (-2000000000000000000 ≤ rd low (i : Int) ∧ rd low (i : Int) ≤ 2000000000000000000) ∧ -2000000000000000000 ≤ rd high (i : Int) ∧ rd high (i : Int) ≤ 2000000000000000000
  hf1 : f1 = 0 ∨ f1 = 1
  hf2 : f2 = 0 ∨ f2 = 1
  hf3 : 0 ≤ f3 ∧ f3 ≤ 2000000000000000000
  hh : high.length = 0 ∨ high.length = low.length
  h2 : f2 = 1 → high.length = low.length
section
variable {low high : List Int} {f1 f2 f3 : Int}
theorem LstOK.w (h : LstOK low high f1 f2 f3) {i : Nat} (hi : i < low.length) : wrap64 (f1 * rd low (i : Int)) = f1 * rd low (i : Int) ∧ wrap64 (f2 * rd high (i : Int)) = f2 * rd high (i : Int) ∧
    wrap64 (f1 * rd low (i : Int) + f3) = f1 * rd low (i : Int) + f3 ∧ wrap64 (lst f1 f2 f3 low high i) = lst f1 f2 f3 low high i ∧ (-6000000000000000000 ≤ lst f1 f2 f3 low high i ∧ lst f1 f2 f3 low high i ≤ 6000000000000000000) := by
  obtain ⟨⟨b1, b2⟩, b3, b4⟩ := h.b i hi
  have h3 := h.hf3
  unfold lst
  have e1 : f1 * rd low (i : Int) = 0 ∨ f1 * rd low (i : Int) = rd low (i : Int) := by rcases h.hf1 with e | e <;> rw [e] <;> simp
  have e2 : f2 * rd high (i : Int) = 0 ∨ f2 * rd high (i : Int) = rd high (i : Int) := by rcases h.hf2 with e | e <;> rw [e] <;> simp
  generalize f1 * rd low (i : Int) = x at e1 ⊢
  generalize f2 * rd high (i : Int) = y at e2 ⊢
  generalize rd low (i : Int) = a at b1 b2 e1
  generalize rd high (i : Int) = b at b3 b4 e2
  exact ⟨w64_ (by omega) (by omega), w64_ (by omega) (by omega), w64_ (by omega) (by omega), w64_ (by omega) (by omega), by omega, by omega⟩
theorem leasts_l0 (h : LstOK low high f1 f2 f3) (U : List Int) : ∀ (m i : Nat), i + m = low.length → Ev (fun k => refusal_leasts.l0 k low high (tab i (lst f1 f2 f3 low high)) (low.length : Int) (i : Int) U f1 f2 f3) (tab low.length (lst f1 f2 f3 low high))
  | 0, i, hi_ => Ev.ret (fun k => by
    simp only [refusal_leasts.l0]
    rw [if_neg (by omega)]
    obtain rfl : i = low.length := by omega
    rfl)
  | m + 1, i, hi_ => Ev.step (fun k => by
    have hn := h.n
    obtain ⟨w1, w2, w3, w4, -⟩ := h.w (i := i) (by omega)
    simp only [refusal_leasts.l0]
    rw [if_pos (by omega), if_pos (by omega), if_pos (by omega), w1, w3, inc30 (n := low.length) (by omega) (by omega)]
    by_cases c : f2 = 1
    · have := h.h2 c
      rw [if_pos c, if_pos (by omega), if_pos (by rw [tab_len]; omega)]
      have e : f1 * rd low (i : Int) + f3 - rd high (i : Int) = lst f1 f2 f3 low high i := by unfold lst; rw [c, Int.one_mul]
      rw [e, w4, ← tab_succ]
    · have c0 : f2 = 0 := by rcases h.hf2 with e | e; exact e; exact absurd e c
      rw [if_neg c, if_pos (by rw [tab_len]; omega)]
      have e : f1 * rd low (i : Int) + f3 = lst f1 f2 f3 low high i := by unfold lst; rw [c0, Int.zero_mul]; omega
      rw [e, ← tab_succ]) (leasts_l0 h U m (i + 1) (by omega))
theorem leasts_ev (h : LstOK low high f1 f2 f3) (U : List Int) : Ev (fun k => refusal_leasts.f k low high U f1 f2 f3) (tab low.length (lst f1 f2 f3 low high)) := leasts_l0 h U low.length 0 (by omega)
end
def dotS (U V : List Int) : Nat → Int
  | 0 => 0
  | i + 1 => dotS U V i + rd U (i : Int) * rd V (i : Int)
structure UntOK (U V : List Int) (n : Nat) : Prop where
  u : ∀ i : Nat, i < n → 0 ≤ rd U (i : Int) ∧ rd U (i : Int) ≤ 1125899906842624
  v : ∀ i : Nat, i < n → 0 ≤ rd V (i : Int) ∧ rd V (i : Int) ≤ 64
theorem UntOK.dot {U V : List Int} {n : Nat} (h : UntOK U V n) : ∀ i, i ≤ n → 0 ≤ dotS U V i ∧ dotS U V i ≤ 72057594037927936 * i
  | 0, _ => ⟨Int.le_refl _, by show (0 : Int) ≤ 72057594037927936 * ((0 : Nat) : Int); omega⟩
  | i + 1, hi => by
    obtain ⟨h1, h2⟩ := h.dot i (by omega)
    obtain ⟨u0, u1⟩ := h.u i (by omega)
    obtain ⟨v0, v1⟩ := h.v i (by omega)
    have p0 : 0 ≤ rd U (i : Int) * rd V (i : Int) := Int.mul_nonneg u0 v0
    have p1 : rd U (i : Int) * rd V (i : Int) ≤ 1125899906842624 * 64 := Int.mul_le_mul u1 v1 v0 (by omega)
    show 0 ≤ dotS U V i + rd U (i : Int) * rd V (i : Int) ∧ dotS U V i + rd U (i : Int) * rd V (i : Int) ≤ 72057594037927936 * ((i + 1 : Nat) : Int)
    omega
theorem UntOK.w {U V : List Int} {n : Nat} (h : UntOK U V n) (hn : n ≤ 4) {i : Nat} (hi : i < n) : wrap64 (dotS U V i + wrap64 (rd U (i : Int) * rd V (i : Int))) = dotS U V (i + 1) := by
  obtain ⟨u0, u1⟩ := h.u i hi
  obtain ⟨v0, v1⟩ := h.v i hi
  obtain ⟨a1, a2⟩ := h.dot (i + 1) (by omega)
  rw [wmul u0 u1 v0 v1 (by decide)]
  exact w64_ (by show _ ≤ dotS U V (i + 1); omega) (by show dotS U V (i + 1) ≤ _; omega)
def rgtB (low high U V : List Int) (f1 f2 f3 al : Int) (n i : Nat) : Bool := (List.range' i (n - i)).all (fun j => decide (lst f1 f2 f3 low high j ≤ rd U (j : Int))) && decide (dotS U V n < f2 + f3 * al)
theorem rgtB_step {low high U V : List Int} {f1 f2 f3 al : Int} {n i : Nat} (hi : i < n) : rgtB low high U V f1 f2 f3 al n i = (decide (lst f1 f2 f3 low high i ≤ rd U (i : Int)) && rgtB low high U V f1 f2 f3 al n (i + 1)) := by
  unfold rgtB
  rw [show n - i = (n - (i + 1)) + 1 by omega, List.range'_succ, List.all_cons, Bool.and_assoc]
theorem rgtB_end {low high U V : List Int} {f1 f2 f3 al : Int} {n : Nat} : rgtB low high U V f1 f2 f3 al n n = decide (dotS U V n < f2 + f3 * al) := by
  unfold rgtB
  rw [Nat.sub_self]
  rfl
theorem rgtB_iff {low high U V : List Int} {f1 f2 f3 al : Int} {n : Nat} : rgtB low high U V f1 f2 f3 al n 0 = true ↔ (∀ j : Nat, j < n → lst f1 f2 f3 low high j ≤ rd U (j : Int)) ∧ dotS U V n < f2 + f3 * al := by
  unfold rgtB
  simp [List.mem_range'_1]
section
variable {low high U V : List Int} {f1 f2 f3 al : Int}
theorem right_l0 (hu : UntOK U V low.length) (hn : low.length ≤ 4) (hU : U.length = low.length) (hV : V.length = low.length) (hf : 0 ≤ f3 ∧ f3 ≤ 1125899906842624) (hf2 : f2 = 0 ∨ f2 = 1) (ha : 1 ≤ al ∧ al ≤ 256) (L : List S45) (C : List Int) (lo hi : Int) : ∀ (m i : Nat), i + m = low.length →
    Ev (fun k => refusal_right.l0 k (dotS U V i) (tab low.length (lst f1 f2 f3 low high)) (low.length : Int) (i : Int) L V C lo hi al U f1 f2 f3) (rgtB low high U V f1 f2 f3 al low.length i)
  | 0, i, hi_ => Ev.ret (fun k => by
    obtain rfl : i = low.length := by omega
    have w1 : wrap64 (f3 * al) = f3 * al := wmul hf.1 hf.2 (by omega) ha.2 (by decide)
    have p0 : 0 ≤ f3 * al := Int.mul_nonneg hf.1 (by omega)
    have p1 : f3 * al ≤ 1125899906842624 * 256 := Int.mul_le_mul hf.2 ha.2 (by omega) (by omega)
    simp only [refusal_right.l0]
    rw [if_neg (by omega), rgtB_end, w1, w64_ (by omega) (by omega)])
  | m + 1, i, hi_ => by
    rw [rgtB_step (by omega)]
    by_cases c : lst f1 f2 f3 low high i ≤ rd U (i : Int)
    · rw [decide_eq_true c, Bool.true_and]
      refine Ev.step (fun k => ?_) (right_l0 hu hn hU hV hf hf2 ha L C lo hi m (i + 1) (by omega))
      simp only [refusal_right.l0]
      rw [if_pos (by omega), if_pos (by omega), if_pos (by rw [tab_len]; omega), if_pos (by omega), tab_rd (by omega), if_neg (by omega), if_pos (by omega), hu.w hn (by omega), inc30 (n := low.length) (by omega) (by omega)]
    · rw [decide_eq_false c, Bool.false_and]
      refine Ev.ret (fun k => ?_)
      simp only [refusal_right.l0]
      rw [if_pos (by omega), if_pos (by omega), if_pos (by rw [tab_len]; omega), if_pos (by omega), tab_rd (by omega), if_pos (by omega)]
end
structure FrmOK (U : List Int) (f1 f2 f3 : Int) : Prop where
  u : ∀ i : Nat, i < U.length → 0 ≤ rd U (i : Int) ∧ rd U (i : Int) ≤ 1125899906842624
  hf1 : 0 ≤ f1 ∧ f1 ≤ 1
  hf2 : 0 ≤ f2 ∧ f2 ≤ 1
  s : f1 + f2 < 2
  hf3 : 0 ≤ f3 ∧ f3 ≤ 1125899906842624
theorem strgB_no {n : Int} : strgB n = false ↔ 0 ≤ n ∧ n ≤ 1125899906842624 := by
  unfold strgB
  rw [decide_eq_false_iff_not]
  omega
theorem formB_iff (U : List Int) (f1 f2 f3 : Int) : formB U f1 f2 f3 = true ↔ FrmOK U f1 f2 f3 := by
  unfold formB
  simp only [Bool.and_eq_true, Bool.not_eq_true', decide_eq_true_eq, decide_eq_false_iff_not]
  rw [idx_no, strgB_no]
  constructor
  · rintro ⟨⟨⟨h1, h2⟩, h3⟩, h4⟩
    exact ⟨fun i hi => strgB_no.1 (h1 i hi), by omega, by omega, h4, h2⟩
  · intro h
    have a1 := h.hf1; have a2 := h.hf2; have a3 := h.s
    exact ⟨⟨⟨fun i hi => strgB_no.2 (h.u i hi), h.hf3⟩, by omega⟩, h.s⟩
theorem formed_plain {U : List Int} (h : U.length ≤ 1000000) (f1 f2 f3 : Int) : refusal_formed.f U f1 f2 f3 = some (formB U f1 f2 f3) := by
  unfold refusal_formed.f
  rw [if_pos (by omega)]
def rigB (l : List S82) (L : List S45) (V : List Int) (lo hi al : Int) (U : List Int) (f1 f2 f3 : Int) : Bool := !(decide (f2 = 1 ∧ hi = 10000)) && rgtB (exLow l L lo) (exHigh l L hi) U V f1 f2 f3 al L.length 0
section
variable {l : List S82} {L : List S45} {V C U : List Int} {lo hi al f1 f2 f3 : Int}
theorem OrdOK.unt (h : OrdOK l L V C lo hi al) (hf : FrmOK U f1 f2 f3) (hU : U.length = L.length) : UntOK U V L.length := ⟨fun i hi => hf.u i (by omega), h.us⟩
theorem OrdOK.lstok (h : OrdOK l L V C lo hi al) (hf1 : f1 = 0 ∨ f1 = 1) (hf2 : f2 = 0 ∨ f2 = 1) (hf3 : 0 ≤ f3 ∧ f3 ≤ 2000000000000000000) (hh : ¬ (f2 = 1 ∧ hi = 10000)) : LstOK (exLow l L lo) (exHigh l L hi) f1 f2 f3 := by
  have e1 : (exLow l L lo).length = L.length := overS_len _ _ _
  have e2 := exHigh_len l L hi
  refine ⟨by rw [e1]; exact h.n4, fun i hi_ => ?_, hf1, hf2, hf3, ?_, fun c => ?_⟩
  · rw [e1] at hi_
    exact ⟨h.low_rng hi_, h.high_rng hi_⟩
  · rw [e1, e2]
    split
    · exact .inl rfl
    · exact .inr rfl
  · rw [e1, e2, if_neg (fun z => hh ⟨c, z⟩)]
theorem FrmOK.b1 (hf : FrmOK U f1 f2 f3) : f1 = 0 ∨ f1 = 1 := by have := hf.hf1; omega
theorem FrmOK.b2 (hf : FrmOK U f1 f2 f3) : f2 = 0 ∨ f2 = 1 := by have := hf.hf2; omega
theorem right_ev (h : OrdOK l L V C lo hi al) (hf : FrmOK U f1 f2 f3) (hU : U.length = L.length) : Ev (fun k => refusal_right.f k L V C lo hi al (exLow l L lo) (exHigh l L hi) U f1 f2 f3) (rigB l L V lo hi al U f1 f2 f3) := by
  have e1 : (exLow l L lo).length = L.length := overS_len _ _ _
  have h4 := h.n4
  unfold refusal_right.f rigB
  by_cases c : f2 = 1 ∧ hi = 10000
  · have e3 : (hi == 10000) = true := beq_iff_eq.2 c.2
    simp only [if_pos c.1, e3, decide_eq_true c, Bool.not_true, Bool.false_and]
    exact Ev.ret (fun k => by simp only [refusal_right.j0, if_true])
  · have hb : (if f2 = 1 then (hi == 10000) else false) = false := by
      by_cases c2 : f2 = 1
      · rw [if_pos c2]; exact beq_eq_false_iff_ne.2 (fun z => c ⟨c2, z⟩)
      · rw [if_neg c2]
    have hf3 := hf.hf3
    have hl := h.lstok hf.b1 hf.b2 (f3 := f3) (by omega) c
    have hE : Ev (fun k => refusal_right.j0 k (exLow l L lo) (exHigh l L hi) false L V C lo hi al U f1 f2 f3) (rgtB (exLow l L lo) (exHigh l L hi) U V f1 f2 f3 al L.length 0) := by
      refine Ev.step (G := fun k => (refusal_leasts.f k (exLow l L lo) (exHigh l L hi) U f1 f2 f3).bind fun t177 => (refusal_right.l0 k 0 t177 (t177.length : Int) 0 L V C lo hi al U f1 f2 f3)) (fun k => by simp only [refusal_right.j0, Bool.false_eq_true, if_false]) ?_
      refine Ev.bind (leasts_ev hl U) ?_
      have hr := right_l0 (low := exLow l L lo) (high := exHigh l L hi) (f1 := f1) (by rw [e1]; exact h.unt hf hU) (by rw [e1]; exact h4) (by rw [e1]; exact hU) (by rw [e1]; exact h.lu) hf.hf3 hf.b2 ⟨h.al1, h.al2⟩ L C lo hi L.length 0 (by rw [e1]; omega)
      rw [e1] at hr
      simp only [e1, tab_len]
      exact hr
    rw [decide_eq_false c, Bool.not_false, Bool.true_and]
    by_cases c2 : f2 = 1
    · rw [if_pos c2] at hb
      simp only [if_pos c2, hb]
      exact hE
    · simp only [if_neg c2]
      exact hE
structure RgtOK (l : List S82) (L : List S45) (V C : List Int) (lo hi al : Int) (U : List Int) (f1 f2 f3 : Int) : Prop where
  o : OrdOK l L V C lo hi al
  n : U.length = L.length
  f : FrmOK U f1 f2 f3
  r : rigB l L V lo hi al U f1 f2 f3 = true
end
end Go.Proofs.YtcdkbciagchlgaaDoor.PF
