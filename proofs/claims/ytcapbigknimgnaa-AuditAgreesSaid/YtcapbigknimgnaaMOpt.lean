/- Repaired rows contradict each other nowhere; no change of all rows that leaves no contradiction is smaller than half of the least tolerance. -/
import Derived.Test.YtcapbigknimgnaaMAud
import Derived.Test.YtcapbigknimgnaaMAud2
import Derived.Test.YtcapbigknimgnaaMAud4
import Derived.Test.YtcapbigknimgnaaMEv
import Derived.Test.YtcapbigknimgnaaPF0
namespace Go.Proofs.Ytcapbigknimgnaa.PF
open Go.RowKit Go.Proofs.YtcapbigknimgnaaW.PrintWords Go.Proofs.YtcapbigknimgnaaW.PrintLast Go.Proofs.YtcapbigknimgnaaW.PrintMore
set_option linter.unusedVariables false
set_option linter.unusedSimpArgs false
def gs (l : List S44) (i : Nat) : Int := (rd_T44 l (i : Int)).f0
def gd (l : List S44) (i : Nat) : Int := (rd_T44 l (i : Int)).f1
theorem mx_ge_ (a b : Int) : a ≤ mx a b ∧ b ≤ mx a b := by unfold mx; split <;> omega
theorem mx_or_ (a b : Int) : mx a b = a ∨ mx a b = b := by
  unfold mx
  split
  · first | exact Or.inl rfl | exact Or.inr rfl
  · first | exact Or.inr rfl | exact Or.inl rfl
theorem mn_le_ (a b : Int) : mn a b ≤ a ∧ mn a b ≤ b := by unfold mn; split <;> omega
theorem mn_or_ (a b : Int) : mn a b = a ∨ mn a b = b := by
  unfold mn
  split
  · first | exact Or.inl rfl | exact Or.inr rfl
  · first | exact Or.inr rfl | exact Or.inl rfl
theorem RightR.mono {l : List S44} (h : RightR l) (d : Nat) : ∀ i, i + d < l.length → gs l i ≤ gs l (i + d) := by
  induction d with
  | zero => intro i _; exact Int.le_refl _
  | succ d ih =>
    intro i hi
    have h1 := ih i (by omega)
    have h2 := h.inc (i + d) (by omega)
    unfold gs at h1 ⊢
    rw [show i + (d + 1) = i + d + 1 by omega]
    omega
theorem leF_ge (l : List S44) (ps : List (Nat × Nat)) : ∀ acc, acc ≤ ps.foldl (leF l) acc ∧ ∀ p ∈ ps, bey l p.1 p.2 ≤ ps.foldl (leF l) acc := by
  induction ps with
  | nil => intro acc; exact ⟨Int.le_refl _, fun p hp => by cases hp⟩
  | cons q ps ih =>
    intro acc
    rw [List.foldl_cons]
    have h1 := ih (leF l acc q)
    have h2 := mx_ge_ acc (bey l q.1 q.2)
    have h3 : leF l acc q = mx acc (bey l q.1 q.2) := rfl
    rw [← h3] at h2
    refine ⟨by omega, fun p hp => ?_⟩
    rcases List.mem_cons.1 hp with rfl | hp
    · omega
    · exact h1.2 p hp
theorem leF_att (l : List S44) (ps : List (Nat × Nat)) : ∀ acc, ps.foldl (leF l) acc = acc ∨ ∃ p ∈ ps, ps.foldl (leF l) acc = bey l p.1 p.2 := by
  induction ps with
  | nil => intro acc; exact Or.inl rfl
  | cons q ps ih =>
    intro acc
    rw [List.foldl_cons]
    rcases ih (leF l acc q) with h | ⟨p, hp, h⟩
    · have h3 : leF l acc q = mx acc (bey l q.1 q.2) := rfl
      rcases mx_or_ acc (bey l q.1 q.2) with e | e
      · exact Or.inl (by rw [h, h3, e])
      · exact Or.inr ⟨q, List.mem_cons_self, by rw [h, h3, e]⟩
    · exact Or.inr ⟨p, List.mem_cons_of_mem _ hp, h⟩
theorem leT_nonneg (l : List S44) : 0 ≤ leT l := (leF_ge l (allP l.length 0) 0).1
theorem bey_le_leT (l : List S44) {i j : Nat} (hij : i < j) (hj : j < l.length) : bey l i j ≤ leT l := (leF_ge l (allP l.length 0) 0).2 (i, j) (mem_allP.2 ⟨Nat.zero_le _, hij, hj⟩)
theorem leT_att (l : List S44) : leT l = 0 ∨ ∃ i j, i < j ∧ j < l.length ∧ leT l = bey l i j := by
  rcases leF_att l (allP l.length 0) 0 with h | ⟨p, hp, h⟩
  · exact Or.inl h
  · obtain ⟨_, h2, h3⟩ := mem_allP.1 hp
    exact Or.inr ⟨p.1, p.2, h2, h3, h⟩
theorem clF_none (l : List S44) (t : Int) (ps : List (Nat × Nat)) : ∀ acc, (∀ p ∈ ps, bey l p.1 p.2 ≤ t) → ps.foldl (clF l t) acc = acc := by
  induction ps with
  | nil => intro acc _; rfl
  | cons q ps ih =>
    intro acc h
    rw [List.foldl_cons]
    have h3 : clF l t acc q = acc := by
      unfold clF
      rw [if_neg (by have := h q List.mem_cons_self; omega)]
    rw [h3]
    exact ih acc (fun p hp => h p (List.mem_cons_of_mem _ hp))
theorem clF_mem (l : List S44) (t : Int) (ps : List (Nat × Nat)) : ∀ acc c, c ∈ ps.foldl (clF l t) acc ↔ c ∈ acc ∨ ∃ p ∈ ps, bey l p.1 p.2 > t ∧ c = (⟨(p.1 : Int), (p.2 : Int)⟩ : S33) := by
  induction ps with
  | nil => intro acc c; exact ⟨Or.inl, fun h => h.elim id (fun ⟨p, hp, _⟩ => by cases hp)⟩
  | cons q ps ih =>
    intro acc c
    rw [List.foldl_cons, ih]
    unfold clF
    by_cases hb : bey l q.1 q.2 > t
    · rw [if_pos hb, List.mem_append, List.mem_singleton]
      constructor
      · rintro ((h | h) | ⟨p, hp, h⟩)
        · exact Or.inl h
        · exact Or.inr ⟨q, List.mem_cons_self, hb, h⟩
        · exact Or.inr ⟨p, List.mem_cons_of_mem _ hp, h⟩
      · rintro (h | ⟨p, hp, h1, h2⟩)
        · exact Or.inl (Or.inl h)
        · rcases List.mem_cons.1 hp with rfl | hp
          · exact Or.inl (Or.inr h2)
          · exact Or.inr ⟨p, hp, h1, h2⟩
    · rw [if_neg hb]
      constructor
      · rintro (h | ⟨p, hp, h⟩)
        · exact Or.inl h
        · exact Or.inr ⟨p, List.mem_cons_of_mem _ hp, h⟩
      · rintro (h | ⟨p, hp, h1, h2⟩)
        · exact Or.inl h
        · rcases List.mem_cons.1 hp with rfl | hp
          · exact absurd h1 hb
          · exact Or.inr ⟨p, hp, h1, h2⟩
/-- A pair is listed if the contradiction is greater than the tolerance. -/
theorem clS_right {l : List S44} (h : RightR l) {t : Int} (h0 : 0 ≤ t) (h1 : t ≤ 120000) : clS l t = ((allP l.length 0).foldl (clF l t) [], 0) := by
  unfold clS
  rw [if_neg (not_not_intro ((rchk_iff l).2 h)), if_neg (by omega)]
theorem clS_nil {l : List S44} (h : RightR l) {t : Int} (h0 : 0 ≤ t) (h1 : t ≤ 120000) : (clS l t).1 = [] ↔ leT l ≤ t := by
  rw [clS_right h h0 h1]
  constructor
  · intro he
    rcases leT_att l with e | ⟨i, j, hij, hj, e⟩
    · omega
    · rcases Int.lt_or_le t (leT l) with hlt | hle
      · have : (⟨(i : Int), (j : Int)⟩ : S33) ∈ (allP l.length 0).foldl (clF l t) [] := (clF_mem l t _ [] _).2 (Or.inr ⟨(i, j), mem_allP.2 ⟨Nat.zero_le _, hij, hj⟩, by show bey l i j > t; omega, rfl⟩)
        have he' : (allP l.length 0).foldl (clF l t) [] = [] := he
        rw [he'] at this
        cases this
      · exact hle
  · intro hle
    exact clF_none l t _ [] (fun p hp => by
      obtain ⟨_, h2, h3⟩ := mem_allP.1 hp
      have := bey_le_leT l h2 h3
      omega)
/-- What a row of greater or equal strength has more than another one is at most the least tolerance. -/
theorem RightR.over {l : List S44} (h : RightR l) {i j : Nat} (hi : i < l.length) (hj : j < l.length) (hs : gs l i ≤ gs l j) : gd l j - gd l i ≤ leT l := by
  have h0 := leT_nonneg l
  rcases Nat.lt_trichotomy i j with hij | rfl | hji
  · have h1 := bey_le_leT l hij hj
    have h2 : gd l j - gd l i ≤ bey l i j := by unfold bey gd mx; split <;> split <;> omega
    omega
  · omega
  · have h1 := bey_le_leT l hji hi
    have h3 := h.mono (i - j) j (by omega)
    rw [show j + (i - j) = i by omega] at h3
    have h2 : gd l j - gd l i ≤ bey l j i := by
      unfold gs at hs h3
      unfold bey gd mx
      rw [if_pos (by omega)]
      split <;> omega
    omega
/-- A pair that has the least tolerance. -/
theorem RightR.worst {l : List S44} (h : RightR l) (hp : 0 < leT l) : ∃ i j, i < l.length ∧ j < l.length ∧ gs l i ≤ gs l j ∧ gd l j - gd l i = leT l := by
  rcases leT_att l with e | ⟨i, j, hij, hj, e⟩
  · omega
  · have h3 := h.mono (j - i) i (by omega)
    rw [show i + (j - i) = j by omega] at h3
    by_cases hq : gd l j - gd l i = leT l
    · exact ⟨i, j, by omega, hj, h3, hq⟩
    · refine ⟨j, i, hj, by omega, ?_, ?_⟩
      · rw [e] at hq hp
        unfold bey gd mx at *
        unfold gs at *
        by_cases hs : (rd_T44 l (i : Int)).f0 = (rd_T44 l (j : Int)).f0
        · omega
        · rw [if_neg hs] at hq hp
          split at hp <;> omega
      · rw [e] at hq hp ⊢
        unfold bey gd mx at *
        by_cases hs : (rd_T44 l (i : Int)).f0 = (rd_T44 l (j : Int)).f0
        · rw [if_pos hs] at hq hp ⊢
          split at hp <;> split <;> omega
        · rw [if_neg hs] at hq hp
          split at hp <;> omega
/-- Densities that do not grow with the strength change some row by half the least tolerance. -/
theorem RightR.half {l : List S44} (h : RightR l) (m : Nat → Int) (hm : ∀ i j, i < l.length → j < l.length → gs l i ≤ gs l j → m j ≤ m i) (hp : 0 < leT l) :
    ∃ i, i < l.length ∧ ((leT l + 1) / 2 ≤ m i - gd l i ∨ (leT l + 1) / 2 ≤ gd l i - m i) := by
  obtain ⟨i, j, hi, hj, hs, e⟩ := h.worst hp
  have h1 := hm i j hi hj hs
  by_cases hc : (leT l + 1) / 2 ≤ m i - gd l i
  · exact ⟨i, hi, Or.inl hc⟩
  · exact ⟨j, hj, Or.inr (by omega)⟩
def hiR (l : List S44) (i : Nat) : Int := (rpRow l i l.length 0 (gd l i) (gd l i)).1
def loR (l : List S44) (i : Nat) : Int := (rpRow l i l.length 0 (gd l i) (gd l i)).2
theorem repD_eq (l : List S44) (i : Nat) : repD l i = (hiR l i + loR l i) / 2 := rfl
theorem rpRow_spec (l : List S44) (i : Nat) : ∀ d j hi lo, j + d = l.length →
    (hi ≤ (rpRow l i d j hi lo).1 ∧ (rpRow l i d j hi lo).2 ≤ lo) ∧
    (∀ m, j ≤ m → m < l.length → gs l i ≤ gs l m → gd l m ≤ (rpRow l i d j hi lo).1) ∧ (∀ m, j ≤ m → m < l.length → gs l m ≤ gs l i → (rpRow l i d j hi lo).2 ≤ gd l m) ∧
    ((rpRow l i d j hi lo).1 = hi ∨ ∃ m, m < l.length ∧ gs l i ≤ gs l m ∧ (rpRow l i d j hi lo).1 = gd l m) ∧ ((rpRow l i d j hi lo).2 = lo ∨ ∃ m, m < l.length ∧ gs l m ≤ gs l i ∧ (rpRow l i d j hi lo).2 = gd l m) := by
  intro d
  induction d with
  | zero => exact fun j hi lo hj => ⟨⟨Int.le_refl _, Int.le_refl _⟩, fun m h1 h2 => by omega, fun m h1 h2 => by omega, Or.inl rfl, Or.inl rfl⟩
  | succ d ih =>
    intro j hi lo hj
    simp only [rpRow]
    obtain ⟨⟨a1, a2⟩, a3, a4, a5, a6⟩ := ih (j + 1) (if (rd_T44 l (j : Int)).f0 ≥ (rd_T44 l (i : Int)).f0 then mx hi (rd_T44 l (j : Int)).f1 else hi) (if (rd_T44 l (j : Int)).f0 ≤ (rd_T44 l (i : Int)).f0 then mn lo (rd_T44 l (j : Int)).f1 else lo) (by omega)
    generalize rpRow l i d (j + 1) (if (rd_T44 l (j : Int)).f0 ≥ (rd_T44 l (i : Int)).f0 then mx hi (rd_T44 l (j : Int)).f1 else hi) (if (rd_T44 l (j : Int)).f0 ≤ (rd_T44 l (i : Int)).f0 then mn lo (rd_T44 l (j : Int)).f1 else lo) = R at a1 a2 a3 a4 a5 a6 ⊢
    have g1 := mx_ge_ hi (rd_T44 l (j : Int)).f1
    have g2 := mn_le_ lo (rd_T44 l (j : Int)).f1
    refine ⟨⟨?_, ?_⟩, fun m h1 h2 h3 => ?_, fun m h1 h2 h3 => ?_, ?_, ?_⟩
    · split at a1 <;> omega
    · split at a2 <;> omega
    · rcases Nat.eq_or_lt_of_le h1 with rfl | h4
      · have h3' : (rd_T44 l (j : Int)).f0 ≥ (rd_T44 l (i : Int)).f0 := h3
        rw [if_pos h3'] at a1
        unfold gd
        omega
      · exact a3 m h4 h2 h3
    · rcases Nat.eq_or_lt_of_le h1 with rfl | h4
      · have h3' : (rd_T44 l (j : Int)).f0 ≤ (rd_T44 l (i : Int)).f0 := h3
        rw [if_pos h3'] at a2
        unfold gd
        omega
      · exact a4 m h4 h2 h3
    · rcases a5 with e | e
      · by_cases c : (rd_T44 l (j : Int)).f0 ≥ (rd_T44 l (i : Int)).f0
        · rw [if_pos c] at e
          rcases mx_or_ hi (rd_T44 l (j : Int)).f1 with e2 | e2
          · exact Or.inl (by rw [e, e2])
          · exact Or.inr ⟨j, by omega, c, by rw [e, e2]; rfl⟩
        · rw [if_neg c] at e
          exact Or.inl e
      · exact Or.inr e
    · rcases a6 with e | e
      · by_cases c : (rd_T44 l (j : Int)).f0 ≤ (rd_T44 l (i : Int)).f0
        · rw [if_pos c] at e
          rcases mn_or_ lo (rd_T44 l (j : Int)).f1 with e2 | e2
          · exact Or.inl (by rw [e, e2])
          · exact Or.inr ⟨j, by omega, c, by rw [e, e2]; rfl⟩
        · rw [if_neg c] at e
          exact Or.inl e
      · exact Or.inr e
theorem hiR_spec (l : List S44) {i : Nat} (hi : i < l.length) : (∀ m, m < l.length → gs l i ≤ gs l m → gd l m ≤ hiR l i) ∧ ∃ m, m < l.length ∧ gs l i ≤ gs l m ∧ hiR l i = gd l m := by
  obtain ⟨_, a3, _, a5, _⟩ := rpRow_spec l i l.length 0 (gd l i) (gd l i) (by omega)
  refine ⟨fun m h1 h2 => a3 m (by omega) h1 h2, ?_⟩
  rcases a5 with e | e
  · exact ⟨i, hi, Int.le_refl _, e⟩
  · exact e
theorem loR_spec (l : List S44) {i : Nat} (hi : i < l.length) : (∀ m, m < l.length → gs l m ≤ gs l i → loR l i ≤ gd l m) ∧ ∃ m, m < l.length ∧ gs l m ≤ gs l i ∧ loR l i = gd l m := by
  obtain ⟨_, _, a4, _, a6⟩ := rpRow_spec l i l.length 0 (gd l i) (gd l i) (by omega)
  refine ⟨fun m h1 h2 => a4 m (by omega) h1 h2, ?_⟩
  rcases a6 with e | e
  · exact ⟨i, hi, Int.le_refl _, e⟩
  · exact e
theorem repD_anti (l : List S44) {i j : Nat} (hi : i < l.length) (hj : j < l.length) (hs : gs l i ≤ gs l j) : repD l j ≤ repD l i := by
  obtain ⟨a1, _⟩ := hiR_spec l hi
  obtain ⟨_, m, m1, m2, m3⟩ := hiR_spec l hj
  obtain ⟨_, q, q1, q2, q3⟩ := loR_spec l hi
  obtain ⟨b1, _⟩ := loR_spec l hj
  have h1 := a1 m m1 (by omega)
  have h2 := b1 q q1 (by omega)
  rw [repD_eq, repD_eq]
  omega
theorem RightR.repD_near {l : List S44} (h : RightR l) {i : Nat} (hi : i < l.length) : repD l i - gd l i ≤ (leT l + 1) / 2 ∧ gd l i - repD l i ≤ (leT l + 1) / 2 := by
  obtain ⟨a1, m, m1, m2, m3⟩ := hiR_spec l hi
  obtain ⟨b1, q, q1, q2, q3⟩ := loR_spec l hi
  have h1 := a1 i hi (Int.le_refl _)
  have h2 := b1 i hi (Int.le_refl _)
  have h3 := h.over hi m1 m2
  have h4 := h.over q1 hi q2
  rw [repD_eq]
  omega
theorem repC_spec (l : List S44) (n : Nat) : 0 ≤ repC l n ∧ (∀ i, i < n → repD l i - gd l i ≤ repC l n ∧ gd l i - repD l i ≤ repC l n) ∧ (repC l n = 0 ∨ ∃ i, i < n ∧ (repC l n = repD l i - gd l i ∨ repC l n = gd l i - repD l i)) := by
  induction n with
  | zero => exact ⟨Int.le_refl _, fun i hi => by omega, Or.inl rfl⟩
  | succ n ih =>
    obtain ⟨h0, h1, h2⟩ := ih
    have e : repC l (n + 1) = mx (mx (repC l n) (repD l n - gd l n)) (gd l n - repD l n) := rfl
    have g1 := mx_ge_ (repC l n) (repD l n - gd l n)
    have g2 := mx_ge_ (mx (repC l n) (repD l n - gd l n)) (gd l n - repD l n)
    rw [← e] at g2
    refine ⟨by omega, fun i hi => ?_, ?_⟩
    · rcases Nat.lt_or_ge i n with h3 | h3
      · have := h1 i h3
        omega
      · obtain rfl : i = n := by omega
        omega
    · rw [e]
      rcases mx_or_ (mx (repC l n) (repD l n - gd l n)) (gd l n - repD l n) with e1 | e1
      · rcases mx_or_ (repC l n) (repD l n - gd l n) with e2 | e2
        · rcases h2 with h2 | ⟨i, hi, h2⟩
          · exact Or.inl (by rw [e1, e2, h2])
          · exact Or.inr ⟨i, by omega, by rw [e1, e2]; exact h2⟩
        · exact Or.inr ⟨n, by omega, Or.inl (by rw [e1, e2])⟩
      · exact Or.inr ⟨n, by omega, Or.inr e1⟩
/-- The change is half of the least tolerance, rounded up. -/
theorem RightR.repC_eq {l : List S44} (h : RightR l) : repC l l.length = (leT l + 1) / 2 := by
  obtain ⟨h0, h1, h2⟩ := repC_spec l l.length
  have hn := leT_nonneg l
  have hle : repC l l.length ≤ (leT l + 1) / 2 := by
    rcases h2 with h2 | ⟨i, hi, h2⟩
    · omega
    · have := h.repD_near hi
      omega
  rcases Int.lt_or_le 0 (leT l) with hp | hp
  · obtain ⟨i, hi, hd⟩ := h.half (repD l) (fun i j hi hj hs => repD_anti l hi hj hs) hp
    have := h1 i hi
    omega
  · omega
/-- The repaired rows. -/
def repL (l : List S44) : List S44 := (List.range l.length).map (repV l)
theorem repL_length (l : List S44) : (repL l).length = l.length := by unfold repL; simp
theorem rd_repL (l : List S44) {i : Nat} (hi : i < l.length) : rd_T44 (repL l) (i : Int) = repV l i := by
  unfold rd_T44 repL
  rw [Int.toNat_natCast, List.getD_eq_getElem?_getD, List.getElem?_map, List.getElem?_range hi]
  rfl
/-- Rows of the same strengths, all densities within the limits, are right. -/
theorem RightR.same {l m : List S44} (h : RightR l) (hl : m.length = l.length) (hs : ∀ i, i < l.length → gs m i = gs l i) (hd : ∀ i, i < l.length → 50000 ≤ gd m i ∧ gd m i ≤ 120000) : RightR m := by
  refine ⟨by have := h.lo; omega, by have := h.hi; omega, fun i hi => ?_, fun i hi => ?_⟩
  · have h1 := h.row i (by omega)
    have h2 := hs i (by omega)
    have h3 := hd i (by omega)
    unfold gs at h2
    unfold gd at h3
    omega
  · have h1 := h.inc i (by omega)
    have h2 := hs i (by omega)
    have h3 := hs (i + 1) (by omega)
    unfold gs at h2 h3
    omega
theorem RightR.rep {l : List S44} (h : RightR l) : RightR (repL l) := by
  refine h.same (repL_length l) (fun i hi => ?_) (fun i hi => ?_)
  · unfold gs; rw [rd_repL l hi]; rfl
  · unfold gd; rw [rd_repL l hi]; exact h.repD_rng hi
/-- No contradiction means that no density grows with the strength. -/
theorem RightR.anti {m : List S44} (h : RightR m) (he : leT m ≤ 0) {i j : Nat} (hi : i < m.length) (hj : j < m.length) (hs : gs m i ≤ gs m j) : gd m j ≤ gd m i := by
  have := h.over hi hj hs
  omega
theorem leT_zero {m : List S44} (h : RightR m) (ha : ∀ i j, i < m.length → j < m.length → gs m i ≤ gs m j → gd m j ≤ gd m i) : leT m = 0 := by
  rcases leT_att m with e | ⟨i, j, hij, hj, e⟩
  · exact e
  · have h3 := h.mono (j - i) i (by omega)
    rw [show i + (j - i) = j by omega] at h3
    have h4 := ha i j (by omega) hj h3
    rw [e]
    unfold bey
    unfold gs at h3 ha
    unfold gd at h4 ha
    by_cases hs : (rd_T44 m (i : Int)).f0 = (rd_T44 m (j : Int)).f0
    · have h5 := ha j i hj (by omega) (by omega)
      rw [if_pos hs]
      unfold mx
      split <;> omega
    · rw [if_neg hs]
      unfold mx
      split <;> omega
theorem RightR.rep_zero {l : List S44} (h : RightR l) : leT (repL l) = 0 := by
  have hl := repL_length l
  refine leT_zero h.rep (fun i j hi hj hs => ?_)
  unfold gs at hs
  unfold gd
  rw [rd_repL l (by omega), rd_repL l (by omega)] at hs ⊢
  exact repD_anti l (by omega) (by omega) hs
theorem RightR.leT_le {l : List S44} (h : RightR l) : leT l ≤ 70000 := by
  rcases leT_att l with e | ⟨i, j, hij, hj, e⟩
  · omega
  · have := (h.bey_rng (show i < l.length by omega) hj).2
    omega
theorem rd_T_set_ (m : List S44) (i j : Nat) (v : S44) (hi : i < m.length) : rd_T44 (m.set i v) (j : Int) = if j = i then v else rd_T44 m (j : Int) := by
  unfold rd_T44
  rw [Int.toNat_natCast, List.getD_eq_getElem?_getD, List.getElem?_set, List.getD_eq_getElem?_getD]
  by_cases h : j = i
  · subst h; rw [if_pos rfl, if_pos rfl, if_pos hi]; rfl
  · rw [if_neg h, if_neg (Ne.symm h)]
/-- Rows of other densities, looked at up to one row; what changed most so far. -/
structure StO (l m : List S44) (i : Nat) (x : Int) : Prop where
  len : m.length = l.length
  s : ∀ j, j < l.length → gs m j = gs l j
  d : ∀ j, j < l.length → 50000 ≤ gd m j ∧ gd m j ≤ 120000
  x0 : 0 ≤ x ∧ x ≤ 120000
  near : ∀ j, j < i → gd m j - gd l j ≤ x ∧ gd l j - gd m j ≤ x
theorem StO.keep {l m : List S44} {i : Nat} {x : Int} (h : StO l m i x) (hl : RightR l) (hi : i < l.length) : StO l m (i + 1) (mx (mx x (gd m i - gd l i)) (gd l i - gd m i)) := by
  have g1 := mx_ge_ x (gd m i - gd l i)
  have g2 := mx_ge_ (mx x (gd m i - gd l i)) (gd l i - gd m i)
  have d1 := h.d i hi
  have d2 := hl.row i hi
  have x0 := h.x0
  refine ⟨h.len, h.s, h.d, ⟨by omega, ?_⟩, fun j hj => ?_⟩
  · unfold gd at *
    unfold mx
    split <;> (try split) <;> omega
  · rcases Nat.lt_or_ge j i with h3 | h3
    · have := h.near j h3
      omega
    · obtain rfl : j = i := by omega
      omega
theorem StO.put {l m : List S44} {i : Nat} {x : Int} (h : StO l m i x) (hi : i < l.length) {v : Int} (h0 : 50000 ≤ v) (h1 : v ≤ 120000) : StO l (m.set i ⟨(rd_T44 m (i : Int)).f0, v⟩) i x ∧ gd (m.set i ⟨(rd_T44 m (i : Int)).f0, v⟩) i = v := by
  have hlen := h.len
  have e : ∀ j : Nat, rd_T44 (m.set i ⟨(rd_T44 m (i : Int)).f0, v⟩) (j : Int) = if j = i then ⟨(rd_T44 m (i : Int)).f0, v⟩ else rd_T44 m (j : Int) := fun j => rd_T_set_ m i j _ (by omega)
  refine ⟨⟨by rw [List.length_set]; exact hlen, fun j hj => ?_, fun j hj => ?_, h.x0, fun j hj => ?_⟩, ?_⟩
  · have := h.s j hj
    unfold gs at this ⊢
    rw [e]
    split
    · rename_i q; subst q; exact this
    · exact this
  · have := h.d j hj
    unfold gd at this ⊢
    rw [e]
    split
    · exact ⟨h0, h1⟩
    · exact this
  · have := h.near j hj
    unfold gd at this ⊢
    rw [e, if_neg (by omega)]
    exact this
  · unfold gd
    rw [e, if_pos rfl]
theorem StO.right {l m : List S44} {i : Nat} {x : Int} (h : StO l m i x) (hl : RightR l) : RightR m := hl.same h.len h.s h.d
theorem StO.last {l m : List S44} {x : Int} (h : StO l m l.length x) (hl : RightR l) (he : leT m ≤ 0) : repC l l.length ≤ x := by
  rw [hl.repC_eq]
  have h0 := leT_nonneg l
  have hm := h.right hl
  have x0 := h.x0
  have hlen := h.len
  rcases Int.lt_or_le 0 (leT l) with hp | hp
  · obtain ⟨i, hi, hd⟩ := hl.half (gd m) (fun i j hi hj hs => hm.anti he (by omega) (by omega) (by rw [h.s i hi, h.s j hj]; exact hs)) hp
    have := h.near i hi
    omega
  · omega

end Go.Proofs.Ytcapbigknimgnaa.PF
