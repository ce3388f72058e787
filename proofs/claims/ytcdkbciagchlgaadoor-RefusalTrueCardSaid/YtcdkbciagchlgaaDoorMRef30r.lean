/- The reference's Check of orders and its excesses, in plain numbers. -/
import Derived.Test.YtcdkbciagchlgaaDoorMEv
import Derived.Test.YtcdkbciagchlgaaDoorMRef30
import Derived.Test.YtcdkbciagchlgaaDoorPF0
import Derived.Test.YtcdkbciagchlgaaDoorPF1
import Derived.Test.YtcdkbciagchlgaaDoorPF10
import Derived.Test.YtcdkbciagchlgaaDoorPF11
import Derived.Test.YtcdkbciagchlgaaDoorPF12
import Derived.Test.YtcdkbciagchlgaaDoorPF13
import Derived.Test.YtcdkbciagchlgaaDoorPF14
import Derived.Test.YtcdkbciagchlgaaDoorPF3
import Derived.Test.YtcdkbciagchlgaaDoorPF4
import Derived.Test.YtcdkbciagchlgaaDoorPF5
namespace Go.Proofs.YtcdkbciagchlgaaDoor.PF
open Go.RowKit Go.Proofs.YtcdkbciagchlgaaDoorW.PrintWords Go.Proofs.YtcdkbciagchlgaaDoorW.PrintLast Go.Proofs.YtcdkbciagchlgaaDoorW.PrintMore
set_option linter.unusedVariables false
set_option linter.unusedSimpArgs false
theorem ref29_j2 (p : Int) (b : Bool) : Ev (fun k => spileref29_Check.j2 k p b) (if b = true then 2 else if p > 4096 then 8 else 0) := by
  refine Ev.ret (fun k => ?_)
  simp only [spileref29_Check.j2]
  split
  · rfl
  · split <;> rfl
theorem ref29_l1 (L : List S45) {U C : List Int} (lo hi al : Int) (h4 : U.length ≤ 4) (hc : C.length = U.length) : ∀ (m i : Nat) (p : Int), i + m = U.length → p * prodU (U.drop i) = prodU U → 1 ≤ p → p ≤ 65 ^ i →
    ∃ e, Ev (fun k => spileref29_Check.l1 k p (i : Int) L U C lo hi al) e ∧ (e = 0 ↔ (∀ j : Nat, i ≤ j → j < U.length → (0 ≤ rd U (j : Int) ∧ rd U (j : Int) ≤ 64) ∧ 0 ≤ rd C (j : Int) ∧ rd C (j : Int) ≤ 1000000) ∧ 0 ≤ lo ∧ lo ≤ hi ∧ hi ≤ 10000 ∧ 1 ≤ al ∧ al ≤ 256 ∧ prodU U ≤ 4096)
  | 0, i, p, hi_, hp, h0, h1 => by
    have e : U.drop i = [] := List.drop_of_length_le (by omega)
    rw [e] at hp
    have e2 : p = prodU U := by rw [← hp]; show p = p * 1; omega
    have hall : ∀ j : Nat, i ≤ j → j < U.length → (0 ≤ rd U (j : Int) ∧ rd U (j : Int) ≤ 64) ∧ 0 ≤ rd C (j : Int) ∧ rd C (j : Int) ≤ 1000000 := fun j a b => by omega
    by_cases c : lo < 0 ∨ hi > 10000 ∨ lo > hi ∨ al < 1 ∨ al > 256
    · refine ⟨2, Ev.step (G := fun k => spileref29_Check.j2 k p true) (fun k => ?_) (ref29_j2 p true), ⟨fun h => absurd h (by decide), fun h => by omega⟩⟩
      simp only [spileref29_Check.l1]
      rw [if_neg (by omega)]
      by_cases a1 : lo < 0
      · rw [if_pos a1]
      rw [if_neg a1]
      by_cases a2 : hi > 10000
      · rw [if_pos a2]
      rw [if_neg a2]
      by_cases a3 : lo > hi
      · rw [if_pos a3]
      rw [if_neg a3]
      by_cases a4 : al < 1
      · rw [if_pos a4]
      rw [if_neg a4, decide_eq_true (show al > 256 by omega)]
    · refine ⟨_, Ev.step (G := fun k => spileref29_Check.j2 k p false) (fun k => ?_) (ref29_j2 p false), ?_⟩
      · simp only [spileref29_Check.l1]
        rw [if_neg (by omega), if_neg (by omega), if_neg (by omega), if_neg (by omega), if_neg (by omega), decide_eq_false (by omega)]
      · rw [if_neg (by decide), e2]
        split
        · exact ⟨fun h => absurd h (by decide), fun h => by omega⟩
        · exact ⟨fun _ => ⟨hall, by omega, by omega, by omega, by omega, by omega, by omega⟩, fun _ => rfl⟩
  | m + 1, i, p, hi_, hp, h0, h1 => by
    by_cases c : (0 ≤ rd U (i : Int) ∧ rd U (i : Int) ≤ 64) ∧ 0 ≤ rd C (i : Int) ∧ rd C (i : Int) ≤ 1000000
    case neg =>
      refine ⟨2, Ev.ret (fun k => ?_), ⟨fun h => absurd h (by decide), fun h => absurd (h.1 i (Nat.le_refl _) (by omega)) c⟩⟩
      simp only [spileref29_Check.l1]
      rw [if_pos (by omega), if_pos (by omega)]
      by_cases a1 : rd U (i : Int) < 0
      · rw [if_pos a1]
      rw [if_neg a1]
      by_cases a2 : rd U (i : Int) > 64
      · rw [if_pos a2]
      rw [if_neg a2, if_pos (by omega)]
      by_cases a3 : rd C (i : Int) < 0
      · rw [if_pos a3]
      rw [if_neg a3, if_pos (by omega)]
    obtain ⟨s1, s2, s3, s4⟩ := prod_step (U := U) (i := i) (p := p) (by omega) h4 c.1 hp h0 h1
    obtain ⟨e, he, hiff⟩ := ref29_l1 L lo hi al h4 hc m (i + 1) _ (by omega) s2 s3 s4
    refine ⟨e, Ev.step (fun k => ?_) he, hiff.trans ⟨fun h => ⟨fun j h1 h2 => ?_, h.2⟩, fun h => ⟨fun j h1 h2 => h.1 j (by omega) h2, h.2⟩⟩⟩
    · simp only [spileref29_Check.l1]
      rw [if_pos (by omega), if_pos (by omega), if_neg (by omega), if_neg (by omega), if_pos (by omega), if_neg (by omega), if_neg (by omega), w64_ (x := rd U (i : Int) + 1) (by omega) (by omega), s1, inc30 (n := U.length) (by omega) (by omega)]
    · rcases Nat.lt_or_ge i j with hh | hh
      · exact h.1 j (by omega) h2
      · obtain rfl : i = j := by omega
        exact c
theorem ref29_l0 {l : List S82} {L : List S45} {U C : List Int} (lo hi al : Int) (hn : L.length ≤ 4) (hu : U.length = L.length) (hc : C.length = L.length) : ∀ (m i : Nat), i + m = L.length →
    ∃ e, Ev (fun k => spileref29_Check.l0 k l (i : Int) L U C lo hi al) e ∧ (e = 0 ↔ (∀ j : Nat, i ≤ j → j < L.length → LiqOK l (rd_T45 L (j : Int)).f0 (rd_T45 L (j : Int)).f1 ∧ 1 ≤ (rd_T45 L (j : Int)).f1 ∧ (rd_T45 L (j : Int)).f1 ≤ 1000000000) ∧
      (∀ j : Nat, j < U.length → (0 ≤ rd U (j : Int) ∧ rd U (j : Int) ≤ 64) ∧ 0 ≤ rd C (j : Int) ∧ rd C (j : Int) ≤ 1000000) ∧ 0 ≤ lo ∧ lo ≤ hi ∧ hi ≤ 10000 ∧ 1 ≤ al ∧ al ≤ 256 ∧ prodU U ≤ 4096)
  | 0, i, hi_ => by
    obtain ⟨e, he, hiff⟩ := ref29_l1 L lo hi al (U := U) (C := C) (by omega) (by omega) U.length 0 1 (by omega) (by rw [List.drop_zero]; omega) (by decide) (by decide)
    refine ⟨e, Ev.step (fun k => ?_) he, hiff.trans ⟨fun h => ⟨fun j a b => by omega, fun j hj => h.1 j (Nat.zero_le _) hj, h.2⟩, fun h => ⟨fun j _ hj => h.2.1 j hj, h.2.2⟩⟩⟩
    simp only [spileref29_Check.l0]
    rw [if_neg (by omega)]
    rfl
  | m + 1, i, hi_ => by
    by_cases c : LiqOK l (rd_T45 L (i : Int)).f0 (rd_T45 L (i : Int)).f1 ∧ 1 ≤ (rd_T45 L (i : Int)).f1 ∧ (rd_T45 L (i : Int)).f1 ≤ 1000000000
    case neg =>
      refine ⟨1, Ev.ret (fun k => ?_), ⟨fun h => absurd h (by decide), fun h => absurd (h.1 i (Nat.le_refl _) (by omega)) c⟩⟩
      simp only [spileref29_Check.l0, spileref20_Check_s.f]
      rw [if_pos (by omega), if_pos (by omega), Option.bind_some]
      rw [← lchk_iff] at c
      by_cases a1 : lchk l (rd_T45 L (i : Int)).f0 (rd_T45 L (i : Int)).f1 = 0
      case neg => rw [if_neg a1]
      rw [if_pos a1]
      by_cases a2 : (rd_T45 L (i : Int)).f1 < 1
      · rw [if_pos a2]
      rw [if_neg a2, if_pos (by omega)]
    obtain ⟨e, he, hiff⟩ := ref29_l0 (l := l) lo hi al hn hu hc m (i + 1) (by omega)
    refine ⟨e, Ev.step (fun k => ?_) he, hiff.trans ⟨fun h => ⟨fun j h1 h2 => ?_, h.2⟩, fun h => ⟨fun j h1 h2 => h.1 j (by omega) h2, h.2⟩⟩⟩
    · simp only [spileref29_Check.l0, spileref20_Check_s.f]
      rw [if_pos (by omega), if_pos (by omega), Option.bind_some, if_pos ((lchk_iff l _ _).2 c.1), if_neg (by omega), if_neg (by omega), inc30 (n := L.length) (by omega) (by omega)]
    · rcases Nat.lt_or_ge i j with hh | hh
      · exact h.1 j (by omega) h2
      · obtain rfl : i = j := by omega
        exact c
theorem ref29_ev (l : List S82) (L : List S45) (U C : List Int) (lo hi al : Int) : ∃ e, Ev (fun k => spileref29_Check.f k l L U C lo hi al) e ∧ (e = 0 ↔ OrdOK l L U C lo hi al) := by
  by_cases hr : (dchk l).2 = 0
  case neg =>
    refine ⟨1, Ev.now (fun k => ?_), ⟨fun h => absurd h (by decide), fun h => absurd ((right_iff l).2 h.right) hr⟩⟩
    unfold spileref29_Check.f spileref16_Right.f spileref16_Check_s.f
    rw [Option.bind_some, Option.bind_some, beq_eq_false_iff_ne.2 hr, if_neg (by decide)]
  have e0 : spileref16_Right.f l = some true := by unfold spileref16_Right.f spileref16_Check_s.f; rw [Option.bind_some, hr]; rfl
  by_cases c : 0 < L.length ∧ L.length ≤ 4 ∧ U.length = L.length ∧ C.length = L.length
  case neg =>
    obtain ⟨e, he, hne⟩ : ∃ e, spileref29_sizes.f L U C lo hi al = some e ∧ e ≠ 0 := by
      unfold spileref29_sizes.f
      by_cases c1 : (L.length : Int) = 0
      · exact ⟨9, by rw [if_pos c1], by decide⟩
      by_cases c2 : (L.length : Int) > 4
      · exact ⟨8, by rw [if_neg c1, if_pos c2], by decide⟩
      by_cases c3 : (U.length : Int) = L.length
      · exact ⟨10, by rw [if_neg c1, if_neg c2, if_pos c3, if_neg (by omega)], by decide⟩
      · exact ⟨10, by rw [if_neg c1, if_neg c2, if_neg c3], by decide⟩
    refine ⟨e, Ev.now (fun k => ?_), ⟨fun h => absurd h hne, fun h => absurd ⟨h.n0, h.n4, h.lu, h.lc⟩ c⟩⟩
    unfold spileref29_Check.f
    rw [e0, Option.bind_some, if_pos rfl, he, Option.bind_some, if_neg hne]
  obtain ⟨c1, c2, c3, c4⟩ := c
  have e1 : spileref29_sizes.f L U C lo hi al = some 0 := by
    unfold spileref29_sizes.f
    rw [if_neg (by omega), if_neg (by omega), if_pos (by omega), if_pos (by omega)]
  obtain ⟨e, he, hiff⟩ := ref29_l0 (l := l) (L := L) (U := U) (C := C) lo hi al c2 c3 c4 L.length 0 (by omega)
  refine ⟨e, Ev.same (fun k => ?_) he, hiff.trans ⟨fun h => ⟨(right_iff l).1 hr, c1, c2, c3, c4, fun j hj => h.1 j (Nat.zero_le _) hj, fun j hj => (h.2.1 j (by omega)).1, fun j hj => (h.2.1 j (by omega)).2, h.2.2.1, h.2.2.2.1, h.2.2.2.2.1, h.2.2.2.2.2.1, h.2.2.2.2.2.2.1, h.2.2.2.2.2.2.2⟩, fun h => ⟨fun j _ hj => h.liq j hj, fun j hj => ⟨h.us j (by omega), h.cs j (by omega)⟩, h.lo0, h.lh, h.h1, h.al1, h.al2, h.pl⟩⟩⟩
  unfold spileref29_Check.f
  rw [e0, Option.bind_some, if_pos rfl, e1, Option.bind_some, if_pos rfl]
  rfl
section
variable {l : List S82} {L : List S45} {U C : List Int} {lo hi al : Int}
theorem rover_l0 (h : OrdOK l L U C lo hi al) {s : Int} (h0 : 0 ≤ s) (h1 : s ≤ 10000) : ∀ (m i : Nat), i + m = L.length → Ev (fun k => spileref30_over.l0 k l L s (tab i (ovr s (dens l s) L)) (i : Int)) (overS l L s)
  | 0, i, hi_ => Ev.ret (fun k => by
    simp only [spileref30_over.l0]
    rw [if_neg (by omega)]
    obtain rfl : i = L.length := by omega
    rfl)
  | m + 1, i, hi_ => Ev.step (fun k => by
    have hn := h.n4
    have hw := ((h.liq i (by omega)).1.ovr_rng (h.liq i (by omega)).2.2 h0 h1).2.2
    simp only [spileref30_over.l0]
    rw [if_pos (by omega), if_pos (by omega), h.right.at18s h0 h1, Option.bind_some, if_pos (by rw [tab_len]; omega), hw, inc30 (n := L.length) (by omega) (by omega)]
    show spileref30_over.l0 k l L s (tab i (ovr s (dens l s) L) ++ [ovr s (dens l s) L i]) _ = _
    rw [← tab_succ]) (rover_l0 h h0 h1 m (i + 1) (by omega))
theorem rover_ev (h : OrdOK l L U C lo hi al) {s : Int} (h0 : 0 ≤ s) (h1 : s ≤ 10000) : Ev (fun k => spileref30_over.f k l L s) (overS l L s) := rover_l0 h h0 h1 L.length 0 (by omega)
theorem rexcess_ev (h : OrdOK l L U C lo hi al) : Ev (fun k => spileref30_excess.f k l L U C lo hi al) (exLow l L lo, exHigh l L hi) := by
  have h1 := h.h1; have h2 := h.lh; have h3 := h.lo0
  unfold spileref30_excess.f
  refine Ev.bind (rover_ev h h3 (by omega)) ?_
  unfold exHigh exLow
  by_cases c : hi = 10000
  · simp only [if_neg (show ¬ hi < 10000 by omega), if_pos c]
    exact Ev.now fun _ => rfl
  · simp only [if_pos (show hi < 10000 by omega), if_neg c]
    rw [w64_ (x := hi + 1) (by omega) (by omega)]
    exact Ev.bind (rover_ev h (by omega) (by omega)) (Ev.now fun _ => rfl)
end
end Go.Proofs.YtcdkbciagchlgaaDoor.PF
