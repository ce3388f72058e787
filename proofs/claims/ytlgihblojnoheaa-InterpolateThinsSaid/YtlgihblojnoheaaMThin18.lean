/- Thin and Dense of package interpolate and of its reference return the same. -/
import Derived.Test.YtlgihblojnoheaaMEv
import Derived.Test.YtlgihblojnoheaaMInt18
import Derived.Test.YtlgihblojnoheaaPF0
import Derived.Test.YtlgihblojnoheaaPF1
import Derived.Test.YtlgihblojnoheaaPF10
import Derived.Test.YtlgihblojnoheaaPF15
import Derived.Test.YtlgihblojnoheaaPF16
import Derived.Test.YtlgihblojnoheaaPF17
import Derived.Test.YtlgihblojnoheaaPF5
import Derived.Test.YtlgihblojnoheaaPF6
import Derived.Test.YtlgihblojnoheaaPF7
import Derived.Test.YtlgihblojnoheaaPF8
namespace Go.Proofs.Ytlgihblojnoheaa.PF
open Go.RowKit Go.Proofs.YtlgihblojnoheaaW.PrintWords Go.Proofs.YtlgihblojnoheaaW.PrintLast Go.Proofs.YtlgihblojnoheaaW.PrintMore
set_option linter.unusedVariables false
set_option linter.unusedSimpArgs false
/-- Are the densities of a table those on a straight line, from one strength on? -/
def sameGo (l : List S34) (a b a' b' : Int) : Nat → Int → Bool
  | 0, _ => true
  | d + 1, s => if dens l s = segF a b a' b' s then sameGo l a b a' b' d (s + 1) else false
theorem interpolate_same.ev {l : List S34} (h : RightT l) {a b a' b' : Int} (h0 : 0 ≤ a) (h1 : a < a') (h2 : a' ≤ 10000) (hb0 : 0 ≤ b) (hb : b ≤ 120000) (hb0' : 0 ≤ b') (hb' : b' ≤ 120000) :
    ∀ (d : Nat) (s : Int), s + d = a' + 1 → a ≤ s → Ev (fun k => interpolate_same.l0 k l s a b a' b') (sameGo l a b a' b' d s) := by
  intro d
  induction d with
  | zero =>
    intro s hs ha
    refine Ev.ret (fun k => ?_)
    simp only [interpolate_same.l0]
    rw [if_neg (by omega)]
    rfl
  | succ d ih =>
    intro s hs ha
    simp only [sameGo]
    by_cases hc : dens l s = segF a b a' b' s
    · rw [if_pos hc]
      refine Ev.step (fun k => ?_) (ih (s + 1) (by omega) (by omega))
      simp only [interpolate_same.l0]
      rw [if_pos (by omega), h.at (by omega) (by omega), Option.bind_some, interpolate_between.plain h0 h1 h2 ha (by omega) hb0 hb hb0' hb', Option.bind_some, if_pos hc, w64_ (by omega) (by omega)]
    · rw [if_neg hc]
      refine Ev.ret (fun k => ?_)
      simp only [interpolate_same.l0]
      rw [if_pos (by omega), h.at (by omega) (by omega), Option.bind_some, interpolate_between.plain h0 h1 h2 ha (by omega) hb0 hb hb0' hb', Option.bind_some, if_neg hc]
theorem spileref18_same.ev {l u : List S34} (h : RightT l) (hu : RightT u) {a b a' b' : Int} (h0 : 0 ≤ a) (h2 : a' ≤ 10000) (hseg : ∀ s, a ≤ s → s ≤ a' → dens u s = segF a b a' b' s) :
    ∀ (d : Nat) (s : Int), s + d = a' + 1 → a ≤ s → Ev (fun k => spileref18_same.l0 k l u a' s) (sameGo l a b a' b' d s) := by
  intro d
  induction d with
  | zero =>
    intro s hs ha
    refine Ev.ret (fun k => ?_)
    simp only [spileref18_same.l0]
    rw [if_neg (by omega)]
    rfl
  | succ d ih =>
    intro s hs ha
    have e := hseg s ha (by omega)
    simp only [sameGo]
    by_cases hc : dens l s = segF a b a' b' s
    · rw [if_pos hc]
      refine Ev.step (fun k => ?_) (ih (s + 1) (by omega) (by omega))
      simp only [spileref18_same.l0]
      rw [if_pos (by omega), h.at18s (by omega) (by omega), Option.bind_some, hu.at18s (by omega) (by omega), Option.bind_some, if_pos (by rw [e]; exact hc), w64_ (by omega) (by omega)]
    · rw [if_neg hc]
      refine Ev.ret (fun k => ?_)
      simp only [spileref18_same.l0]
      rw [if_pos (by omega), h.at18s (by omega) (by omega), Option.bind_some, hu.at18s (by omega) (by omega), Option.bind_some, if_neg (by rw [e]; exact hc)]
/-! ### Rows of joined lists -/
theorem rd_left (xs ys : List S34) (q : Nat) (hq : q < xs.length) : rd_T34 (xs ++ ys) (q : Int) = rd_T34 xs (q : Int) := by
  unfold rd_T34
  rw [Int.toNat_natCast, List.getD_eq_getElem?_getD, List.getD_eq_getElem?_getD, List.getElem?_append_left hq]
theorem rd_right (xs ys : List S34) (q : Nat) : rd_T34 (xs ++ ys) ((xs.length + q : Nat) : Int) = rd_T34 ys (q : Int) := by
  unfold rd_T34
  rw [Int.toNat_natCast, Int.toNat_natCast, List.getD_eq_getElem?_getD, List.getD_eq_getElem?_getD, List.getElem?_append_right (by omega), show xs.length + q - xs.length = q by omega]
theorem rd_droped (l : List S34) (a b : Nat) : rd_T34 (l.drop a) (b : Int) = rd_T34 l ((a + b : Nat) : Int) := by
  unfold rd_T34
  rw [Int.toNat_natCast, Int.toNat_natCast, List.getD_eq_getElem?_getD, List.getD_eq_getElem?_getD, List.getElem?_drop]
theorem rd_is (l : List S34) (q : Nat) (hq : q < l.length) : rd_T34 l (q : Int) = l[q] := by
  unfold rd_T34
  rw [Int.toNat_natCast, List.getD_eq_getElem?_getD, List.getElem?_eq_getElem hq]
  rfl
/-- A right table without one of its inner rows is right. -/
theorem RightT.erase {xs zs : List S34} {y : S34} (h : RightT (xs ++ y :: zs)) (hx : 0 < xs.length) (hz : 0 < zs.length) : RightT (xs ++ zs) := by
  have hhi := h.hi
  have hlen : (xs ++ y :: zs).length = xs.length + zs.length + 1 := by simp; omega
  have hlen2 : (xs ++ zs).length = xs.length + zs.length := by simp
  have lo : ∀ q : Nat, q < xs.length → rd_T34 (xs ++ zs) (q : Int) = rd_T34 (xs ++ y :: zs) (q : Int) := fun q hq => by rw [rd_left _ _ _ hq, rd_left _ _ _ hq]
  have up : ∀ q : Nat, rd_T34 (xs ++ zs) ((xs.length + q : Nat) : Int) = rd_T34 (xs ++ y :: zs) ((xs.length + q + 1 : Nat) : Int) := fun q => by
    rw [rd_right, show xs.length + q + 1 = xs.length + (q + 1) by omega, rd_right]
    have := rd_right [y] zs q
    rw [show ([y] : List S34).length + q = q + 1 by simp; omega] at this
    exact this.symm
  refine ⟨by omega, by omega, fun i hi => ?_, fun i hi => ?_, fun i hi => ?_, ?_, ?_⟩
  · rcases Nat.lt_or_ge i xs.length with q | q
    · rw [lo i q]; exact h.rng i (by omega)
    · obtain ⟨d, rfl⟩ : ∃ d, i = xs.length + d := ⟨i - xs.length, by omega⟩
      rw [up d]; exact h.rng _ (by omega)
  · rw [show (i : Int) + 1 = ((i + 1 : Nat) : Int) by omega]
    rcases Nat.lt_or_ge (i + 1) xs.length with q | q
    · rw [lo i (by omega), lo (i + 1) q]; exact h.lt (by omega) (by omega)
    · obtain ⟨d, hd⟩ : ∃ d, i + 1 = xs.length + d := ⟨i + 1 - xs.length, by omega⟩
      rw [hd, up d]
      rcases Nat.lt_or_ge i xs.length with q2 | q2
      · rw [lo i q2]; exact h.lt (by omega) (by omega)
      · obtain ⟨e, he⟩ : ∃ e, i = xs.length + e := ⟨i - xs.length, by omega⟩
        rw [he, up e]; exact h.lt (by omega) (by omega)
  · have mono : ∀ a b : Nat, a ≤ b → b < (xs ++ y :: zs).length → (rd_T34 (xs ++ y :: zs) (b : Int)).f1 ≤ (rd_T34 (xs ++ y :: zs) (a : Int)).f1 := by
      intro a b hab
      obtain ⟨d, rfl⟩ : ∃ d, b = a + d := ⟨b - a, by omega⟩
      clear hab
      induction d with
      | zero => intro _; exact Int.le_refl _
      | succ d ih =>
        intro hb
        have h1 := ih (by omega)
        have h2 := h.dec (a + d) (by omega)
        rw [show ((a + d : Nat) : Int) + 1 = ((a + (d + 1) : Nat) : Int) by omega] at h2
        omega
    rw [show (i : Int) + 1 = ((i + 1 : Nat) : Int) by omega]
    rcases Nat.lt_or_ge (i + 1) xs.length with q | q
    · rw [lo i (by omega), lo (i + 1) q]; exact mono _ _ (by omega) (by omega)
    · obtain ⟨d, hd⟩ : ∃ d, i + 1 = xs.length + d := ⟨i + 1 - xs.length, by omega⟩
      rw [hd, up d]
      rcases Nat.lt_or_ge i xs.length with q2 | q2
      · rw [lo i q2]; exact mono _ _ (by omega) (by omega)
      · obtain ⟨e, he⟩ : ∃ e, i = xs.length + e := ⟨i - xs.length, by omega⟩
        rw [he, up e]; exact mono _ _ (by omega) (by omega)
  · have := h.first
    rw [show (0 : Int) = ((0 : Nat) : Int) from rfl] at this ⊢
    rw [lo 0 hx]
    exact this
  · have := h.last
    rw [hlen, show ((xs.length + zs.length + 1 : Nat) : Int) - 1 = ((xs.length + (zs.length - 1) + 1 : Nat) : Int) by omega, ← up] at this
    rw [hlen2, show ((xs.length + zs.length : Nat) : Int) - 1 = ((xs.length + (zs.length - 1) : Nat) : Int) by omega]
    exact this
def lastR (out : List S34) : S34 := rd_T34 out ((out.length : Int) - 1)
/-- The thinned table: rows j, j + 1, .. looked at, the last one kept. -/
def thG (l : List S34) : Nat → Nat → List S34 → List S34
  | 0, _, out => out ++ [rd_T34 l ((l.length : Int) - 1)]
  | d + 1, j, out => if sameGo l (lastR out).f0 (lastR out).f1 (rd_T34 l ((j + 1 : Nat) : Int)).f0 (rd_T34 l ((j + 1 : Nat) : Int)).f1 ((rd_T34 l ((j + 1 : Nat) : Int)).f0 - (lastR out).f0 + 1).toNat (lastR out).f0 = true
      then thG l d (j + 1) out else thG l d (j + 1) (out ++ [rd_T34 l (j : Int)])
structure Kept (l out : List S34) (j : Nat) : Prop where
  pos : 0 < out.length
  le : out.length ≤ j
  right : RightT (out ++ l.drop j)
theorem Kept.keep {l out : List S34} {j : Nat} (h : Kept l out j) (hj : j < l.length) : Kept l (out ++ [rd_T34 l (j : Int)]) (j + 1) := by
  refine ⟨by simp, by have := h.le; simp; omega, ?_⟩
  have e : out ++ [rd_T34 l (j : Int)] ++ l.drop (j + 1) = out ++ l.drop j := by
    rw [List.append_assoc, rd_is l j hj, List.drop_eq_getElem_cons hj]
    rfl
  rw [e]
  exact h.right
theorem Kept.skip {l out : List S34} {j : Nat} (h : Kept l out j) (hj : j + 1 < l.length) : Kept l out (j + 1) := by
  refine ⟨h.pos, by have := h.le; omega, ?_⟩
  have hr := h.right
  rw [List.drop_eq_getElem_cons (show j < l.length by omega)] at hr
  exact hr.erase h.pos (by rw [List.length_drop]; omega)
/-- What is known of the last kept row and the row behind the next one. -/
theorem Kept.facts {l out : List S34} {j : Nat} (h : Kept l out j) (hj : j + 1 < l.length) :
    0 ≤ (lastR out).f0 ∧ (lastR out).f0 < (rd_T34 l ((j + 1 : Nat) : Int)).f0 ∧ (rd_T34 l ((j + 1 : Nat) : Int)).f0 ≤ 10000 ∧ (0 ≤ (lastR out).f1 ∧ (lastR out).f1 ≤ 120000) ∧ (0 ≤ (rd_T34 l ((j + 1 : Nat) : Int)).f1 ∧ (rd_T34 l ((j + 1 : Nat) : Int)).f1 ≤ 120000) ∧
    (∀ s, (lastR out).f0 ≤ s → s ≤ (rd_T34 l ((j + 1 : Nat) : Int)).f0 → dens (out ++ l.drop (j + 1)) s = segF (lastR out).f0 (lastR out).f1 (rd_T34 l ((j + 1 : Nat) : Int)).f0 (rd_T34 l ((j + 1 : Nat) : Int)).f1 s) := by
  have hu := (h.skip hj).right
  have hp := h.pos
  have hlen : (out ++ l.drop (j + 1)).length = out.length + (l.length - (j + 1)) := by simp
  have e1 : rd_T34 (out ++ l.drop (j + 1)) ((out.length - 1 : Nat) : Int) = lastR out := by
    rw [rd_left _ _ _ (by omega)]
    unfold lastR
    rw [show ((out.length - 1 : Nat) : Int) = (out.length : Int) - 1 by omega]
  have e2 : rd_T34 (out ++ l.drop (j + 1)) ((out.length : Nat) : Int) = rd_T34 l ((j + 1 : Nat) : Int) := by
    have := rd_right out (l.drop (j + 1)) 0
    rw [Nat.add_zero, rd_droped, Nat.add_zero] at this
    exact this
  have r1 := hu.rng (out.length - 1) (by omega)
  have r2 := hu.rng out.length (by omega)
  have r3 := hu.lt (a := out.length - 1) (b := out.length) (by omega) (by omega)
  rw [e1] at r1 r3
  rw [e2] at r2 r3
  refine ⟨r1.1, r3, r2.2.1, ⟨by omega, by omega⟩, ⟨by omega, by omega⟩, fun s h0 h1 => ?_⟩
  have hs : InSeg (out ++ l.drop (j + 1)) s (out.length - 1) := by
    refine ⟨by omega, by rw [e1]; exact h0, ?_⟩
    rw [show ((out.length - 1 : Nat) : Int) + 1 = ((out.length : Nat) : Int) by omega, e2]
    exact h1
  rw [hu.dens_seg hs]
  unfold segL
  rw [show ((out.length - 1 : Nat) : Int) + 1 = ((out.length : Nat) : Int) by omega, e1, e2]
theorem interpolate_Thin.go {l : List S34} (h : RightT l) : ∀ (d j : Nat) (out : List S34), j + d = l.length - 1 → Kept l out j → Ev (fun k => interpolate_Thin.l0 k l out (j : Int)) (thG l d j out, 0) := by
  have hhi := h.hi
  have hlo := h.lo
  intro d
  induction d with
  | zero =>
    intro j out hj hK
    have hle := hK.le
    exact Ev.ret (fun k => thin_end k l out (j : Int) hhi (by omega) (by omega) (by omega))
  | succ d ih =>
    intro j out hj hK
    have hle := hK.le
    have hp := hK.pos
    obtain ⟨f0, f1, f2, f3, f4, _⟩ := hK.facts (by omega)
    obtain ⟨N, hN⟩ := interpolate_same.ev h f0 f1 f2 f3.1 f3.2 f4.1 f4.2 ((rd_T34 l ((j + 1 : Nat) : Int)).f0 - (lastR out).f0 + 1).toNat (lastR out).f0 (by omega) (Int.le_refl _)
    simp only [thG]
    cases hs : sameGo l (lastR out).f0 (lastR out).f1 (rd_T34 l ((j + 1 : Nat) : Int)).f0 (rd_T34 l ((j + 1 : Nat) : Int)).f1 ((rd_T34 l ((j + 1 : Nat) : Int)).f0 - (lastR out).f0 + 1).toNat (lastR out).f0 with
    | true =>
      rw [if_pos rfl]
      obtain ⟨M, hM⟩ := ih (j + 1) out (by omega) (hK.skip (by omega))
      refine ⟨N + M + 1, fun k hk => ?_⟩
      obtain ⟨q, rfl⟩ : ∃ q, k = q + 1 := ⟨k - 1, by omega⟩
      have e := hN q (by omega)
      rw [hs] at e
      show interpolate_Thin.l0 (q + 1) l out (j : Int) = _
      rw [thin_skip q l out (j : Int) hhi hp (by omega) (by omega) (by omega) e]
      exact hM q (by omega)
    | false =>
      rw [if_neg (by simp)]
      obtain ⟨M, hM⟩ := ih (j + 1) (out ++ [rd_T34 l (j : Int)]) (by omega) (hK.keep (by omega))
      refine ⟨N + M + 1, fun k hk => ?_⟩
      obtain ⟨q, rfl⟩ : ∃ q, k = q + 1 := ⟨k - 1, by omega⟩
      have e := hN q (by omega)
      rw [hs] at e
      show interpolate_Thin.l0 (q + 1) l out (j : Int) = _
      rw [thin_keep q l out (j : Int) hhi hp (by omega) (by omega) (by omega) e]
      exact hM q (by omega)
theorem ref_thin_step (k : Nat) (l cur : List S34) (i : Nat) (hl : cur.length ≤ 300) (h0 : 1 ≤ i) (h1 : i + 1 < cur.length) :
    spileref18_Thin.l0 (k + 1) l cur (i : Int) = ((spileref18_same.f k l (cur.take i ++ cur.drop (i + 1)) (rd_T34 cur ((i : Int) - 1)).f0 (rd_T34 cur ((i : Int) + 1)).f0).bind fun t252 => (if t252 = true then (spileref18_Thin.l0 k l (cur.take i ++ cur.drop (i + 1)) (i : Int)) else (spileref18_Thin.l0 k l cur ((i : Int) + 1)))) := by
  have l1 : (cur.take i).length = i := by rw [List.length_take]; omega
  have l2 : (cur.drop (i + 1)).length = cur.length - (i + 1) := List.length_drop
  simp only [spileref18_Thin.l0]
  rw [w64_ (x := (cur.length : Int) - 1) (by omega) (by omega), if_pos (by omega), Option.bind_some, if_pos (by omega), if_pos (by omega), Option.bind_some, Int.toNat_natCast, List.nil_append, if_pos (by rw [l1]; simp only [List.length_nil]; omega), Option.bind_some,
    w64_ (x := (i : Int) + 1) (by omega) (by omega), if_pos (by omega), if_pos (by omega), Option.bind_some, show ((i : Int) + 1).toNat = i + 1 by omega, if_pos (by omega), Option.bind_some, w64_ (x := (i : Int) - 1) (by omega) (by omega), if_pos (by omega), if_pos (by omega), if_pos (by omega)]
theorem ref_thin_end (k : Nat) (l cur : List S34) (i : Nat) (hl : cur.length ≤ 300) (h0 : 1 ≤ i) (h1 : cur.length ≤ i + 1) : spileref18_Thin.l0 (k + 1) l cur (i : Int) = some (cur, 0) := by
  simp only [spileref18_Thin.l0]
  rw [w64_ (x := (cur.length : Int) - 1) (by omega) (by omega), if_neg (by omega)]
theorem thin_t2 (l out : List S34) (j : Nat) : (out ++ l.drop j).drop (out.length + 1) = l.drop (j + 1) := by
  rw [← List.drop_drop, List.drop_left, List.drop_drop]
theorem spileref18_Thin.go {l : List S34} (h : RightT l) : ∀ (d j : Nat) (out : List S34), j + d = l.length - 1 → Kept l out j → Ev (fun k => spileref18_Thin.l0 k l (out ++ l.drop j) (out.length : Int)) (thG l d j out, 0) := by
  have hhi := h.hi
  have hlo := h.lo
  intro d
  induction d with
  | zero =>
    intro j out hj hK
    have hle := hK.le
    have e : l.drop j = [rd_T34 l ((l.length : Int) - 1)] := by
      rw [List.drop_eq_getElem_cons (show j < l.length by omega), List.drop_eq_nil_of_le (by omega), ← rd_is l j (by omega), show (j : Int) = (l.length : Int) - 1 by omega]
    rw [e]
    have hle2 : (out ++ [rd_T34 l ((l.length : Int) - 1)]).length = out.length + 1 := by simp
    exact Ev.ret (fun k => ref_thin_end k l _ out.length (by rw [hle2]; omega) hK.pos (by rw [hle2]; exact Nat.le_refl _))
  | succ d ih =>
    intro j out hj hK
    have hle := hK.le
    have hp := hK.pos
    have hu := (hK.skip (show j + 1 < l.length by omega)).right
    obtain ⟨f0, f1, f2, f3, f4, f5⟩ := hK.facts (by omega)
    obtain ⟨N, hN⟩ := spileref18_same.ev h hu f0 f2 f5 ((rd_T34 l ((j + 1 : Nat) : Int)).f0 - (lastR out).f0 + 1).toNat (lastR out).f0 (by omega) (Int.le_refl _)
    have t1 : (out ++ l.drop j).take out.length = out := List.take_left
    have e1 : rd_T34 (out ++ l.drop j) ((out.length : Int) - 1) = lastR out := by
      rw [show (out.length : Int) - 1 = ((out.length - 1 : Nat) : Int) by omega, rd_left _ _ _ (by omega)]
      unfold lastR
      rw [show ((out.length - 1 : Nat) : Int) = (out.length : Int) - 1 by omega]
    have e2 : rd_T34 (out ++ l.drop j) ((out.length : Int) + 1) = rd_T34 l ((j + 1 : Nat) : Int) := by
      have := rd_right out (l.drop j) 1
      rw [rd_droped] at this
      exact this
    have hlen : (out ++ l.drop j).length = out.length + (l.length - j) := by simp
    have step : ∀ k, spileref18_Thin.l0 (k + 1) l (out ++ l.drop j) (out.length : Int) = ((spileref18_same.f k l (out ++ l.drop (j + 1)) (lastR out).f0 (rd_T34 l ((j + 1 : Nat) : Int)).f0).bind fun t252 => (if t252 = true then (spileref18_Thin.l0 k l (out ++ l.drop (j + 1)) (out.length : Int)) else (spileref18_Thin.l0 k l (out ++ l.drop j) ((out.length : Int) + 1)))) := by
      intro k
      rw [ref_thin_step k l (out ++ l.drop j) out.length (by omega) hp (by omega), t1, thin_t2, e1, e2]
    simp only [thG]
    cases hs : sameGo l (lastR out).f0 (lastR out).f1 (rd_T34 l ((j + 1 : Nat) : Int)).f0 (rd_T34 l ((j + 1 : Nat) : Int)).f1 ((rd_T34 l ((j + 1 : Nat) : Int)).f0 - (lastR out).f0 + 1).toNat (lastR out).f0 with
    | true =>
      rw [if_pos rfl]
      obtain ⟨M, hM⟩ := ih (j + 1) out (by omega) (hK.skip (by omega))
      refine ⟨N + M + 1, fun k hk => ?_⟩
      obtain ⟨q, rfl⟩ : ∃ q, k = q + 1 := ⟨k - 1, by omega⟩
      have e := hN q (by omega)
      rw [hs] at e
      have e' : spileref18_same.f q l (out ++ l.drop (j + 1)) (lastR out).f0 (rd_T34 l ((j + 1 : Nat) : Int)).f0 = some true := e
      show spileref18_Thin.l0 (q + 1) l _ _ = _
      rw [step q, e', Option.bind_some, if_pos rfl]
      exact hM q (by omega)
    | false =>
      rw [if_neg (by simp)]
      obtain ⟨M, hM⟩ := ih (j + 1) (out ++ [rd_T34 l (j : Int)]) (by omega) (hK.keep (by omega))
      refine ⟨N + M + 1, fun k hk => ?_⟩
      obtain ⟨q, rfl⟩ : ∃ q, k = q + 1 := ⟨k - 1, by omega⟩
      have e := hN q (by omega)
      rw [hs] at e
      have e' : spileref18_same.f q l (out ++ l.drop (j + 1)) (lastR out).f0 (rd_T34 l ((j + 1 : Nat) : Int)).f0 = some false := e
      show spileref18_Thin.l0 (q + 1) l _ _ = _
      rw [step q, e', Option.bind_some, if_neg (by simp)]
      have hM' := hM q (by omega)
      have e3 : out ++ [rd_T34 l (j : Int)] ++ l.drop (j + 1) = out ++ l.drop j := by
        rw [List.append_assoc, rd_is l j (by omega), List.drop_eq_getElem_cons (show j < l.length by omega)]
        rfl
      have e4 : (((out ++ [rd_T34 l (j : Int)]).length : Nat) : Int) = (out.length : Int) + 1 := by simp
      rw [← hM']
      show _ = spileref18_Thin.l0 q l (out ++ [rd_T34 l (j : Int)] ++ l.drop (j + 1)) (((out ++ [rd_T34 l (j : Int)]).length : Nat) : Int)
      rw [e3, e4]
def thS (l : List S34) : List S34 × Int := if (dchk l).2 ≠ 0 then ([], 1) else (thG l (l.length - 2) 1 [rd_T34 l 0], 0)
theorem RightT.kept0 {l : List S34} (h : RightT l) : Kept l [rd_T34 l 0] 1 := by
  have hlo := h.lo
  refine ⟨by simp, by simp, ?_⟩
  have e : [rd_T34 l 0] ++ l.drop 1 = l := by
    have e0 := rd_is l 0 (by omega)
    rw [show ((0 : Nat) : Int) = 0 from rfl] at e0
    rw [e0]
    have := List.drop_eq_getElem_cons (show 0 < l.length by omega)
    rw [List.drop_zero] at this
    exact this.symm
  rw [e]
  exact h
theorem interpolate_Thin.ev (l : List S34) : Ev (fun k => interpolate_Thin.f k l) (thS l) := by
  unfold interpolate_Thin.f thS
  rw [right18]
  by_cases hr : (dchk l).2 = 0
  · have h := (right_iff l).1 hr
    have hlo := h.lo
    rw [if_neg (not_not_intro hr), beq_iff_eq.mpr hr]
    refine Ev.same (fun k => ?_) (interpolate_Thin.go h (l.length - 2) 1 [rd_T34 l 0] (by omega) h.kept0)
    rw [Option.bind_some, if_pos rfl, if_pos (by omega)]
    rfl
  · rw [if_pos hr, show ((dchk l).2 == 0) = false from beq_eq_false_iff_ne.mpr hr]
    exact Ev.now (fun k => rfl)
theorem spileref18_Thin.ev (l : List S34) : Ev (fun k => spileref18_Thin.f k l) (thS l) := by
  unfold spileref18_Thin.f thS
  rw [right16]
  by_cases hr : (dchk l).2 = 0
  · have h := (right_iff l).1 hr
    have hlo := h.lo
    have hhi := h.hi
    rw [if_neg (not_not_intro hr), beq_iff_eq.mpr hr]
    refine Ev.same (fun k => ?_) (spileref18_Thin.go h (l.length - 2) 1 [rd_T34 l 0] (by omega) h.kept0)
    rw [Option.bind_some, if_pos rfl, Option.bind_some, if_pos (by simp; omega), List.nil_append]
    have e : [rd_T34 l 0] ++ l.drop 1 = l := by
      have e0 := rd_is l 0 (by omega)
      rw [show ((0 : Nat) : Int) = 0 from rfl] at e0
      rw [e0]
      have := List.drop_eq_getElem_cons (show 0 < l.length by omega)
      rw [List.drop_zero] at this
      exact this.symm
    rw [e]
    rfl
  · rw [if_pos hr, show ((dchk l).2 == 0) = false from beq_eq_false_iff_ne.mpr hr]
    exact Ev.now (fun k => rfl)
/-! ### Dense -/
def dnG (l : List S34) (x : Int) : Nat → Int → List S34 → List S34
  | 0, _, out => out
  | q + 1, s, out => if s < 10000 then dnG l x q (s + x) (out ++ [(⟨s, dens l s⟩ : S34)]) else out ++ [rd_T34 l ((l.length : Int) - 1)]
def dnS (l : List S34) (x : Int) : List S34 × Int := if (dchk l).2 ≠ 0 then ([], 1) else if x < 1 ∨ 10000 < x then ([], 2) else if (10000 + x - 1) / x + 1 > 128 then ([], 8) else (dnG l x 10002 0 [], 0)
theorem interpolate_Dense.go {l : List S34} (h : RightT l) {x : Int} (hx : 1 ≤ x) (hx2 : x ≤ 10000) : ∀ (q : Nat) (s : Int) (out : List S34), 10000 - s < q → 0 ≤ s → s ≤ 20000 → out.length + q ≤ 20000 → 0 < q → Ev (fun k => interpolate_Dense.l0 k l x out s) (dnG l x q s out, 0) := by
  have hhi := h.hi
  have hlo := h.lo
  intro q
  induction q with
  | zero => intro s out _ _ _ _ h0; omega
  | succ q ih =>
    intro s out hq h0 h1 ho _
    simp only [dnG]
    by_cases hs : s < 10000
    · rw [if_pos hs]
      refine Ev.step (fun k => ?_) (ih (s + x) (out ++ [(⟨s, dens l s⟩ : S34)]) (by omega) (by omega) (by omega) (by simp; omega) (by omega))
      simp only [interpolate_Dense.l0]
      rw [if_pos hs, h.at (by omega) (by omega), Option.bind_some, if_pos (by omega), w64_ (by omega) (by omega)]
    · rw [if_neg hs]
      refine Ev.ret (fun k => ?_)
      simp only [interpolate_Dense.l0]
      rw [if_neg hs, w64_ (x := (l.length : Int) - 1) (by omega) (by omega), if_pos (by omega), if_pos (by omega), if_pos (by omega)]
theorem spileref18_Dense.go {l : List S34} (h : RightT l) {x : Int} (hx : 1 ≤ x) (hx2 : x ≤ 10000) : ∀ (q : Nat) (s : Int) (out : List S34), 10000 - s < q → 0 ≤ s → s ≤ 20000 → out.length + q ≤ 20000 → 0 < q → Ev (fun k => spileref18_Dense.l0 k l x out s) (dnG l x q s out, 0) := by
  have hhi := h.hi
  have hlo := h.lo
  intro q
  induction q with
  | zero => intro s out _ _ _ _ h0; omega
  | succ q ih =>
    intro s out hq h0 h1 ho _
    simp only [dnG]
    by_cases hs : s < 10000
    · rw [if_pos hs]
      refine Ev.step (fun k => ?_) (ih (s + x) (out ++ [(⟨s, dens l s⟩ : S34)]) (by omega) (by omega) (by omega) (by simp; omega) (by omega))
      simp only [spileref18_Dense.l0]
      rw [if_pos hs, h.at18s (by omega) (by omega), Option.bind_some, if_pos (by omega), w64_ (by omega) (by omega)]
    · rw [if_neg hs]
      refine Ev.ret (fun k => ?_)
      simp only [spileref18_Dense.l0]
      rw [if_neg hs, w64_ (x := (l.length : Int) - 1) (by omega) (by omega), if_pos (by omega), if_pos (by omega), if_pos (by omega)]
theorem many18 {x : Int} (hx : 1 ≤ x) (hx2 : x ≤ 10000) : wrap64 (wrap64 (Int.tdiv (wrap64 (wrap64 (10000 + x) - 1)) x) + 1) = (10000 + x - 1) / x + 1 := by
  have d0 : 0 ≤ (10000 + x - 1) / x := Int.ediv_nonneg (by omega) (by omega)
  have d1 : (10000 + x - 1) / x ≤ 10000 + x - 1 := Int.ediv_le_self _ (by omega)
  rw [w64_ (x := 10000 + x) (by omega) (by omega), w64_ (x := 10000 + x - 1) (by omega) (by omega), Int.tdiv_eq_ediv_of_nonneg (by omega), w64_ (x := (10000 + x - 1) / x) (by omega) (by omega), w64_ (by omega) (by omega)]
theorem interpolate_Dense.ev (l : List S34) (x : Int) : Ev (fun k => interpolate_Dense.f k l x) (dnS l x) := by
  unfold interpolate_Dense.f dnS
  rw [right18]
  by_cases hr : (dchk l).2 = 0
  · have h := (right_iff l).1 hr
    rw [if_neg (not_not_intro hr), beq_iff_eq.mpr hr]
    by_cases h1 : x < 1
    · rw [if_pos (Or.inl h1)]
      exact Ev.ret (fun k => by rw [Option.bind_some, if_pos rfl, if_pos h1]; simp only [interpolate_Dense.j0, if_true])
    by_cases h2 : x > 10000
    · rw [if_pos (Or.inr h2)]
      exact Ev.ret (fun k => by rw [Option.bind_some, if_pos rfl, if_neg h1, decide_eq_true h2]; simp only [interpolate_Dense.j0, if_true])
    rw [if_neg (by omega)]
    by_cases h3 : (10000 + x - 1) / x + 1 > 128
    · rw [if_pos h3]
      refine Ev.ret (fun k => ?_)
      rw [Option.bind_some, if_pos rfl, if_neg h1, decide_eq_false h2]
      simp only [interpolate_Dense.j0, Bool.false_eq_true, if_false]
      rw [if_neg (by omega), many18 (by omega) (by omega), if_pos h3]
    · rw [if_neg h3]
      refine Ev.step (fun k => ?_) (interpolate_Dense.go h (x := x) (by omega) (by omega) 10002 0 [] (by omega) (by omega) (by omega) (by simp) (by omega))
      rw [Option.bind_some, if_pos rfl, if_neg h1, decide_eq_false h2]
      simp only [interpolate_Dense.j0, Bool.false_eq_true, if_false]
      rw [if_neg (by omega), many18 (by omega) (by omega), if_neg h3]
  · rw [if_pos hr, show ((dchk l).2 == 0) = false from beq_eq_false_iff_ne.mpr hr]
    exact Ev.now (fun k => rfl)
theorem spileref18_Dense.ev (l : List S34) (x : Int) : Ev (fun k => spileref18_Dense.f k l x) (dnS l x) := by
  unfold spileref18_Dense.f dnS
  rw [right16]
  by_cases hr : (dchk l).2 = 0
  · have h := (right_iff l).1 hr
    rw [if_neg (not_not_intro hr), beq_iff_eq.mpr hr]
    by_cases h1 : x < 1
    · rw [if_pos (Or.inl h1)]
      exact Ev.ret (fun k => by rw [Option.bind_some, if_pos rfl, if_pos h1]; simp only [spileref18_Dense.j0, if_true])
    by_cases h2 : x > 10000
    · rw [if_pos (Or.inr h2)]
      exact Ev.ret (fun k => by rw [Option.bind_some, if_pos rfl, if_neg h1, decide_eq_true h2]; simp only [spileref18_Dense.j0, if_true])
    rw [if_neg (by omega)]
    by_cases h3 : (10000 + x - 1) / x + 1 > 128
    · rw [if_pos h3]
      refine Ev.ret (fun k => ?_)
      rw [Option.bind_some, if_pos rfl, if_neg h1, decide_eq_false h2]
      simp only [spileref18_Dense.j0, Bool.false_eq_true, if_false]
      rw [if_neg (by omega), many18 (by omega) (by omega), if_pos h3]
    · rw [if_neg h3]
      refine Ev.step (fun k => ?_) (spileref18_Dense.go h (x := x) (by omega) (by omega) 10002 0 [] (by omega) (by omega) (by omega) (by simp) (by omega))
      rw [Option.bind_some, if_pos rfl, if_neg h1, decide_eq_false h2]
      simp only [spileref18_Dense.j0, Bool.false_eq_true, if_false]
      rw [if_neg (by omega), many18 (by omega) (by omega), if_neg h3]
  · rw [if_pos hr, show ((dchk l).2 == 0) = false from beq_eq_false_iff_ne.mpr hr]
    exact Ev.now (fun k => rfl)
theorem dnG_length (l : List S34) (x : Int) : ∀ (q : Nat) (s : Int) (out : List S34), (dnG l x q s out).length ≤ out.length + q := by
  intro q
  induction q with
  | zero => intro _ _; exact Nat.le_refl _
  | succ q ih =>
    intro s out
    simp only [dnG]
    split
    · have := ih (s + x) (out ++ [(⟨s, dens l s⟩ : S34)])
      rw [List.length_append, List.length_singleton] at this
      omega
    · simp
theorem dnS_length (l : List S34) (x : Int) : (dnS l x).1.length ≤ 20000 := by
  unfold dnS
  split
  · simp
  · split
    · simp
    · split
      · simp
      · have := dnG_length l x 10002 0 []
        simp only [List.length_nil] at this
        show (dnG l x 10002 0 []).length ≤ 20000
        omega
theorem thG_length (l : List S34) : ∀ (d j : Nat) (out : List S34), (thG l d j out).length ≤ out.length + d + 1 := by
  intro d
  induction d with
  | zero => intro _ _; simp [thG]
  | succ d ih =>
    intro j out
    simp only [thG]
    split
    · have := ih (j + 1) out
      omega
    · have := ih (j + 1) (out ++ [rd_T34 l (j : Int)])
      rw [List.length_append, List.length_singleton] at this
      omega
theorem thS_length (l : List S34) : (thS l).1.length ≤ 20000 := by
  unfold thS
  by_cases hr : (dchk l).2 = 0
  · have hhi := ((right_iff l).1 hr).hi
    rw [if_neg (not_not_intro hr)]
    have := thG_length l (l.length - 2) 1 [rd_T34 l 0]
    simp only [List.length_singleton] at this
    show (thG l (l.length - 2) 1 [rd_T34 l 0]).length ≤ 20000
    omega
  · rw [if_pos hr]
    simp
theorem spileref16_Same.same (x : List S34) (hx : x.length ≤ 20000) : Ev (fun k => spileref16_Same.f k x x) true := by
  have key : ∀ d i : Nat, i + d = x.length → Ev (fun k => spileref16_Same.l0 k x x (i : Int)) true := by
    intro d
    induction d with
    | zero =>
      intro i hi
      refine Ev.ret (fun k => ?_)
      simp only [spileref16_Same.l0]
      rw [if_neg (by omega)]
    | succ d ih =>
      intro i hi
      refine Ev.step (fun k => ?_) (ih (i + 1) (by omega))
      simp only [spileref16_Same.l0]
      rw [if_pos (by omega), if_pos (by omega), if_pos (by omega), if_neg (by simp), w64_ (by omega) (by omega)]
      rfl
  unfold spileref16_Same.f
  exact Ev.same (fun k => by rw [if_pos rfl]; rfl) (key x.length 0 (by omega))

end Go.Proofs.Ytlgihblojnoheaa.PF
