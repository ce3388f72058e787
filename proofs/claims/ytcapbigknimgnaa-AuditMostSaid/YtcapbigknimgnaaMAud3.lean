/- What the functions of package audit and of its reference return, in plain numbers: the largest choice. -/
import Derived.Test.YtcapbigknimgnaaMAud
import Derived.Test.YtcapbigknimgnaaMAud2
import Derived.Test.YtcapbigknimgnaaMEv
import Derived.Test.YtcapbigknimgnaaPF0
import Derived.Test.YtcapbigknimgnaaPF1
import Derived.Test.YtcapbigknimgnaaPF15
import Derived.Test.YtcapbigknimgnaaPF16
import Derived.Test.YtcapbigknimgnaaPF21
import Derived.Test.YtcapbigknimgnaaPF6
import Derived.Test.YtcapbigknimgnaaPF7
namespace Go.Proofs.Ytcapbigknimgnaa.PF
open Go.RowKit Go.Proofs.YtcapbigknimgnaaW.PrintWords Go.Proofs.YtcapbigknimgnaaW.PrintLast Go.Proofs.YtcapbigknimgnaaW.PrintMore
set_option linter.unusedVariables false
set_option linter.unusedSimpArgs false
theorem rd_set_ (x : List Int) (i j : Nat) (v : Int) (hi : i < x.length) : rd (x.set i v) (j : Int) = if j = i then v else rd x (j : Int) := by
  unfold rd
  rw [Int.toNat_natCast, List.getD_eq_getElem?_getD, List.getElem?_set, List.getD_eq_getElem?_getD]
  by_cases h : j = i
  · subst h; rw [if_pos rfl, if_pos rfl, if_pos hi]; rfl
  · rw [if_neg h, if_neg (Ne.symm h)]
/-- How many rows a choice has that begins with each one: one row more is looked at. -/
def lnStep (l : List S44) (i : Nat) (V : Nat → Int) (j : Nat) : Nat → Int := fun m => if m = i then (if bey l i j = 0 then mx (V i) (1 + V j) else V i) else V m
def lnInit (i : Nat) (V : Nat → Int) : Nat → Int := fun m => if m = i then 1 else V m
def lnRow (l : List S44) (i : Nat) : Nat → Nat → (Nat → Int) → (Nat → Int)
  | 0, _, V => V
  | d + 1, j, V => lnRow l i d (j + 1) (lnStep l i V j)
def lnAll (l : List S44) : Nat → (Nat → Int) → (Nat → Int)
  | 0, V => V
  | i + 1, V => lnAll l i (lnRow l i (l.length - (i + 1)) (i + 1) (lnInit i V))
def lnS (l : List S44) : Nat → Int := lnAll l l.length (fun _ => 0)
structure Rel (n L : Nat) (x : List Int) (V : Nat → Int) : Prop where
  len : x.length = L
  le : n ≤ L
  val : ∀ m : Nat, m < n → rd x (m : Int) = V m
  rng : ∀ m : Nat, m < n → 0 ≤ V m ∧ V m ≤ (n : Int) - m
theorem Rel.step {l : List S44} {n L i j : Nat} {x : List Int} {V : Nat → Int} (h : Rel n L x V) (hij : i < j) (hj : j < n) : Rel n L (if bey l i j = 0 then x.set i (mx (V i) (1 + V j)) else x) (lnStep l i V j) := by
  have hL := h.len
  have hle := h.le
  refine ⟨?_, hle, fun m hm => ?_, fun m hm => ?_⟩
  · split
    · rw [List.length_set]; exact hL
    · exact hL
  · unfold lnStep
    split
    · rw [rd_set_ _ _ _ _ (by omega)]
      split
      · rfl
      · exact h.val m hm
    · rw [h.val m hm]
      split
      · rename_i e; rw [e]
      · rfl
  · unfold lnStep
    have r0 := h.rng i (by omega)
    have r1 := h.rng j hj
    have r2 := h.rng m hm
    split
    · rename_i e
      subst e
      unfold mx
      split
      · split <;> omega
      · omega
    · exact r2
theorem Rel.init {n L i : Nat} {x : List Int} {V : Nat → Int} (h : Rel n L x V) (hi : i < n) : Rel n L (x.set i 1) (lnInit i V) := by
  have hL := h.len
  have hle := h.le
  refine ⟨by rw [List.length_set]; exact hL, hle, fun m hm => ?_, fun m hm => ?_⟩
  · rw [rd_set_ _ _ _ _ (by omega)]
    unfold lnInit
    split
    · rfl
    · exact h.val m hm
  · unfold lnInit
    have := h.rng m hm
    split <;> omega
theorem audit_Largest.lens {l : List S44} (h : RightR l) {ρ : List Int × Int} (i : Nat) : i ≤ l.length → ∀ (x : List Int) (V : Nat → Int), Rel l.length 128 x V →
    (∀ x', Rel l.length 128 x' (lnAll l i V) → Ev (fun k => audit_Largest.l0 k l x' (-1)) ρ) → Ev (fun k => audit_Largest.l0 k l x ((i : Int) - 1)) ρ := by
  have hn := h.hi
  induction i with
  | zero => exact fun _ x V hR hK => hK x hR
  | succ i ih =>
    intro hi x V hR hK
    refine Ev.step (G := fun k => audit_Largest.l1 k l (x.set i 1) (i : Int) ((i + 1 : Nat) : Int)) (fun k => ?_) ?_
    · have hL := hR.len
      simp only [audit_Largest.l0]
      rw [show ((i + 1 : Nat) : Int) - 1 = (i : Int) by omega, if_pos (by omega), if_pos (by omega), if_pos (by omega), w64_ (by omega) (by omega), Int.toNat_natCast]
      rfl
    · have hrow : ∀ d j, j + d = l.length → i < j → ∀ (x : List Int) (V : Nat → Int), Rel l.length 128 x V → (∀ x', Rel l.length 128 x' (lnRow l i d j V) → Ev (fun k => audit_Largest.l0 k l x' ((i : Int) - 1)) ρ) →
          Ev (fun k => audit_Largest.l1 k l x (i : Int) (j : Int)) ρ := by
        intro d
        induction d with
        | zero =>
          intro j hj hij x V hR hK
          refine Ev.step (fun k => ?_) (hK x hR)
          simp only [audit_Largest.l1]
          rw [if_neg (by omega), w64_ (by omega) (by omega)]
        | succ d ihd =>
          intro j hj hij x V hR hK
          refine Ev.step (fun k => ?_) (ihd (j + 1) (by omega) (by omega) _ _ (hR.step (l := l) hij (show j < l.length by omega)) hK)
          have hL := hR.len
          have v0 := hR.val i (by omega)
          have v1 := hR.val j (by omega)
          have r1 := hR.rng j (by omega)
          simp only [audit_Largest.l1]
          rw [if_pos (by omega), if_pos (by omega), if_pos (by omega), if_pos (by omega), h.beyond (by omega) (by omega)]
          simp only [Option.bind_some]
          rw [w64_ (x := (j : Int) + 1) (by omega) (by omega)]
          by_cases hb : bey l i j = 0
          · rw [if_pos hb, if_pos hb, if_pos (by omega), if_pos (by omega), v0, v1, w64_ (by omega) (by omega), Int.toNat_natCast]
            rfl
          · rw [if_neg hb, if_neg hb]
            rfl
      exact hrow (l.length - (i + 1)) (i + 1) (by omega) (by omega) _ _ (hR.init (by omega)) (fun x' hR' => ih (by omega) x' _ hR' hK)
theorem spileref17_lengths.lens {l : List S44} (h : RightR l) (i : Nat) : i ≤ l.length → ∀ (x : List Int) (V : Nat → Int), Rel l.length l.length x V →
    ∃ x', Rel l.length l.length x' (lnAll l i V) ∧ Ev (fun k => spileref17_lengths.l0 k l x ((i : Int) - 1)) x' := by
  have hn := h.hi
  induction i with
  | zero =>
    intro _ x V hR
    refine ⟨x, hR, Ev.ret (fun k => ?_)⟩
    simp only [spileref17_lengths.l0]
    rw [if_neg (by omega)]
  | succ i ih =>
    intro hi x V hR
    have hrow : ∀ d j, j + d = l.length → i < j → ∀ (x : List Int) (V : Nat → Int), Rel l.length l.length x V → ∃ x', Rel l.length l.length x' (lnRow l i d j V) ∧ ∀ y, Ev (fun k => spileref17_lengths.l0 k l x' ((i : Int) - 1)) y →
        Ev (fun k => spileref17_lengths.l1 k l x (i : Int) (j : Int)) y := by
      intro d
      induction d with
      | zero =>
        intro j hj hij x V hR
        refine ⟨x, hR, fun y hy => Ev.step (fun k => ?_) hy⟩
        simp only [spileref17_lengths.l1]
        rw [if_neg (by omega), w64_ (by omega) (by omega)]
      | succ d ihd =>
        intro j hj hij x V hR
        obtain ⟨x', hx', hk⟩ := ihd (j + 1) (by omega) (by omega) _ _ (hR.step (l := l) hij (show j < l.length by omega))
        refine ⟨x', hx', fun y hy => Ev.step (fun k => ?_) (hk y hy)⟩
        have hL := hR.len
        have v0 := hR.val i (by omega)
        have v1 := hR.val j (by omega)
        have r1 := hR.rng j (by omega)
        obtain ⟨c, hc, hm⟩ := h.clash (show i < l.length by omega) (show j < l.length by omega)
        have hx : c ≤ 0 ↔ bey l i j = 0 := by rw [← hm]; unfold mx; split <;> omega
        simp only [spileref17_lengths.l1]
        rw [if_pos (by omega), if_pos (by omega), if_pos (by omega), if_pos (by omega), hc]
        simp only [Option.bind_some]
        rw [w64_ (x := (j : Int) + 1) (by omega) (by omega)]
        by_cases hb : bey l i j = 0
        · rw [if_pos (hx.2 hb), if_pos hb, if_pos (by omega), if_pos (by omega), v0, v1, w64_ (x := V j + 1) (by omega) (by omega), Int.toNat_natCast]
          unfold mx
          by_cases hg : V j + 1 > V i
          · rw [if_pos hg, if_pos (by omega), Int.add_comm (V j) 1]; rfl
          · rw [if_neg hg, if_neg (by omega)]
            have e : x.set i (V i) = x := by
              apply List.ext_getElem?
              intro m
              rw [List.getElem?_set]
              split
              · rename_i e
                subst e
                rw [if_pos (by omega)]
                have v2 := v0
                unfold rd at v2
                rw [Int.toNat_natCast, List.getD_eq_getElem?_getD] at v2
                rw [← v2, List.getElem?_eq_getElem (by omega)]
                rfl
              · rfl
            rw [e]
            rfl
        · rw [if_neg (fun e => hb (hx.1 e)), if_neg hb]
          rfl
    obtain ⟨x1, hx1, hk1⟩ := hrow (l.length - (i + 1)) (i + 1) (by omega) (by omega) _ _ (hR.init (show i < l.length by omega))
    obtain ⟨x2, hx2, hk2⟩ := ih (by omega) x1 _ hx1
    refine ⟨x2, hx2, Ev.step (fun k => ?_) (hk1 x2 hk2)⟩
    have hL := hR.len
    simp only [spileref17_lengths.l0]
    rw [show ((i + 1 : Nat) : Int) - 1 = (i : Int) by omega, if_pos (by omega), if_pos (by omega), if_pos (by omega), w64_ (by omega) (by omega), Int.toNat_natCast]
    rfl
def mxV (V : Nat → Int) : Nat → Int
  | 0 => 0
  | m + 1 => mx (mxV V m) (V m)
/-- Does a row follow the last one that was chosen? -/
def gOK (l : List S44) (out : List Int) (i : Nat) : Bool := match out.getLast? with
  | none => true
  | some a => decide (bey l a.toNat i = 0)
/-- The choice: rows of the wanted lengths, one after the other. -/
def grGo (l : List S44) (V : Nat → Int) : Nat → Nat → Int → List Int → List Int
  | 0, _, _, out => out
  | d + 1, i, left, out => if V i = left ∧ gOK l out i = true then grGo l V d (i + 1) (left - 1) (out ++ [(i : Int)]) else grGo l V d (i + 1) left out
def lgS (l : List S44) : List Int × Int := if (rchk l).2 ≠ 0 then ([], 1) else (grGo l (lnS l) l.length 0 (mxV (lnS l) l.length) [], 0)
theorem rd_last {out : List Int} {a : Int} (h : out.getLast? = some a) : rd out ((out.length : Int) - 1) = a := by
  unfold rd
  rw [List.getLast?_eq_getElem?] at h
  rw [show ((out.length : Int) - 1).toNat = out.length - 1 by omega, List.getD_eq_getElem?_getD, h]
  rfl
theorem audit_Largest.greedy {l : List S44} (h : RightR l) {x : List Int} {V : Nat → Int} (hR : Rel l.length 128 x V) : ∀ (d i : Nat), i + d = l.length → ∀ (left : Int) (out : List Int), out.length ≤ i → -10000 + d ≤ left → left ≤ 10000 →
    (∀ a, out.getLast? = some a → 0 ≤ a ∧ a < l.length) → Ev (fun k => audit_Largest.l2 k l x left out (l.length : Int) (i : Int)) (grGo l V d i left out, 0) := by
  have hn := h.hi
  have hL := hR.len
  intro d
  induction d with
  | zero =>
    intro i hi left out _ _ _ _
    refine Ev.ret (fun k => ?_)
    simp only [audit_Largest.l2]
    rw [if_neg (by omega)]
    rfl
  | succ d ih =>
    intro i hi left out ho h1 h2 hg
    have v0 := hR.val i (by omega)
    have hnext : ∀ a, (out ++ [(i : Int)]).getLast? = some a → 0 ≤ a ∧ a < l.length := by
      intro a ha
      rw [List.getLast?_concat] at ha
      injection ha with ha
      omega
    simp only [grGo]
    by_cases hv : V i = left
    · rcases hl : out.getLast? with _ | a
      · have hz : out = [] := List.getLast?_eq_none_iff.1 hl
        have hk : gOK l out i = true := by unfold gOK; rw [hl]
        rw [if_pos ⟨hv, hk⟩]
        refine Ev.step (fun k => ?_) (ih (i + 1) (by omega) (left - 1) (out ++ [(i : Int)]) (by rw [List.length_append, List.length_singleton]; omega) (by omega) (by omega) hnext)
        simp only [audit_Largest.l2]
        rw [if_pos (by omega), if_pos (by omega), if_pos (by omega), v0, if_pos hv, if_pos (by rw [hz]; rfl), if_pos (by omega), w64_ (by omega) (by omega), w64_ (by omega) (by omega)]
        rfl
      · have hlen : 0 < out.length := by
          rcases Nat.eq_zero_or_pos out.length with e | e
          · rw [List.length_eq_zero_iff.1 e] at hl; exact absurd hl (by simp)
          · exact e
        obtain ⟨g0, g1⟩ := hg a hl
        have ea : ((a.toNat : Nat) : Int) = a := by omega
        have hb := h.beyond (show a.toNat < l.length by omega) (show i < l.length by omega)
        rw [ea] at hb
        have hlast := rd_last hl
        by_cases hc : bey l a.toNat i = 0
        · have hk : gOK l out i = true := by unfold gOK; rw [hl]; exact decide_eq_true hc
          rw [if_pos ⟨hv, hk⟩]
          refine Ev.step (fun k => ?_) (ih (i + 1) (by omega) (left - 1) (out ++ [(i : Int)]) (by rw [List.length_append, List.length_singleton]; omega) (by omega) (by omega) hnext)
          simp only [audit_Largest.l2]
          rw [if_pos (by omega), if_pos (by omega), if_pos (by omega), v0, if_pos hv, if_neg (by omega), w64_ (x := (out.length : Int) - 1) (by omega) (by omega), hlast, if_pos (by omega), if_pos (by omega), if_pos (by omega), if_pos (by omega), if_pos (by omega), hb]
          simp only [Option.bind_some]
          rw [if_pos hc, if_pos (by omega), w64_ (by omega) (by omega), w64_ (by omega) (by omega)]
          rfl
        · have hk : ¬ gOK l out i = true := by unfold gOK; rw [hl]; simpa using hc
          rw [if_neg (fun e => hk e.2)]
          refine Ev.step (fun k => ?_) (ih (i + 1) (by omega) left out (by omega) (by omega) (by omega) hg)
          simp only [audit_Largest.l2]
          rw [if_pos (by omega), if_pos (by omega), if_pos (by omega), v0, if_pos hv, if_neg (by omega), w64_ (x := (out.length : Int) - 1) (by omega) (by omega), hlast, if_pos (by omega), if_pos (by omega), if_pos (by omega), if_pos (by omega), if_pos (by omega), hb]
          simp only [Option.bind_some]
          rw [if_neg hc, w64_ (by omega) (by omega)]
          rfl
    · rw [if_neg (fun e => hv e.1)]
      refine Ev.step (fun k => ?_) (ih (i + 1) (by omega) left out (by omega) (by omega) (by omega) hg)
      simp only [audit_Largest.l2]
      rw [if_pos (by omega), if_pos (by omega), if_pos (by omega), v0, if_neg hv, w64_ (by omega) (by omega)]
      rfl
theorem spileref17_Largest.greedy {l : List S44} (h : RightR l) {x : List Int} {V : Nat → Int} (hR : Rel l.length l.length x V) : ∀ (d i : Nat), i + d = l.length → ∀ (left : Int) (out : List Int), out.length ≤ i → -10000 + d ≤ left → left ≤ 10000 →
    (∀ a, out.getLast? = some a → 0 ≤ a ∧ a < l.length) → Ev (fun k => spileref17_Largest.l1 k l x left out (i : Int)) (grGo l V d i left out, 0) := by
  have hn := h.hi
  have hL := hR.len
  intro d
  induction d with
  | zero =>
    intro i hi left out _ _ _ _
    refine Ev.ret (fun k => ?_)
    simp only [spileref17_Largest.l1]
    rw [if_neg (by omega)]
    rfl
  | succ d ih =>
    intro i hi left out ho h1 h2 hg
    have v0 := hR.val i (by omega)
    have hnext : ∀ a, (out ++ [(i : Int)]).getLast? = some a → 0 ≤ a ∧ a < l.length := by
      intro a ha
      rw [List.getLast?_concat] at ha
      injection ha with ha
      omega
    simp only [grGo]
    by_cases hv : V i = left
    · rcases hl : out.getLast? with _ | a
      · have hz : out = [] := List.getLast?_eq_none_iff.1 hl
        have hk : gOK l out i = true := by unfold gOK; rw [hl]
        rw [if_pos ⟨hv, hk⟩]
        refine Ev.step (fun k => ?_) (ih (i + 1) (by omega) (left - 1) (out ++ [(i : Int)]) (by rw [List.length_append, List.length_singleton]; omega) (by omega) (by omega) hnext)
        simp only [spileref17_Largest.l1]
        rw [if_pos (by omega), if_pos (by omega), if_pos (by omega), v0, if_pos hv, if_pos (by rw [hz]; rfl), if_pos (by omega), w64_ (by omega) (by omega), w64_ (by omega) (by omega)]
        rfl
      · have hlen : 0 < out.length := by
          rcases Nat.eq_zero_or_pos out.length with e | e
          · rw [List.length_eq_zero_iff.1 e] at hl; exact absurd hl (by simp)
          · exact e
        obtain ⟨g0, g1⟩ := hg a hl
        have ea : ((a.toNat : Nat) : Int) = a := by omega
        obtain ⟨c, hb, hm⟩ := h.clash (show a.toNat < l.length by omega) (show i < l.length by omega)
        have hx : c ≤ 0 ↔ bey l a.toNat i = 0 := by rw [← hm]; unfold mx; split <;> omega
        rw [ea] at hb
        have hlast := rd_last hl
        by_cases hc : bey l a.toNat i = 0
        · have hk : gOK l out i = true := by unfold gOK; rw [hl]; exact decide_eq_true hc
          rw [if_pos ⟨hv, hk⟩]
          refine Ev.step (fun k => ?_) (ih (i + 1) (by omega) (left - 1) (out ++ [(i : Int)]) (by rw [List.length_append, List.length_singleton]; omega) (by omega) (by omega) hnext)
          simp only [spileref17_Largest.l1]
          rw [if_pos (by omega), if_pos (by omega), if_pos (by omega), v0, if_pos hv, if_neg (by omega), w64_ (x := (out.length : Int) - 1) (by omega) (by omega), hlast, if_pos (by omega), if_pos (by omega), if_pos (by omega), if_pos (by omega), hb]
          simp only [Option.bind_some]
          rw [if_pos (hx.2 hc), if_pos (by omega), w64_ (by omega) (by omega), w64_ (by omega) (by omega)]
          rfl
        · have hk : ¬ gOK l out i = true := by unfold gOK; rw [hl]; simpa using hc
          rw [if_neg (fun e => hk e.2)]
          refine Ev.step (fun k => ?_) (ih (i + 1) (by omega) left out (by omega) (by omega) (by omega) hg)
          simp only [spileref17_Largest.l1]
          rw [if_pos (by omega), if_pos (by omega), if_pos (by omega), v0, if_pos hv, if_neg (by omega), w64_ (x := (out.length : Int) - 1) (by omega) (by omega), hlast, if_pos (by omega), if_pos (by omega), if_pos (by omega), if_pos (by omega), hb]
          simp only [Option.bind_some]
          rw [if_neg (fun e => hc (hx.1 e)), w64_ (by omega) (by omega)]
          rfl
    · rw [if_neg (fun e => hv e.1)]
      refine Ev.step (fun k => ?_) (ih (i + 1) (by omega) left out (by omega) (by omega) (by omega) hg)
      simp only [spileref17_Largest.l1]
      rw [if_pos (by omega), if_pos (by omega), if_pos (by omega), v0, if_neg hv, w64_ (by omega) (by omega)]
      rfl
theorem mxV_rng {n : Nat} {V : Nat → Int} (h : ∀ m : Nat, m < n → 0 ≤ V m ∧ V m ≤ (n : Int) - m) : ∀ m, m ≤ n → 0 ≤ mxV V m ∧ mxV V m ≤ n := by
  intro m
  induction m with
  | zero => intro _; exact ⟨Int.le_refl _, by simp only [mxV]; omega⟩
  | succ m ih =>
    intro hm
    have h1 := ih (by omega)
    have h2 := h m (by omega)
    simp only [mxV]
    unfold mx
    split <;> omega
theorem maxTo_mxV {x : List Int} {V : Nat → Int} : ∀ m : Nat, (∀ j : Nat, j ≤ m → rd x (j : Int) = V j ∧ 0 ≤ V j) → maxTo x m = mxV V (m + 1) := by
  intro m
  induction m with
  | zero =>
    intro h
    have h0 := h 0 (Nat.le_refl _)
    simp only [maxTo, mxV]
    rw [show (0 : Int) = ((0 : Nat) : Int) from rfl, h0.1]
    unfold mx
    split <;> omega
  | succ m ih =>
    intro h
    have h1 := h (m + 1) (Nat.le_refl _)
    simp only [maxTo]
    rw [ih (fun j hj => h j (by omega)), show (m : Int) + 1 = ((m + 1 : Nat) : Int) by omega, h1.1]
    rfl
theorem audit_Largest.ev (l : List S44) : Ev (fun k => audit_Largest.f k l) (lgS l) := by
  unfold audit_Largest.f lgS
  refine Ev.bind (audit_right.ev l) ?_
  by_cases hr : (rchk l).2 = 0
  · have h := (rchk_iff l).1 hr
    have hn := h.hi
    have hlo := h.lo
    rw [if_neg (not_not_intro hr), hr]
    simp only [beq_self_eq_true, if_true]
    rw [w64_ (by omega) (by omega)]
    refine Ev.same (G := fun k => audit_Largest.l0 k l (List.replicate 128 0) ((l.length : Int) - 1)) (fun k => by rw [if_pos (by decide)]) ?_
    have hR0 : Rel l.length 128 (List.replicate 128 (0 : Int)) (fun _ => 0) := ⟨by rw [List.length_replicate], hn, fun m hm => by
      unfold rd
      rw [Int.toNat_natCast, List.getD_eq_getElem?_getD, List.getElem?_replicate, if_pos (by omega)]
      rfl, fun m hm => by omega⟩
    refine audit_Largest.lens h l.length (Nat.le_refl _) _ _ hR0 (fun x hR => ?_)
    have hL := hR.len
    have hm := mxV_rng hR.rng l.length (Nat.le_refl _)
    refine Ev.step (G := fun k => audit_Largest.l2 k l x (mxV (lnAll l l.length fun _ => 0) l.length) [] (l.length : Int) ((0 : Nat) : Int)) (fun k => ?_) (audit_Largest.greedy h hR l.length 0 (by omega) _ [] (by simp) (by omega) (by omega) (fun a ha => absurd ha (by simp)))
    simp only [audit_Largest.l0]
    rw [if_neg (by omega), if_pos (by omega), if_pos (by omega)]
    unfold slices_Max_int_int.f
    rw [Int.toNat_natCast, List.length_take, Nat.min_eq_left (by omega), if_pos (by omega)]
    simp only [Option.bind_some]
    rw [maxTo_mxV (x := x.take l.length) (V := lnAll l l.length fun _ => 0) (l.length - 1) (fun j hj => ⟨by
      rw [← hR.val j (by omega)]
      unfold rd
      rw [Int.toNat_natCast, List.getD_eq_getElem?_getD, List.getD_eq_getElem?_getD, List.getElem?_take, if_pos (by omega)], (hR.rng j (by omega)).1⟩), show l.length - 1 + 1 = l.length by omega]
    rfl
  · rw [if_pos hr]
    have e : ((rchk l).2 == 0) = false := beq_eq_false_iff_ne.mpr hr
    rw [e]
    exact Ev.now (fun k => rfl)
theorem spileref17_Largest.ev (l : List S44) : Ev (fun k => spileref17_Largest.f k l) (lgS l) := by
  unfold spileref17_Largest.f lgS
  refine Ev.bind (spileref17_right.ev l) ?_
  by_cases hr : (rchk l).2 = 0
  · have h := (rchk_iff l).1 hr
    have hn := h.hi
    have hlo := h.lo
    rw [if_neg (not_not_intro hr), hr]
    simp only [beq_self_eq_true, if_true]
    have hR0 : Rel l.length l.length (List.replicate l.length (0 : Int)) (fun _ => 0) := ⟨by rw [List.length_replicate], Nat.le_refl _, fun m hm => by
      unfold rd
      rw [Int.toNat_natCast, List.getD_eq_getElem?_getD, List.getElem?_replicate, if_pos (by omega)]
      rfl, fun m hm => by omega⟩
    obtain ⟨x, hR, hE⟩ := spileref17_lengths.lens h l.length (Nat.le_refl _) _ _ hR0
    refine Ev.bind (F := fun k => spileref17_lengths.f k l) (b := x) ?_ ?_
    · unfold spileref17_lengths.f
      rw [w64_ (by omega) (by omega), Int.toNat_natCast]
      exact Ev.same (fun k => by rw [if_pos (by omega), if_pos (by omega)]) hE
    · have hL := hR.len
      have hm := mxV_rng hR.rng
      have key : ∀ d i : Nat, i + d = l.length → Ev (fun k => spileref17_Largest.l0 k l x (mxV (lnAll l l.length fun _ => 0) i) (i : Int)) (grGo l (lnS l) l.length 0 (mxV (lnS l) l.length) [], 0) := by
        intro d
        induction d with
        | zero =>
          intro i hi
          obtain rfl : i = l.length := by omega
          have := hm l.length (Nat.le_refl _)
          refine Ev.step (G := fun k => spileref17_Largest.l1 k l x (mxV (lnAll l l.length fun _ => 0) l.length) [] ((0 : Nat) : Int)) (fun k => ?_) (spileref17_Largest.greedy h hR l.length 0 (by omega) _ [] (by simp) (by omega) (by omega) (fun a ha => absurd ha (by simp)))
          simp only [spileref17_Largest.l0]
          rw [if_neg (by omega)]
          rfl
        | succ d ih =>
          intro i hi
          refine Ev.step (fun k => ?_) (ih (i + 1) (by omega))
          simp only [spileref17_Largest.l0]
          rw [if_pos (by omega), if_pos (by omega), hR.val i (by omega), w64_ (by omega) (by omega)]
          rfl
      exact key l.length 0 (by omega)
  · rw [if_pos hr]
    have e : ((rchk l).2 == 0) = false := beq_eq_false_iff_ne.mpr hr
    rw [e]
    exact Ev.now (fun k => rfl)

end Go.Proofs.Ytcapbigknimgnaa.PF
