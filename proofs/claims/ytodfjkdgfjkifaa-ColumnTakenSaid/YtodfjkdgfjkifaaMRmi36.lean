/- The reference's Missing returns what column.Missing returns. -/
import Derived.Test.YtodfjkdgfjkifaaMBal36
import Derived.Test.YtodfjkdgfjkifaaMClo36
import Derived.Test.YtodfjkdgfjkifaaMCol36
import Derived.Test.YtodfjkdgfjkifaaMCom36
import Derived.Test.YtodfjkdgfjkifaaMEv
import Derived.Test.YtodfjkdgfjkifaaMMis36
import Derived.Test.YtodfjkdgfjkifaaMMrg36
import Derived.Test.YtodfjkdgfjkifaaMOpn36
import Derived.Test.YtodfjkdgfjkifaaMRef36
import Derived.Test.YtodfjkdgfjkifaaMRmd36
import Derived.Test.YtodfjkdgfjkifaaMSam36
import Derived.Test.YtodfjkdgfjkifaaPF0
import Derived.Test.YtodfjkdgfjkifaaPF1
import Derived.Test.YtodfjkdgfjkifaaPF5
namespace Go.Proofs.Ytodfjkdgfjkifaa.PF
open Go.RowKit Go.Proofs.YtodfjkdgfjkifaaW.PrintWords Go.Proofs.YtodfjkdgfjkifaaW.PrintLast Go.Proofs.YtodfjkdgfjkifaaW.PrintMore
set_option linter.unusedVariables false
set_option linter.unusedSimpArgs false
/-- A column whose flows may be greater than a right one's. -/
def LooseC (p : Int) (l : List S28) : Prop := 1 ≤ p ∧ p ≤ 16 ∧ l.length ≤ 65 ∧ ∀ f ∈ l, f.f0 ≤ p ∧ f.f1 ≤ p ∧ 0 ≤ f.f2 ∧ f.f2 ≤ 8246337208320000 ∧ 0 ≤ f.f3 ∧ f.f3 ≤ 8246337208320000
theorem fold_bndL (l : List S28) (h : ∀ f ∈ l, 0 ≤ f.f2 ∧ f.f2 ≤ 8246337208320000 ∧ 0 ≤ f.f3 ∧ f.f3 ≤ 8246337208320000) : ∀ (B : Nat → Int × Int) (M : Int), BndB B M → BndB (l.foldl addB B) (M + (l.length : Int) * 8246337208320000) := by
  induction l with
  | nil => intro B M hB q; have := hB q; simp; omega
  | cons f l ih =>
    intro B M hB
    have hf := h f (by simp)
    have h1 : BndB (addB B f) (M + 8246337208320000) := by
      intro q
      have := hB q
      rw [addB_1, addB_2]
      split <;> split <;> omega
    have h2 := ih (fun g hg => h g (by simp [hg])) _ _ h1
    rw [List.foldl_cons]
    intro q
    have := h2 q
    have e : ((f :: l).length : Int) = (l.length : Int) + 1 := by simp
    rw [e, Int.add_mul, Int.one_mul]
    omega
theorem balL_bndL {l : List S28} (h : ∀ f ∈ l, 0 ≤ f.f2 ∧ f.f2 ≤ 8246337208320000 ∧ 0 ≤ f.f3 ∧ f.f3 ≤ 8246337208320000) : BndB (balL l) ((l.length : Int) * 8246337208320000) := by
  have := fold_bndL l h (fun _ => (0, 0)) 0 (fun q => by simp)
  rw [Int.zero_add] at this
  exact this
theorem refbalL.go {p : Int} {l : List S28} (h : LooseC p l) (q : Nat) : ∀ d i : Nat, i + d = l.length → Ev (fun k => spileref36_balance.l0 k (q : Int) (balL (l.take i) q).1 (balL (l.take i) q).2 (i : Int) p l) (balL l q) := by
  have hl := h.2.2.1
  have hf : ∀ f ∈ l, 0 ≤ f.f2 ∧ f.f2 ≤ 8246337208320000 ∧ 0 ≤ f.f3 ∧ f.f3 ≤ 8246337208320000 := fun f hf => (h.2.2.2 f hf).2.2
  clear h
  intro d
  induction d with
  | zero =>
    intro i hi
    rw [List.take_of_length_le (by omega)]
    refine Ev.ret (fun k => ?_)
    simp only [spileref36_balance.l0]
    rw [if_neg (by omega)]
  | succ d ih =>
    intro i hi
    have hil : i < l.length := by omega
    have hm := rd_mem (out := l) hil
    have hy := hf _ hm
    have hsn : balL (l.take (i + 1)) = addB (balL (l.take i)) (rd_T28 l (i : Int)) := by
      rw [← balL_snoc, List.take_succ_eq_append_getElem hil]
      unfold rd_T28
      rw [Int.toNat_natCast, List.getD_eq_getElem?_getD, List.getElem?_eq_getElem hil]
      rfl
    have hb := balL_bndL (l := l.take i) (fun f h => hf f (List.mem_of_mem_take h)) q
    have hlt : ((l.take i).length : Int) * 8246337208320000 ≤ 600000000000000000 := by rw [List.length_take]; omega
    refine Ev.step (fun k => ?_) (ih (i + 1) (by omega))
    simp only [spileref36_balance.l0]
    rw [if_pos (by omega), if_pos (by omega), hsn]
    generalize rd_T28 l (i : Int) = f at *
    obtain ⟨y0, y1, y2, y3⟩ := f
    simp only at hy
    generalize (l.take i).length = nn at *
    have e1 : (addB (balL (l.take i)) ⟨y0, y1, y2, y3⟩ q).1 = (balL (l.take i) q).1 - (if (q : Int) = y0 then y2 else 0) + (if (q : Int) = y1 then y2 else 0) := rfl
    have e2 : (addB (balL (l.take i)) ⟨y0, y1, y2, y3⟩ q).2 = (balL (l.take i) q).2 - (if (q : Int) = y0 then y3 else 0) + (if (q : Int) = y1 then y3 else 0) := rfl
    rw [e1, e2]
    generalize (balL (l.take i) q).1 = u at *
    generalize (balL (l.take i) q).2 = v at *
    have w1 : wrap64 ((i : Int) + 1) = ((i + 1 : Nat) : Int) := by rw [w64_ (by omega) (by omega)]; rfl
    rw [w1]
    simp only
    by_cases c1 : y1 = (q : Int)
    · have t1 : (q : Int) = y1 := c1.symm
      rw [if_pos c1, if_pos t1, if_pos t1]
      by_cases c0 : y0 = (q : Int)
      · have t0 : (q : Int) = y0 := c0.symm
        rw [if_pos c0, if_pos t0, if_pos t0, w64_ (x := u + y2) (by omega) (by omega), w64_ (x := v + y3) (by omega) (by omega), w64_ (x := u + y2 - y2) (by omega) (by omega), w64_ (x := v + y3 - y3) (by omega) (by omega)]
        rw [show u + y2 - y2 = u - y2 + y2 by omega, show v + y3 - y3 = v - y3 + y3 by omega]
      · have t0 : ¬ (q : Int) = y0 := fun h => c0 h.symm
        rw [if_neg c0, if_neg t0, if_neg t0, w64_ (x := u + y2) (by omega) (by omega), w64_ (x := v + y3) (by omega) (by omega), Int.sub_zero, Int.sub_zero]
    · have t1 : ¬ (q : Int) = y1 := fun h => c1 h.symm
      rw [if_neg c1, if_neg t1, if_neg t1]
      by_cases c0 : y0 = (q : Int)
      · have t0 : (q : Int) = y0 := c0.symm
        rw [if_pos c0, if_pos t0, if_pos t0, w64_ (x := u - y2) (by omega) (by omega), w64_ (x := v - y3) (by omega) (by omega), Int.add_zero, Int.add_zero]
      · have t0 : ¬ (q : Int) = y0 := fun h => c0 h.symm
        rw [if_neg c0, if_neg t0, if_neg t0, Int.sub_zero, Int.sub_zero, Int.add_zero, Int.add_zero]
theorem balL_farL {p : Int} {l : List S28} (h : LooseC p l) {q : Nat} (hq : p < q) : balL l q = (0, 0) := by
  have key : ∀ (l : List S28) (B : Nat → Int × Int), (∀ f ∈ l, f.f0 ≤ p ∧ f.f1 ≤ p) → B q = (0, 0) → (l.foldl addB B) q = (0, 0) := by
    intro l
    induction l with
    | nil => intro B _ hB; exact hB
    | cons f l ih =>
      intro B hf hB
      have h1 := hf f (by simp)
      rw [List.foldl_cons]
      refine ih _ (fun g hg => hf g (by simp [hg])) ?_
      unfold addB
      rw [hB, if_neg (by omega), if_neg (by omega), if_neg (by omega), if_neg (by omega)]
      rfl
  exact key l _ (fun f hf => ⟨(h.2.2.2 f hf).1, (h.2.2.2 f hf).2.1⟩) rfl
theorem openS_loose {p : Int} {l : List S28} (h : LooseC p l) : openS (balL l) = openTo (balL l) (p.toNat + 1) := by
  have far : ∀ d : Nat, openTo (balL l) (p.toNat + 1 + d) = openTo (balL l) (p.toNat + 1) := by
    intro d
    induction d with
    | zero => rfl
    | succ d ih => rw [← Nat.add_assoc, openTo_succ, ih, balL_farL h (by have := h.1; omega), if_neg (by simp)]
  have := far (16 - p.toNat)
  rw [show p.toNat + 1 + (16 - p.toNat) = 17 by have := h.1; have := h.2.1; omega] at this
  exact this
theorem refopenL.go {p : Int} {l : List S28} (h : LooseC p l) : ∀ d x : Nat, x + d = p.toNat + 1 → 1 ≤ x → Ev (fun k => spileref36_open.l0 k (openTo (balL l) x) (x : Int) p l) (openTo (balL l) (p.toNat + 1)) := by
  have hp := h.1
  have hp2 := h.2.1
  intro d
  induction d with
  | zero =>
    intro x hx h1
    obtain rfl : x = p.toNat + 1 := by omega
    refine Ev.ret (fun k => ?_)
    simp only [spileref36_open.l0]
    rw [if_neg (by omega)]
  | succ d ih =>
    intro x hx h1
    have hI := ih (x + 1) (by omega) (by omega)
    rw [openTo_succ] at hI
    have hlen := openTo_length (balL l) x
    have w1 : wrap64 ((x : Int) + 1) = ((x + 1 : Nat) : Int) := by rw [w64_ (by omega) (by omega)]; rfl
    obtain ⟨N, hN⟩ : Ev (fun k => spileref36_balance.f k p l (x : Int)) (balL l x) := refbalL.go h x l.length 0 (by omega)
    obtain ⟨M, hM⟩ := hI
    refine ⟨N + M + 1, fun k hk => ?_⟩
    obtain ⟨k', rfl⟩ : ∃ k', k = k' + 1 := ⟨k - 1, by omega⟩
    have hb : spileref36_balance.f k' p l (x : Int) = some (balL l x) := hN k' (by omega)
    have hr : spileref36_open.l0 k' (if (decide (0 < x) && !(balL l x == (0, 0))) = true then openTo (balL l) x ++ [(x : Int)] else openTo (balL l) x) ((x + 1 : Nat) : Int) p l = some (openTo (balL l) (p.toNat + 1)) := hM k' (by omega)
    show spileref36_open.l0 (k' + 1) (openTo (balL l) x) (x : Int) p l = _
    simp only [spileref36_open.l0]
    rw [if_pos (by omega), hb, Option.bind_some, w1]
    by_cases c1 : (balL l x).1 = 0
    · rw [if_pos c1]
      by_cases c2 : (balL l x).2 = 0
      · rw [if_pos c2]
        rw [if_neg (by simp [Prod.ext_iff, c1, c2])] at hr
        exact hr
      · rw [if_neg c2, if_pos (by omega)]
        rw [if_pos (by simp [Prod.ext_iff, c1, c2]; omega)] at hr
        exact hr
    · rw [if_neg c1, if_pos (by omega)]
      rw [if_pos (by simp [Prod.ext_iff, c1]; omega)] at hr
      exact hr
theorem refopenL.ev {p : Int} {l : List S28} (h : LooseC p l) : Ev (fun k => spileref36_open.f k p l) (openS (balL l)) := by
  rw [openS_loose h]
  exact refopenL.go h p.toNat 1 (by omega) (Nat.le_refl _)
/-- The flow that the reference tries. -/
def rmF (a b x y : Int) : S28 := if y < 0 ∨ (y = 0 ∧ x < 0) then ⟨b, a, -x, -y⟩ else ⟨a, b, x, y⟩
theorem rmF_add (B : Nat → Int × Int) (a b x y : Int) (n : Nat) : addB B (rmF a b x y) n = ((B n).1 - (if (n : Int) = a then x else 0) + (if (n : Int) = b then x else 0), (B n).2 - (if (n : Int) = a then y else 0) + (if (n : Int) = b then y else 0)) := by
  have k : ∀ (c : Prop) [Decidable c] (v : Int), (if c then -v else 0) = -(if c then v else 0) := by intro c _ v; split <;> omega
  unfold rmF
  refine Prod.ext ?_ ?_
  · rw [addB_1]
    split
    · simp only; rw [k, k]; omega
    · rfl
  · rw [addB_2]
    split
    · simp only; rw [k, k]; omega
    · rfl
theorem misF_rm (a b x y : Int) : misF a b (x, y) = if (rmF a b x y).f2 < 0 ∨ (rmF a b x y).f3 ≤ 0 then (fl0, 20) else if 10737418240000 < (rmF a b x y).f2 ∨ 128849018880000 < (rmF a b x y).f3 then (fl0, 15) else (rmF a b x y, 0) := by
  unfold misF
  simp only
  by_cases h1 : y < 0
  · have e : rmF a b x y = ⟨b, a, -x, -y⟩ := by unfold rmF; exact if_pos (.inl h1)
    rw [e, if_pos h1]
    simp only
    by_cases h2 : -y = 0 ∨ -x < 0
    · rw [if_pos h2, if_pos (show -x < 0 ∨ -y ≤ 0 by omega)]
    · rw [if_neg h2, if_neg (show ¬ (-x < 0 ∨ -y ≤ 0) by omega)]
  · rw [if_neg h1]
    simp only
    by_cases h2 : y = 0 ∧ x < 0
    · have e : rmF a b x y = ⟨b, a, -x, -y⟩ := by unfold rmF; exact if_pos (.inr h2)
      rw [e, if_pos (show y = 0 ∨ x < 0 from .inl h2.1)]
      simp only
      rw [if_pos (show -x < 0 ∨ -y ≤ 0 by omega)]
    · have e : rmF a b x y = ⟨a, b, x, y⟩ := by unfold rmF; exact if_neg (fun h => h.elim h1 h2)
      rw [e]
      simp only
      by_cases h3 : y = 0 ∨ x < 0
      · rw [if_pos h3, if_pos (show x < 0 ∨ y ≤ 0 by omega)]
      · rw [if_neg h3, if_neg (show ¬ (x < 0 ∨ y ≤ 0) by omega)]
theorem openS_nil {E : Nat → Int × Int} : openS E = [] ↔ ∀ n : Nat, 1 ≤ n → n ≤ 16 → E n = (0, 0) := by
  constructor
  · intro h n h1 h2
    have := mt (openS_iff (B := E) (q := (n : Int)) (by omega) (by omega)).2 (by rw [h]; exact List.not_mem_nil)
    rw [Int.toNat_natCast] at this
    exact Decidable.not_not.1 this
  · intro h
    rcases e : openS E with _ | ⟨q, r⟩
    · rfl
    · have hq : q ∈ openS E := by rw [e]; simp
      have h16 := openS_mem hq
      exact absurd (h q.toNat (by omega) (by omega)) ((openS_iff h16.1 h16.2).1 hq)
theorem mis_plain {B : Nat → Int × Int} {a : Int} {r : List Int} (hO : openS B = a :: r) {x y : Int} (hxy : B a.toNat = (x, y)) :
    misO B (a :: r) = if (rmF a (r.headD 0) x y).f2 < 0 ∨ (rmF a (r.headD 0) x y).f3 ≤ 0 then (fl0, 20) else if openS (addB B (rmF a (r.headD 0) x y)) ≠ [] then (fl0, 20) else if 10737418240000 < (rmF a (r.headD 0) x y).f2 ∨ 128849018880000 < (rmF a (r.headD 0) x y).f3 then (fl0, 15) else (rmF a (r.headD 0) x y, 0) := by
  have hnd := openS_nodup B
  rw [hO] at hnd
  have hmem : ∀ q ∈ a :: r, 1 ≤ q ∧ q ≤ 16 := fun q hq => openS_mem (B := B) (by rw [hO]; exact hq)
  have hout : ∀ n : Nat, 1 ≤ n → n ≤ 16 → (n : Int) ∉ a :: r → B n = (0, 0) := fun n h1 h2 h3 => by
    have := mt (openS_iff (B := B) (q := (n : Int)) (by omega) (by omega)).2 (by rw [hO]; exact h3)
    rw [Int.toNat_natCast] at this
    exact Decidable.not_not.1 this
  have ha := hmem a (by simp)
  rcases r with _ | ⟨b, _ | ⟨d, r⟩⟩
  · rw [List.headD_nil]
    have hg := rmF_add B a 0 x y
    have hm := misF_rm a 0 x y
    have hop : openS (addB B (rmF a 0 x y)) = [] := openS_nil.2 (fun n h1 h2 => by
      rw [hg]
      by_cases hn : (n : Int) = a
      · have : n = a.toNat := by omega
        rw [this, hxy, ← this, if_pos hn, if_neg (by omega), if_pos hn, if_neg (by omega)]
        simp only
        refine Prod.ext ?_ ?_ <;> simp only <;> omega
      · rw [hout n h1 h2 (by simpa using hn), if_neg hn, if_neg (by omega), if_neg hn, if_neg (by omega)]
        rfl)
    show misF a 0 (B a.toNat) = _
    rw [hxy, hm, if_neg (show ¬ openS (addB B (rmF a 0 x y)) ≠ [] from not_not_intro hop)]
  · rw [List.headD_cons]
    have hg := rmF_add B a b x y
    have hm := misF_rm a b x y
    have hb := hmem b (by simp)
    have hab : a ≠ b := by simp at hnd; exact hnd
    obtain ⟨⟨z, u⟩, hzu⟩ : ∃ s, s = B b.toNat := ⟨_, rfl⟩
    have hop : openS (addB B (rmF a b x y)) = [] ↔ z + x = 0 ∧ u + y = 0 := by
      rw [openS_nil]
      constructor
      · intro h
        have h' := h b.toNat (by omega) (by omega)
        rw [hg, ← hzu, if_neg (by omega), if_pos (by omega), if_neg (by omega), if_pos (by omega)] at h'
        have e1 := congrArg Prod.fst h'
        have e2 := congrArg Prod.snd h'
        simp only at e1 e2
        omega
      · intro h n h1 h2
        rw [hg]
        by_cases hn : (n : Int) = a
        · have : n = a.toNat := by omega
          rw [this, hxy, ← this, if_pos hn, if_neg (by omega), if_pos hn, if_neg (by omega)]
          refine Prod.ext ?_ ?_ <;> simp only <;> omega
        · by_cases hn' : (n : Int) = b
          · have : n = b.toNat := by omega
            rw [this, ← hzu, ← this, if_neg hn, if_pos hn', if_neg hn, if_pos hn']
            refine Prod.ext ?_ ?_ <;> simp only <;> omega
          · rw [hout n h1 h2 (by simp; exact ⟨hn, hn'⟩), if_neg hn, if_neg hn', if_neg hn, if_neg hn']
            rfl
    simp only [misO]
    rw [hxy, ← hzu]
    simp only
    by_cases hmt : x ≠ -z ∨ y ≠ -u
    · rw [if_pos hmt]
      by_cases c : (rmF a b x y).f2 < 0 ∨ (rmF a b x y).f3 ≤ 0
      · rw [if_pos c]
      · rw [if_neg c, if_pos (fun h => by have := hop.1 h; omega)]
    · rw [if_neg hmt, hm, if_neg (show ¬ openS (addB B (rmF a b x y)) ≠ [] from not_not_intro (hop.2 (by omega)))]
  · rw [List.headD_cons]
    have hg := rmF_add B a b x y
    have hd := hmem d (by simp)
    have hda : d ≠ a := by
      simp only [List.nodup_cons, List.mem_cons] at hnd
      intro h; exact hnd.1 (.inr (.inl h.symm))
    have hdb : d ≠ b := by
      simp only [List.nodup_cons, List.mem_cons] at hnd
      intro h; exact hnd.2.1 (.inl h.symm)
    have hBd : B d.toNat ≠ (0, 0) := (openS_iff hd.1 hd.2).1 (by rw [hO]; simp)
    have hop : openS (addB B (rmF a b x y)) ≠ [] := fun h => by
      have h' := openS_nil.1 h d.toNat (by omega) (by omega)
      rw [hg, if_neg (by omega), if_neg (by omega), if_neg (by omega), if_neg (by omega)] at h'
      have e1 := congrArg Prod.fst h'
      have e2 := congrArg Prod.snd h'
      simp only at e1 e2
      exact hBd (Prod.ext (by simp only; omega) (by simp only; omega))
    show (fl0, (20 : Int)) = _
    rw [if_pos hop]
    split <;> rfl
def flat5 (r : S28 × Int) : Int × Int × Int × Int × Int := (r.1.f0, r.1.f1, r.1.f2, r.1.f3, r.2)
theorem refmis.j2 {p : Int} {l : List S28} (RC : RightC p l) {g : S28} (h0 : g.f0 ≤ p) (h1 : g.f1 ≤ p) (h2 : g.f2 ≤ 8246337208320000) (h3 : g.f3 ≤ 8246337208320000) :
    Ev (fun k => spileref36_Missing.j2 k p l g.f0 g.f1 g.f2 g.f3) (flat5 (if g.f2 < 0 ∨ g.f3 ≤ 0 then (fl0, 20) else if openS (addB (balL l) g) ≠ [] then (fl0, 20) else if 10737418240000 < g.f2 ∨ 128849018880000 < g.f3 then (fl0, 15) else (g, 0))) := by
  have hst : ∀ k, spileref36_Missing.j2 (k + 1) p l g.f0 g.f1 g.f2 g.f3 = spileref36_Missing.j3 k (decide (g.f2 < 0 ∨ g.f3 ≤ 0)) p l g.f0 g.f1 g.f2 g.f3 := fun k => by
    simp only [spileref36_Missing.j2]
    by_cases c : g.f2 < 0
    · rw [if_pos c, decide_eq_true (Or.inl c)]
    · rw [if_neg c]
      congr 1
      rw [decide_eq_decide]
      constructor
      · exact .inr
      · exact fun h => h.resolve_left c
  refine Ev.step hst ?_
  by_cases c : g.f2 < 0 ∨ g.f3 ≤ 0
  · rw [if_pos c, decide_eq_true c]
    exact Ev.ret (fun k => by simp only [spileref36_Missing.j3, if_true]; rfl)
  rw [if_neg c, decide_eq_false c]
  have hlen := RC.2.2.1
  have HL : LooseC p (l ++ [g]) := ⟨RC.1, RC.2.1, by rw [List.length_append, List.length_singleton]; omega, fun f hf => by
    rcases List.mem_append.1 hf with hf | hf
    · have := RC.2.2.2.1 f hf
      unfold FlowOK at this
      omega
    · rw [List.mem_singleton] at hf
      subst hf
      omega⟩
  have hop := refopenL.ev HL
  rw [balL_snoc] at hop
  obtain ⟨⟨g0, g1, g2, g3⟩, rfl⟩ : ∃ g', g' = g := ⟨_, rfl⟩
  simp only at *
  refine Ev.step (G := fun k => (spileref36_open.f k p (l ++ [⟨g0, g1, g2, g3⟩])).bind fun t => (if (t.length : Int) > 0 then (some (0, 0, 0, 0, 20)) else (if g2 > 10737418240000 then (some (0, 0, 0, 0, 15)) else (if g3 > 128849018880000 then (some (0, 0, 0, 0, 15)) else (some (g0, g1, g2, g3, 0)))))) (fun k => ?_) ?_
  · simp only [spileref36_Missing.j3]
    rw [if_neg (by decide), Option.bind_some, if_pos (by simp only [List.length_nil]; omega), Option.bind_some, Option.bind_some, if_pos (by simp only [List.nil_append, List.length_singleton]; omega), List.nil_append]
  · refine Ev.bind hop (Ev.now (fun k => ?_))
    by_cases c1 : openS (addB (balL l) ⟨g0, g1, g2, g3⟩) = []
    · rw [c1, if_neg (by simp), if_neg (show ¬ ([] : List Int) ≠ [] by simp)]
      by_cases c2 : 10737418240000 < g2
      · rw [if_pos c2, if_pos (.inl c2)]; rfl
      · rw [if_neg c2]
        by_cases c3 : 128849018880000 < g3
        · rw [if_pos c3, if_pos (.inr c3)]; rfl
        · rw [if_neg c3, if_neg (by omega)]; rfl
    · have : 0 < (openS (addB (balL l) ⟨g0, g1, g2, g3⟩)).length := List.length_pos_iff.2 c1
      rw [if_pos (by omega), if_pos c1]
      rfl
theorem refMissing.ev (p : Int) (l : List S28) : Ev (fun k => spileref36_Missing.f k p l) (flat5 (misR p l)) := by
  unfold spileref36_Missing.f misR
  refine Ev.bind (refright.ev p l) ?_
  cases hb : rt36 p l
  · exact Ev.now (fun k => rfl)
  have RC := rt36_iff.1 hb
  simp only [if_true]
  refine Ev.bind (refopen.ev RC) ?_
  rcases hO : openS (balL l) with _ | ⟨a, r⟩
  · exact Ev.now (fun k => rfl)
  have hin : ∀ q ∈ a :: r, 1 ≤ q ∧ q ≤ p := fun q hq => by
    rw [← hO] at hq
    have h16 := openS_mem hq
    refine ⟨h16.1, ?_⟩
    rcases Int.lt_or_le p q with h | h
    · have := (openS_iff h16.1 h16.2).1 hq
      rw [balL_far RC (by omega)] at this
      exact absurd rfl this
    · exact h
  have ha := hin a (by simp)
  have hbn := RC.bnd a.toNat
  have hbal := refbal.ev RC a.toNat
  rw [show ((a.toNat : Nat) : Int) = a by omega] at hbal
  obtain ⟨⟨x, y⟩, hxy⟩ : ∃ s, balL l a.toNat = s := ⟨_, rfl⟩
  rw [mis_plain hO hxy]
  rw [hxy] at hbn hbal
  simp only at hbn
  have hp := RC.1
  have hlen : (a :: r).length ≤ 17 := by rw [← hO]; exact openTo_length (balL l) 17
  have hhd : r.headD 0 ≤ p := by
    rcases r with _ | ⟨b, r⟩
    · show (0 : Int) ≤ p; omega
    · exact (hin b (by simp)).2
  have hg := refmis.j2 RC (g := rmF a (r.headD 0) x y) (by unfold rmF; split <;> simp only <;> omega) (by unfold rmF; split <;> simp only <;> omega) (by unfold rmF; split <;> simp only <;> omega) (by unfold rmF; split <;> simp only <;> omega)
  generalize flat5 _ = R at *
  have hj1 : ∀ b : Bool, b = decide (y < 0 ∨ y = 0 ∧ x < 0) → Ev (fun k => spileref36_Missing.j1 k (a :: r) x y b p l a (r.headD 0) x y) R := by
    rintro b rfl
    refine Ev.step (fun k => ?_) hg
    simp only [spileref36_Missing.j1]
    unfold rmF
    by_cases c : y < 0 ∨ y = 0 ∧ x < 0
    · rw [decide_eq_true c, if_pos rfl, if_pos (by simp only [List.length_cons]; omega), if_pos c, w64_ (x := -x) (by omega) (by omega), w64_ (x := -y) (by omega) (by omega)]
      rfl
    · rw [decide_eq_false c, if_neg (by decide), if_neg c]
  have hj0 : Ev (fun k => spileref36_Missing.j0 k (a :: r) x y p l a (r.headD 0) x y) R := by
    by_cases c1 : y < 0
    · refine Ev.step (fun k => ?_) (hj1 true (decide_eq_true (.inl c1)).symm)
      simp only [spileref36_Missing.j0]
      rw [if_pos c1]
    · by_cases c2 : y = 0
      · refine Ev.step (fun k => ?_) (hj1 (decide (x < 0)) (by rw [decide_eq_decide]; omega))
        simp only [spileref36_Missing.j0]
        rw [if_neg c1, if_pos c2]
      · refine Ev.step (fun k => ?_) (hj1 false (decide_eq_false (by omega)).symm)
        simp only [spileref36_Missing.j0]
        rw [if_neg c1, if_neg c2]
  refine Ev.same (G := fun k => (spileref36_balance.f k p l a).bind fun bt => spileref36_Missing.j0 k (a :: r) bt.1 bt.2 p l a (r.headD 0) bt.1 bt.2) (fun k => ?_) ?_
  · have e0 : rd (a :: r) 0 = a := rfl
    rw [if_neg (by simp only [List.length_cons]; omega), if_pos (by simp only [List.length_cons]; omega), e0]
    congr 1
    funext bt
    rcases r with _ | ⟨b, r⟩
    · rw [if_neg (by simp)]
      rfl
    · rw [if_pos (by simp only [List.length_cons]; omega), if_pos (by simp only [List.length_cons]; omega)]
      rfl
  · exact Ev.bind hbal hj0

end Go.Proofs.Ytodfjkdgfjkifaa.PF
