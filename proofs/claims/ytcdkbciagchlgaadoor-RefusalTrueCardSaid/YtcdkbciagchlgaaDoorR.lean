/- A library for this claim: arguments that can be read as data, opened kind by kind (whole numbers, bools, strings, slices, structs, nested), as the printed contracts want them. -/
import Derived.Test.YtcdkbciagchlgaaDoorWWords
import Derived.Deep.Slices
import Derived.ChangeSame
import Derived.OpenShut
namespace Go.Proofs.YtcdkbciagchlgaaDoorR
open Go.RowKit Go.ChangeShapes Go.WideShapes Go.Deep Go.Proofs.YtcdkbciagchlgaaDoorW.PrintWords
def Rds {α : Type} (P : Program) (W : World) (k : Kd α) (t : TypeId) (wf : α → Prop) : Prop :=
  ∀ (H : Type) (enc : TypeId × Value → H) (base : Nat) (spare : Nat → Bool) (held : Bool) (fuel : Nat) (cs : List Value) (x : DataW H × List MemPlace),
    DataW.trod enc P W base spare held fuel t cs = some x → ∃ v, k.K W v cs ∧ wf v
theorem rds_int {P : Program} {W : World} {k : IntKind} {t : TypeId} (ht : P.underlying t = some (.int k)) : Rds P W (Kd.int k) t (fun n => (Lit.int k n).wf = true) := by
  intro H enc base spare held fuel cs x h
  obtain ⟨n, rfl, _, hw⟩ := DataW.trod_int ht h
  exact ⟨n, rfl, hw⟩
theorem list_choose {α : Type} {n : Nat} {p : Nat → α → Prop} (h : ∀ i, i < n → ∃ x, p i x) : ∃ l : List α, l.length = n ∧ ∀ i x, l[i]? = some x → p i x := by
  induction n with
  | zero => exact ⟨[], rfl, fun i x hx => by simp at hx⟩
  | succ n ih =>
    obtain ⟨l, hl, hp⟩ := ih (fun i hi => h i (by omega))
    obtain ⟨y, hy⟩ := h n (by omega)
    refine ⟨l ++ [y], by simp [hl], fun i x hx => ?_⟩
    rcases Nat.lt_or_ge i l.length with hi | hi
    · rw [List.getElem?_append_left hi] at hx
      exact hp i x hx
    · have hi' : i = n := by
        have := (List.getElem?_eq_some_iff.1 hx).1
        rw [List.length_append, List.length_singleton] at this
        omega
      subst hi'
      have : y = x := by simpa [← hl] using hx
      rw [← this]
      exact hy
theorem rds_slice {α : Type} {P : Program} {W : World} {k : Kd α} {t e : TypeId} {wf : α → Prop} (he : Rds P W k e wf) (ht : P.underlying t = some (.slice e)) (hC : P.cellsOf e = k.sz) :
    Rds P W (Kd.slice e k) t (fun l => l.length ≤ maxLen ∧ ∀ x ∈ l, wf x) := by
  intro H enc base spare held fuel cs x h
  rcases open_slice ht h with ⟨rfl, _⟩ | ⟨a, len, cap, m, n, D, Pl, rfl, hb, hl, hm, hmm, hx, hi⟩
  · exact ⟨[], ⟨none, 0, rfl, Nat.le_refl _, rfl, Nat.zero_le _, fun hp => absurd hp (Nat.lt_irrefl 0)⟩, Nat.zero_le _, fun x hx => by cases hx⟩
  · have hmle : len ≤ m := by rw [hmm]; split <;> omega
    have hall : ∀ i, i < len → ∃ v, (∃ c, c.length = k.sz ∧ k.K W v c ∧ ∀ q u, c[q]? = some u → W.cell? (a.add (i * k.sz + q)) = some u) ∧ wf v := by
      intro i hilt
      obtain ⟨cs', h1, h2⟩ := hi i (by omega)
      obtain ⟨v, hK, hw⟩ := he H enc base spare held n cs' _ h2
      rw [hC] at h1
      obtain ⟨_, hlen, hcell⟩ := World.cells?_some h1
      refine ⟨v, ⟨cs', k.K_len hK, hK, fun q u hq => ?_⟩, hw⟩
      have hqlt : q < k.sz := by
        have := (List.getElem?_eq_some_iff.1 hq).1
        omega
      rw [← Go.Deep.add_add, hcell q hqlt, hq]
    obtain ⟨l, hll, hp⟩ := list_choose hall
    subst hll
    refine ⟨l, ⟨some a, cap, rfl, hl, rfl, ?_, fun _ => ⟨a, rfl, fun j p hj => (hp j p hj).1⟩⟩, Nat.le_trans hl hm, fun x hx => ?_⟩
    · have : maxLen = 9223372036854775807 := rfl
      omega
    · obtain ⟨i, hi2, rfl⟩ := List.getElem_of_mem hx
      exact (hp i _ (List.getElem?_eq_getElem hi2)).2
def RdsFs {α : Type} (P : Program) (W : World) (k : Kd α) (fs : List Field) (off : Nat) (wf : α → Prop) : Prop :=
  ∀ (H : Type) (enc : TypeId × Value → H) (base : Nat) (spare : Nat → Bool) (held : Bool) (n : Nat) (cs : List Value), cs.length = off + k.sz →
    (∀ (j : Nat) (f : Field), fs[j]? = some f → ∃ y, DataW.trod enc P W base spare held n f.type ((cs.drop f.offset).take (P.cellsOf f.type)) = some y) → ∃ v, k.K W v (cs.drop off) ∧ wf v
theorem rds_last {α : Type} {P : Program} {W : World} {k : Kd α} {f : Field} {off : Nat} {wf : α → Prop} (hk : Rds P W k f.type wf) (ho : f.offset = off) (hC : P.cellsOf f.type = k.sz) : RdsFs P W k [f] off wf := by
  intro H enc base spare held n cs hl hf
  obtain ⟨y, hy⟩ := hf 0 f rfl
  obtain ⟨v, hK, hw⟩ := hk _ _ _ _ _ _ _ _ hy
  rw [ho, hC, List.take_of_length_le (by rw [List.length_drop]; omega)] at hK
  exact ⟨v, hK, hw⟩
theorem rds_more {α β : Type} {P : Program} {W : World} {k : Kd α} {k' : Kd β} {f : Field} {fs : List Field} {off : Nat} {wf : α → Prop} {wf' : β → Prop} (hk : Rds P W k f.type wf) (ho : f.offset = off) (hC : P.cellsOf f.type = k.sz)
    (hr : RdsFs P W k' fs (off + k.sz) wf') : RdsFs P W (Kd.pair k k') (f :: fs) off (fun p => wf p.1 ∧ wf' p.2) := by
  intro H enc base spare held n cs hl hf
  obtain ⟨y, hy⟩ := hf 0 f rfl
  obtain ⟨v, hK, hw⟩ := hk _ _ _ _ _ _ _ _ hy
  rw [ho, hC] at hK
  have hl' : cs.length = (off + k.sz) + k'.sz := by rw [hl]; exact (Nat.add_assoc _ _ _).symm
  obtain ⟨v', hK', hw'⟩ := hr H enc base spare held n cs hl' (fun j g hj => hf (j + 1) g hj)
  refine ⟨(v, v'), ⟨_, _, ?_, hK, hK'⟩, hw, hw'⟩
  rw [← List.drop_drop]
  exact (List.take_append_drop _ _).symm
theorem rds_struct {α β : Type} {P : Program} {W : World} {k : Kd α} {t : TypeId} {fs : Array Field} {wf : α → Prop} (proj : β → α) (inj : α → β) (hi : ∀ a, proj (inj a) = a) (hs : P.underlying t = some (.struct fs)) (hC : P.cellsOf t = k.sz)
    (h : RdsFs P W k fs.toList 0 wf) : Rds P W (Kd.iso k proj) t (fun x => wf (proj x)) := by
  intro H enc base spare held fuel cs x ht
  obtain ⟨ys, n, _, _, hl, hyl, hf⟩ := DataW.trod_struct hs ht
  obtain ⟨v, hK, hw⟩ := h H enc base spare held n cs (by rw [hl, hC]; omega) (fun j f hj => by
    have hj' : fs[j]? = some f := by rw [← Array.getElem?_toList]; exact hj
    have hjl : j < fs.size := (Array.getElem?_eq_some_iff.1 hj').1
    exact ⟨ys[j]'(by omega), by rw [hf j f hj', List.getElem?_eq_getElem (by omega)]⟩)
  refine ⟨inj v, ?_, ?_⟩
  · show k.K W (proj (inj v)) cs
    rw [hi]
    simpa using hK
  · show wf (proj (inj v))
    rw [hi]
    exact hw
theorem rds_par {α H : Type} {enc : TypeId × Value → H} {P : Program} {W : World} {base : Nat} {spare : Nat → Bool} {held : Bool} {k : Kd α} {t : TypeId} {wf : α → Prop} (h : Rds P W k t wf) {v : Value} {d : DataW H} {ps : List MemPlace}
    (ht : DataW.Trod enc P W base spare held t v d ps) : ∃ x, k.K W x v.cells.toList ∧ wf x := by
  obtain ⟨fuel, hf⟩ := ht
  exact h H enc base spare held fuel _ _ hf
theorem slice_par {α : Type} {W : World} {k : Kd α} {e : Nat} {a : Option Addr} {n c : Nat} {l : List α} (h : (Kd.slice e k).K W l (Value.slice a n c).cells.toList) : l.length = n ∧ l.length ≤ c ∧ k.C W a l.length l := by
  obtain ⟨A, c', he, hl, hC⟩ := h
  simp [Value.cells] at he
  obtain ⟨rfl, rfl, rfl⟩ := he
  exact ⟨rfl, hl, hC⟩
theorem agg_cs {cs : Array Value} {l : List Value} (h : (Value.agg cs).cells.toList = l) : cs = l.toArray := by
  subst h
  simp [Value.cells]
end Go.Proofs.YtcdkbciagchlgaaDoorR
