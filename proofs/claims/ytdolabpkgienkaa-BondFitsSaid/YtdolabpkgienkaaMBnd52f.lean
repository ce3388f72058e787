/- Layer 52: what Choose chooses can be bound. -/
import Derived.Test.YtdolabpkgienkaaMBnd52
import Derived.Test.YtdolabpkgienkaaMBnd52c
import Derived.Test.YtdolabpkgienkaaMBnd52d
import Derived.Test.YtdolabpkgienkaaPF0
import Derived.Test.YtdolabpkgienkaaPF3
import Derived.Test.YtdolabpkgienkaaPF5
namespace Go.Proofs.Ytdolabpkgienkaa.PF
open Go.RowKit Go.Proofs.YtdolabpkgienkaaW.PrintWords Go.Proofs.YtdolabpkgienkaaW.PrintLast Go.Proofs.YtdolabpkgienkaaW.PrintMore
set_option linter.unusedVariables false
set_option linter.unusedSimpArgs false
def candB (h : List S35) (a day : Int) (b : S31) : Prop := (b.f1 ≤ day ∧ day ≤ b.f2) ∧ b.f3 - sumH h b.f0 ≥ a
def bestB (l : List S31) (h : List S35) (a day : Int) (st : Int × Int) : Prop :=
  (st.1 = 0 ∧ ∀ c ∈ l, ¬ candB h a day c) ∨ ∃ b ∈ l, candB h a day b ∧ st = (b.f0, b.f3 - sumH h b.f0) ∧ ∀ c ∈ l, candB h a day c → st.2 ≤ c.f3 - sumH h c.f0 ∧ (c.f3 - sumH h c.f0 = st.2 → st.1 ≤ c.f0)
theorem best_step {l : List S31} {h : List S35} {a day : Int} {st : Int × Int} (hb : bestB l h a day st) {b : S31} (hpos : ∀ c ∈ l, 1 ≤ c.f0) (hlt : ∀ c ∈ l, c.f0 < b.f0) : bestB (l ++ [b]) h a day (choF h a day st b) := by
  unfold choF
  by_cases c : candB h a day b
  · rcases hb with ⟨h0, hno⟩ | ⟨d, hd, hc, rfl, hall⟩
    · rw [if_pos ⟨c.1, c.2, .inl h0⟩]
      refine .inr ⟨b, by simp, c, rfl, fun x hx hcx => ?_⟩
      rcases List.mem_append.1 hx with hx | hx
      · exact absurd hcx (hno x hx)
      · rw [List.mem_singleton] at hx; subst hx; exact ⟨Int.le_refl _, fun _ => Int.le_refl _⟩
    · have hd0 : d.f0 ≠ 0 := by have := hpos d hd; omega
      by_cases e : b.f3 - sumH h b.f0 < d.f3 - sumH h d.f0
      · rw [if_pos ⟨c.1, c.2, .inr e⟩]
        refine .inr ⟨b, by simp, c, rfl, fun x hx hcx => ?_⟩
        rcases List.mem_append.1 hx with hx | hx
        · have := hall x hx hcx
          simp only at this ⊢
          exact ⟨by omega, fun e2 => by omega⟩
        · rw [List.mem_singleton] at hx; subst hx; exact ⟨Int.le_refl _, fun _ => Int.le_refl _⟩
      · rw [if_neg (fun x => x.2.2.elim hd0 e)]
        refine .inr ⟨d, List.mem_append_left _ hd, hc, rfl, fun x hx hcx => ?_⟩
        rcases List.mem_append.1 hx with hx | hx
        · exact hall x hx hcx
        · rw [List.mem_singleton] at hx; subst hx
          have := hlt d hd
          simp only
          exact ⟨by omega, fun _ => by omega⟩
  · have hn : ¬ ((b.f1 ≤ day ∧ day ≤ b.f2) ∧ b.f3 - sumH h b.f0 ≥ a ∧ (st.1 = 0 ∨ b.f3 - sumH h b.f0 < st.2)) := fun x => c ⟨x.1, x.2.1⟩
    rw [if_neg hn]
    rcases hb with ⟨h0, hno⟩ | ⟨d, hd, hc, rfl, hall⟩
    · refine .inl ⟨h0, fun x hx => ?_⟩
      rcases List.mem_append.1 hx with hx | hx
      · exact hno x hx
      · rw [List.mem_singleton] at hx; subst hx; exact c
    · refine .inr ⟨d, List.mem_append_left _ hd, hc, rfl, fun x hx hcx => ?_⟩
      rcases List.mem_append.1 hx with hx | hx
      · exact hall x hx hcx
      · rw [List.mem_singleton] at hx; subst hx; exact absurd hcx c
theorem best_fold {h : List S35} {a day : Int} : ∀ (r p : List S31) (st : Int × Int), bestB p h a day st → (∀ c ∈ p ++ r, 1 ≤ c.f0) → (p ++ r).Pairwise (fun a b => a.f0 < b.f0) → bestB (p ++ r) h a day (r.foldl (choF h a day) st) := by
  intro r
  induction r with
  | nil => intro p st hb _ _; rw [List.append_nil]; exact hb
  | cons b r ih =>
    intro p st hb hpos hpw
    rw [List.foldl_cons]
    have e : p ++ b :: r = (p ++ [b]) ++ r := by simp
    rw [e] at hpos hpw ⊢
    refine ih (p ++ [b]) _ (best_step hb (fun c hc => hpos c (List.mem_append_left _ (List.mem_append_left _ hc))) fun c hc => ?_) hpos hpw
    have := (List.pairwise_append.1 hpw).1
    exact (List.pairwise_append.1 this).2.2 c hc b (by simp)
theorem best_all {l : List S31} (hl : RightB l) (h : List S35) (a day : Int) : bestB l h a day (l.foldl (choF h a day) (0, 0)) := by
  have := best_fold (h := h) (a := a) (day := day) l [] (0, 0) (.inl ⟨rfl, fun c hc => by simp at hc⟩) (fun c hc => by have := hl.2.1 c (by simpa using hc); unfold okB at this; omega) (by simpa using hl.2.2)
  simpa using this
/-- What Choose says. -/
theorem cho_spec {l : List S31} {h : List S35} {a day id e : Int} (hc : choR l h a day = (id, e)) :
    (e ≠ 0 ∧ e ≠ 17 ∧ id = 0) ∨ (RightH l h ∧ (0 ≤ a ∧ a ≤ 1125899906842624) ∧ (0 ≤ day ∧ day ≤ 100000) ∧
      ((e = 17 ∧ ∀ c ∈ l, ¬ candB h a day c) ∨ (e = 0 ∧ ∃ b ∈ l, candB h a day b ∧ id = b.f0 ∧ ∀ c ∈ l, candB h a day c → b.f3 - sumH h b.f0 ≤ c.f3 - sumH h c.f0 ∧ (c.f3 - sumH h c.f0 = b.f3 - sumH h b.f0 → b.f0 ≤ c.f0)))) := by
  unfold choR at hc
  by_cases c0 : (hldR l h).2 = 0
  case neg =>
    rw [if_neg c0] at hc
    simp only [Prod.mk.injEq] at hc
    obtain ⟨rfl, rfl⟩ := hc
    exact .inl ⟨by decide, by decide, rfl⟩
  have hr := (hldR_zero l h).1 c0
  rw [if_pos c0] at hc
  by_cases c1 : (0 ≤ a ∧ a ≤ 1125899906842624) ∧ 0 ≤ day ∧ day ≤ 100000
  case neg =>
    rw [if_neg c1] at hc
    simp only [Prod.mk.injEq] at hc
    obtain ⟨rfl, rfl⟩ := hc
    exact .inl ⟨by decide, by decide, rfl⟩
  rw [if_pos c1] at hc
  refine .inr ⟨hr, c1.1, c1.2, ?_⟩
  have hb := best_all hr.1 h a day
  generalize l.foldl (choF h a day) (0, 0) = st at hc hb
  unfold choE at hc
  rcases hb with ⟨h0, hno⟩ | ⟨b, hbm, hcb, rfl, hall⟩
  · rw [if_pos h0] at hc
    simp only [Prod.mk.injEq] at hc
    exact .inl ⟨hc.2.symm, hno⟩
  · have hbp := hr.1.2.1 b hbm
    unfold okB at hbp
    rw [if_neg (show ¬ (b.f0, b.f3 - sumH h b.f0).1 = 0 by simp only; omega)] at hc
    simp only [Prod.mk.injEq] at hc
    exact .inr ⟨hc.2.symm, b, hbm, hcb, hc.1.symm, hall⟩
theorem fre_mem {l : List S31} {h : List S35} (hr : RightH l h) {b : S31} (hb : b ∈ l) : freR l h b.f0 = (b.f3 - sumH h b.f0, 0) := by
  unfold freR
  rw [if_pos ((hldR_zero l h).2 hr), findB_mem hr.1 hb]
theorem bnd_mem {l : List S31} {h : List S35} (hr : RightH l h) {b : S31} (hb : b ∈ l) {m a day : Int} (hm : 1 ≤ m ∧ m ≤ 1073741824) (ha : 0 ≤ a ∧ a ≤ 1125899906842624) (hd : 0 ≤ day ∧ day ≤ 100000) (hn : has h m = false) (hl : h.length ≤ 15) :
    (bndR l h ⟨b.f0, m, a⟩ day).2 = 0 ↔ candB h a day b := by
  unfold bndR candB
  rw [if_neg (not_not_intro ((hldR_zero l h).2 hr)), if_neg (not_not_intro hm), if_neg (not_not_intro ha), if_neg (not_not_intro hd), hn, if_neg (by decide), findB_mem hr.1 hb]
  simp only
  by_cases c1 : b.f1 ≤ day ∧ day ≤ b.f2
  case neg => rw [if_pos c1]; exact ⟨fun e => absurd e (by decide), fun e => absurd e.1 c1⟩
  rw [if_neg (not_not_intro c1)]
  by_cases c2 : b.f3 - sumH h b.f0 < a
  · rw [if_pos c2]; exact ⟨fun e => absurd e (by decide), fun e => absurd e.2 (by omega)⟩
  · rw [if_neg c2, if_neg (by omega)]
    exact ⟨fun _ => ⟨c1, by omega⟩, fun _ => rfl⟩

end Go.Proofs.Ytdolabpkgienkaa.PF
