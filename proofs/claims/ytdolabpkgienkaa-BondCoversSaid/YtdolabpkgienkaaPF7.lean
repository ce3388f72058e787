-- Written by a program of this session (wip/pr.py) out of Lean's print of the translation; Lean checks it.
import Derived.Test.YtdolabpkgienkaaPF0
import Derived.Test.YtdolabpkgienkaaPF1
import Derived.Test.YtdolabpkgienkaaPF3
import Derived.Test.YtdolabpkgienkaaPF4
import Derived.Test.YtdolabpkgienkaaPF5
import Derived.Test.YtdolabpkgienkaaPF6
namespace Go.Proofs.Ytdolabpkgienkaa.PF
open Go.RowKit Go.Proofs.YtdolabpkgienkaaW.PrintWords Go.Proofs.YtdolabpkgienkaaW.PrintLast Go.Proofs.YtdolabpkgienkaaW.PrintMore
attribute [local go_sem] max2_int min2_int max_two min_two max_three min_three max_four min_four   -- for this text's walks alone
set_option linter.unusedVariables false
set_option linter.unusedSimpArgs false

/-! ### bond_Bind: function 20 -/
-- MAKING
-- behind 46 43
theorem bond_free.l0_plain (l : List S35) (b0 b1 b2 b3 M : Int) (hl : l.length < 4611686018427387904) (hM : 0 ≤ M) (hk : ∀ x ∈ l, 0 ≤ x.f2) (hsum : ∀ id, sumH l id ≤ M) (hb : -M ≤ b3 - M ∧ b3 ≤ 4611686018427387904) (hM2 : M ≤ 4611686018427387904) : ∀ d i : Nat, i + d = l.length → ∀ n : Int, n = b3 - sumH (l.take i) b0 →
    bond_free.l0 (d + 1) n l (l.length : Int) (i : Int) b0 b1 b2 b3 = some (b3 - sumH l b0) := by
  intro d
  induction d with
  | zero =>
    intro i hi n hn
    rw [bond_free.l0, if_neg (by omega)]
    rw [hn, List.take_of_length_le (by omega)]
  | succ d ih =>
    intro i hi n hn
    have hlt : i < l.length := by omega
    have ht := takeH hlt
    have hs : sumH (l.take (i + 1)) b0 = sumH (l.take i) b0 + (if (rd_T35 l (i : Int)).f0 = b0 then (rd_T35 l (i : Int)).f2 else 0) := by
      rw [ht, sumH_append]; simp [sumH]
    have hnn : 0 ≤ sumH (l.take (i + 1)) b0 := sumH_nonneg (fun x hx => hk x (List.mem_of_mem_take hx)) b0
    have hle : sumH (l.take (i + 1)) b0 ≤ M := by
      have e : sumH l b0 = sumH (l.take (i + 1)) b0 + sumH (l.drop (i + 1)) b0 := by rw [← sumH_append, List.take_append_drop]
      have h2 : 0 ≤ sumH (l.drop (i + 1)) b0 := sumH_nonneg (fun x hx => hk x (List.mem_of_mem_drop hx)) b0
      have h3 := hsum b0
      omega
    have w1 : wrap64 ((i : Int) + 1) = ((i + 1 : Nat) : Int) := by rw [w64_ (by omega) (by omega)]; rfl
    rw [bond_free.l0, if_pos (by omega), if_pos (by omega), if_pos (by omega), w1]
    by_cases e : (rd_T35 l (i : Int)).f0 = b0
    · rw [if_pos e] at hs ⊢
      have w2 : wrap64 (n - (rd_T35 l (i : Int)).f2) = n - (rd_T35 l (i : Int)).f2 := by
        have e2 : n - (rd_T35 l (i : Int)).f2 = b3 - sumH (l.take (i + 1)) b0 := by rw [hs, hn]; omega
        rw [e2]
        exact w64_ (by omega) (by omega)
      rw [w2]
      exact ih (i + 1) (by omega) _ (by rw [hs, hn]; omega)
    · rw [if_neg e] at hs ⊢
      exact ih (i + 1) (by omega) _ (by rw [hs, hn]; omega)
theorem bond_free.plain {l : List S35} (b0 b1 b2 b3 : Int) (hl : l.length ≤ 17) (hk : ∀ x ∈ l, okH x) (hb : 0 ≤ b3 ∧ b3 ≤ 1125899906842624) : bond_free.f (l.length + 1) b0 b1 b2 b3 l = some (b3 - sumH l b0) := by
  unfold bond_free.f
  refine bond_free.l0_plain l b0 b1 b2 b3 (17 * 1125899906842624) (by omega) (by omega) (fun x hx => (hk x hx).2.2.1) (fun id => ?_) (by omega) (by omega) l.length 0 (by omega) _ (by simp [sumH])
  have h1 := sumH_le (h := l) (M := 1125899906842624) (by omega) (fun x hx => (hk x hx).2.2.2) id
  have h2 : (l.length : Int) * 1125899906842624 ≤ 17 * 1125899906842624 := by omega
  omega
theorem holdIns_ne {W : World} {base vb : Nat} {ok : Nat → Prop} {v : Value} {xs : List S35} (hR : Kd.R k35 35 W base ok v xs) (h : W.heap.size ≤ vb ∨ vb < base) : v.ownBlock ≠ some vb := by
  obtain ⟨_, inner, ⟨_, hh⟩, _⟩ := hR
  rcases hh with ⟨rfl, _⟩ | ⟨g, cap, cur, rfl, hbg, hg, _⟩
  · intro e; cases e
  · intro e
    have e2 : g = vb := by injection e
    have := (Array.getElem?_eq_some_iff.1 hg).1
    omega
theorem holdIns_any (base : Nat) (v : Value) (xs : List S35) (x : S35) (i vb vc tA : Nat) (w : World) (hR : Kd.R k35 35 w base (fun _ => True) v xs) (hi : i ≤ xs.length) (hbig : (xs.length + 1) * 24 ≤ 140737488355328) (hbase : base ≤ w.heap.size)
    (hvh : w.heap[vb]? = some (.cells #[.int .i64 x.f0, .int .i64 x.f1, .int .i64 x.f2] tA (0, 0))) (hne : v.ownBlock ≠ some vb) :
    Calls Try.prog 46 #[v, .int .i64 i, .slice (some ⟨vb, 0, none⟩) 1 vc] w fun e w' => ∃ v', e = .returned v' ∧ Kd.R k35 35 w' base (fun _ => True) v' (xs.take i ++ x :: xs.drop i) ∧ Below base w w' := by
  rcases Nat.lt_or_ge i xs.length with h | h
  · exact api_Hold_46.one base v xs x i vb vc tA w hR h hbig hbase hvh hne
  · have e : i = xs.length := by omega
    subst e
    have h2 := api_Hold_46.last base v xs x vb vc tA w hR hbig hbase hvh
    rw [List.take_length, List.drop_length]
    exact h2
theorem holdIns_A {w0 wz : World} {base0 : Nat} {v : Value} {xs : List S35} {x0 x1 x2 : Int} {i : Nat} (hR : Kd.R k35 35 wz base0 (fun _ => True) v xs) (hbase : w0.heap.size ≤ base0) (hb : Below w0.heap.size w0 wz) (hi : i ≤ xs.length) (hbig : (xs.length + 1) * 24 ≤ 140737488355328) :
    Calls Try.prog 46 #[v, .int .i64 i, .slice (some ⟨wz.heap.size, 0, none⟩) 1 1] (wz.alloc (.cells #[.int .i64 x0, .int .i64 x1, .int .i64 x2] 35 (0, 0))) fun e w' => ∃ v', e = .returned v' ∧ Kd.R k35 35 w' w0.heap.size (fun _ => True) v' (xs.take i ++ ⟨x0, x1, x2⟩ :: xs.drop i) ∧ Below w0.heap.size w0 w' :=
  (holdIns_any w0.heap.size v xs ⟨x0, x1, x2⟩ i wz.heap.size 1 35 _ (Kd.R_alloc (Kd.R_lower hR hbase) _) hi hbig (below_size (below_alloc hb _)) (heap_alloc_new _ _) (holdIns_ne hR (Or.inl (Nat.le_refl _)))).mono
    fun _ _ ⟨v', he, hR', hb'⟩ => ⟨v', he, hR', (below_alloc hb _).trans hb'⟩
theorem holdIns_B {w0 wy wz : World} {v : Value} {xs : List S35} {x0 x1 x2 : Int} {i : Nat} (hR : Kd.R k35 35 wz (wy.alloc (.cells #[.int .i64 x0, .int .i64 x1, .int .i64 x2] 35 (0, 0))).drew.heap.size (fun _ => True) v xs) (hby : Below w0.heap.size w0 wy) (hb : Below (wy.alloc (.cells #[.int .i64 x0, .int .i64 x1, .int .i64 x2] 35 (0, 0))).drew.heap.size (wy.alloc (.cells #[.int .i64 x0, .int .i64 x1, .int .i64 x2] 35 (0, 0))).drew wz) (hi : i ≤ xs.length) (hbig : (xs.length + 1) * 24 ≤ 140737488355328) :
    Calls Try.prog 46 #[v, .int .i64 i, .slice (some ⟨wy.heap.size, 0, none⟩) 1 1] wz fun e w' => ∃ v', e = .returned v' ∧ Kd.R k35 35 w' w0.heap.size (fun _ => True) v' (xs.take i ++ ⟨x0, x1, x2⟩ :: xs.drop i) ∧ Below w0.heap.size w0 w' :=
  have hbz : Below w0.heap.size w0 wz := below_step (below_drew1 (below_alloc hby _)) hb
  have hlt : wy.heap.size < (wy.alloc (.cells #[.int .i64 x0, .int .i64 x1, .int .i64 x2] 35 (0, 0))).drew.heap.size := by show wy.heap.size < (wy.alloc _).heap.size; simp
  (holdIns_any w0.heap.size v xs ⟨x0, x1, x2⟩ i wy.heap.size 1 35 _ (Kd.R_lower hR (below_size (below_drew1 (below_alloc hby _)))) hi hbig (below_size hbz) (blk_below (show (wy.alloc _).drew.heap[_]? = _ from heap_alloc_new wy _) hb) (holdIns_ne hR (Or.inr hlt))).mono
    fun _ _ ⟨v', he, hR', hb'⟩ => ⟨v', he, hR', hbz.trans hb'⟩
def bond_Bind.f (l0 : List S31) (l1 : List S35) (a2_0 a2_1 a2_2 : Int) (a3 : Int) : Option (List S35 × Int) :=
  some (if (hldR l0 l1).2 ≠ 0 then ([], 1) else if ¬ (1 ≤ a2_1 ∧ a2_1 ≤ 1073741824) then ([], 2) else if ¬ (0 ≤ a2_2 ∧ a2_2 ≤ 1125899906842624) then ([], 2) else if ¬ (0 ≤ a3 ∧ a3 ≤ 100000) then ([], 2)
    else if (bsR (mvC l1 a2_1) l1.length).2 = true then ([], 6) else match findB l0 a2_0 with
      | none => ([], 7)
      | some b => if ¬ (b.f1 ≤ a3 ∧ a3 ≤ b.f2) then ([], 23) else if b.f3 - sumH l1 b.f0 < a2_2 then ([], 17) else if l1.length = 16 then ([], 12)
        else (l1.take (bsR (mvC l1 a2_1) l1.length).1 ++ ⟨a2_0, a2_1, a2_2⟩ :: l1.drop (bsR (mvC l1 a2_1) l1.length).1, 0))
set_option maxHeartbeats 8000000 in
set_option maxRecDepth 100000 in
theorem bond_Bind.calls (A0 : Option Addr) (c0 : Nat) (l0 : List S31) (A1 : Option Addr) (c1 : Nat) (l1 : List S35) (a2_0 a2_1 a2_2 a3 : Int) (r1 : List S35) (r2 : Int) (w : World) (hr0 : Kd.C k31 w A0 l0.length l0) (hc0 : l0.length ≤ c0) (hr1 : Kd.C k35 w A1 l1.length l1) (hc1 : l1.length ≤ c1) (h : bond_Bind.f l0 l1 a2_0 a2_1 a2_2 a3 = some (r1, r2)) :
    Calls Try.prog 20 #[.slice A0 l0.length c0, .slice A1 l1.length c1, .agg #[.int .i64 a2_0, .int .i64 a2_1, .int .i64 a2_2], .int .i64 a3] w fun e w' => ∃ v0_ : Value, e = .returned (.tuple #[v0_, .int .i64 r2]) ∧ Kd.R k35 35 w' w.heap.size (fun _ => True) v0_ r1 ∧ Below w.heap.size w w' := by
  have h := Option.some.inj h
  obtain ⟨⟨q1, q2⟩, hq⟩ : ∃ q, hldR l0 l1 = q := ⟨_, rfl⟩
  have HAS := Aside0.mk (fun W (hb : Below w.heap.size w W) => bond_asks.calls A0 c0 l0 A1 c1 l1 (if q2 = 0 then 0 else 1) W (Kd.C_below hr0 hb) hc0 (Kd.C_below hr1 hb) hc1 (by
    unfold bond_asks.f bond_Holds.f
    rw [Option.bind_some, hq]
    by_cases e : q2 = 0
    · rw [if_pos e, if_pos e]
    · rw [if_neg e, if_neg e]))
  rw [hq] at h
  have HB := Aside0.mk (Below.refl w.heap.size w)
  by_cases e : q2 = 0
  case neg =>
    rw [if_pos e] at h
    rw [if_neg e] at HAS
    simp only [Prod.mk.injEq] at h
    obtain ⟨rfl, rfl⟩ := h
    clear hr0 hr1 hc0 hc1 hq e
    go_enter Try.func20, Try.ntmps20
    go_wp2_with (first
      | ((with_reducible refine gate_dst (N := 6) rfl ?_); refine box_event ?hg (N := 6) ?hd (cs := #[.int .i64 a2_0, .int .i64 a2_1, .int .i64 a2_2]) (t := 35) ?hr ?_; (case hd => rfl); (case hg => rfl); (case hr => first | (go_simp; done) | (go_simp; rfl)); intro g6 hg6 wy hbox hb; replace HB := Aside0.mk (below_step HB.out hb); have d0 : wy.cell? ⟨g6, 0, none⟩ = some (.int .i64 a2_0) := blk_cell hbox 0; have d1 : wy.cell? ⟨g6, 1, none⟩ = some (.int .i64 a2_1) := blk_cell hbox 1; have d2 : wy.cell? ⟨g6, 2, none⟩ = some (.int .i64 a2_2) := blk_cell hbox 2; clear hb hbox hg6)
      | (go_at_call 42; refine (HAS.out _ HB.out).mono ?_; rintro e' wz ⟨rfl, hb⟩; replace HB := Aside0.mk (below_step HB.out hb); replace d0 := pw_cell_below hb d0; replace d1 := pw_cell_below hb d1; replace d2 := pw_cell_below hb d2; clear hb))
    go_ret2
    exact ⟨_, rfl, Kd.R_nil _ _ _ _ _, HB.out⟩
  rw [if_neg (not_not_intro e)] at h
  rw [if_pos e] at HAS
  have RH := (hldR_zero l0 l1).1 (by rw [hq]; exact e)
  have hlen := RH.2.1
  have hlb : l0.length ≤ 17 := by have := RH.1.1; omega
  obtain ⟨⟨i, ok⟩, hi⟩ : ∃ p, bsR (mvC l1 a2_1) l1.length = p := ⟨_, rfl⟩
  rw [hi] at h
  simp only at h
  have HPL := Aside0.mk (fun W (hb : Below w.heap.size w W) => bond_place.calls A1 c1 l1 a2_1 (i : Int) ok W (Kd.C_below hr1 hb) hc1 (by unfold bond_place.f; rw [if_pos (by omega), hi]))
  have HCL := Aside0.mk (fun W (hb : Below w.heap.size w W) => api_Hold_16.calls A1 c1 l1 l1 W (Kd.C_below hr1 hb) hc1 (by unfold api_Hold_16.f; rw [if_pos (by omega)]))
  obtain ⟨b0, b1, b2, b3, okb, hfi⟩ : ∃ b0 b1 b2 b3 ok, bond_find.f l0 a2_0 = some (b0, b1, b2, b3, ok) := by
    unfold bond_find.f
    rw [if_pos (by omega)]
    cases findB l0 a2_0 with
    | none => exact ⟨_, _, _, _, _, rfl⟩
    | some b => exact ⟨_, _, _, _, _, rfl⟩
  have HFI := Aside0.mk (fun W (hb : Below w.heap.size w W) => bond_find.calls A0 c0 l0 a2_0 b0 b1 b2 b3 okb W (Kd.C_below hr0 hb) hc0 hfi)
  have HFR := Aside0.mk (fun (h3 : 0 ≤ b3 ∧ b3 ≤ 1125899906842624) W (hb : Below w.heap.size w W) => bond_free.calls (l1.length + 1) b0 b1 b2 b3 A1 c1 l1 (b3 - sumH l1 b0) W (Kd.C_below hr1 hb) hc1 (bond_free.plain b0 b1 b2 b3 (by omega) RH.2.2.1 h3))
  have hfd := hfi
  unfold bond_find.f at hfd
  rw [if_pos (by omega)] at hfd
  replace hfd := Option.some.inj hfd
  have HLN := Aside0.mk hlen
  clear hr0 hr1 hc0 hc1 hq e hfi hlb
  by_cases m1 : 1 ≤ a2_1 ∧ a2_1 ≤ 1073741824
  case neg =>
    rw [if_pos m1] at h
    simp only [Prod.mk.injEq] at h
    obtain ⟨rfl, rfl⟩ := h
    have HW1 := Aside0.mk (fun W => bond_within.calls a2_1 1 1073741824 false W (by rw [bond_within.plain, decide_eq_false m1]))
    clear hi hfd HFR HCL HLN RH hlen m1
    go_enter Try.func20, Try.ntmps20
    go_wp2_with (first
      | ((with_reducible refine gate_dst (N := 6) rfl ?_); refine box_event ?hg (N := 6) ?hd (cs := #[.int .i64 a2_0, .int .i64 a2_1, .int .i64 a2_2]) (t := 35) ?hr ?_; (case hd => rfl); (case hg => rfl); (case hr => first | (go_simp; done) | (go_simp; rfl)); intro g6 hg6 wy hbox hb; replace HB := Aside0.mk (below_step HB.out hb); have d0 : wy.cell? ⟨g6, 0, none⟩ = some (.int .i64 a2_0) := blk_cell hbox 0; have d1 : wy.cell? ⟨g6, 1, none⟩ = some (.int .i64 a2_1) := blk_cell hbox 1; have d2 : wy.cell? ⟨g6, 2, none⟩ = some (.int .i64 a2_2) := blk_cell hbox 2; clear hb hbox hg6)
      | (go_at_call 42; refine (HAS.out _ HB.out).mono ?_; rintro e' wz ⟨rfl, hb⟩; replace HB := Aside0.mk (below_step HB.out hb); replace d0 := pw_cell_below hb d0; replace d1 := pw_cell_below hb d1; replace d2 := pw_cell_below hb d2; clear hb)
      | (go_at_call 45; refine (HPL.out _ HB.out).mono ?_; rintro e' wz ⟨rfl, hb⟩; replace HB := Aside0.mk (below_step HB.out hb); replace d0 := pw_cell_below hb d0; replace d1 := pw_cell_below hb d1; replace d2 := pw_cell_below hb d2; clear hb)
      | (go_at_call 39; refine (HFI.out _ HB.out).mono ?_; rintro e' wz ⟨rfl, hb⟩; replace HB := Aside0.mk (below_step HB.out hb); replace d0 := pw_cell_below hb d0; replace d1 := pw_cell_below hb d1; replace d2 := pw_cell_below hb d2; clear hb)
      | ((with_reducible refine gate_dst (N := 13) rfl ?_); refine box_event ?hg (N := 13) ?hd (cs := #[.int .i64 0, .int .i64 0, .int .i64 0, .int .i64 0]) (t := 31) ?hr ?_; (case hd => rfl); (case hg => rfl); (case hr => first | (go_simp; done) | (go_simp; rfl)); intro g13 hg wy hbox hb5; have hc0 : wy.cell? ⟨g13, 0, none⟩ = some (.int .i64 0) := blk_cell hbox 0; have hf0 := blk_frozen hbox 0; have hc1 : wy.cell? ⟨g13, 1, none⟩ = some (.int .i64 0) := blk_cell hbox 1; have hf1 := blk_frozen hbox 1; have hc2 : wy.cell? ⟨g13, 2, none⟩ = some (.int .i64 0) := blk_cell hbox 2; have hf2 := blk_frozen hbox 2; have hc3 : wy.cell? ⟨g13, 3, none⟩ = some (.int .i64 0) := blk_cell hbox 3; have hf3 := blk_frozen hbox 3; replace hbox := Aside0.mk hbox; replace hb5 := Aside0.mk hb5; replace hg := Aside0.mk hg)
      | ((with_reducible refine gate_store (t := 31) (p := 13) rfl ?_); refine store_event (t := 31) (p := 13) (v := .tmp 33) (w1 := ((((wy.setCell ⟨g13, 0, none⟩ (.int .i64 b0)).setCell ⟨g13, 1, none⟩ (.int .i64 b1)).setCell ⟨g13, 2, none⟩ (.int .i64 b2)).setCell ⟨g13, 3, none⟩ (.int .i64 b3))) ?hg ?ho ?hn ?hr ?_; (case ho => rfl); (case hg => rfl); (case hn => rfl); (case hr => first | (go_simp; done) | (go_simp; rfl)); intro wz hw6; clear hc0 hf0 hc1 hf1 hc2 hf2 hc3 hf3; have hbx := box4_ (x := .int .i64 b0) (y := .int .i64 b1) (z := .int .i64 b2) (u := .int .i64 b3) hb5.out hg.out hbox.out; rw [← hw6] at hbx; clear hw6 hb5 hg hbox; obtain ⟨hb, hk6⟩ := hbx; replace HB := Aside0.mk (below_step HB.out hb); replace d0 := pw_cell_below hb d0; replace d1 := pw_cell_below hb d1; replace d2 := pw_cell_below hb d2; have e0 : wz.cell? ⟨g13, 0, none⟩ = some (.int .i64 b0) := blk_cell hk6 0; have e1 : wz.cell? ⟨g13, 1, none⟩ = some (.int .i64 b1) := blk_cell hk6 1; have e2 : wz.cell? ⟨g13, 2, none⟩ = some (.int .i64 b2) := blk_cell hk6 2; have e3 : wz.cell? ⟨g13, 3, none⟩ = some (.int .i64 b3) := blk_cell hk6 3; clear hb hk6)
      | (go_at_call 37; refine (HW1.out _).mono ?_; rintro e' wz ⟨rfl, hd⟩; have hb := hd.below; replace HB := Aside0.mk (below_step HB.out hb); replace d0 := pw_cell_below hb d0; replace d1 := pw_cell_below hb d1; replace d2 := pw_cell_below hb d2; replace e0 := pw_cell_below hb e0; replace e1 := pw_cell_below hb e1; replace e2 := pw_cell_below hb e2; replace e3 := pw_cell_below hb e3; clear hb hd HW1))
    go_ret2
    exact ⟨_, rfl, Kd.R_nil _ _ _ _ _, HB.out⟩
  rw [if_neg (not_not_intro m1)] at h
  by_cases m2 : 0 ≤ a2_2 ∧ a2_2 ≤ 1125899906842624
  case neg =>
    rw [if_pos m2] at h
    simp only [Prod.mk.injEq] at h
    obtain ⟨rfl, rfl⟩ := h
    have HW1 := Aside0.mk (fun W => bond_within.calls a2_1 1 1073741824 true W (by rw [bond_within.plain, decide_eq_true m1]))
    have HW2 := Aside0.mk (fun W => bond_within.calls a2_2 0 1125899906842624 false W (by rw [bond_within.plain, decide_eq_false m2]))
    clear hi hfd HFR HCL HLN RH hlen m1 m2
    go_enter Try.func20, Try.ntmps20
    go_wp2_with (first
      | ((with_reducible refine gate_dst (N := 6) rfl ?_); refine box_event ?hg (N := 6) ?hd (cs := #[.int .i64 a2_0, .int .i64 a2_1, .int .i64 a2_2]) (t := 35) ?hr ?_; (case hd => rfl); (case hg => rfl); (case hr => first | (go_simp; done) | (go_simp; rfl)); intro g6 hg6 wy hbox hb; replace HB := Aside0.mk (below_step HB.out hb); have d0 : wy.cell? ⟨g6, 0, none⟩ = some (.int .i64 a2_0) := blk_cell hbox 0; have d1 : wy.cell? ⟨g6, 1, none⟩ = some (.int .i64 a2_1) := blk_cell hbox 1; have d2 : wy.cell? ⟨g6, 2, none⟩ = some (.int .i64 a2_2) := blk_cell hbox 2; clear hb hbox hg6)
      | (go_at_call 42; refine (HAS.out _ HB.out).mono ?_; rintro e' wz ⟨rfl, hb⟩; replace HB := Aside0.mk (below_step HB.out hb); replace d0 := pw_cell_below hb d0; replace d1 := pw_cell_below hb d1; replace d2 := pw_cell_below hb d2; clear hb)
      | (go_at_call 45; refine (HPL.out _ HB.out).mono ?_; rintro e' wz ⟨rfl, hb⟩; replace HB := Aside0.mk (below_step HB.out hb); replace d0 := pw_cell_below hb d0; replace d1 := pw_cell_below hb d1; replace d2 := pw_cell_below hb d2; clear hb)
      | (go_at_call 39; refine (HFI.out _ HB.out).mono ?_; rintro e' wz ⟨rfl, hb⟩; replace HB := Aside0.mk (below_step HB.out hb); replace d0 := pw_cell_below hb d0; replace d1 := pw_cell_below hb d1; replace d2 := pw_cell_below hb d2; clear hb)
      | ((with_reducible refine gate_dst (N := 13) rfl ?_); refine box_event ?hg (N := 13) ?hd (cs := #[.int .i64 0, .int .i64 0, .int .i64 0, .int .i64 0]) (t := 31) ?hr ?_; (case hd => rfl); (case hg => rfl); (case hr => first | (go_simp; done) | (go_simp; rfl)); intro g13 hg wy hbox hb5; have hc0 : wy.cell? ⟨g13, 0, none⟩ = some (.int .i64 0) := blk_cell hbox 0; have hf0 := blk_frozen hbox 0; have hc1 : wy.cell? ⟨g13, 1, none⟩ = some (.int .i64 0) := blk_cell hbox 1; have hf1 := blk_frozen hbox 1; have hc2 : wy.cell? ⟨g13, 2, none⟩ = some (.int .i64 0) := blk_cell hbox 2; have hf2 := blk_frozen hbox 2; have hc3 : wy.cell? ⟨g13, 3, none⟩ = some (.int .i64 0) := blk_cell hbox 3; have hf3 := blk_frozen hbox 3; replace hbox := Aside0.mk hbox; replace hb5 := Aside0.mk hb5; replace hg := Aside0.mk hg)
      | ((with_reducible refine gate_store (t := 31) (p := 13) rfl ?_); refine store_event (t := 31) (p := 13) (v := .tmp 33) (w1 := ((((wy.setCell ⟨g13, 0, none⟩ (.int .i64 b0)).setCell ⟨g13, 1, none⟩ (.int .i64 b1)).setCell ⟨g13, 2, none⟩ (.int .i64 b2)).setCell ⟨g13, 3, none⟩ (.int .i64 b3))) ?hg ?ho ?hn ?hr ?_; (case ho => rfl); (case hg => rfl); (case hn => rfl); (case hr => first | (go_simp; done) | (go_simp; rfl)); intro wz hw6; clear hc0 hf0 hc1 hf1 hc2 hf2 hc3 hf3; have hbx := box4_ (x := .int .i64 b0) (y := .int .i64 b1) (z := .int .i64 b2) (u := .int .i64 b3) hb5.out hg.out hbox.out; rw [← hw6] at hbx; clear hw6 hb5 hg hbox; obtain ⟨hb, hk6⟩ := hbx; replace HB := Aside0.mk (below_step HB.out hb); replace d0 := pw_cell_below hb d0; replace d1 := pw_cell_below hb d1; replace d2 := pw_cell_below hb d2; have e0 : wz.cell? ⟨g13, 0, none⟩ = some (.int .i64 b0) := blk_cell hk6 0; have e1 : wz.cell? ⟨g13, 1, none⟩ = some (.int .i64 b1) := blk_cell hk6 1; have e2 : wz.cell? ⟨g13, 2, none⟩ = some (.int .i64 b2) := blk_cell hk6 2; have e3 : wz.cell? ⟨g13, 3, none⟩ = some (.int .i64 b3) := blk_cell hk6 3; clear hb hk6)
      | (go_at_call 37; refine (HW1.out _).mono ?_; rintro e' wz ⟨rfl, hd⟩; have hb := hd.below; replace HB := Aside0.mk (below_step HB.out hb); replace d0 := pw_cell_below hb d0; replace d1 := pw_cell_below hb d1; replace d2 := pw_cell_below hb d2; replace e0 := pw_cell_below hb e0; replace e1 := pw_cell_below hb e1; replace e2 := pw_cell_below hb e2; replace e3 := pw_cell_below hb e3; clear hb hd HW1)
      | (go_at_call 37; refine (HW2.out _).mono ?_; rintro e' wz ⟨rfl, hd⟩; have hb := hd.below; replace HB := Aside0.mk (below_step HB.out hb); replace d0 := pw_cell_below hb d0; replace d1 := pw_cell_below hb d1; replace d2 := pw_cell_below hb d2; replace e0 := pw_cell_below hb e0; replace e1 := pw_cell_below hb e1; replace e2 := pw_cell_below hb e2; replace e3 := pw_cell_below hb e3; clear hb hd HW2))
    go_ret2
    exact ⟨_, rfl, Kd.R_nil _ _ _ _ _, HB.out⟩
  rw [if_neg (not_not_intro m2)] at h
  by_cases m3 : 0 ≤ a3 ∧ a3 ≤ 100000
  case neg =>
    rw [if_pos m3] at h
    simp only [Prod.mk.injEq] at h
    obtain ⟨rfl, rfl⟩ := h
    have HW1 := Aside0.mk (fun W => bond_within.calls a2_1 1 1073741824 true W (by rw [bond_within.plain, decide_eq_true m1]))
    have HW2 := Aside0.mk (fun W => bond_within.calls a2_2 0 1125899906842624 true W (by rw [bond_within.plain, decide_eq_true m2]))
    have HW3 := Aside0.mk (fun W => bond_within.calls a3 0 100000 false W (by rw [bond_within.plain, decide_eq_false m3]))
    clear hi hfd HFR HCL HLN RH hlen m1 m2 m3
    go_enter Try.func20, Try.ntmps20
    go_wp2_with (first
      | ((with_reducible refine gate_dst (N := 6) rfl ?_); refine box_event ?hg (N := 6) ?hd (cs := #[.int .i64 a2_0, .int .i64 a2_1, .int .i64 a2_2]) (t := 35) ?hr ?_; (case hd => rfl); (case hg => rfl); (case hr => first | (go_simp; done) | (go_simp; rfl)); intro g6 hg6 wy hbox hb; replace HB := Aside0.mk (below_step HB.out hb); have d0 : wy.cell? ⟨g6, 0, none⟩ = some (.int .i64 a2_0) := blk_cell hbox 0; have d1 : wy.cell? ⟨g6, 1, none⟩ = some (.int .i64 a2_1) := blk_cell hbox 1; have d2 : wy.cell? ⟨g6, 2, none⟩ = some (.int .i64 a2_2) := blk_cell hbox 2; clear hb hbox hg6)
      | (go_at_call 42; refine (HAS.out _ HB.out).mono ?_; rintro e' wz ⟨rfl, hb⟩; replace HB := Aside0.mk (below_step HB.out hb); replace d0 := pw_cell_below hb d0; replace d1 := pw_cell_below hb d1; replace d2 := pw_cell_below hb d2; clear hb)
      | (go_at_call 45; refine (HPL.out _ HB.out).mono ?_; rintro e' wz ⟨rfl, hb⟩; replace HB := Aside0.mk (below_step HB.out hb); replace d0 := pw_cell_below hb d0; replace d1 := pw_cell_below hb d1; replace d2 := pw_cell_below hb d2; clear hb)
      | (go_at_call 39; refine (HFI.out _ HB.out).mono ?_; rintro e' wz ⟨rfl, hb⟩; replace HB := Aside0.mk (below_step HB.out hb); replace d0 := pw_cell_below hb d0; replace d1 := pw_cell_below hb d1; replace d2 := pw_cell_below hb d2; clear hb)
      | ((with_reducible refine gate_dst (N := 13) rfl ?_); refine box_event ?hg (N := 13) ?hd (cs := #[.int .i64 0, .int .i64 0, .int .i64 0, .int .i64 0]) (t := 31) ?hr ?_; (case hd => rfl); (case hg => rfl); (case hr => first | (go_simp; done) | (go_simp; rfl)); intro g13 hg wy hbox hb5; have hc0 : wy.cell? ⟨g13, 0, none⟩ = some (.int .i64 0) := blk_cell hbox 0; have hf0 := blk_frozen hbox 0; have hc1 : wy.cell? ⟨g13, 1, none⟩ = some (.int .i64 0) := blk_cell hbox 1; have hf1 := blk_frozen hbox 1; have hc2 : wy.cell? ⟨g13, 2, none⟩ = some (.int .i64 0) := blk_cell hbox 2; have hf2 := blk_frozen hbox 2; have hc3 : wy.cell? ⟨g13, 3, none⟩ = some (.int .i64 0) := blk_cell hbox 3; have hf3 := blk_frozen hbox 3; replace hbox := Aside0.mk hbox; replace hb5 := Aside0.mk hb5; replace hg := Aside0.mk hg)
      | ((with_reducible refine gate_store (t := 31) (p := 13) rfl ?_); refine store_event (t := 31) (p := 13) (v := .tmp 33) (w1 := ((((wy.setCell ⟨g13, 0, none⟩ (.int .i64 b0)).setCell ⟨g13, 1, none⟩ (.int .i64 b1)).setCell ⟨g13, 2, none⟩ (.int .i64 b2)).setCell ⟨g13, 3, none⟩ (.int .i64 b3))) ?hg ?ho ?hn ?hr ?_; (case ho => rfl); (case hg => rfl); (case hn => rfl); (case hr => first | (go_simp; done) | (go_simp; rfl)); intro wz hw6; clear hc0 hf0 hc1 hf1 hc2 hf2 hc3 hf3; have hbx := box4_ (x := .int .i64 b0) (y := .int .i64 b1) (z := .int .i64 b2) (u := .int .i64 b3) hb5.out hg.out hbox.out; rw [← hw6] at hbx; clear hw6 hb5 hg hbox; obtain ⟨hb, hk6⟩ := hbx; replace HB := Aside0.mk (below_step HB.out hb); replace d0 := pw_cell_below hb d0; replace d1 := pw_cell_below hb d1; replace d2 := pw_cell_below hb d2; have e0 : wz.cell? ⟨g13, 0, none⟩ = some (.int .i64 b0) := blk_cell hk6 0; have e1 : wz.cell? ⟨g13, 1, none⟩ = some (.int .i64 b1) := blk_cell hk6 1; have e2 : wz.cell? ⟨g13, 2, none⟩ = some (.int .i64 b2) := blk_cell hk6 2; have e3 : wz.cell? ⟨g13, 3, none⟩ = some (.int .i64 b3) := blk_cell hk6 3; clear hb hk6)
      | (go_at_call 37; refine (HW1.out _).mono ?_; rintro e' wz ⟨rfl, hd⟩; have hb := hd.below; replace HB := Aside0.mk (below_step HB.out hb); replace d0 := pw_cell_below hb d0; replace d1 := pw_cell_below hb d1; replace d2 := pw_cell_below hb d2; replace e0 := pw_cell_below hb e0; replace e1 := pw_cell_below hb e1; replace e2 := pw_cell_below hb e2; replace e3 := pw_cell_below hb e3; clear hb hd HW1)
      | (go_at_call 37; refine (HW2.out _).mono ?_; rintro e' wz ⟨rfl, hd⟩; have hb := hd.below; replace HB := Aside0.mk (below_step HB.out hb); replace d0 := pw_cell_below hb d0; replace d1 := pw_cell_below hb d1; replace d2 := pw_cell_below hb d2; replace e0 := pw_cell_below hb e0; replace e1 := pw_cell_below hb e1; replace e2 := pw_cell_below hb e2; replace e3 := pw_cell_below hb e3; clear hb hd HW2)
      | (go_at_call 37; refine (HW3.out _).mono ?_; rintro e' wz ⟨rfl, hd⟩; have hb := hd.below; replace HB := Aside0.mk (below_step HB.out hb); replace d0 := pw_cell_below hb d0; replace d1 := pw_cell_below hb d1; replace d2 := pw_cell_below hb d2; replace e0 := pw_cell_below hb e0; replace e1 := pw_cell_below hb e1; replace e2 := pw_cell_below hb e2; replace e3 := pw_cell_below hb e3; clear hb hd HW3))
    go_ret2
    exact ⟨_, rfl, Kd.R_nil _ _ _ _ _, HB.out⟩
  rw [if_neg (not_not_intro m3)] at h
  have HW1 := Aside0.mk (fun W => bond_within.calls a2_1 1 1073741824 true W (by rw [bond_within.plain, decide_eq_true m1]))
  have HW2 := Aside0.mk (fun W => bond_within.calls a2_2 0 1125899906842624 true W (by rw [bond_within.plain, decide_eq_true m2]))
  have HW3 := Aside0.mk (fun W => bond_within.calls a3 0 100000 true W (by rw [bond_within.plain, decide_eq_true m3]))
  clear m1 m2 m3
  by_cases m4 : ok = true
  case pos =>
    rw [if_pos m4] at h
    simp only [Prod.mk.injEq] at h
    obtain ⟨rfl, rfl⟩ := h
    subst m4
    clear hi hfd HFR HCL HLN RH hlen
    go_enter Try.func20, Try.ntmps20
    go_wp2_with (first
      | ((with_reducible refine gate_dst (N := 6) rfl ?_); refine box_event ?hg (N := 6) ?hd (cs := #[.int .i64 a2_0, .int .i64 a2_1, .int .i64 a2_2]) (t := 35) ?hr ?_; (case hd => rfl); (case hg => rfl); (case hr => first | (go_simp; done) | (go_simp; rfl)); intro g6 hg6 wy hbox hb; replace HB := Aside0.mk (below_step HB.out hb); have d0 : wy.cell? ⟨g6, 0, none⟩ = some (.int .i64 a2_0) := blk_cell hbox 0; have d1 : wy.cell? ⟨g6, 1, none⟩ = some (.int .i64 a2_1) := blk_cell hbox 1; have d2 : wy.cell? ⟨g6, 2, none⟩ = some (.int .i64 a2_2) := blk_cell hbox 2; clear hb hbox hg6)
      | (go_at_call 42; refine (HAS.out _ HB.out).mono ?_; rintro e' wz ⟨rfl, hb⟩; replace HB := Aside0.mk (below_step HB.out hb); replace d0 := pw_cell_below hb d0; replace d1 := pw_cell_below hb d1; replace d2 := pw_cell_below hb d2; clear hb)
      | (go_at_call 45; refine (HPL.out _ HB.out).mono ?_; rintro e' wz ⟨rfl, hb⟩; replace HB := Aside0.mk (below_step HB.out hb); replace d0 := pw_cell_below hb d0; replace d1 := pw_cell_below hb d1; replace d2 := pw_cell_below hb d2; clear hb)
      | (go_at_call 39; refine (HFI.out _ HB.out).mono ?_; rintro e' wz ⟨rfl, hb⟩; replace HB := Aside0.mk (below_step HB.out hb); replace d0 := pw_cell_below hb d0; replace d1 := pw_cell_below hb d1; replace d2 := pw_cell_below hb d2; clear hb)
      | ((with_reducible refine gate_dst (N := 13) rfl ?_); refine box_event ?hg (N := 13) ?hd (cs := #[.int .i64 0, .int .i64 0, .int .i64 0, .int .i64 0]) (t := 31) ?hr ?_; (case hd => rfl); (case hg => rfl); (case hr => first | (go_simp; done) | (go_simp; rfl)); intro g13 hg wy hbox hb5; have hc0 : wy.cell? ⟨g13, 0, none⟩ = some (.int .i64 0) := blk_cell hbox 0; have hf0 := blk_frozen hbox 0; have hc1 : wy.cell? ⟨g13, 1, none⟩ = some (.int .i64 0) := blk_cell hbox 1; have hf1 := blk_frozen hbox 1; have hc2 : wy.cell? ⟨g13, 2, none⟩ = some (.int .i64 0) := blk_cell hbox 2; have hf2 := blk_frozen hbox 2; have hc3 : wy.cell? ⟨g13, 3, none⟩ = some (.int .i64 0) := blk_cell hbox 3; have hf3 := blk_frozen hbox 3; replace hbox := Aside0.mk hbox; replace hb5 := Aside0.mk hb5; replace hg := Aside0.mk hg)
      | ((with_reducible refine gate_store (t := 31) (p := 13) rfl ?_); refine store_event (t := 31) (p := 13) (v := .tmp 33) (w1 := ((((wy.setCell ⟨g13, 0, none⟩ (.int .i64 b0)).setCell ⟨g13, 1, none⟩ (.int .i64 b1)).setCell ⟨g13, 2, none⟩ (.int .i64 b2)).setCell ⟨g13, 3, none⟩ (.int .i64 b3))) ?hg ?ho ?hn ?hr ?_; (case ho => rfl); (case hg => rfl); (case hn => rfl); (case hr => first | (go_simp; done) | (go_simp; rfl)); intro wz hw6; clear hc0 hf0 hc1 hf1 hc2 hf2 hc3 hf3; have hbx := box4_ (x := .int .i64 b0) (y := .int .i64 b1) (z := .int .i64 b2) (u := .int .i64 b3) hb5.out hg.out hbox.out; rw [← hw6] at hbx; clear hw6 hb5 hg hbox; obtain ⟨hb, hk6⟩ := hbx; replace HB := Aside0.mk (below_step HB.out hb); replace d0 := pw_cell_below hb d0; replace d1 := pw_cell_below hb d1; replace d2 := pw_cell_below hb d2; have e0 : wz.cell? ⟨g13, 0, none⟩ = some (.int .i64 b0) := blk_cell hk6 0; have e1 : wz.cell? ⟨g13, 1, none⟩ = some (.int .i64 b1) := blk_cell hk6 1; have e2 : wz.cell? ⟨g13, 2, none⟩ = some (.int .i64 b2) := blk_cell hk6 2; have e3 : wz.cell? ⟨g13, 3, none⟩ = some (.int .i64 b3) := blk_cell hk6 3; clear hb hk6)
      | (go_at_call 37; refine (HW1.out _).mono ?_; rintro e' wz ⟨rfl, hd⟩; have hb := hd.below; replace HB := Aside0.mk (below_step HB.out hb); replace d0 := pw_cell_below hb d0; replace d1 := pw_cell_below hb d1; replace d2 := pw_cell_below hb d2; replace e0 := pw_cell_below hb e0; replace e1 := pw_cell_below hb e1; replace e2 := pw_cell_below hb e2; replace e3 := pw_cell_below hb e3; clear hb hd HW1)
      | (go_at_call 37; refine (HW2.out _).mono ?_; rintro e' wz ⟨rfl, hd⟩; have hb := hd.below; replace HB := Aside0.mk (below_step HB.out hb); replace d0 := pw_cell_below hb d0; replace d1 := pw_cell_below hb d1; replace d2 := pw_cell_below hb d2; replace e0 := pw_cell_below hb e0; replace e1 := pw_cell_below hb e1; replace e2 := pw_cell_below hb e2; replace e3 := pw_cell_below hb e3; clear hb hd HW2)
      | (go_at_call 37; refine (HW3.out _).mono ?_; rintro e' wz ⟨rfl, hd⟩; have hb := hd.below; replace HB := Aside0.mk (below_step HB.out hb); replace d0 := pw_cell_below hb d0; replace d1 := pw_cell_below hb d1; replace d2 := pw_cell_below hb d2; replace e0 := pw_cell_below hb e0; replace e1 := pw_cell_below hb e1; replace e2 := pw_cell_below hb e2; replace e3 := pw_cell_below hb e3; clear hb hd HW3))
    go_ret2
    exact ⟨_, rfl, Kd.R_nil _ _ _ _ _, HB.out⟩
  rw [if_neg m4] at h
  replace m4 := Bool.eq_false_iff.mpr m4
  subst m4
  cases hf : findB l0 a2_0 with
  | none =>
    rw [hf] at h hfd
    simp only [Prod.mk.injEq] at h hfd
    obtain ⟨rfl, rfl⟩ := h
    obtain ⟨-, -, -, -, rfl⟩ := hfd
    clear hi HFR HCL HLN RH hlen hf
    go_enter Try.func20, Try.ntmps20
    go_wp2_with (first
      | ((with_reducible refine gate_dst (N := 6) rfl ?_); refine box_event ?hg (N := 6) ?hd (cs := #[.int .i64 a2_0, .int .i64 a2_1, .int .i64 a2_2]) (t := 35) ?hr ?_; (case hd => rfl); (case hg => rfl); (case hr => first | (go_simp; done) | (go_simp; rfl)); intro g6 hg6 wy hbox hb; replace HB := Aside0.mk (below_step HB.out hb); have d0 : wy.cell? ⟨g6, 0, none⟩ = some (.int .i64 a2_0) := blk_cell hbox 0; have d1 : wy.cell? ⟨g6, 1, none⟩ = some (.int .i64 a2_1) := blk_cell hbox 1; have d2 : wy.cell? ⟨g6, 2, none⟩ = some (.int .i64 a2_2) := blk_cell hbox 2; clear hb hbox hg6)
      | (go_at_call 42; refine (HAS.out _ HB.out).mono ?_; rintro e' wz ⟨rfl, hb⟩; replace HB := Aside0.mk (below_step HB.out hb); replace d0 := pw_cell_below hb d0; replace d1 := pw_cell_below hb d1; replace d2 := pw_cell_below hb d2; clear hb)
      | (go_at_call 45; refine (HPL.out _ HB.out).mono ?_; rintro e' wz ⟨rfl, hb⟩; replace HB := Aside0.mk (below_step HB.out hb); replace d0 := pw_cell_below hb d0; replace d1 := pw_cell_below hb d1; replace d2 := pw_cell_below hb d2; clear hb)
      | (go_at_call 39; refine (HFI.out _ HB.out).mono ?_; rintro e' wz ⟨rfl, hb⟩; replace HB := Aside0.mk (below_step HB.out hb); replace d0 := pw_cell_below hb d0; replace d1 := pw_cell_below hb d1; replace d2 := pw_cell_below hb d2; clear hb)
      | ((with_reducible refine gate_dst (N := 13) rfl ?_); refine box_event ?hg (N := 13) ?hd (cs := #[.int .i64 0, .int .i64 0, .int .i64 0, .int .i64 0]) (t := 31) ?hr ?_; (case hd => rfl); (case hg => rfl); (case hr => first | (go_simp; done) | (go_simp; rfl)); intro g13 hg wy hbox hb5; have hc0 : wy.cell? ⟨g13, 0, none⟩ = some (.int .i64 0) := blk_cell hbox 0; have hf0 := blk_frozen hbox 0; have hc1 : wy.cell? ⟨g13, 1, none⟩ = some (.int .i64 0) := blk_cell hbox 1; have hf1 := blk_frozen hbox 1; have hc2 : wy.cell? ⟨g13, 2, none⟩ = some (.int .i64 0) := blk_cell hbox 2; have hf2 := blk_frozen hbox 2; have hc3 : wy.cell? ⟨g13, 3, none⟩ = some (.int .i64 0) := blk_cell hbox 3; have hf3 := blk_frozen hbox 3; replace hbox := Aside0.mk hbox; replace hb5 := Aside0.mk hb5; replace hg := Aside0.mk hg)
      | ((with_reducible refine gate_store (t := 31) (p := 13) rfl ?_); refine store_event (t := 31) (p := 13) (v := .tmp 33) (w1 := ((((wy.setCell ⟨g13, 0, none⟩ (.int .i64 b0)).setCell ⟨g13, 1, none⟩ (.int .i64 b1)).setCell ⟨g13, 2, none⟩ (.int .i64 b2)).setCell ⟨g13, 3, none⟩ (.int .i64 b3))) ?hg ?ho ?hn ?hr ?_; (case ho => rfl); (case hg => rfl); (case hn => rfl); (case hr => first | (go_simp; done) | (go_simp; rfl)); intro wz hw6; clear hc0 hf0 hc1 hf1 hc2 hf2 hc3 hf3; have hbx := box4_ (x := .int .i64 b0) (y := .int .i64 b1) (z := .int .i64 b2) (u := .int .i64 b3) hb5.out hg.out hbox.out; rw [← hw6] at hbx; clear hw6 hb5 hg hbox; obtain ⟨hb, hk6⟩ := hbx; replace HB := Aside0.mk (below_step HB.out hb); replace d0 := pw_cell_below hb d0; replace d1 := pw_cell_below hb d1; replace d2 := pw_cell_below hb d2; have e0 : wz.cell? ⟨g13, 0, none⟩ = some (.int .i64 b0) := blk_cell hk6 0; have e1 : wz.cell? ⟨g13, 1, none⟩ = some (.int .i64 b1) := blk_cell hk6 1; have e2 : wz.cell? ⟨g13, 2, none⟩ = some (.int .i64 b2) := blk_cell hk6 2; have e3 : wz.cell? ⟨g13, 3, none⟩ = some (.int .i64 b3) := blk_cell hk6 3; clear hb hk6)
      | (go_at_call 37; refine (HW1.out _).mono ?_; rintro e' wz ⟨rfl, hd⟩; have hb := hd.below; replace HB := Aside0.mk (below_step HB.out hb); replace d0 := pw_cell_below hb d0; replace d1 := pw_cell_below hb d1; replace d2 := pw_cell_below hb d2; replace e0 := pw_cell_below hb e0; replace e1 := pw_cell_below hb e1; replace e2 := pw_cell_below hb e2; replace e3 := pw_cell_below hb e3; clear hb hd HW1)
      | (go_at_call 37; refine (HW2.out _).mono ?_; rintro e' wz ⟨rfl, hd⟩; have hb := hd.below; replace HB := Aside0.mk (below_step HB.out hb); replace d0 := pw_cell_below hb d0; replace d1 := pw_cell_below hb d1; replace d2 := pw_cell_below hb d2; replace e0 := pw_cell_below hb e0; replace e1 := pw_cell_below hb e1; replace e2 := pw_cell_below hb e2; replace e3 := pw_cell_below hb e3; clear hb hd HW2)
      | (go_at_call 37; refine (HW3.out _).mono ?_; rintro e' wz ⟨rfl, hd⟩; have hb := hd.below; replace HB := Aside0.mk (below_step HB.out hb); replace d0 := pw_cell_below hb d0; replace d1 := pw_cell_below hb d1; replace d2 := pw_cell_below hb d2; replace e0 := pw_cell_below hb e0; replace e1 := pw_cell_below hb e1; replace e2 := pw_cell_below hb e2; replace e3 := pw_cell_below hb e3; clear hb hd HW3))
    go_ret2
    exact ⟨_, rfl, Kd.R_nil _ _ _ _ _, HB.out⟩
  | some b =>
  rw [hf] at h hfd
  simp only [Prod.mk.injEq] at hfd
  simp only at h
  obtain ⟨rfl, rfl, rfl, rfl, rfl⟩ := hfd
  obtain ⟨b0, b1, b2, b3⟩ := b
  simp only at h HFI HFR
  have hob := RH.1.2.1 _ (findB_some hf).1
  have HFR := Aside0.mk (HFR.out (by unfold okB at hob; simp only at hob; omega))
  by_cases m4 : b1 ≤ a3 ∧ a3 ≤ b2
  case neg =>
    rw [if_pos m4] at h
    simp only [Prod.mk.injEq] at h
    obtain ⟨rfl, rfl⟩ := h
    have HW4 := Aside0.mk (fun W => bond_within.calls a3 b1 b2 false W (by rw [bond_within.plain, decide_eq_false m4]))
    clear hi HFR HCL HLN RH hlen hf hob m4
    go_enter Try.func20, Try.ntmps20
    go_wp2_with (first
      | ((with_reducible refine gate_dst (N := 6) rfl ?_); refine box_event ?hg (N := 6) ?hd (cs := #[.int .i64 a2_0, .int .i64 a2_1, .int .i64 a2_2]) (t := 35) ?hr ?_; (case hd => rfl); (case hg => rfl); (case hr => first | (go_simp; done) | (go_simp; rfl)); intro g6 hg6 wy hbox hb; replace HB := Aside0.mk (below_step HB.out hb); have d0 : wy.cell? ⟨g6, 0, none⟩ = some (.int .i64 a2_0) := blk_cell hbox 0; have d1 : wy.cell? ⟨g6, 1, none⟩ = some (.int .i64 a2_1) := blk_cell hbox 1; have d2 : wy.cell? ⟨g6, 2, none⟩ = some (.int .i64 a2_2) := blk_cell hbox 2; clear hb hbox hg6)
      | (go_at_call 42; refine (HAS.out _ HB.out).mono ?_; rintro e' wz ⟨rfl, hb⟩; replace HB := Aside0.mk (below_step HB.out hb); replace d0 := pw_cell_below hb d0; replace d1 := pw_cell_below hb d1; replace d2 := pw_cell_below hb d2; clear hb)
      | (go_at_call 45; refine (HPL.out _ HB.out).mono ?_; rintro e' wz ⟨rfl, hb⟩; replace HB := Aside0.mk (below_step HB.out hb); replace d0 := pw_cell_below hb d0; replace d1 := pw_cell_below hb d1; replace d2 := pw_cell_below hb d2; clear hb)
      | (go_at_call 39; refine (HFI.out _ HB.out).mono ?_; rintro e' wz ⟨rfl, hb⟩; replace HB := Aside0.mk (below_step HB.out hb); replace d0 := pw_cell_below hb d0; replace d1 := pw_cell_below hb d1; replace d2 := pw_cell_below hb d2; clear hb)
      | ((with_reducible refine gate_dst (N := 13) rfl ?_); refine box_event ?hg (N := 13) ?hd (cs := #[.int .i64 0, .int .i64 0, .int .i64 0, .int .i64 0]) (t := 31) ?hr ?_; (case hd => rfl); (case hg => rfl); (case hr => first | (go_simp; done) | (go_simp; rfl)); intro g13 hg wy hbox hb5; have hc0 : wy.cell? ⟨g13, 0, none⟩ = some (.int .i64 0) := blk_cell hbox 0; have hf0 := blk_frozen hbox 0; have hc1 : wy.cell? ⟨g13, 1, none⟩ = some (.int .i64 0) := blk_cell hbox 1; have hf1 := blk_frozen hbox 1; have hc2 : wy.cell? ⟨g13, 2, none⟩ = some (.int .i64 0) := blk_cell hbox 2; have hf2 := blk_frozen hbox 2; have hc3 : wy.cell? ⟨g13, 3, none⟩ = some (.int .i64 0) := blk_cell hbox 3; have hf3 := blk_frozen hbox 3; replace hbox := Aside0.mk hbox; replace hb5 := Aside0.mk hb5; replace hg := Aside0.mk hg)
      | ((with_reducible refine gate_store (t := 31) (p := 13) rfl ?_); refine store_event (t := 31) (p := 13) (v := .tmp 33) (w1 := ((((wy.setCell ⟨g13, 0, none⟩ (.int .i64 b0)).setCell ⟨g13, 1, none⟩ (.int .i64 b1)).setCell ⟨g13, 2, none⟩ (.int .i64 b2)).setCell ⟨g13, 3, none⟩ (.int .i64 b3))) ?hg ?ho ?hn ?hr ?_; (case ho => rfl); (case hg => rfl); (case hn => rfl); (case hr => first | (go_simp; done) | (go_simp; rfl)); intro wz hw6; clear hc0 hf0 hc1 hf1 hc2 hf2 hc3 hf3; have hbx := box4_ (x := .int .i64 b0) (y := .int .i64 b1) (z := .int .i64 b2) (u := .int .i64 b3) hb5.out hg.out hbox.out; rw [← hw6] at hbx; clear hw6 hb5 hg hbox; obtain ⟨hb, hk6⟩ := hbx; replace HB := Aside0.mk (below_step HB.out hb); replace d0 := pw_cell_below hb d0; replace d1 := pw_cell_below hb d1; replace d2 := pw_cell_below hb d2; have e0 : wz.cell? ⟨g13, 0, none⟩ = some (.int .i64 b0) := blk_cell hk6 0; have e1 : wz.cell? ⟨g13, 1, none⟩ = some (.int .i64 b1) := blk_cell hk6 1; have e2 : wz.cell? ⟨g13, 2, none⟩ = some (.int .i64 b2) := blk_cell hk6 2; have e3 : wz.cell? ⟨g13, 3, none⟩ = some (.int .i64 b3) := blk_cell hk6 3; clear hb hk6)
      | (go_at_call 37; refine (HW1.out _).mono ?_; rintro e' wz ⟨rfl, hd⟩; have hb := hd.below; replace HB := Aside0.mk (below_step HB.out hb); replace d0 := pw_cell_below hb d0; replace d1 := pw_cell_below hb d1; replace d2 := pw_cell_below hb d2; replace e0 := pw_cell_below hb e0; replace e1 := pw_cell_below hb e1; replace e2 := pw_cell_below hb e2; replace e3 := pw_cell_below hb e3; clear hb hd HW1)
      | (go_at_call 37; refine (HW2.out _).mono ?_; rintro e' wz ⟨rfl, hd⟩; have hb := hd.below; replace HB := Aside0.mk (below_step HB.out hb); replace d0 := pw_cell_below hb d0; replace d1 := pw_cell_below hb d1; replace d2 := pw_cell_below hb d2; replace e0 := pw_cell_below hb e0; replace e1 := pw_cell_below hb e1; replace e2 := pw_cell_below hb e2; replace e3 := pw_cell_below hb e3; clear hb hd HW2)
      | (go_at_call 37; refine (HW3.out _).mono ?_; rintro e' wz ⟨rfl, hd⟩; have hb := hd.below; replace HB := Aside0.mk (below_step HB.out hb); replace d0 := pw_cell_below hb d0; replace d1 := pw_cell_below hb d1; replace d2 := pw_cell_below hb d2; replace e0 := pw_cell_below hb e0; replace e1 := pw_cell_below hb e1; replace e2 := pw_cell_below hb e2; replace e3 := pw_cell_below hb e3; clear hb hd HW3)
      | (go_at_call 37; refine (HW4.out _).mono ?_; rintro e' wz ⟨rfl, hd⟩; have hb := hd.below; replace HB := Aside0.mk (below_step HB.out hb); replace d0 := pw_cell_below hb d0; replace d1 := pw_cell_below hb d1; replace d2 := pw_cell_below hb d2; replace e0 := pw_cell_below hb e0; replace e1 := pw_cell_below hb e1; replace e2 := pw_cell_below hb e2; replace e3 := pw_cell_below hb e3; clear hb hd HW4))
    go_ret2
    exact ⟨_, rfl, Kd.R_nil _ _ _ _ _, HB.out⟩
  rw [if_neg (not_not_intro m4)] at h
  have HW4 := Aside0.mk (fun W => bond_within.calls a3 b1 b2 true W (by rw [bond_within.plain, decide_eq_true m4]))
  clear m4
  by_cases m5 : b3 - sumH l1 b0 < a2_2
  case pos =>
    rw [if_pos m5] at h
    simp only [Prod.mk.injEq] at h
    obtain ⟨rfl, rfl⟩ := h
    have g5 : decide (a2_2 > b3 - sumH l1 b0) = true := decide_eq_true m5
    clear hi HCL HLN RH hlen hf hob m5
    go_enter Try.func20, Try.ntmps20
    go_upto_region 14 with (first
      | ((with_reducible refine gate_dst (N := 6) rfl ?_); refine box_event ?hg (N := 6) ?hd (cs := #[.int .i64 a2_0, .int .i64 a2_1, .int .i64 a2_2]) (t := 35) ?hr ?_; (case hd => rfl); (case hg => rfl); (case hr => first | (go_simp; done) | (go_simp; rfl)); intro g6 hg6 wy hbox hb; replace HB := Aside0.mk (below_step HB.out hb); have d0 : wy.cell? ⟨g6, 0, none⟩ = some (.int .i64 a2_0) := blk_cell hbox 0; have d1 : wy.cell? ⟨g6, 1, none⟩ = some (.int .i64 a2_1) := blk_cell hbox 1; have d2 : wy.cell? ⟨g6, 2, none⟩ = some (.int .i64 a2_2) := blk_cell hbox 2; clear hb hbox hg6)
      | (go_at_call 42; refine (HAS.out _ HB.out).mono ?_; rintro e' wz ⟨rfl, hb⟩; replace HB := Aside0.mk (below_step HB.out hb); replace d0 := pw_cell_below hb d0; replace d1 := pw_cell_below hb d1; replace d2 := pw_cell_below hb d2; clear hb)
      | (go_at_call 45; refine (HPL.out _ HB.out).mono ?_; rintro e' wz ⟨rfl, hb⟩; replace HB := Aside0.mk (below_step HB.out hb); replace d0 := pw_cell_below hb d0; replace d1 := pw_cell_below hb d1; replace d2 := pw_cell_below hb d2; clear hb)
      | (go_at_call 39; refine (HFI.out _ HB.out).mono ?_; rintro e' wz ⟨rfl, hb⟩; replace HB := Aside0.mk (below_step HB.out hb); replace d0 := pw_cell_below hb d0; replace d1 := pw_cell_below hb d1; replace d2 := pw_cell_below hb d2; clear hb)
      | ((with_reducible refine gate_dst (N := 13) rfl ?_); refine box_event ?hg (N := 13) ?hd (cs := #[.int .i64 0, .int .i64 0, .int .i64 0, .int .i64 0]) (t := 31) ?hr ?_; (case hd => rfl); (case hg => rfl); (case hr => first | (go_simp; done) | (go_simp; rfl)); intro g13 hg wy hbox hb5; have hc0 : wy.cell? ⟨g13, 0, none⟩ = some (.int .i64 0) := blk_cell hbox 0; have hf0 := blk_frozen hbox 0; have hc1 : wy.cell? ⟨g13, 1, none⟩ = some (.int .i64 0) := blk_cell hbox 1; have hf1 := blk_frozen hbox 1; have hc2 : wy.cell? ⟨g13, 2, none⟩ = some (.int .i64 0) := blk_cell hbox 2; have hf2 := blk_frozen hbox 2; have hc3 : wy.cell? ⟨g13, 3, none⟩ = some (.int .i64 0) := blk_cell hbox 3; have hf3 := blk_frozen hbox 3; replace hbox := Aside0.mk hbox; replace hb5 := Aside0.mk hb5; replace hg := Aside0.mk hg)
      | ((with_reducible refine gate_store (t := 31) (p := 13) rfl ?_); refine store_event (t := 31) (p := 13) (v := .tmp 33) (w1 := ((((wy.setCell ⟨g13, 0, none⟩ (.int .i64 b0)).setCell ⟨g13, 1, none⟩ (.int .i64 b1)).setCell ⟨g13, 2, none⟩ (.int .i64 b2)).setCell ⟨g13, 3, none⟩ (.int .i64 b3))) ?hg ?ho ?hn ?hr ?_; (case ho => rfl); (case hg => rfl); (case hn => rfl); (case hr => first | (go_simp; done) | (go_simp; rfl)); intro wz hw6; clear hc0 hf0 hc1 hf1 hc2 hf2 hc3 hf3; have hbx := box4_ (x := .int .i64 b0) (y := .int .i64 b1) (z := .int .i64 b2) (u := .int .i64 b3) hb5.out hg.out hbox.out; rw [← hw6] at hbx; clear hw6 hb5 hg hbox; obtain ⟨hb, hk6⟩ := hbx; replace HB := Aside0.mk (below_step HB.out hb); replace d0 := pw_cell_below hb d0; replace d1 := pw_cell_below hb d1; replace d2 := pw_cell_below hb d2; have e0 : wz.cell? ⟨g13, 0, none⟩ = some (.int .i64 b0) := blk_cell hk6 0; have e1 : wz.cell? ⟨g13, 1, none⟩ = some (.int .i64 b1) := blk_cell hk6 1; have e2 : wz.cell? ⟨g13, 2, none⟩ = some (.int .i64 b2) := blk_cell hk6 2; have e3 : wz.cell? ⟨g13, 3, none⟩ = some (.int .i64 b3) := blk_cell hk6 3; clear hb hk6)
      | (go_at_call 37; refine (HW1.out _).mono ?_; rintro e' wz ⟨rfl, hd⟩; have hb := hd.below; replace HB := Aside0.mk (below_step HB.out hb); replace d0 := pw_cell_below hb d0; replace d1 := pw_cell_below hb d1; replace d2 := pw_cell_below hb d2; replace e0 := pw_cell_below hb e0; replace e1 := pw_cell_below hb e1; replace e2 := pw_cell_below hb e2; replace e3 := pw_cell_below hb e3; clear hb hd HW1)
      | (go_at_call 37; refine (HW2.out _).mono ?_; rintro e' wz ⟨rfl, hd⟩; have hb := hd.below; replace HB := Aside0.mk (below_step HB.out hb); replace d0 := pw_cell_below hb d0; replace d1 := pw_cell_below hb d1; replace d2 := pw_cell_below hb d2; replace e0 := pw_cell_below hb e0; replace e1 := pw_cell_below hb e1; replace e2 := pw_cell_below hb e2; replace e3 := pw_cell_below hb e3; clear hb hd HW2)
      | (go_at_call 37; refine (HW3.out _).mono ?_; rintro e' wz ⟨rfl, hd⟩; have hb := hd.below; replace HB := Aside0.mk (below_step HB.out hb); replace d0 := pw_cell_below hb d0; replace d1 := pw_cell_below hb d1; replace d2 := pw_cell_below hb d2; replace e0 := pw_cell_below hb e0; replace e1 := pw_cell_below hb e1; replace e2 := pw_cell_below hb e2; replace e3 := pw_cell_below hb e3; clear hb hd HW3)
      | (go_at_call 37; refine (HW4.out _).mono ?_; rintro e' wz ⟨rfl, hd⟩; have hb := hd.below; replace HB := Aside0.mk (below_step HB.out hb); replace d0 := pw_cell_below hb d0; replace d1 := pw_cell_below hb d1; replace d2 := pw_cell_below hb d2; replace e0 := pw_cell_below hb e0; replace e1 := pw_cell_below hb e1; replace e2 := pw_cell_below hb e2; replace e3 := pw_cell_below hb e3; clear hb hd HW4))
    (try simp only [Act.put, List.setIfInBounds_toArray, List.set_cons_zero, List.set_cons_succ])
    go_cut [64] (fun v64 wc => v64 = .bool true ∧ Aside0 (wc.cell? ⟨g6, 0, none⟩ = some (.int .i64 a2_0) ∧ wc.cell? ⟨g6, 1, none⟩ = some (.int .i64 a2_1) ∧ wc.cell? ⟨g6, 2, none⟩ = some (.int .i64 a2_2)) ∧ Aside0 (Below w.heap.size w wc))
    case first =>
      replace HB := Aside0.mk (below_drew1 HB.out)
      replace d0 : wz.drew.cell? ⟨g6, 0, none⟩ = some (.int .i64 a2_0) := d0
      replace d1 : wz.drew.cell? ⟨g6, 1, none⟩ = some (.int .i64 a2_1) := d1
      replace d2 : wz.drew.cell? ⟨g6, 2, none⟩ = some (.int .i64 a2_2) := d2
      replace e0 : wz.drew.cell? ⟨g13, 0, none⟩ = some (.int .i64 b0) := e0
      replace e1 : wz.drew.cell? ⟨g13, 1, none⟩ = some (.int .i64 b1) := e1
      replace e2 : wz.drew.cell? ⟨g13, 2, none⟩ = some (.int .i64 b2) := e2
      replace e3 : wz.drew.cell? ⟨g13, 3, none⟩ = some (.int .i64 b3) := e3
      go_region_with (first
        | (go_at_call 43; refine (HFR.out _ HB.out).mono ?_; rintro e' wz ⟨rfl, hb⟩; replace HB := Aside0.mk (below_step HB.out hb); replace d0 := pw_cell_below hb d0; replace d1 := pw_cell_below hb d1; replace d2 := pw_cell_below hb d2; replace e0 := pw_cell_below hb e0; replace e1 := pw_cell_below hb e1; replace e2 := pw_cell_below hb e2; replace e3 := pw_cell_below hb e3; clear hb))
      all_goals go_wp2
      all_goals go_meet
      all_goals exact ⟨rfl, ⟨d0, d1, d2⟩, HB⟩
    clear HB d0 d1 d2 e0 e1 e2 e3
    obtain ⟨rfl, HD, HB⟩ := hcut
    rename World => wx
    have d0 := HD.out.1
    have d1 := HD.out.2.1
    have d2 := HD.out.2.2
    clear HD
    go_wp2
    go_ret2
    exact ⟨_, rfl, Kd.R_nil _ _ _ _ _, HB.out⟩
  rw [if_neg m5] at h
  have g5 : decide (a2_2 > b3 - sumH l1 b0) = false := decide_eq_false m5
  clear hf hob m5
  by_cases m6 : l1.length = 16
  case pos =>
    rw [if_pos m6] at h
    simp only [Prod.mk.injEq] at h
    obtain ⟨rfl, rfl⟩ := h
    have g6' : ((l1.length : Int) == 16) = true := beq_iff_eq.2 (by omega)
    clear hi HCL RH hlen m6
    go_enter Try.func20, Try.ntmps20
    go_upto_region 14 with (first
      | ((with_reducible refine gate_dst (N := 6) rfl ?_); refine box_event ?hg (N := 6) ?hd (cs := #[.int .i64 a2_0, .int .i64 a2_1, .int .i64 a2_2]) (t := 35) ?hr ?_; (case hd => rfl); (case hg => rfl); (case hr => first | (go_simp; done) | (go_simp; rfl)); intro g6 hg6 wy hbox hb; replace HB := Aside0.mk (below_step HB.out hb); have d0 : wy.cell? ⟨g6, 0, none⟩ = some (.int .i64 a2_0) := blk_cell hbox 0; have d1 : wy.cell? ⟨g6, 1, none⟩ = some (.int .i64 a2_1) := blk_cell hbox 1; have d2 : wy.cell? ⟨g6, 2, none⟩ = some (.int .i64 a2_2) := blk_cell hbox 2; clear hb hbox hg6)
      | (go_at_call 42; refine (HAS.out _ HB.out).mono ?_; rintro e' wz ⟨rfl, hb⟩; replace HB := Aside0.mk (below_step HB.out hb); replace d0 := pw_cell_below hb d0; replace d1 := pw_cell_below hb d1; replace d2 := pw_cell_below hb d2; clear hb)
      | (go_at_call 45; refine (HPL.out _ HB.out).mono ?_; rintro e' wz ⟨rfl, hb⟩; replace HB := Aside0.mk (below_step HB.out hb); replace d0 := pw_cell_below hb d0; replace d1 := pw_cell_below hb d1; replace d2 := pw_cell_below hb d2; clear hb)
      | (go_at_call 39; refine (HFI.out _ HB.out).mono ?_; rintro e' wz ⟨rfl, hb⟩; replace HB := Aside0.mk (below_step HB.out hb); replace d0 := pw_cell_below hb d0; replace d1 := pw_cell_below hb d1; replace d2 := pw_cell_below hb d2; clear hb)
      | ((with_reducible refine gate_dst (N := 13) rfl ?_); refine box_event ?hg (N := 13) ?hd (cs := #[.int .i64 0, .int .i64 0, .int .i64 0, .int .i64 0]) (t := 31) ?hr ?_; (case hd => rfl); (case hg => rfl); (case hr => first | (go_simp; done) | (go_simp; rfl)); intro g13 hg wy hbox hb5; have hc0 : wy.cell? ⟨g13, 0, none⟩ = some (.int .i64 0) := blk_cell hbox 0; have hf0 := blk_frozen hbox 0; have hc1 : wy.cell? ⟨g13, 1, none⟩ = some (.int .i64 0) := blk_cell hbox 1; have hf1 := blk_frozen hbox 1; have hc2 : wy.cell? ⟨g13, 2, none⟩ = some (.int .i64 0) := blk_cell hbox 2; have hf2 := blk_frozen hbox 2; have hc3 : wy.cell? ⟨g13, 3, none⟩ = some (.int .i64 0) := blk_cell hbox 3; have hf3 := blk_frozen hbox 3; replace hbox := Aside0.mk hbox; replace hb5 := Aside0.mk hb5; replace hg := Aside0.mk hg)
      | ((with_reducible refine gate_store (t := 31) (p := 13) rfl ?_); refine store_event (t := 31) (p := 13) (v := .tmp 33) (w1 := ((((wy.setCell ⟨g13, 0, none⟩ (.int .i64 b0)).setCell ⟨g13, 1, none⟩ (.int .i64 b1)).setCell ⟨g13, 2, none⟩ (.int .i64 b2)).setCell ⟨g13, 3, none⟩ (.int .i64 b3))) ?hg ?ho ?hn ?hr ?_; (case ho => rfl); (case hg => rfl); (case hn => rfl); (case hr => first | (go_simp; done) | (go_simp; rfl)); intro wz hw6; clear hc0 hf0 hc1 hf1 hc2 hf2 hc3 hf3; have hbx := box4_ (x := .int .i64 b0) (y := .int .i64 b1) (z := .int .i64 b2) (u := .int .i64 b3) hb5.out hg.out hbox.out; rw [← hw6] at hbx; clear hw6 hb5 hg hbox; obtain ⟨hb, hk6⟩ := hbx; replace HB := Aside0.mk (below_step HB.out hb); replace d0 := pw_cell_below hb d0; replace d1 := pw_cell_below hb d1; replace d2 := pw_cell_below hb d2; have e0 : wz.cell? ⟨g13, 0, none⟩ = some (.int .i64 b0) := blk_cell hk6 0; have e1 : wz.cell? ⟨g13, 1, none⟩ = some (.int .i64 b1) := blk_cell hk6 1; have e2 : wz.cell? ⟨g13, 2, none⟩ = some (.int .i64 b2) := blk_cell hk6 2; have e3 : wz.cell? ⟨g13, 3, none⟩ = some (.int .i64 b3) := blk_cell hk6 3; clear hb hk6)
      | (go_at_call 37; refine (HW1.out _).mono ?_; rintro e' wz ⟨rfl, hd⟩; have hb := hd.below; replace HB := Aside0.mk (below_step HB.out hb); replace d0 := pw_cell_below hb d0; replace d1 := pw_cell_below hb d1; replace d2 := pw_cell_below hb d2; replace e0 := pw_cell_below hb e0; replace e1 := pw_cell_below hb e1; replace e2 := pw_cell_below hb e2; replace e3 := pw_cell_below hb e3; clear hb hd HW1)
      | (go_at_call 37; refine (HW2.out _).mono ?_; rintro e' wz ⟨rfl, hd⟩; have hb := hd.below; replace HB := Aside0.mk (below_step HB.out hb); replace d0 := pw_cell_below hb d0; replace d1 := pw_cell_below hb d1; replace d2 := pw_cell_below hb d2; replace e0 := pw_cell_below hb e0; replace e1 := pw_cell_below hb e1; replace e2 := pw_cell_below hb e2; replace e3 := pw_cell_below hb e3; clear hb hd HW2)
      | (go_at_call 37; refine (HW3.out _).mono ?_; rintro e' wz ⟨rfl, hd⟩; have hb := hd.below; replace HB := Aside0.mk (below_step HB.out hb); replace d0 := pw_cell_below hb d0; replace d1 := pw_cell_below hb d1; replace d2 := pw_cell_below hb d2; replace e0 := pw_cell_below hb e0; replace e1 := pw_cell_below hb e1; replace e2 := pw_cell_below hb e2; replace e3 := pw_cell_below hb e3; clear hb hd HW3)
      | (go_at_call 37; refine (HW4.out _).mono ?_; rintro e' wz ⟨rfl, hd⟩; have hb := hd.below; replace HB := Aside0.mk (below_step HB.out hb); replace d0 := pw_cell_below hb d0; replace d1 := pw_cell_below hb d1; replace d2 := pw_cell_below hb d2; replace e0 := pw_cell_below hb e0; replace e1 := pw_cell_below hb e1; replace e2 := pw_cell_below hb e2; replace e3 := pw_cell_below hb e3; clear hb hd HW4))
    (try simp only [Act.put, List.setIfInBounds_toArray, List.set_cons_zero, List.set_cons_succ])
    go_cut [64] (fun v64 wc => v64 = .bool false ∧ Aside0 (wc.cell? ⟨g6, 0, none⟩ = some (.int .i64 a2_0) ∧ wc.cell? ⟨g6, 1, none⟩ = some (.int .i64 a2_1) ∧ wc.cell? ⟨g6, 2, none⟩ = some (.int .i64 a2_2)) ∧ Aside0 (Below w.heap.size w wc))
    case first =>
      replace HB := Aside0.mk (below_drew1 HB.out)
      replace d0 : wz.drew.cell? ⟨g6, 0, none⟩ = some (.int .i64 a2_0) := d0
      replace d1 : wz.drew.cell? ⟨g6, 1, none⟩ = some (.int .i64 a2_1) := d1
      replace d2 : wz.drew.cell? ⟨g6, 2, none⟩ = some (.int .i64 a2_2) := d2
      replace e0 : wz.drew.cell? ⟨g13, 0, none⟩ = some (.int .i64 b0) := e0
      replace e1 : wz.drew.cell? ⟨g13, 1, none⟩ = some (.int .i64 b1) := e1
      replace e2 : wz.drew.cell? ⟨g13, 2, none⟩ = some (.int .i64 b2) := e2
      replace e3 : wz.drew.cell? ⟨g13, 3, none⟩ = some (.int .i64 b3) := e3
      go_region_with (first
        | (go_at_call 43; refine (HFR.out _ HB.out).mono ?_; rintro e' wz ⟨rfl, hb⟩; replace HB := Aside0.mk (below_step HB.out hb); replace d0 := pw_cell_below hb d0; replace d1 := pw_cell_below hb d1; replace d2 := pw_cell_below hb d2; replace e0 := pw_cell_below hb e0; replace e1 := pw_cell_below hb e1; replace e2 := pw_cell_below hb e2; replace e3 := pw_cell_below hb e3; clear hb))
      all_goals go_wp2
      all_goals go_meet
      all_goals exact ⟨rfl, ⟨d0, d1, d2⟩, HB⟩
    clear HB d0 d1 d2 e0 e1 e2 e3
    obtain ⟨rfl, HD, HB⟩ := hcut
    rename World => wx
    have d0 := HD.out.1
    have d1 := HD.out.2.1
    have d2 := HD.out.2.2
    clear HD
    go_wp2
    go_ret2
    exact ⟨_, rfl, Kd.R_nil _ _ _ _ _, HB.out⟩
  rw [if_neg m6] at h
  simp only [Prod.mk.injEq] at h
  obtain ⟨rfl, rfl⟩ := h
  have g6' : ((l1.length : Int) == 16) = false := by rw [beq_eq_false_iff_ne]; omega
  have hil : i ≤ l1.length := by
    have h1 : i = (bsR (mvC l1 a2_1) l1.length).1 := by rw [hi]
    rw [h1]; unfold bsR; exact (bsF_le _ _ _ _ (by omega)).1
  have HIL := Aside0.mk hil
  clear hi RH hlen m6 hil
  go_enter Try.func20, Try.ntmps20
  go_upto_region 14 with (first
    | ((with_reducible refine gate_dst (N := 6) rfl ?_); refine box_event ?hg (N := 6) ?hd (cs := #[.int .i64 a2_0, .int .i64 a2_1, .int .i64 a2_2]) (t := 35) ?hr ?_; (case hd => rfl); (case hg => rfl); (case hr => first | (go_simp; done) | (go_simp; rfl)); intro g6 hg6 wy hbox hb; replace HB := Aside0.mk (below_step HB.out hb); have d0 : wy.cell? ⟨g6, 0, none⟩ = some (.int .i64 a2_0) := blk_cell hbox 0; have d1 : wy.cell? ⟨g6, 1, none⟩ = some (.int .i64 a2_1) := blk_cell hbox 1; have d2 : wy.cell? ⟨g6, 2, none⟩ = some (.int .i64 a2_2) := blk_cell hbox 2; clear hb hbox hg6)
    | (go_at_call 42; refine (HAS.out _ HB.out).mono ?_; rintro e' wz ⟨rfl, hb⟩; replace HB := Aside0.mk (below_step HB.out hb); replace d0 := pw_cell_below hb d0; replace d1 := pw_cell_below hb d1; replace d2 := pw_cell_below hb d2; clear hb)
    | (go_at_call 45; refine (HPL.out _ HB.out).mono ?_; rintro e' wz ⟨rfl, hb⟩; replace HB := Aside0.mk (below_step HB.out hb); replace d0 := pw_cell_below hb d0; replace d1 := pw_cell_below hb d1; replace d2 := pw_cell_below hb d2; clear hb)
    | (go_at_call 39; refine (HFI.out _ HB.out).mono ?_; rintro e' wz ⟨rfl, hb⟩; replace HB := Aside0.mk (below_step HB.out hb); replace d0 := pw_cell_below hb d0; replace d1 := pw_cell_below hb d1; replace d2 := pw_cell_below hb d2; clear hb)
    | ((with_reducible refine gate_dst (N := 13) rfl ?_); refine box_event ?hg (N := 13) ?hd (cs := #[.int .i64 0, .int .i64 0, .int .i64 0, .int .i64 0]) (t := 31) ?hr ?_; (case hd => rfl); (case hg => rfl); (case hr => first | (go_simp; done) | (go_simp; rfl)); intro g13 hg wy hbox hb5; have hc0 : wy.cell? ⟨g13, 0, none⟩ = some (.int .i64 0) := blk_cell hbox 0; have hf0 := blk_frozen hbox 0; have hc1 : wy.cell? ⟨g13, 1, none⟩ = some (.int .i64 0) := blk_cell hbox 1; have hf1 := blk_frozen hbox 1; have hc2 : wy.cell? ⟨g13, 2, none⟩ = some (.int .i64 0) := blk_cell hbox 2; have hf2 := blk_frozen hbox 2; have hc3 : wy.cell? ⟨g13, 3, none⟩ = some (.int .i64 0) := blk_cell hbox 3; have hf3 := blk_frozen hbox 3; replace hbox := Aside0.mk hbox; replace hb5 := Aside0.mk hb5; replace hg := Aside0.mk hg)
    | ((with_reducible refine gate_store (t := 31) (p := 13) rfl ?_); refine store_event (t := 31) (p := 13) (v := .tmp 33) (w1 := ((((wy.setCell ⟨g13, 0, none⟩ (.int .i64 b0)).setCell ⟨g13, 1, none⟩ (.int .i64 b1)).setCell ⟨g13, 2, none⟩ (.int .i64 b2)).setCell ⟨g13, 3, none⟩ (.int .i64 b3))) ?hg ?ho ?hn ?hr ?_; (case ho => rfl); (case hg => rfl); (case hn => rfl); (case hr => first | (go_simp; done) | (go_simp; rfl)); intro wz hw6; clear hc0 hf0 hc1 hf1 hc2 hf2 hc3 hf3; have hbx := box4_ (x := .int .i64 b0) (y := .int .i64 b1) (z := .int .i64 b2) (u := .int .i64 b3) hb5.out hg.out hbox.out; rw [← hw6] at hbx; clear hw6 hb5 hg hbox; obtain ⟨hb, hk6⟩ := hbx; replace HB := Aside0.mk (below_step HB.out hb); replace d0 := pw_cell_below hb d0; replace d1 := pw_cell_below hb d1; replace d2 := pw_cell_below hb d2; have e0 : wz.cell? ⟨g13, 0, none⟩ = some (.int .i64 b0) := blk_cell hk6 0; have e1 : wz.cell? ⟨g13, 1, none⟩ = some (.int .i64 b1) := blk_cell hk6 1; have e2 : wz.cell? ⟨g13, 2, none⟩ = some (.int .i64 b2) := blk_cell hk6 2; have e3 : wz.cell? ⟨g13, 3, none⟩ = some (.int .i64 b3) := blk_cell hk6 3; clear hb hk6)
    | (go_at_call 37; refine (HW1.out _).mono ?_; rintro e' wz ⟨rfl, hd⟩; have hb := hd.below; replace HB := Aside0.mk (below_step HB.out hb); replace d0 := pw_cell_below hb d0; replace d1 := pw_cell_below hb d1; replace d2 := pw_cell_below hb d2; replace e0 := pw_cell_below hb e0; replace e1 := pw_cell_below hb e1; replace e2 := pw_cell_below hb e2; replace e3 := pw_cell_below hb e3; clear hb hd HW1)
    | (go_at_call 37; refine (HW2.out _).mono ?_; rintro e' wz ⟨rfl, hd⟩; have hb := hd.below; replace HB := Aside0.mk (below_step HB.out hb); replace d0 := pw_cell_below hb d0; replace d1 := pw_cell_below hb d1; replace d2 := pw_cell_below hb d2; replace e0 := pw_cell_below hb e0; replace e1 := pw_cell_below hb e1; replace e2 := pw_cell_below hb e2; replace e3 := pw_cell_below hb e3; clear hb hd HW2)
    | (go_at_call 37; refine (HW3.out _).mono ?_; rintro e' wz ⟨rfl, hd⟩; have hb := hd.below; replace HB := Aside0.mk (below_step HB.out hb); replace d0 := pw_cell_below hb d0; replace d1 := pw_cell_below hb d1; replace d2 := pw_cell_below hb d2; replace e0 := pw_cell_below hb e0; replace e1 := pw_cell_below hb e1; replace e2 := pw_cell_below hb e2; replace e3 := pw_cell_below hb e3; clear hb hd HW3)
    | (go_at_call 37; refine (HW4.out _).mono ?_; rintro e' wz ⟨rfl, hd⟩; have hb := hd.below; replace HB := Aside0.mk (below_step HB.out hb); replace d0 := pw_cell_below hb d0; replace d1 := pw_cell_below hb d1; replace d2 := pw_cell_below hb d2; replace e0 := pw_cell_below hb e0; replace e1 := pw_cell_below hb e1; replace e2 := pw_cell_below hb e2; replace e3 := pw_cell_below hb e3; clear hb hd HW4))
  (try simp only [Act.put, List.setIfInBounds_toArray, List.set_cons_zero, List.set_cons_succ])
  go_cut [64] (fun v64 wc => v64 = .bool false ∧ Aside0 (wc.cell? ⟨g6, 0, none⟩ = some (.int .i64 a2_0) ∧ wc.cell? ⟨g6, 1, none⟩ = some (.int .i64 a2_1) ∧ wc.cell? ⟨g6, 2, none⟩ = some (.int .i64 a2_2)) ∧ Aside0 (Below w.heap.size w wc))
  case first =>
    replace HB := Aside0.mk (below_drew1 HB.out)
    replace d0 : wz.drew.cell? ⟨g6, 0, none⟩ = some (.int .i64 a2_0) := d0
    replace d1 : wz.drew.cell? ⟨g6, 1, none⟩ = some (.int .i64 a2_1) := d1
    replace d2 : wz.drew.cell? ⟨g6, 2, none⟩ = some (.int .i64 a2_2) := d2
    replace e0 : wz.drew.cell? ⟨g13, 0, none⟩ = some (.int .i64 b0) := e0
    replace e1 : wz.drew.cell? ⟨g13, 1, none⟩ = some (.int .i64 b1) := e1
    replace e2 : wz.drew.cell? ⟨g13, 2, none⟩ = some (.int .i64 b2) := e2
    replace e3 : wz.drew.cell? ⟨g13, 3, none⟩ = some (.int .i64 b3) := e3
    go_region_with (first
      | (go_at_call 43; refine (HFR.out _ HB.out).mono ?_; rintro e' wz ⟨rfl, hb⟩; replace HB := Aside0.mk (below_step HB.out hb); replace d0 := pw_cell_below hb d0; replace d1 := pw_cell_below hb d1; replace d2 := pw_cell_below hb d2; replace e0 := pw_cell_below hb e0; replace e1 := pw_cell_below hb e1; replace e2 := pw_cell_below hb e2; replace e3 := pw_cell_below hb e3; clear hb))
    all_goals go_wp2
    all_goals go_meet
    all_goals exact ⟨rfl, ⟨d0, d1, d2⟩, HB⟩
  clear HB d0 d1 d2 e0 e1 e2 e3
  obtain ⟨rfl, HD, HB⟩ := hcut
  rename World => wx
  have d0 := HD.out.1
  have d1 := HD.out.2.1
  have d2 := HD.out.2.2
  clear HD
  go_upto_region 18 with fail
  (try simp only [Act.put, List.setIfInBounds_toArray, List.set_cons_zero, List.set_cons_succ])
  go_cut [8, 9] (fun v8 v9 wc => v9 = .int .i64 0 ∧ Aside0 (Kd.R k35 35 wc w.heap.size (fun _ => True) v8 (l1.take i ++ ⟨a2_0, a2_1, a2_2⟩ :: l1.drop i)) ∧ Aside0 (Below w.heap.size w wc))
  case first =>
    have HBX := HB
    replace HB := Aside0.mk (below_drew1 HB.out)
    replace d0 : wx.drew.cell? ⟨g6, 0, none⟩ = some (.int .i64 a2_0) := d0
    replace d1 : wx.drew.cell? ⟨g6, 1, none⟩ = some (.int .i64 a2_1) := d1
    replace d2 : wx.drew.cell? ⟨g6, 2, none⟩ = some (.int .i64 a2_2) := d2
    go_region_with (first
      | (go_at_call 16; refine (HCL.out _ ?hbx).mono ?_; (case hbx => first | with_reducible exact HB.out | with_reducible exact below_drew1 (below_alloc HBX.out _)); rintro e' wz ⟨v, rfl, hR, hb⟩; have HRC := Aside0.mk hR; have HBC := Aside0.mk hb; (try replace d0 := pw_cell_below hb d0); (try replace d1 := pw_cell_below hb d1); (try replace d2 := pw_cell_below hb d2); clear hR hb)
      | (go_at_call 46; with_reducible refine (holdIns_A HRC.out (below_size HB.out) (below_step HB.out HBC.out) HIL.out (by have := HLN.out; omega)).mono ?_; rintro e' wq ⟨v', rfl, hR, hb⟩; replace HRC := Aside0.mk hR; have HBZ := Aside0.mk hb)
      | (go_at_call 46; with_reducible refine (holdIns_B HRC.out HBX.out HBC.out HIL.out (by have := HLN.out; omega)).mono ?_; rintro e' wq ⟨v', rfl, hR, hb⟩; replace HRC := Aside0.mk hR; have HBZ := Aside0.mk hb))
    all_goals go_wp2
    all_goals go_meet
    all_goals exact ⟨rfl, HRC, HBZ⟩
  clear HB d0 d1 d2
  obtain ⟨rfl, HR, HB⟩ := hcut
  go_wp2
  go_ret2
  exact ⟨_, rfl, HR.out, HB.out⟩

end Go.Proofs.Ytdolabpkgienkaa.PF
