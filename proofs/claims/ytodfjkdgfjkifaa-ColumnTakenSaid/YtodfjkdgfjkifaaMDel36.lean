/- slices.Delete of one flow out of a row that the caller owns. -/
import Derived.Test.YtodfjkdgfjkifaaPF0
import Derived.Carry
import Derived.Shelf.RegionOpenPlain
import Derived.Lib.SliceRun
import Derived.Laws.IdiomCopy
namespace Go.Proofs.Ytodfjkdgfjkifaa.PF
open Go.RowKit Go.Proofs.YtodfjkdgfjkifaaW.PrintWords Go.Proofs.YtodfjkdgfjkifaaW.PrintLast Go.Proofs.YtodfjkdgfjkifaaW.PrintMore
set_option linter.unusedVariables false
set_option linter.unusedSimpArgs false
def cF (x : S28) : List Value := [.int .i64 x.f0, .int .i64 x.f1, .int .i64 x.f2, .int .i64 x.f3]
theorem cF_length (x : S28) : (cF x).length = 4 := rfl
theorem flatF_length (l : List S28) : (l.flatMap cF).length = l.length * 4 := by
  induction l with
  | nil => rfl
  | cons x l ih => rw [List.flatMap_cons, List.length_append, ih, cF_length, List.length_cons]; omega
theorem flatF_drop (l : List S28) (j : Nat) : (l.flatMap cF).drop (j * 4) = (l.drop j).flatMap cF := by
  induction l generalizing j with
  | nil => simp
  | cons x l ih =>
    cases j with
    | zero => simp
    | succ j =>
      rw [List.drop_succ_cons, ← ih j, List.flatMap_cons, show (j + 1) * 4 = (cF x).length + j * 4 by rw [cF_length]; omega, List.drop_append, List.drop_eq_nil_of_le (by omega), List.nil_append, Nat.add_sub_cancel_left]
theorem flatF_take (l : List S28) (j : Nat) : (l.flatMap cF).take (j * 4) = (l.take j).flatMap cF := by
  induction l generalizing j with
  | nil => simp
  | cons x l ih =>
    cases j with
    | zero => simp
    | succ j =>
      rw [List.take_succ_cons, List.flatMap_cons, List.flatMap_cons, ← ih j, show (j + 1) * 4 = (cF x).length + j * 4 by rw [cF_length]; omega, List.take_append, List.take_of_length_le (by omega), Nat.add_sub_cancel_left]
theorem flatF_one (l : List S28) : ∀ u ∈ l.flatMap cF, u.oneCell' = true := by
  intro u hu
  rw [List.mem_flatMap] at hu
  obtain ⟨x, _, hu⟩ := hu
  simp only [cF, List.mem_cons, List.not_mem_nil, or_false] at hu
  rcases hu with rfl | rfl | rfl | rfl <;> rfl
theorem flatF_reps (w : World) (base : Nat) (ok : Nat → Prop) (l : List S28) : Reps (k28.M w base ok) 4 l (l.flatMap cF) := by
  refine ⟨flatF_length l, fun j p hj => ?_⟩
  have hjl := (List.getElem?_eq_some_iff.1 hj).1
  have hp := (List.getElem?_eq_some_iff.1 hj).2
  rw [flatF_drop, List.drop_eq_getElem_cons hjl, hp, List.flatMap_cons, List.take_append_of_le_length (by rw [cF_length]; exact Nat.le_refl _), List.take_of_length_le (by rw [cF_length]; exact Nat.le_refl _)]
  exact k28_mkM w base ok p
theorem reps_flatF {w : World} {base : Nat} {ok : Nat → Prop} {l : List S28} {cs : List Value} (h : Reps (k28.M w base ok) 4 l cs) : cs = l.flatMap cF := by
  obtain ⟨hl, h⟩ := h
  induction l generalizing cs with
  | nil => exact List.eq_nil_of_length_eq_zero (by simpa using hl)
  | cons x l ih =>
    have h0 := k28_openM (h 0 x rfl)
    rw [Nat.zero_mul, List.drop_zero] at h0
    have ht := ih (cs := cs.drop 4) (by rw [List.length_drop, hl, List.length_cons]; omega) (fun j p hj => by
      have := h (j + 1) p (by simpa using hj)
      rwa [show (j + 1) * 4 = 4 + j * 4 by omega, ← List.drop_drop] at this)
    rw [List.flatMap_cons, ← ht]
    have := List.take_append_drop 4 cs
    rw [← this, h0]
    rfl
/-- The row behind the deletion. -/
theorem del_cells (l : List S28) {i : Nat} (hi : i < l.length) : (l.flatMap cF).take (i * 4) ++ (l.flatMap cF).drop ((i + 1) * 4) = (l.eraseIdx i).flatMap cF := by
  rw [flatF_take, flatF_drop, List.eraseIdx_eq_take_drop_succ, List.flatMap_append]
theorem run_clear_flow (w : World) (ty : Nat) (b o c : Nat) (hc : ∀ j, j < 4 → (w.cell? ⟨b, o + j, none⟩).isSome = true) (hf : ∀ j, j < 4 → w.frozen? ⟨b, o + j, none⟩ = false) :
    (Builtin.clear_ #[22] ty #[.slice (some ⟨b, o, none⟩) 1 c]).run Try.prog w = .ok (.tuple #[]) (w.setCells b o [.int .i64 0, .int .i64 0, .int .i64 0, .int .i64 0]) := by
  have hst := run_storeCells_cells (P := Try.prog) b o [.int .i64 0, .int .i64 0, .int .i64 0, .int .i64 0] 0 w (by simpa using hc) (by simpa using hf) (by intro v hv; simp only [List.mem_cons, List.not_mem_nil, or_false] at hv; rcases hv with rfl | rfl | rfl | rfl <;> rfl)
  simp only [Nat.add_zero] at hst
  have hz : ∀ W, (zeroValue 28).run Try.prog W = .ok (.agg #[.int .i64 0, .int .i64 0, .int .i64 0, .int .i64 0]) W := Try.zeroValue28
  have hzc : ∀ k, k = 1 → (Builtin.zeroCells (Value.agg #[.int .i64 0, .int .i64 0, .int .i64 0, .int .i64 0]).cells k).toList = [.int .i64 0, .int .i64 0, .int .i64 0, .int .i64 0] := by rintro k rfl; kernel_rfl
  simp [Builtin.clear_, run_underlying Try.underlying22, hz, hzc 1 rfl, hst]
set_option maxHeartbeats 4000000 in
set_option maxRecDepth 100000 in
theorem flowDelete.cells (g cap n i : Nat) (cur : Array Value) (w : World) (hg : w.heap[g]? = some (.cells cur 28 (0, 0))) (hnc : n ≤ cap) (hm : cap ≤ 9223372036854775807) (hsz : cur.size = cap * 4) (hone : ∀ u ∈ cur.toList.take (n * 4), u.oneCell' = true) (hi : i < n) (hn : n ≤ 1000) :
    Calls Try.prog 28 #[.slice (some ⟨g, 0, none⟩) n cap, .int .i64 i, .int .i64 ((i : Int) + 1)] w fun e w' => e = .returned (.slice (some ⟨g, 0, none⟩) (n - 1) cap) ∧ w' = (w.drew.setCells g (i * 4) ((cur.toList.take (n * 4)).drop ((i + 1) * 4))).setCells g ((n - 1) * 4) [.int .i64 0, .int .i64 0, .int .i64 0, .int .i64 0] := by
  obtain ⟨news, hnews⟩ : ∃ news, news = (cur.toList.take (n * 4)).drop ((i + 1) * 4) := ⟨_, rfl⟩
  have hlen : news.length = (n - 1 - i) * 4 := by
    rw [hnews, List.length_drop, List.length_take, Array.length_toList, hsz]
    have : n * 4 ≤ cap * 4 := by omega
    omega
  rw [← hnews]
  have hcell : ∀ k, k < cap * 4 → (w.cell? ⟨g, k, none⟩).isSome = true := fun k hk => by
    rw [blk_cell hg k, Array.getElem?_eq_getElem (by omega)]; rfl
  have hfr := blk_frozen hg
  obtain ⟨A, hA, hsrc⟩ : ∃ A : Addr, (if cap = i + 1 then some (⟨g, 0, none⟩ : Addr) else some ⟨g, (i + 1) * 4, none⟩) = some A ∧ Aside0 (∀ t u, news[t]? = some u → w.drew.cell? (A.add t) = some u) := by
    by_cases h : cap = i + 1
    · refine ⟨⟨g, 0, none⟩, by simp [h], ⟨fun t u hu => ?_⟩⟩
      have h0 : news.length = 0 := by rw [hlen]; omega
      rw [List.length_eq_zero_iff.1 h0] at hu
      simp at hu
    · refine ⟨⟨g, (i + 1) * 4, none⟩, by simp [h], ⟨fun t u hu => ?_⟩⟩
      have ht := (List.getElem?_eq_some_iff.1 hu).1
      rw [hlen] at ht
      rw [hnews, List.getElem?_drop, List.getElem?_take] at hu
      split at hu
      · rw [Addr.add_lit]
        show w.cell? _ = _
        rw [blk_cell hg, ← Array.getElem?_toList]
        exact hu
      · cases hu
  have s1 : Aside0 (news.length = (n - (i + 1)) * 4) := ⟨by rw [hlen, Nat.sub_sub, Nat.add_comm 1 i]⟩
  have s2 : Aside0 (∀ u ∈ news, u.oneCell' = true) := ⟨fun u hu => hone u (by rw [hnews] at hu; exact List.mem_of_mem_drop hu)⟩
  have s3 : Aside0 (∀ t, t < news.length → (w.drew.cell? ⟨g, 0 + i * 4 + t, none⟩).isSome = true ∧ w.drew.frozen? ⟨g, 0 + i * 4 + t, none⟩ = false) := ⟨fun t ht => by
    rw [hlen] at ht
    exact ⟨hcell _ (by omega), hfr _⟩⟩
  obtain ⟨W1, hW1⟩ : ∃ W1, W1 = w.drew.setCells g (0 + i * 4) news := ⟨_, rfl⟩
  have hg1 : ∃ cur1, W1.heap[g]? = some (.cells cur1 28 (0, 0)) ∧ cur1.size = cap * 4 := by
    obtain ⟨cur', h3, h4, _⟩ := setCells_row news (0 + i * 4) w.drew cur hg (by rw [hlen, hsz]; omega)
    exact ⟨cur', by rw [hW1]; exact h3, by rw [h4, hsz]⟩
  obtain ⟨cur1, hg1, hs1⟩ := hg1
  have e1 : i + (n - (i + 1)) = n - 1 := by omega
  have e2 : n - (n - 1) = 1 := by omega
  have hcl : ∀ ty, (Builtin.clear_ #[22] ty #[.slice (some ⟨g, (i + (n - (i + 1))) * 4, none⟩) (n - (i + (n - (i + 1)))) (cap - (i + (n - (i + 1))))]).run Try.prog W1 = .ok (.tuple #[]) (W1.setCells g ((i + (n - (i + 1))) * 4) [.int .i64 0, .int .i64 0, .int .i64 0, .int .i64 0]) := fun ty => by
    rw [e1, e2]
    exact run_clear_flow W1 ty g ((n - 1) * 4) _ (fun j hj => by rw [blk_cell hg1, Array.getElem?_eq_getElem (by omega)]; rfl) (fun j _ => blk_frozen hg1 _)
  clear e1 e2
  have hW : Aside0 (W1 = w.drew.setCells g (0 + i * 4) news) := ⟨hW1⟩
  have hic : i ≤ cap := by omega
  have hjc : i + 1 ≤ cap := by omega
  obtain ⟨i0, hi0, hz1⟩ : ∃ i0, Try.prog.info? 28 = some i0 ∧ i0.size = 4 := by
    have h : (Try.prog.info? 28).map (·.size) = some 4 := by kernel_rfl
    cases hI : Try.prog.info? 28 with
    | none => rw [hI] at h; cases h
    | some i0 => rw [hI] at h; exact ⟨i0, rfl, Option.some.inj h⟩
  have HI := Aside0.mk (⟨hi0, hz1⟩ : _ ∧ _)
  have mixed : Try.prog.follows .mixedOrders = true := by kernel_rfl
  have p1 : (0 ≤ (i : Int) + 1) = True := eq_true (by omega)
  have p2 : ((i : Int) + 1 ≤ (n : Int)) = True := eq_true (by omega)
  clear hi0 hz1
  clear hW1 hg1 hs1 hcell hfr hnews hlen hg hone hsz
  go_enter Try.func28, Try.ntmps28
  go_wp2_with fail
  go_region_law_o (refine step_append_room rfl (.tmp 22) (.tmp 25) 22 rfl 28 i0 4 Try.underlying22 HI.out.1 HI.out.2 g 0 i cap (by simp [Act.eval, Act.put]) A (n - (i + 1)) (cap - (i + 1)) news (by simp [Act.eval, Act.put]) s1.out hsrc.out s2.out (by omega) s3.out ?_; rw [← hW.out])
  go_wp2
  go_ret
  have e1 : i + (n - (i + 1)) = n - 1 := by omega
  refine ⟨by rw [e1]; rfl, ?_⟩
  rw [hW.out, Nat.zero_add, e1]
theorem below_setCells {w0 : World} {base g : Nat} (hg : base ≤ g) : ∀ (vs : List Value) (o : Nat) (w : World), Below base w0 w → Below base w0 (w.setCells g o vs)
  | [], _, _, h => h
  | v :: r, o, w, h => by
    rw [World.setCells]
    exact below_setCells hg r (o + 1) _ (h.setCell hg _)
theorem flowDelete.known (l : List S28) (g cap i base : Nat) (ok : Nat → Prop) (w : World) (hR : Kd.R k28 28 w base ok (.slice (some ⟨g, 0, none⟩) l.length cap) l) (hi : i < l.length) (hl : l.length ≤ 1000) :
    Calls Try.prog 28 #[.slice (some ⟨g, 0, none⟩) l.length cap, .int .i64 i, .int .i64 ((i : Int) + 1)] w fun e w' => e = .returned (.slice (some ⟨g, 0, none⟩) (l.length - 1) cap) ∧ Kd.R k28 28 w' base ok (.slice (some ⟨g, 0, none⟩) (l.length - 1) cap) (l.eraseIdx i) ∧
      base ≤ g ∧ (∀ k, k ≠ g → w'.heap[k]? = w.heap[k]?) ∧ (∀ w0 b0, b0 ≤ g → Below b0 w0 w → Below b0 w0 w') := by
  obtain ⟨hok, inner, ho, hr⟩ := hR
  have hin := reps_flatF hr
  subst hin
  obtain ⟨ho1, ho2⟩ := ho
  rcases ho2 with ⟨hv, _⟩ | ⟨g', cap', cur, hv, hb, hh, hnc, hcm, hcs, ht⟩
  · cases hv
  injection hv with ha _ hc
  injection ha with ha
  injection ha with hg
  subst hg
  subst hc
  have hcs : cur.size = cap * 4 := hcs
  have ht : cur.toList.take (l.length * 4) = l.flatMap cF := ht
  refine (flowDelete.cells g cap l.length i cur w hh hnc (Nat.le_trans hcm (of_decide_eq_true (by kernel_rfl))) hcs (by rw [ht]; exact flatF_one l) hi hl).mono ?_
  rintro e w' ⟨rfl, rfl⟩
  rw [ht, flatF_drop]
  have hnews : ((l.drop (i + 1)).flatMap cF).length = (l.length - (i + 1)) * 4 := by rw [flatF_length, List.length_drop]
  have hcap : l.length * 4 ≤ cap * 4 := Nat.mul_le_mul_right _ hnc
  obtain ⟨cur1, h3, h4, h5⟩ := setCells_row ((l.drop (i + 1)).flatMap cF) (i * 4) w.drew cur hh (by rw [hnews, hcs]; omega)
  obtain ⟨cur2, g3, g4, g5⟩ := setCells_row [.int .i64 0, .int .i64 0, .int .i64 0, .int .i64 0] ((l.length - 1) * 4) _ cur1 h3 (by rw [h4, hcs]; simp only [List.length_cons, List.length_nil]; omega)
  have k0 : cur.toList.length = cap * 4 := by rw [Array.length_toList (xs := cur), hcs]
  have k1 : cur1.toList.length = cap * 4 := by rw [Array.length_toList (xs := cur1), h4, hcs]
  have hle : (l.eraseIdx i).length = l.length - 1 := by rw [List.length_eraseIdx, if_pos hi]
  refine ⟨rfl, ⟨hok, (l.eraseIdx i).flatMap cF, ⟨by rw [flatF_length]; rfl, .inr ⟨g, cap, cur2, by rw [hle], hb, g3, by rw [hle]; omega, hcm, by rw [g4, h4, hcs]; rfl, ?_⟩⟩, flatF_reps _ _ _ _⟩, hb, fun k hk => ?_, fun w0 b0 h0 h => below_setCells h0 _ _ _ (below_setCells h0 _ _ _ (below_drew1 h))⟩
  · rw [hle]
    show cur2.toList.take ((l.length - 1) * 4) = _
    rw [g5, List.append_assoc, List.take_append_of_le_length (by rw [List.length_take, k1]; omega), List.take_take, Nat.min_self, h5, ← del_cells l hi, ← flatF_drop, ← ht]
    have hl1 : (cur.toList.take (i * 4)).length = i * 4 := by rw [List.length_take, k0]; omega
    rw [List.take_append_of_le_length (by rw [List.length_append, hl1, List.length_drop, List.length_take, k0]; omega), List.take_of_length_le (by rw [List.length_append, hl1, List.length_drop, List.length_take, k0]; omega), List.take_take, Nat.min_eq_left (by omega)]
  · rw [setCells_far _ _ k hk, setCells_far _ _ k hk]
    rfl

end Go.Proofs.Ytodfjkdgfjkifaa.PF
