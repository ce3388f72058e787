-- Written by a program of this session (wip/pr.py) out of Lean's print of the translation; Lean checks it.
import Derived.Test.YtdolabpkgienkaaPF0
namespace Go.Proofs.Ytdolabpkgienkaa.PF
open Go.RowKit Go.Proofs.YtdolabpkgienkaaW.PrintWords Go.Proofs.YtdolabpkgienkaaW.PrintLast Go.Proofs.YtdolabpkgienkaaW.PrintMore
attribute [local go_sem] max2_int min2_int max_two min_two max_three min_three max_four min_four   -- for this text's walks alone
set_option linter.unusedVariables false
set_option linter.unusedSimpArgs false

/-! ### api_Hold_46: function 46 -/
-- HELPER
theorem run_copy_k {P : Program} (k : Nat) (w : World) (dT sT ty elem : TypeId) (g o dLen dCap : Nat) (a : Addr) (sLen sCap m : Nat) (cur : List Value) (t : TypeId) (cs : List Value) (hu : P.underlying dT = some (.slice elem)) (hs : (P.info? elem).map (·.size) = some k)
    (hg : w.heap[g]? = some (.cells cur.toArray t (0, 0))) (hm : m = Nat.min sLen dLen) (hn : cs.length = m * k) (hsrc : ∀ j v, cs[j]? = some v → w.cell? (a.add j) = some v) (hfit : o + cs.length ≤ cur.length) (h1 : ∀ v ∈ cs, v.oneCell' = true) :
    (Builtin.copy_ #[dT, sT] ty #[.slice (some ⟨g, o, none⟩) dLen dCap, .slice (some a) sLen sCap]).run P w = .ok (goInt m) (w.setRow g (splice cur o cs).toArray) := by
  have hl := run_loadCells_list (P := P) w a cs hsrc
  have hst := run_storeCells_at P g o t cs 0 cur.toArray w hg (by simpa using hfit) h1
  cases hq : P.info? elem with
  | none => simp [hq] at hs
  | some i =>
    have hi : i.size = k := by simpa [hq] using hs
    subst hm
    simp [Builtin.copy_, run_underlying hu, Builtin.lenOf, Builtin.firstCells, sizeOf, typeInfo, hq, hi, ← hn, hl, hst, splice]
set_option maxHeartbeats 1000000 in
set_option maxRecDepth 100000 in
theorem api_Hold_46.grow (b n c i vb vc : Nat) (cs vs : List Value) (w : World) (hi : i < n) (hnc : n ≤ c) (hroom : c < n + 1) (hbig : (n + 1) * 24 ≤ 140737488355328)
    (hcl : cs.length = n * 3) (hvl : vs.length = 3) (hcs : ∀ j v, cs[j]? = some v → w.cell? ⟨b, j, none⟩ = some v) (hvs : ∀ j v, vs[j]? = some v → w.cell? ⟨vb, j, none⟩ = some v) (h1c : ∀ v ∈ cs, v.oneCell' = true) (h1v : ∀ v ∈ vs, v.oneCell' = true) :
    Calls Try.prog 46 #[.slice (some ⟨b, 0, none⟩) n c, .int .i64 i, .slice (some ⟨vb, 0, none⟩) 1 vc] w fun e w' =>
      e = .returned (.slice (some ⟨w.heap.size, 0, none⟩) (n + 1) (grownCap w (n + 1) c 35)) ∧ Below w.heap.size w w' ∧
      w'.ownsRow w.heap.size 35 3 (.slice (some ⟨w.heap.size, 0, none⟩) (n + 1) (grownCap w (n + 1) c 35)) (n + 1) (cs.take (i * 3) ++ vs ++ cs.drop (i * 3)) := by
  have hinfo : (Try.prog.info? 35).map (fun i => (i.zero, i.size, i.bytes)) = some (some (.agg #[.int .i64 0, .int .i64 0, .int .i64 0]), 3, 24) := by kernel_rfl
  obtain ⟨i0, hi0, hz0, hzs, hzb⟩ : ∃ i0, Try.prog.info? 35 = some i0 ∧ i0.zero = some (.agg #[.int .i64 0, .int .i64 0, .int .i64 0]) ∧ i0.size = 3 ∧ i0.bytes = 24 := by
    cases hq : Try.prog.info? 35 with
    | none => rw [hq] at hinfo; simp at hinfo
    | some i0 => rw [hq] at hinfo; simp at hinfo; exact ⟨i0, rfl, hinfo.1, hinfo.2.1, hinfo.2.2⟩
  have hsz : (Try.prog.info? 35).map (·.size) = some 3 := by rw [hi0]; simp [hzs]
  have hbw : b < w.heap.size := block_lt_of_cell (hcs 0 _ (List.getElem?_eq_getElem (by omega)))
  have hvw : vb < w.heap.size := block_lt_of_cell (hvs 0 _ (List.getElem?_eq_getElem (by omega)))
  have hik : i + (n + 1 - i) = n + 1 := by omega
  have hold : (Builtin.firstCells i0.size i (.slice (some ⟨b, 0, none⟩) i c)).run Try.prog w.drew = .ok (cs.take (i * 3)).toArray w.drew := by
    rw [hzs]
    exact run_firstCells_some w.drew 3 i ⟨b, 0, none⟩ i c (cs.take (i * 3)) (by rw [List.length_take]; omega) (fun j v hj => by
      rw [Addr.add_lit, Nat.zero_add]
      rw [List.getElem?_take] at hj
      split at hj
      · exact hcs j v hj
      · cases hj)
  have hkk : (n : Int) + 1 - (i : Int) = ((n + 1 - i : Nat) : Int) := by omega
  have hrz : ∀ ty, (Builtin.append_ #[23, 3] ty #[.slice (some ⟨b, 0, none⟩) i c, .int .i64 ((n : Int) + 1 - (i : Int))]).run Try.prog w =
      .ok (.slice (some ⟨w.heap.size, 0, none⟩) (n + 1) (grownCap w (n + 1) c 35)) (w.drew.alloc (.cells ((cs.take (i * 3)).toArray ++ Builtin.zeroCells (Value.agg #[.int .i64 0, .int .i64 0, .int .i64 0]).cells (n + 1 - i) ++ Builtin.zeroCells (Value.agg #[.int .i64 0, .int .i64 0, .int .i64 0]).cells (grownCap w (n + 1) c 35 - (n + 1))) 35)) := fun ty => by
    have h := Lib.run_append_grow_zeros w 23 3 ty 35 i0 _ .i64 .i64 Try.underlying23 Try.underlying3 hi0 hz0 (some ⟨b, 0, none⟩) i c (cs.take (i * 3)) hold (n + 1 - i) (by omega) (by omega) (by omega) (by omega) (by rw [hzb]; omega) (by rw [hzb, hik]; exact growslice_fits hroom hbig)
    rw [hik] at h
    rw [hkk]
    exact h
  obtain ⟨G, hG⟩ : ∃ G, G = grownCap w (n + 1) c 35 := ⟨_, rfl⟩
  rw [← hG] at hrz ⊢
  have hGn : n + 1 ≤ G := by rw [hG]; exact grownCap_ge w _ _ _
  have hG63 : G ≤ 9223372036854775807 := by
    have := grownCap_le_maxLen w (n + 1) c 35 (by unfold maxLen; omega)
    rw [← hG] at this
    unfold maxLen at this
    omega
  obtain ⟨ROW, hROW⟩ : ∃ ROW : List Value, ROW = cs.take (i * 3) ++ ((Builtin.zeroCells (Value.agg #[.int .i64 0, .int .i64 0, .int .i64 0]).cells (n + 1 - i)).toList ++ (Builtin.zeroCells (Value.agg #[.int .i64 0, .int .i64 0, .int .i64 0]).cells (G - (n + 1))).toList) := ⟨_, rfl⟩
  have hRA : (cs.take (i * 3)).toArray ++ Builtin.zeroCells (Value.agg #[.int .i64 0, .int .i64 0, .int .i64 0]).cells (n + 1 - i) ++ Builtin.zeroCells (Value.agg #[.int .i64 0, .int .i64 0, .int .i64 0]).cells (G - (n + 1)) = ROW.toArray := by rw [hROW]; simp
  rw [hRA] at hrz
  have hRl : ROW.length = G * 3 := by
    rw [hROW]
    simp [Builtin.zeroCells, Value.cells]
    omega
  have hRt : ROW.take (i * 3) = cs.take (i * 3) := by
    rw [hROW, List.take_append_of_le_length (by rw [List.length_take]; omega), List.take_of_length_le (by rw [List.length_take]; omega)]
  clear hRA hROW hold hi0 hz0 hzs hzb hinfo
  obtain ⟨W1, hW1⟩ : ∃ W1, W1 = w.drew.alloc (.cells ROW.toArray 35) := ⟨_, rfl⟩
  have hH1 : W1.heap[w.heap.size]? = some (.cells ROW.toArray 35 (0, 0)) := by rw [hW1]; exact blk_new w.drew _
  have hOb : ∀ x j v, x < w.heap.size → w.cell? ⟨x, j, none⟩ = some v → W1.cell? ⟨x, j, none⟩ = some v := fun x j v hx h => by rw [hW1, World.cell?_alloc_past (w := w.drew) _ x j hx]; exact h
  have hbN : b ≠ w.heap.size := by omega
  have hvN : vb ≠ w.heap.size := by omega
  have hcl2 : ∀ (W W' : World), W.heap = W'.heap → ∀ x, W.cell? x = W'.cell? x := fun W W' h x => by unfold World.cell?; rw [h]
  have hs1 : (splice ROW (i * 3) vs).length = G * 3 := by rw [length_splice _ _ _ (by omega), hRl]
  have hcpA : ∀ (W : World), W.heap = W1.heap → ∀ ty dc, (Builtin.copy_ #[23, 23] ty #[.slice (some ⟨w.heap.size, i * 3, none⟩) (n + 1 - i) dc, .slice (some ⟨vb, 0, none⟩) 1 vc]).run Try.prog W = .ok (goInt 1) (W.setRow w.heap.size (splice ROW (i * 3) vs).toArray) := fun W hW ty dc =>
    run_copy_k 3 W _ _ ty 35 w.heap.size (i * 3) (n + 1 - i) dc ⟨vb, 0, none⟩ 1 vc 1 ROW 35 vs Try.underlying23 hsz (by rw [hW]; exact hH1) (by simp only [Nat.min_def]; split <;> omega) (by omega)
      (fun j v hj => by rw [Addr.add_lit, Nat.zero_add, hcl2 W W1 hW]; exact hOb _ _ _ hvw (hvs j v hj)) (by omega) h1v
  obtain ⟨W2, hW2⟩ : ∃ W2, W2 = W1.setRow w.heap.size (splice ROW (i * 3) vs).toArray := ⟨_, rfl⟩
  have hH2 : W2.heap[w.heap.size]? = some (.cells (splice ROW (i * 3) vs).toArray 35 (0, 0)) := by rw [hW2]; exact setRow_heap W1 _ _ _ _ _ hH1
  have hdl : (cs.drop (i * 3)).length = (n - i) * 3 := by rw [List.length_drop, hcl]; omega
  have hO2 : ∀ x j v, x < w.heap.size → w.cell? ⟨x, j, none⟩ = some v → W2.cell? ⟨x, j, none⟩ = some v := fun x j v hx h => by
    have := hOb x j v hx h
    rw [hW2]
    unfold World.cell? at this ⊢
    rw [setRow_other W1 w.heap.size x _ (by show x ≠ _; omega)]
    exact this
  have hcpB : ∀ (W : World), W.heap = W2.heap → ∀ ty dc sc, (Builtin.copy_ #[23, 23] ty #[.slice (some ⟨w.heap.size, (i + 1) * 3, none⟩) (n + 1 - (i + 1)) dc, .slice (some ⟨b, i * 3, none⟩) (n - i) sc]).run Try.prog W = .ok (goInt (n - i : Nat)) (W.setRow w.heap.size (splice (splice ROW (i * 3) vs) ((i + 1) * 3) (cs.drop (i * 3))).toArray) := fun W hW ty dc sc =>
    run_copy_k 3 W _ _ ty 35 w.heap.size ((i + 1) * 3) (n + 1 - (i + 1)) dc ⟨b, i * 3, none⟩ (n - i) sc (n - i) (splice ROW (i * 3) vs) 35 (cs.drop (i * 3)) Try.underlying23 hsz (by rw [hW]; exact hH2) (by simp only [Nat.min_def]; split <;> omega) hdl
      (fun j v hj => by rw [Addr.add_lit, hcl2 W W2 hW]; exact hO2 _ _ _ hbw (hcs _ v (by rwa [List.getElem?_drop] at hj))) (by omega) (fun v hv => h1c v (List.mem_of_mem_drop hv))
  have hfin : (splice (splice ROW (i * 3) vs) ((i + 1) * 3) (cs.drop (i * 3))).take ((n + 1) * 3) = cs.take (i * 3) ++ vs ++ cs.drop (i * 3) := by
    have e1 : (splice ROW (i * 3) vs).take ((i + 1) * 3) = cs.take (i * 3) ++ vs := by
      unfold splice
      rw [hRt, ← List.append_assoc, List.take_append_of_le_length (by rw [List.length_append, List.length_take]; omega), List.take_of_length_le (by rw [List.length_append, List.length_take]; omega)]
    rw [show splice (splice ROW (i * 3) vs) ((i + 1) * 3) (cs.drop (i * 3)) = (splice ROW (i * 3) vs).take ((i + 1) * 3) ++ (cs.drop (i * 3) ++ (splice ROW (i * 3) vs).drop ((i + 1) * 3 + (cs.drop (i * 3)).length)) from rfl, e1, ← List.append_assoc]
    rw [List.take_append_of_le_length (by simp only [List.length_append, List.length_take, hdl]; omega), List.take_of_length_le (by simp only [List.length_append, List.length_take, hdl]; omega)]
  have hs2 : (splice (splice ROW (i * 3) vs) ((i + 1) * 3) (cs.drop (i * 3))).length = G * 3 := by rw [length_splice _ _ _ (by rw [hs1, hdl]; omega), hs1]
  obtain ⟨R2, hR2⟩ : ∃ R2, R2 = splice (splice ROW (i * 3) vs) ((i + 1) * 3) (cs.drop (i * 3)) := ⟨_, rfl⟩
  rw [← hR2] at hfin hs2 hcpB
  have HEND : Aside (∀ (W : World), W.heap = W2.heap → Below w.heap.size w W → Below w.heap.size w (W.setRow w.heap.size R2.toArray) ∧ (W.setRow w.heap.size R2.toArray).ownsRow w.heap.size 35 3 (.slice (some ⟨w.heap.size, 0, none⟩) (n + 1) G) (n + 1) (cs.take (i * 3) ++ vs ++ cs.drop (i * 3))) := fun W hW hB => by
    refine ⟨below_setRow hB (Nat.le_refl _) _, ?_, ?_⟩
    · simp only [List.length_append, List.length_take, List.length_drop]
      omega
    · exact Or.inr ⟨w.heap.size, G, R2.toArray, rfl, Nat.le_refl _, setRow_heap W _ _ _ _ _ (by rw [hW]; exact hH2), hGn, hG63, by simp [hs2], by rw [← hfin]⟩
  have hB2 : Aside (Below w.heap.size w W2) := by
    rw [hW2, hW1]
    exact below_setRow (below_alloc (below_drew1 (Below.refl _ _)) _) (Nat.le_refl _) _
  have hz1 : ¬ ((1 : Int) = 0) := by omega
  have hz2 : ¬ ((i : Int) = (n : Int)) := by omega
  have hz3 : (c : Int) < (n : Int) + 1 := by omega
  have hGi : ¬ (G = i) := by omega
  have hGim : ¬ (G = i + 1) := by omega
  have hci : ¬ (c = i) := by omega
  have hw0 : IntKind.i64.wrap ((n : Int) + 1) = (n : Int) + 1 := by rw [IntKind.wrap_i64]; omega
  have hw1 : IntKind.i64.wrap ((i : Int) + 1) = (i : Int) + 1 := by rw [IntKind.wrap_i64]; omega
  have hw2 : IntKind.i64.wrap ((n : Int) + 1 - (i : Int)) = (n : Int) + 1 - (i : Int) := by rw [IntKind.wrap_i64]; omega
  have hb1 : (0 : Int) ≤ (i : Int) + 1 := by omega
  have hin : i ≤ n := by omega
  have htn : ((i : Int) + 1).toNat = i + 1 := by omega
  have hb3 : (i : Int) ≤ (n : Int) := by omega
  have hb4 : (i : Int) < (n : Int) + 1 := by omega
  subst hW2
  subst hW1
  clear hkk hik hG hRl hRt hR2 hfin hs2 hs1 hdl hH1 hH2 hOb hO2 hcl2 hcs hvs h1c h1v
  have mixed : Try.prog.follows .mixedOrders = true := by kernel_rfl
  have hE1 : ((w.alloc (.cells ROW.toArray 35)).drew).heap = (w.drew.alloc (.cells ROW.toArray 35)).heap := rfl
  have hF1 : (((w.alloc (.cells ROW.toArray 35)).drew.setRow w.heap.size (splice ROW (i * 3) vs).toArray).drew).heap = ((w.drew.alloc (.cells ROW.toArray 35)).setRow w.heap.size (splice ROW (i * 3) vs).toArray).heap := rfl
  go_enter Try.func46, Try.ntmps46
  go_wp2_with (first
    | (at_builtin; refine Lib.wpList_append_run _ rfl _ _ _ _ rfl _ _ rfl rfl _ _ (hrz _) ?_)
    | (at_builtin; refine wpList_copy_runI _ rfl _ _ 23 23 rfl _ _ rfl rfl (hcpA _ hE1 _ _) ?_))
  go_region_law_o (refine step_copy_runI rfl _ _ 23 23 rfl (.slice (some ⟨w.heap.size, (i + 1) * 3, none⟩) (n + 1 - (i + 1)) (G - (i + 1))) (.slice (some ⟨b, i * 3, none⟩) (n - i) (c - i)) (by simp [Act.eval, Act.put]) (by simp [Act.eval, Act.put]) (hcpB _ hF1 3 (G - (i + 1)) (c - i)) ?_)
  go_wp2
  go_ret
  obtain ⟨q1, q2⟩ := HEND.out _ hF1 (by have := hB2.out; exact below_drew1 (below_setRow (below_drew1 (below_alloc (Below.refl _ _) _)) (Nat.le_refl _) _))
  exact ⟨rfl, q1, q2⟩
set_option maxHeartbeats 1000000 in
set_option maxRecDepth 100000 in
theorem api_Hold_46.shift (base b n c i vb vc tA : Nat) (cur cs vs : List Value) (w : World) (hi : i < n) (hroom : n + 1 ≤ c) (hc63 : c ≤ 9223372036854775807) (hvb : vb ≠ b) (hbb : base ≤ b)
    (hrow : w.heap[b]? = some (.cells cur.toArray 35 (0, 0))) (hcur : cur.length = c * 3) (hct : cur.take (n * 3) = cs) (hvh : w.heap[vb]? = some (.cells vs.toArray tA (0, 0))) (hvl : vs.length = 3) (h1c : ∀ v ∈ cs, v.oneCell' = true) (h1v : ∀ v ∈ vs, v.oneCell' = true) :
    Calls Try.prog 46 #[.slice (some ⟨b, 0, none⟩) n c, .int .i64 i, .slice (some ⟨vb, 0, none⟩) 1 vc] w fun e w' =>
      e = .returned (.slice (some ⟨b, 0, none⟩) (n + 1) c) ∧ Below base w w' ∧ w'.ownsRow base 35 3 (.slice (some ⟨b, 0, none⟩) (n + 1) c) (n + 1) (cs.take (i * 3) ++ vs ++ cs.drop (i * 3)) := by
  have hinfo : (Try.prog.info? 35).map (fun i => (i.zero, i.size, i.bytes)) = some (some (.agg #[.int .i64 0, .int .i64 0, .int .i64 0]), 3, 24) := by kernel_rfl
  have hsz : (Try.prog.info? 35).map (·.size) = some 3 := by
    cases hq : Try.prog.info? 35 with
    | none => rw [hq] at hinfo; simp at hinfo
    | some i0 => rw [hq] at hinfo; simp at hinfo; simp [hinfo.2.1]
  clear hinfo
  have hcl : cs.length = n * 3 := by rw [← hct, List.length_take]; omega
  have hbs : b < w.heap.size := blk_lt hrow
  have hvs0 : vb < w.heap.size := blk_lt hvh
  have hov : ∀ lb cb, (callFunc 56 #[.slice (some ⟨vb, 0, none⟩) 1 vc, .slice (some ⟨b, (i + 1) * 3, none⟩) lb cb]).run Try.prog w = .ok (.value (.bool false)) w := fun lb cb => by
    rw [run_callFunc_extern Try.func56 (by kernel_rfl) (by kernel_rfl) (by kernel_rfl) (e := Extern.SlicesOverlaps.overlaps #[23, 23] #[4]) (by kernel_rfl),
      Lib.run_overlaps_apart w 23 4 35 Try.underlying23 3 Try.sizeOf35 ⟨vb, 0, none⟩ ⟨b, (i + 1) * 3, none⟩ 1 vc lb cb hvb tA 35 3 (c * 3) (by simp [World.shape?, hvh, hvl]) (by simp [World.shape?, hrow, hcur]) (by omega) (blk_frozen hvh 0) (blk_frozen hvh 3)]
    rfl
  have hdl : (cs.drop (i * 3)).length = (n - i) * 3 := by rw [List.length_drop, hcl]; omega
  have hcl2 : ∀ (W W' : World), W.heap = W'.heap → ∀ x, W.cell? x = W'.cell? x := fun W W' h x => by unfold World.cell?; rw [h]
  have hcsb : ∀ j v, cs[j]? = some v → w.cell? ⟨b, j, none⟩ = some v := fun j v hj => by
    rw [← hct, List.getElem?_take] at hj
    split at hj
    · rw [blk_cell hrow j]; simpa using hj
    · cases hj
  have hcp1 : ∀ ty dc sc, (Builtin.copy_ #[23, 23] ty #[.slice (some ⟨b, (i + 1) * 3, none⟩) (n - i) dc, .slice (some ⟨b, i * 3, none⟩) (n + 1 - i) sc]).run Try.prog w.drew = .ok (goInt (n - i : Nat)) (w.drew.setRow b (splice cur ((i + 1) * 3) (cs.drop (i * 3))).toArray) := fun ty dc sc =>
    run_copy_k 3 w.drew _ _ ty 35 b ((i + 1) * 3) (n - i) dc ⟨b, i * 3, none⟩ (n + 1 - i) sc (n - i) cur 35 (cs.drop (i * 3)) Try.underlying23 hsz hrow (by simp only [Nat.min_def]; split <;> omega) hdl
      (fun j v hj => by rw [Addr.add_lit]; exact hcsb _ v (by rwa [List.getElem?_drop] at hj)) (by omega) (fun v hv => h1c v (List.mem_of_mem_drop hv))
  obtain ⟨W1, hW1⟩ : ∃ W1, W1 = w.drew.setRow b (splice cur ((i + 1) * 3) (cs.drop (i * 3))).toArray := ⟨_, rfl⟩
  have hs1 : (splice cur ((i + 1) * 3) (cs.drop (i * 3))).length = c * 3 := by rw [length_splice _ _ _ (by omega), hcur]
  have hH1 : W1.heap[b]? = some (.cells (splice cur ((i + 1) * 3) (cs.drop (i * 3))).toArray 35 (0, 0)) := by rw [hW1]; exact setRow_heap w.drew _ _ _ _ _ hrow
  have hV1 : W1.heap[vb]? = some (.cells vs.toArray tA (0, 0)) := by rw [hW1, setRow_other w.drew b vb _ hvb]; exact hvh
  have hcp2 : ∀ ty dc, (Builtin.copy_ #[23, 23] ty #[.slice (some ⟨b, i * 3, none⟩) (n + 1 - i) dc, .slice (some ⟨vb, 0, none⟩) 1 vc]).run Try.prog W1 = .ok (goInt 1) (W1.setRow b (splice (splice cur ((i + 1) * 3) (cs.drop (i * 3))) (i * 3) vs).toArray) := fun ty dc =>
    run_copy_k 3 W1 _ _ ty 35 b (i * 3) (n + 1 - i) dc ⟨vb, 0, none⟩ 1 vc 1 (splice cur ((i + 1) * 3) (cs.drop (i * 3))) 35 vs Try.underlying23 hsz hH1 (by simp only [Nat.min_def]; split <;> omega) (by omega)
      (fun j v hj => by rw [Addr.add_lit, Nat.zero_add, blk_cell hV1 j]; simpa using hj) (by omega) h1v
  have hfin : (splice (splice cur ((i + 1) * 3) (cs.drop (i * 3))) (i * 3) vs).take ((n + 1) * 3) = cs.take (i * 3) ++ vs ++ cs.drop (i * 3) := by
    have e0 : (splice cur ((i + 1) * 3) (cs.drop (i * 3))).take (i * 3) = cs.take (i * 3) := by
      unfold splice
      rw [List.take_append_of_le_length (by rw [List.length_take]; omega), List.take_take, Nat.min_eq_left (by omega), ← hct, List.take_take, Nat.min_eq_left (by omega)]
    have e1 : (splice cur ((i + 1) * 3) (cs.drop (i * 3))).drop (i * 3 + vs.length) = cs.drop (i * 3) ++ cur.drop ((i + 1) * 3 + (cs.drop (i * 3)).length) := by
      unfold splice
      rw [List.drop_append_of_le_length (by rw [List.length_take]; omega), List.drop_eq_nil_of_le (by rw [List.length_take]; omega), List.nil_append]
    rw [show splice (splice cur ((i + 1) * 3) (cs.drop (i * 3))) (i * 3) vs = (splice cur ((i + 1) * 3) (cs.drop (i * 3))).take (i * 3) ++ (vs ++ (splice cur ((i + 1) * 3) (cs.drop (i * 3))).drop (i * 3 + vs.length)) from rfl, e0, e1]
    rw [← List.append_assoc, ← List.append_assoc, List.take_append_of_le_length (by simp only [List.length_append, List.length_take, hdl]; omega), List.take_of_length_le (by simp only [List.length_append, List.length_take, hdl]; omega)]
  have hs2 : (splice (splice cur ((i + 1) * 3) (cs.drop (i * 3))) (i * 3) vs).length = c * 3 := by rw [length_splice _ _ _ (by rw [hs1]; omega), hs1]
  obtain ⟨R2, hR2⟩ : ∃ R2, R2 = splice (splice cur ((i + 1) * 3) (cs.drop (i * 3))) (i * 3) vs := ⟨_, rfl⟩
  rw [← hR2] at hfin hs2 hcp2
  have HEND : Aside (Below base w (W1.setRow b R2.toArray) ∧ (W1.setRow b R2.toArray).ownsRow base 35 3 (.slice (some ⟨b, 0, none⟩) (n + 1) c) (n + 1) (cs.take (i * 3) ++ vs ++ cs.drop (i * 3))) := by
    have hB1 : Below base w W1 := by rw [hW1]; exact below_setRow (below_drew (B := base) (w := w) (W := w) ⟨rfl, rfl, rfl, Nat.le_refl _, fun _ _ => rfl⟩) hbb _
    refine ⟨below_setRow hB1 hbb _, ?_, ?_⟩
    · simp only [List.length_append, List.length_take, List.length_drop]
      omega
    · exact Or.inr ⟨b, c, R2.toArray, rfl, hbb, setRow_heap W1 _ _ _ _ _ hH1, hroom, hc63, by simp [hs2], by rw [← hfin]⟩
  have hz1 : ¬ ((1 : Int) = 0) := by omega
  have hz2 : ¬ ((i : Int) = (n : Int)) := by omega
  have hz3 : ¬ ((c : Int) < (n : Int) + 1) := by omega
  have hz4 : (n : Int) + 1 ≤ (c : Int) := by omega
  have hci : ¬ (c = i) := by omega
  have hci1 : ¬ (c = i + 1) := by omega
  have hw0 : IntKind.i64.wrap ((n : Int) + 1) = (n : Int) + 1 := by rw [IntKind.wrap_i64]; omega
  have hw1 : IntKind.i64.wrap ((i : Int) + 1) = (i : Int) + 1 := by rw [IntKind.wrap_i64]; omega
  have hb0 : (0 : Int) ≤ (n : Int) + 1 := by omega
  have hb1 : (0 : Int) ≤ (i : Int) + 1 := by omega
  have hin : i ≤ n := by omega
  have htn : ((i : Int) + 1).toNat = i + 1 := by omega
  have htn2 : ((n : Int) + 1).toNat = n + 1 := by omega
  have hb3 : (i : Int) ≤ (n : Int) := by omega
  have hb5 : (i : Int) ≤ (n : Int) + 1 := by omega
  have mixed : Try.prog.follows .mixedOrders = true := by kernel_rfl
  subst hW1
  clear hR2 hfin hs2 hs1 hdl hH1 hV1 hcl2 hcsb h1c h1v hrow hcur hct hvh hvl hcl hbs hvs0 hbb hvb
  go_enter Try.func46, Try.ntmps46
  go_wp2_with (simp only [hov])
  go_region_law_o (refine step_copy_runI rfl _ _ 23 23 rfl _ _ (by simp [Act.eval, Act.put]) (by simp [Act.eval, Act.put]) (hcp1 _ _ _) ?_)
  go_wp2_with (at_builtin; refine wpList_copy_runI _ rfl _ _ 23 23 rfl _ _ rfl rfl (hcp2 _ _) ?_)
  go_ret
  exact ⟨rfl, HEND.out.1, HEND.out.2⟩
theorem reps_cells3 {ps : List S35} {cs : List Value} (h : Reps (fun (x : S35) c => c = [.int .i64 x.f0, .int .i64 x.f1, .int .i64 x.f2]) 3 ps cs) : ∀ v ∈ cs, v.oneCell' = true := by
  intro v hv
  obtain ⟨q, hq, rfl⟩ := List.getElem_of_mem hv
  have hl := h.1
  have hj : q / 3 < ps.length := by omega
  have h2 := h.2 (q / 3) _ (List.getElem?_eq_getElem hj)
  have h3 : ((cs.drop (q / 3 * 3)).take 3)[q % 3]? = some cs[q] := by
    rw [List.getElem?_take, if_pos (by omega), List.getElem?_drop, show q / 3 * 3 + q % 3 = q by omega, List.getElem?_eq_getElem hq]
  rw [h2] at h3
  rcases (show q % 3 = 0 ∨ q % 3 = 1 ∨ q % 3 = 2 by omega) with e | e | e
  · rw [e] at h3
    have h4 := Option.some.inj h3
    rw [← h4]; rfl
  · rw [e] at h3
    have h4 := Option.some.inj h3
    rw [← h4]; rfl
  · rw [e] at h3
    have h4 := Option.some.inj h3
    rw [← h4]; rfl
set_option maxHeartbeats 1000000 in
/-- slices.Insert of one row ahead of the end of a slice of one's own. -/
theorem api_Hold_46.one (base : Nat) (v : Value) (xs : List S35) (x : S35) (i vb vc tA : Nat) (w : World) (hR : Kd.R k35 35 w base (fun _ => True) v xs) (hi : i < xs.length) (hbig : (xs.length + 1) * 24 ≤ 140737488355328) (hbase : base ≤ w.heap.size)
    (hvh : w.heap[vb]? = some (.cells #[.int .i64 x.f0, .int .i64 x.f1, .int .i64 x.f2] tA (0, 0))) (hne : v.ownBlock ≠ some vb) :
    Calls Try.prog 46 #[v, .int .i64 i, .slice (some ⟨vb, 0, none⟩) 1 vc] w fun e w' => ∃ v', e = .returned v' ∧ Kd.R k35 35 w' base (fun _ => True) v' (xs.take i ++ x :: xs.drop i) ∧ Below base w w' := by
  obtain ⟨_, inner, hown, hreps⟩ := hR
  have hp : Reps (fun (x : S35) c => c = [.int .i64 x.f0, .int .i64 x.f1, .int .i64 x.f2]) 3 xs inner := hreps.imp_ (fun p c h => k35_openM h)
  have h1 := reps_cells3 hp
  have hnew : Reps (fun (x : S35) c => c = [.int .i64 x.f0, .int .i64 x.f1, .int .i64 x.f2]) 3 (xs.take i ++ x :: xs.drop i) (inner.take (i * 3) ++ [.int .i64 x.f0, .int .i64 x.f1, .int .i64 x.f2] ++ inner.drop (i * 3)) := by
    have e : Reps (fun (x : S35) c => c = [.int .i64 x.f0, .int .i64 x.f1, .int .i64 x.f2]) 3 [x] ([.int .i64 x.f0, .int .i64 x.f1, .int .i64 x.f2] : List Value) := ⟨rfl, fun j p hj => by
      cases j with
      | zero => simp at hj; subst hj; rfl
      | succ j => simp at hj⟩
    have h2 := Kd.reps_append (Kd.reps_append (Kd.reps_take hp (Nat.le_of_lt hi)) e) (Kd.reps_drop (m := i) hp)
    rw [List.append_assoc] at h2
    exact h2
  have hfin : ∀ (w' : World) (v' : Value), w'.ownsRow base 35 3 v' (xs.length + 1) (inner.take (i * 3) ++ [.int .i64 x.f0, .int .i64 x.f1, .int .i64 x.f2] ++ inner.drop (i * 3)) → Kd.R k35 35 w' base (fun _ => True) v' (xs.take i ++ x :: xs.drop i) := fun w' v' ho => by
    refine ⟨fun _ _ => trivial, inner.take (i * 3) ++ [.int .i64 x.f0, .int .i64 x.f1, .int .i64 x.f2] ++ inner.drop (i * 3), ?_, hnew.imp_ (fun p c h => by rw [h]; exact k35_mkM _ _ _ p)⟩
    have e : (xs.take i ++ x :: xs.drop i).length = xs.length + 1 := by simp; omega
    rw [e]
    exact ho
  obtain ⟨hlen, hh⟩ := hown
  change inner.length = xs.length * 3 at hlen
  rcases hh with ⟨rfl, h0⟩ | ⟨g, cap, cur, rfl, hbg, hg, hnc, hcap, hcs, htk⟩
  · omega
  change cur.size = cap * 3 at hcs
  change cur.toList.take (xs.length * 3) = inner at htk
  have hgv : vb ≠ g := fun h => hne (by rw [h]; rfl)
  have hv1 : ∀ u ∈ ([.int .i64 x.f0, .int .i64 x.f1, .int .i64 x.f2] : List Value), u.oneCell' = true := by
    intro u hu
    rcases List.mem_cons.1 hu with rfl | hu
    · rfl
    · rcases List.mem_cons.1 hu with rfl | hu
      · rfl
      · rcases List.mem_cons.1 hu with rfl | hu
        · rfl
        · cases hu
  rcases Nat.lt_or_ge cap (xs.length + 1) with hroom | hroom
  · refine (api_Hold_46.grow g xs.length cap i vb vc inner [.int .i64 x.f0, .int .i64 x.f1, .int .i64 x.f2] w hi hnc hroom hbig hlen rfl (fun j u hj => ?_) (fun j u hj => ?_) h1 hv1).mono ?_
    · rw [← htk, List.getElem?_take] at hj
      split at hj
      · rw [blk_cell hg j]; simpa using hj
      · cases hj
    · rw [blk_cell hvh j]; simpa using hj
    · rintro e w' ⟨rfl, hb, ho⟩
      refine ⟨_, rfl, hfin _ _ ?_, ⟨hb.os, hb.tape, hb.output, hb.size, fun k hk => hb.block k (by omega)⟩⟩
      obtain ⟨o1, o2⟩ := ho
      refine ⟨o1, ?_⟩
      rcases o2 with ⟨q1, q2⟩ | ⟨g', c', cu, q1, q2, q3⟩
      · omega
      · exact Or.inr ⟨g', c', cu, q1, by omega, q3⟩
  · refine (api_Hold_46.shift base g xs.length cap i vb vc tA cur.toList inner [.int .i64 x.f0, .int .i64 x.f1, .int .i64 x.f2] w hi hroom hcap hgv hbg (by simpa using hg) (by simpa using hcs) htk hvh rfl h1 hv1).mono ?_
    rintro e w' ⟨rfl, hb, ho⟩
    exact ⟨_, rfl, hfin _ _ ho, hb⟩
set_option maxHeartbeats 1000000 in
/-- slices.Insert of one row at the end of a slice of one's own. -/
theorem api_Hold_46.last (base : Nat) (v : Value) (xs : List S35) (x : S35) (vb vc tA : Nat) (w : World) (hR : Kd.R k35 35 w base (fun _ => True) v xs) (hbig : (xs.length + 1) * 24 ≤ 140737488355328) (hbase : base ≤ w.heap.size)
    (hvh : w.heap[vb]? = some (.cells #[.int .i64 x.f0, .int .i64 x.f1, .int .i64 x.f2] tA (0, 0))) :
    Calls Try.prog 46 #[v, .int .i64 xs.length, .slice (some ⟨vb, 0, none⟩) 1 vc] w fun e w' => ∃ v', e = .returned v' ∧ Kd.R k35 35 w' base (fun _ => True) v' (xs ++ [x]) ∧ Below base w w' := by
  have hinfo : (Try.prog.info? 35).map (fun i => (i.zero, i.size, i.bytes)) = some (some (.agg #[.int .i64 0, .int .i64 0, .int .i64 0]), 3, 24) := by kernel_rfl
  obtain ⟨i0, hi0, hz0, hzs, hzb⟩ : ∃ i0, Try.prog.info? 35 = some i0 ∧ i0.zero = some (.agg #[.int .i64 0, .int .i64 0, .int .i64 0]) ∧ i0.size = 3 ∧ i0.bytes = 24 := by
    cases hq : Try.prog.info? 35 with
    | none => rw [hq] at hinfo; simp at hinfo
    | some i0 => rw [hq] at hinfo; simp at hinfo; exact ⟨i0, rfl, hinfo.1, hinfo.2.1, hinfo.2.2⟩
  obtain ⟨A, cap, rfl⟩ := Kd.R_slice hR
  obtain ⟨hok, inner, hown, hreps⟩ := hR
  have hv1 : ∀ u ∈ ([.int .i64 x.f0, .int .i64 x.f1, .int .i64 x.f2] : List Value), u.oneCell' = true := by
    intro u hu
    simp only [List.mem_cons, List.not_mem_nil, or_false] at hu
    rcases hu with rfl | rfl | rfl <;> rfl
  obtain ⟨v', w', hrun, r1, r2, r3⟩ := run_append_own (P := Try.prog) (w := w) base 23 23 35 i0 _ 3 24 Try.underlying23 hi0 hz0 hzs hzb (by kernel_rfl) (by decide) (.slice A xs.length cap) xs.length inner hown ⟨vb, 0, none⟩ 1 vc [.int .i64 x.f0, .int .i64 x.f1, .int .i64 x.f2] rfl
    (fun j u hj => by rw [Addr.add_lit, Nat.zero_add, blk_cell hvh j]; simpa using hj) hv1 (by unfold maxLen; omega) hbig hbase
  have HE := Aside0.mk (show Kd.R k35 35 w' base (fun _ => True) v' (xs ++ [x]) ∧ Below base w w' from by
    refine ⟨⟨fun _ _ => trivial, inner ++ [.int .i64 x.f0, .int .i64 x.f1, .int .i64 x.f2], ?_, ?_⟩, (Below.refl base w).grown r2 hbase (fun k hk => own_base hown k hk)⟩
    · rw [List.length_append, List.length_singleton]; exact r1
    · have hp : Reps (fun (x : S35) c => c = [.int .i64 x.f0, .int .i64 x.f1, .int .i64 x.f2]) 3 xs inner := hreps.imp_ (fun p c h => k35_openM h)
      exact (hp.snoc (p := x) (c := [.int .i64 x.f0, .int .i64 x.f1, .int .i64 x.f2]) rfl rfl).imp_ (fun p c h => by rw [h]; exact k35_mkM _ _ _ p))
  have HL := Aside0.mk (show xs.length ≤ 140737488355328 by omega)
  clear r1 r2 r3 hreps hown hok hinfo hi0 hz0 hzs hzb hv1 hvh hbig hbase
  go_enter Try.func46, Try.ntmps46
  go_wp2_with (at_builtin; refine Lib.wpList_append_run _ rfl _ _ _ _ rfl _ _ rfl rfl _ _ hrun ?_)
  all_goals
    go_ret
    exact ⟨_, rfl, HE.out.1, HE.out.2⟩

end Go.Proofs.Ytdolabpkgienkaa.PF
