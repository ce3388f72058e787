/- slices.CompactFunc over rows of one's own: what it returns. -/
import Derived.Test.YtcapbigknimgnaaMOpt
import Derived.Test.YtcapbigknimgnaaPF0
import Derived.Test.YtcapbigknimgnaaPF1
import Derived.Shelf.RegionOpenPlain
import Derived.Laws.CopyOwn
import Derived.Laws.CopyRow
import Derived.Laws.NewBlocks
namespace Go.Proofs.Ytcapbigknimgnaa.PF
open Go.RowKit Go.Proofs.YtcapbigknimgnaaW.PrintWords Go.Proofs.YtcapbigknimgnaaW.PrintLast Go.Proofs.YtcapbigknimgnaaW.PrintMore
set_option linter.unusedVariables false
set_option linter.unusedSimpArgs false
/-- Rows that lie in a block of plain memory. -/
def G2 (w : World) (g c : Nat) (xs : List S44) : Prop :=
  ∃ cur : List Value, w.heap[g]? = some (.cells cur.toArray 44 (0, 0)) ∧ cur.length = c * 2 ∧ xs.length ≤ c ∧ ∀ i x, xs[i]? = some x → cur[i * 2]? = some (.int .i64 x.f0) ∧ cur[i * 2 + 1]? = some (.int .i64 x.f1)
theorem rd_grade (l : List S44) (j : Nat) (hj : j < l.length) : rd_T44 l (j : Int) = l[j] := by
  unfold rd_T44
  rw [Int.toNat_natCast, List.getD_eq_getElem?_getD, List.getElem?_eq_getElem hj]
  rfl
theorem G2.lt {w : World} {g c : Nat} {xs : List S44} (h : G2 w g c xs) : g < w.heap.size := by
  obtain ⟨cur, h1, _⟩ := h
  exact blk_lt h1
theorem G2.cell0 {w : World} {g c : Nat} {xs : List S44} (h : G2 w g c xs) (i : Nat) (hi : i < xs.length) : w.cell? ⟨g, i * 2, none⟩ = some (.int .i64 (rd_T44 xs (i : Int)).f0) := by
  obtain ⟨cur, h1, h2, _, h3⟩ := h
  rw [blk_cell h1, rd_grade xs i hi]
  simpa using (h3 i _ (List.getElem?_eq_getElem hi)).1
theorem G2.cell1 {w : World} {g c : Nat} {xs : List S44} (h : G2 w g c xs) (i : Nat) (hi : i < xs.length) : w.cell? ⟨g, i * 2 + 1, none⟩ = some (.int .i64 (rd_T44 xs (i : Int)).f1) := by
  obtain ⟨cur, h1, h2, _, h3⟩ := h
  rw [blk_cell h1, rd_grade xs i hi]
  simpa using (h3 i _ (List.getElem?_eq_getElem hi)).2
theorem G2.fro {w : World} {g c : Nat} {xs : List S44} (h : G2 w g c xs) (j : Nat) : w.frozen? ⟨g, j, none⟩ = false := by
  obtain ⟨cur, h1, _⟩ := h
  exact blk_frozen h1 j
theorem G2.keep {w W : World} {g c : Nat} {xs : List S44} (h : G2 w g c xs) (hb : Below w.heap.size w W) : G2 W g c xs := by
  obtain ⟨cur, h1, h2⟩ := h
  exact ⟨cur, by rw [hb.block g (blk_lt h1)]; exact h1, h2⟩
theorem G2.put {w : World} {g c : Nat} {xs : List S44} (h : G2 w g c xs) (k : Nat) (a b : Int) : G2 ((w.setCell ⟨g, k * 2, none⟩ (.int .i64 a)).setCell ⟨g, k * 2 + 1, none⟩ (.int .i64 b)) g c (xs.set k ⟨a, b⟩) := by
  obtain ⟨cur, h1, h2, h3, h4⟩ := h
  refine ⟨(cur.set (k * 2) (.int .i64 a)).set (k * 2 + 1) (.int .i64 b), ?_, by simp [h2], by simpa using h3, ?_⟩
  · have e := blk_set (blk_set h1 (k * 2) (.int .i64 a)) (k * 2 + 1) (.int .i64 b)
    rw [e]
    simp
  · intro i x hx
    rw [List.getElem?_set] at hx
    by_cases hik : k = i
    · subst hik
      rw [if_pos rfl] at hx
      split at hx
      · have hx' := Option.some.inj hx
        subst hx'
        have hk : k < c := by omega
        constructor
        · rw [List.getElem?_set, if_neg (by omega), List.getElem?_set, if_pos rfl, if_pos (by omega)]
        · rw [List.getElem?_set, if_pos rfl, if_pos (by rw [List.length_set]; omega)]
      · cases hx
    · rw [if_neg hik] at hx
      have h5 := h4 i x hx
      constructor
      · rw [List.getElem?_set, if_neg (by omega), List.getElem?_set, if_neg (by omega)]; exact h5.1
      · rw [List.getElem?_set, if_neg (by omega), List.getElem?_set, if_neg (by omega)]; exact h5.2
theorem G2.toC {w : World} {g c : Nat} {xs : List S44} (h : G2 w g c xs) (base : Nat) (hb : base ≤ g) (hc : c ≤ 9223372036854775807) : Kd.R k44 44 w base (fun _ => True) (.slice (some ⟨g, 0, none⟩) xs.length c) xs := by
  obtain ⟨cur, h1, h2, h3, h4⟩ := h
  have ht : (cur.take (xs.length * 2)).length = xs.length * 2 := by rw [List.length_take]; omega
  refine ⟨fun _ _ => trivial, cur.take (xs.length * 2), ⟨ht, Or.inr ⟨g, c, cur.toArray, rfl, hb, h1, h3, hc, (show cur.toArray.size = c * 2 by simpa using h2), rfl⟩⟩, ⟨ht, fun j p hj => ?_⟩⟩
  have hjl : j < xs.length := (List.getElem?_eq_some_iff.1 hj).1
  have h5 := h4 j p hj
  have e : ((cur.take (xs.length * 2)).drop (j * 2)).take 2 = [.int .i64 p.f0, .int .i64 p.f1] := by
    apply List.ext_getElem?
    intro q
    rw [List.getElem?_take]
    by_cases hq : q < 2
    · rw [if_pos hq, List.getElem?_drop, List.getElem?_take, if_pos (by omega)]
      rcases (show q = 0 ∨ q = 1 by omega) with rfl | rfl
      · exact h5.1
      · exact h5.2
    · rw [if_neg hq, List.getElem?_eq_none (by simp; omega)]
  change k44.M _ _ _ p (((cur.take (xs.length * 2)).drop (j * 2)).take 2)
  rw [e]
  exact k44_mkM _ _ _ p
theorem G2.ofR {w : World} {base : Nat} {g n c : Nat} {xs : List S44} (h : Kd.R k44 44 w base (fun _ => True) (.slice (some ⟨g, 0, none⟩) n c) xs) (h0 : 0 < xs.length) : G2 w g c xs ∧ n = xs.length ∧ base ≤ g ∧ c ≤ 9223372036854775807 := by
  obtain ⟨_, inner, hown, hreps⟩ := h
  have hp : Reps (fun (x : S44) c => c = [.int .i64 x.f0, .int .i64 x.f1]) 2 xs inner := hreps.imp_ (fun p c h => k44_openM h)
  obtain ⟨hlen, hh⟩ := hown
  change inner.length = xs.length * 2 at hlen
  rcases hh with ⟨e, h1⟩ | ⟨g', cap, cur, e, hbg, hg, hnc, hcap, hcs, htk⟩
  · omega
  · injection e with e1 e2 e3
    injection e1 with e1
    injection e1 with e1
    subst e1 e2 e3
    change cur.size = c * 2 at hcs
    change cur.toList.take (xs.length * 2) = inner at htk
    refine ⟨⟨cur.toList, by simpa using hg, by simpa using hcs, hnc, fun i x hx => ?_⟩, rfl, hbg, hcap⟩
    have hi : i < xs.length := (List.getElem?_eq_some_iff.1 hx).1
    have h2 := hp.2 i x hx
    have q0 : (((inner.drop (i * 2)).take 2)[0]? = some (Value.int .i64 x.f0)) := by rw [h2]; rfl
    have q1 : (((inner.drop (i * 2)).take 2)[1]? = some (Value.int .i64 x.f1)) := by rw [h2]; rfl
    rw [List.getElem?_take, if_pos (by omega), List.getElem?_drop, ← htk, List.getElem?_take, if_pos (by omega)] at q0 q1
    exact ⟨q0, q1⟩
theorem G2.take {w : World} {g c : Nat} {xs : List S44} (h : G2 w g c xs) (k : Nat) : G2 w g c (xs.take k) := by
  obtain ⟨cur, h1, h2, h3, h4⟩ := h
  exact ⟨cur, h1, h2, by rw [List.length_take]; omega, fun i x hx => h4 i x (by rw [List.getElem?_take] at hx; split at hx; exact hx; cases hx)⟩
/-- 'clear' of the rows from one on. -/
theorem G2.clear {w : World} {g c : Nat} {xs : List S44} (h : G2 w g c xs) (k : Nat) (hk : k < xs.length) :
    ∃ w1, (∀ ty, (Builtin.clear_ #[22] ty #[.slice (some ⟨g, k * 2, none⟩) (xs.length - k) (c - k)]).run Try.prog w = .ok (.tuple #[]) w1) ∧ G2 w1 g c (xs.take k) ∧ (∀ (B : Nat) (w0 : World), Below B w0 w → B ≤ g → Below B w0 w1) := by
  obtain ⟨cur, h1, h2, h3, h4⟩ := h
  have hz : ∀ w, (zeroValue 44).run Try.prog w = .ok (.agg #[.int .i64 0, .int .i64 0]) w := fun w => by
    have hinfo : (Try.prog.info? 44).map (fun i => i.zero) = some (some (.agg #[.int .i64 0, .int .i64 0])) := by kernel_rfl
    cases hq : Try.prog.info? 44 with
    | none => rw [hq] at hinfo; simp at hinfo
    | some i0 =>
      rw [hq] at hinfo
      have hinfo' : i0.zero = some (.agg #[.int .i64 0, .int .i64 0]) := by simpa using hinfo
      simp [zeroValue, typeInfo, hq, hinfo']
  obtain ⟨zs, hzs⟩ : ∃ zs, zs = (Builtin.zeroCells (Value.agg #[.int .i64 0, .int .i64 0]).cells (xs.length - k)).toList := ⟨_, rfl⟩
  have hzl : zs.length = (xs.length - k) * 2 := by rw [hzs]; simp [Builtin.zeroCells, Value.cells]
  have hz1 : ∀ v ∈ zs, v.oneCell' = true := by
    intro v hv
    rw [hzs] at hv
    simp only [Builtin.zeroCells, Value.cells, Array.toList_map, List.mem_map] at hv
    obtain ⟨i, _, rfl⟩ := hv
    rcases Nat.mod_two_eq_zero_or_one i with e | e
    · simp [e, Value.oneCell']
    · simp [e, Value.oneCell']
  have hst := run_storeCells_at (P := Try.prog) g (k * 2) 44 zs 0 cur.toArray w h1 (by simp [hzl, h2]; omega) hz1
  refine ⟨w.setRow g (cur.take (k * 2) ++ zs ++ cur.drop (k * 2 + zs.length)).toArray, fun ty => ?_, ?_, fun B w0 hB hg => below_setRow hB hg _⟩
  · obtain ⟨m, hm⟩ : ∃ m, xs.length - k = m + 1 := ⟨xs.length - k - 1, by omega⟩
    rw [hm] at hzs ⊢
    simp only [Nat.add_zero] at hst
    simp only [Builtin.clear_]
    simp [run_underlying Try.underlying22, hz, ← hzs, hst]
  · refine ⟨_, setRow_heap w _ _ _ _ _ h1, by simp [hzl, h2]; omega, by rw [List.length_take]; omega, fun i x hx => ?_⟩
    rw [List.getElem?_take] at hx
    split at hx
    · have h5 := h4 i x hx
      rw [List.getElem?_append_left (by simp; omega), List.getElem?_append_left (by simp; omega), List.getElem?_append_left (by simp; omega), List.getElem?_append_left (by simp; omega), List.getElem?_take, List.getElem?_take, if_pos (by omega), if_pos (by omega)]
      exact h5
    · cases hx
/-- Is a row kept: is it the first one, or is its strength another than that of the row before? -/
def kpS (l : List S44) (m : Nat) : Bool := m == 0 || !((rd_T44 l (m : Int)).f0 == (rd_T44 l ((m : Int) - 1)).f0)
/-- What is kept of the first rows. -/
def cmS (l : List S44) : Nat → List S44
  | 0 => []
  | m + 1 => if kpS l m then cmS l m ++ [rd_T44 l (m : Int)] else cmS l m
theorem cmS_len (l : List S44) (m : Nat) : (cmS l m).length ≤ m := by
  induction m with
  | zero => exact Nat.le_refl _
  | succ m ih =>
    unfold cmS
    split
    · rw [List.length_append, List.length_singleton]; omega
    · omega
theorem kpS_zero (l : List S44) : kpS l 0 = true := rfl
theorem kpS_lt_one (l : List S44) (j : Nat) (h : j < 1) : kpS l j = true := by
  have : j = 0 := by omega
  subst this
  rfl
theorem cmS_all (l : List S44) (m : Nat) (hm : m ≤ l.length) (h : ∀ j, j < m → kpS l j = true) : cmS l m = l.take m := by
  induction m with
  | zero => rfl
  | succ m ih =>
    unfold cmS
    rw [if_pos (h m (by omega)), ih (by omega) (fun j hj => h j (by omega)), rd_grade l m (by omega), List.take_succ_eq_append_getElem (by omega)]
theorem take_set_step {α : Type} (ys : List α) (k : Nat) (x : α) (h : k < ys.length) : (ys.set k x).take (k + 1) = ys.take k ++ [x] := by
  rw [List.take_succ_eq_append_getElem (by rw [List.length_set]; exact h), List.take_set_of_le (Nat.le_refl _), List.getElem_set_self]
set_option maxHeartbeats 4000000 in
set_option maxRecDepth 1000000 in
/-- slices.CompactFunc over rows of one's own, by a closure that compares strengths. -/
theorem cf.calls (clo base g c : Nat) (xs : List S44) (w : World) (eg : ∀ args w, (callFunc clo args).run Try.prog w = .ok (.enter clo args) w) (hG : G2 w g c xs) (hb : base ≤ g) (hbase : base ≤ w.heap.size) (hsz : xs.length < 4611686018427387904)
    (hf : ∀ (W : World) (x y : S44), Calls Try.prog clo #[.agg #[.int .i64 x.f0, .int .i64 x.f1], .agg #[.int .i64 y.f0, .int .i64 y.f1]] W fun e w' => e = .returned (.bool (x.f0 == y.f0)) ∧ Below W.heap.size W w') :
    Calls Try.prog 54 #[.slice (some ⟨g, 0, none⟩) xs.length c, .func (.func clo) #[] #[]] w fun e w' => e = .returned (.slice (some ⟨g, 0, none⟩) (cmS xs xs.length).length c) ∧ G2 w' g c (cmS xs xs.length) ∧ Below base w w' := by
  have hu := Try.underlying22
  have hcap : xs.length ≤ c := by obtain ⟨_, _, _, h, _⟩ := hG; exact h
  have HF := Aside0.mk hf
  have HSZ := Aside0.mk hsz
  have HBB := Aside0.mk hb
  have HBS := Aside0.mk hbase
  clear hf hsz hb hbase
  have mixed : Try.prog.follows .mixedOrders = true := by kernel_rfl
  by_cases h2 : (xs.length : Int) < 2
  · have h2b : decide ((xs.length : Int) < 2) = true := decide_eq_true h2
    have e1 : cmS xs xs.length = xs := by
      rw [cmS_all xs _ (Nat.le_refl _) (fun j hj => kpS_lt_one xs j (by omega)), List.take_length]
    have HG := Aside0.mk hG
    have E1 := Aside0.mk e1
    clear hG e1 h2
    go_enter Try.func54, Try.ntmps54
    go_wp2
    go_ret
    rw [E1.out]
    exact ⟨rfl, HG.out, Below.refl _ _⟩
  · have h2b : decide ((xs.length : Int) < 2) = false := decide_eq_false h2
    have HG := Aside0.mk hG
    have N2 := Aside0.mk (show 2 ≤ xs.length by omega)
    clear hG h2
    go_enter Try.func54, Try.ntmps54
    go_wp2
    go_loopg [5] xs.length (fun kx s5 wr => ∃ k : Nat, s5 = .int .i64 k ∧ Aside0 (1 ≤ k ∧ k ≤ xs.length ∧ xs.length - k ≤ kx ∧ ∀ j, j < k → kpS xs j = true) ∧ Aside0 (G2 wr g c xs) ∧ Aside0 (Below base w wr))
    case atStart => exact ⟨1, rfl, ⟨by omega, by have := N2.out; omega, by have := N2.out; omega, fun j hj => kpS_lt_one xs j hj⟩, HG, ⟨Below.refl _ _⟩⟩
    case round =>
      obtain ⟨k, rfl, HX, HG, HB⟩ := hrel
      by_cases hlt : (k : Int) < (xs.length : Int)
      · have hltb : decide (k < xs.length) = true := decide_eq_true (by omega)
        have hltn : k < xs.length := by omega
        have hk1 : (1 : Int) ≤ (k : Int) := by have := HX.out; omega
        have hm0 : (0 : Int) ≤ (k : Int) - 1 := by omega
        have hm1 : (k : Int) - 1 < (xs.length : Int) := by omega
        have hm2 : ((k : Int) - 1).toNat = k - 1 := by omega
        have hm3 : IntKind.i64.wrap ((k : Int) - 1) = (k : Int) - 1 := by have := HSZ.out; rw [IntKind.wrap_i64]; omega
        have c1 := HG.out.cell0 k (by omega)
        have c2 := HG.out.cell1 k (by omega)
        have c3 := HG.out.cell0 (k - 1) (by omega)
        have c4 := HG.out.cell1 (k - 1) (by omega)
        have ei : ((k - 1 : Nat) : Int) = (k : Int) - 1 := by omega
        rw [ei] at c3 c4
        have HLT := Aside0.mk hlt
        have HW := Aside0.mk (show wrap64 ((k : Int) - 1) = (k : Int) - 1 by have := HX.out; have := HSZ.out; unfold wrap64; omega)
        have hc := fun W => HF.out W (rd_T44 xs (k : Int)) (rd_T44 xs ((k : Int) - 1))
        have hkp : kpS xs k = !((rd_T44 xs (k : Int)).f0 == (rd_T44 xs ((k : Int) - 1)).f0) := by
          unfold kpS
          rw [show (k == 0) = false by simp; omega, Bool.false_or]
        generalize ((rd_T44 xs (k : Int)).f0 == (rd_T44 xs ((k : Int) - 1)).f0) = q at hc hkp
        generalize (rd_T44 xs (k : Int)).f0 = y0 at c1 hc
        generalize (rd_T44 xs (k : Int)).f1 = y1 at c2 hc
        generalize (rd_T44 xs ((k : Int) - 1)).f0 = z0 at c3 hc
        generalize (rd_T44 xs ((k : Int) - 1)).f1 = z1 at c4 hc
        have HC := Aside0.mk hc
        have KP := Aside0.mk hkp
        clear hc hkp hlt ei
        cases q
        · go_wp2_with fail
          go_region_held3 (fun w' => w'.cell? ⟨g, k * 2, none⟩ = some (.int .i64 y0) ∧ w'.cell? ⟨g, k * 2 + 1, none⟩ = some (.int .i64 y1) ∧ w'.cell? ⟨g, (k - 1) * 2, none⟩ = some (.int .i64 z0) ∧ w'.cell? ⟨g, (k - 1) * 2 + 1, none⟩ = some (.int .i64 z1) ∧ Aside0 (Below wr.heap.size wr w'))
            (first | exact ⟨c1, c2, c3, c4, ⟨below_drew1 (Below.refl _ _)⟩⟩ | exact ⟨pw_cell_below hb c1, pw_cell_below hb c2, pw_cell_below hb c3, pw_cell_below hb c4, ⟨below_step (below_drew1 (Below.refl _ _)) hb⟩⟩)
            (first | (refine (HC.out _).mono ?_; rintro e w1 ⟨rfl, hb⟩))
          have HB2 := Aside0.mk (below_then HB.out (by have := HBS.out; have := HB.out.size; omega) (below_step (below_drew1 (Below.refl _ _)) hb))
          have HG2 := Aside0.mk (HG.out.keep (below_step (below_drew1 (Below.refl _ _)) hb))
          clear hb c1 c2 c3 c4
          go_wp2
          go_roundg (xs.length - (k + 1))
          case measure => have := HX.out; have := HLT.out; omega
          case rel => exact ⟨k + 1, by rw [w64_ (by have := HSZ.out; have := HLT.out; omega) (by have := HSZ.out; have := HLT.out; omega)]; rfl, ⟨by have := HX.out; omega, by have := HLT.out; omega, Nat.le_refl _, fun j hj => by
            rcases Nat.lt_or_ge j k with h | h
            · exact HX.out.2.2.2 j h
            · rw [show j = k by omega, KP.out]; rfl⟩, HG2, HB2⟩
        · go_wp2_with fail
          go_region_held3 (fun w' => w'.cell? ⟨g, k * 2, none⟩ = some (.int .i64 y0) ∧ w'.cell? ⟨g, k * 2 + 1, none⟩ = some (.int .i64 y1) ∧ w'.cell? ⟨g, (k - 1) * 2, none⟩ = some (.int .i64 z0) ∧ w'.cell? ⟨g, (k - 1) * 2 + 1, none⟩ = some (.int .i64 z1) ∧ Aside0 (Below wr.heap.size wr w'))
            (first | exact ⟨c1, c2, c3, c4, ⟨below_drew1 (Below.refl _ _)⟩⟩ | exact ⟨pw_cell_below hb c1, pw_cell_below hb c2, pw_cell_below hb c3, pw_cell_below hb c4, ⟨below_step (below_drew1 (Below.refl _ _)) hb⟩⟩)
            (first | (refine (HC.out _).mono ?_; rintro e w1 ⟨rfl, hb⟩))
          have HB2 := Aside0.mk (below_then HB.out (by have := HBS.out; have := HB.out.size; omega) (below_step (below_drew1 (Below.refl _ _)) hb))
          have HG2 := Aside0.mk (HG.out.keep (below_step (below_drew1 (Below.refl _ _)) hb))
          clear hb c1 c2 c3 c4 HC
          have hs0 : (k : Int) ≤ (xs.length : Int) := by have := HLT.out; omega
          have hs1 : k ≤ xs.length := by have := HLT.out; omega
          go_wp2
          go_loopg [5, 7] xs.length (fun kx s5 s7 w2 => ∃ (kk k2 : Nat) (ys : List S44), s5 = .int .i64 kk ∧ s7 = .int .i64 k2 ∧ Aside0 (1 ≤ k2 ∧ k + k2 ≤ xs.length ∧ kk < k + k2 ∧ xs.length - (k + k2) ≤ kx) ∧ Aside0 (ys.length = xs.length ∧ ys.take kk = cmS xs (k + k2) ∧ ys.drop (k + k2 - 1) = xs.drop (k + k2 - 1)) ∧ Aside0 (G2 w2 g c ys) ∧ Aside0 (Below base w w2))
          case atStart => exact ⟨k, 1, xs, rfl, rfl, ⟨Nat.le_refl _, by have := HLT.out; omega, by omega, by omega⟩, ⟨rfl, by
            have e : cmS xs (k + 1) = cmS xs k := by
              show (if kpS xs k then _ else _) = _
              rw [KP.out]
              rfl
            rw [e, cmS_all xs k hs1 HX.out.2.2.2], rfl⟩, HG2, HB2⟩
          case round =>
            obtain ⟨kk, k2, ys, rfl, rfl, HY, HZ, HG3, HB3⟩ := hrel
            by_cases hlt2 : k + k2 < xs.length
            · have d1 := HG3.out.cell0 (k + k2) (by have := HZ.out; omega)
              have d2 := HG3.out.cell1 (k + k2) (by have := HZ.out; omega)
              have d3 := HG3.out.cell0 (k + k2 - 1) (by have := HZ.out; omega)
              have d4 := HG3.out.cell1 (k + k2 - 1) (by have := HZ.out; omega)
              have d5 := HG3.out.cell0 kk (by have := HZ.out; have := HY.out; omega)
              have d6 := HG3.out.cell1 kk (by have := HZ.out; have := HY.out; omega)
              have d7 := HG3.out.fro (kk * 2)
              have d8 := HG3.out.fro (kk * 2 + 1)
              have rde : ∀ j, k + k2 - 1 ≤ j → j < xs.length → rd_T44 ys (j : Int) = rd_T44 xs (j : Int) := fun j h1 h2 => by
                rw [rd_grade xs j h2, rd_grade ys j (by rw [HZ.out.1]; exact h2)]
                have h3 := congrArg (fun z => z[j - (k + k2 - 1)]?) HZ.out.2.2
                simp only [List.getElem?_drop, show k + k2 - 1 + (j - (k + k2 - 1)) = j by omega] at h3
                rw [List.getElem?_eq_getElem h2, List.getElem?_eq_getElem (by rw [HZ.out.1]; exact h2)] at h3
                exact Option.some.inj h3
              have hy := HY.out
              rw [rde (k + k2) (by omega) hlt2] at d1 d2
              rw [rde (k + k2 - 1) (by omega) (by omega)] at d3 d4
              have hc := fun W => HF.out W (rd_T44 xs ((k + k2 : Nat) : Int)) (rd_T44 xs ((k + k2 - 1 : Nat) : Int))
              have hkp : kpS xs (k + k2) = !((rd_T44 xs ((k + k2 : Nat) : Int)).f0 == (rd_T44 xs ((k + k2 - 1 : Nat) : Int)).f0) := by
                unfold kpS
                rw [show (k + k2 == 0) = false by simp; omega, Bool.false_or, show ((k + k2 - 1 : Nat) : Int) = ((k + k2 : Nat) : Int) - 1 by omega]
              have hx : rd_T44 xs ((k + k2 : Nat) : Int) = ⟨(rd_T44 xs ((k + k2 : Nat) : Int)).f0, (rd_T44 xs ((k + k2 : Nat) : Int)).f1⟩ := rfl
              have HPUT := Aside0.mk (HG3.out.put kk (rd_T44 xs ((k + k2 : Nat) : Int)).f0 (rd_T44 xs ((k + k2 : Nat) : Int)).f1)
              have HCM := Aside0.mk (show cmS xs (k + k2 + 1) = if kpS xs (k + k2) then cmS xs (k + k2) ++ [⟨(rd_T44 xs ((k + k2 : Nat) : Int)).f0, (rd_T44 xs ((k + k2 : Nat) : Int)).f1⟩] else cmS xs (k + k2) from rfl)
              generalize ((rd_T44 xs ((k + k2 : Nat) : Int)).f0 == (rd_T44 xs ((k + k2 - 1 : Nat) : Int)).f0) = q at hc hkp
              generalize (rd_T44 xs ((k + k2 : Nat) : Int)).f0 = a0 at d1 hc HPUT HCM
              generalize (rd_T44 xs ((k + k2 : Nat) : Int)).f1 = a1 at d2 hc HPUT HCM
              generalize (rd_T44 xs ((k + k2 - 1 : Nat) : Int)).f0 = b0 at d3 hc
              generalize (rd_T44 xs ((k + k2 - 1 : Nat) : Int)).f1 = b1 at d4 hc
              generalize (rd_T44 ys (kk : Int)).f0 = o0 at d5
              generalize (rd_T44 ys (kk : Int)).f1 = o1 at d6
              rw [show (k + k2) * 2 = k * 2 + k2 * 2 by omega] at d1 d2
              rw [show (k + k2 - 1) * 2 = k * 2 + (k2 - 1) * 2 by omega] at d3 d4
              have HC2 := Aside0.mk hc
              have KP2 := Aside0.mk hkp
              have HL2 := Aside0.mk hlt2
              have hn1 : decide (k2 < xs.length - k) = true := decide_eq_true (by omega)
              have hn2 : (1 : Int) ≤ (k2 : Int) := by omega
              have hn3 : (0 : Int) ≤ (k2 : Int) - 1 := by omega
              have hn4 : (k2 : Int) - 1 < ((xs.length - k : Nat) : Int) := by omega
              have hn5 : ((k2 : Int) - 1).toNat = k2 - 1 := by omega
              have hn6 : IntKind.i64.wrap ((k2 : Int) - 1) = (k2 : Int) - 1 := by have := HSZ.out; rw [IntKind.wrap_i64]; omega
              have hn7 : k2 < xs.length - k := by omega
              have hn8 : kk < xs.length := by omega
              clear hc hkp hlt2 hx rde hy
              cases q
              · go_wp2_with fail
                go_region_held3 (fun w' => w'.cell? ⟨g, k * 2 + k2 * 2, none⟩ = some (.int .i64 a0) ∧ w'.cell? ⟨g, k * 2 + k2 * 2 + 1, none⟩ = some (.int .i64 a1) ∧ w'.cell? ⟨g, k * 2 + (k2 - 1) * 2, none⟩ = some (.int .i64 b0) ∧ w'.cell? ⟨g, k * 2 + (k2 - 1) * 2 + 1, none⟩ = some (.int .i64 b1) ∧ Aside0 (Below wr.heap.size wr w'))
                  (first | exact ⟨d1, d2, d3, d4, ⟨below_drew1 (Below.refl _ _)⟩⟩ | exact ⟨pw_cell_below hb d1, pw_cell_below hb d2, pw_cell_below hb d3, pw_cell_below hb d4, ⟨below_step (below_drew1 (Below.refl _ _)) hb⟩⟩)
                  (first | (refine (HC2.out _).mono ?_; rintro e w1 ⟨rfl, hb⟩))
                have HB4 := Aside0.mk (below_then HB3.out (by have := HBS.out; have := HB3.out.size; omega) (below_step (below_drew1 (Below.refl _ _)) hb))
                replace HPUT := Aside0.mk ((HG3.out.keep (below_step (below_drew1 (Below.refl _ _)) hb)).put kk a0 a1)
                replace d5 := pw_cell_below hb d5
                replace d6 := pw_cell_below hb d6
                have d9 := (HG3.out.keep (below_step (below_drew1 (Below.refl _ _)) hb)).fro (kk * 2)
                have d10 := (HG3.out.keep (below_step (below_drew1 (Below.refl _ _)) hb)).fro (kk * 2 + 1)
                replace d1 := pw_cell_below hb d1
                replace d2 := pw_cell_below hb d2
                clear hb d3 d4 d7 d8 HC2
                go_wp2
                go_roundg (xs.length - (k + (k2 + 1)))
                case measure => have := HY.out; have := HL2.out; omega
                case rel => exact ⟨kk + 1, k2 + 1, ys.set kk ⟨a0, a1⟩, by rw [w64_ (by have := HSZ.out; omega) (by have := HSZ.out; omega)]; rfl, by rw [w64_ (by have := HSZ.out; omega) (by have := HSZ.out; omega)]; rfl, ⟨by omega, by have := HL2.out; omega, by have := HY.out; omega, by omega⟩, ⟨by rw [List.length_set]; exact HZ.out.1, by
                  rw [show k + (k2 + 1) = k + k2 + 1 by omega, HCM.out, KP2.out, Bool.not_false, if_pos rfl, ← HZ.out.2.1]
                  exact take_set_step ys kk _ (by rw [HZ.out.1]; exact hn8), by
                  rw [List.drop_set_of_lt (by have := HY.out; omega)]
                  have h3 := congrArg (List.drop 1) HZ.out.2.2
                  rw [List.drop_drop, List.drop_drop, show k + k2 - 1 + 1 = k + (k2 + 1) - 1 by have := HY.out; omega] at h3
                  exact h3⟩, HPUT, ⟨(HB4.out.setCell HBB.out _).setCell HBB.out _⟩⟩
              · go_wp2_with fail
                go_region_held3 (fun w' => w'.cell? ⟨g, k * 2 + k2 * 2, none⟩ = some (.int .i64 a0) ∧ w'.cell? ⟨g, k * 2 + k2 * 2 + 1, none⟩ = some (.int .i64 a1) ∧ w'.cell? ⟨g, k * 2 + (k2 - 1) * 2, none⟩ = some (.int .i64 b0) ∧ w'.cell? ⟨g, k * 2 + (k2 - 1) * 2 + 1, none⟩ = some (.int .i64 b1) ∧ Aside0 (Below wr.heap.size wr w'))
                  (first | exact ⟨d1, d2, d3, d4, ⟨below_drew1 (Below.refl _ _)⟩⟩ | exact ⟨pw_cell_below hb d1, pw_cell_below hb d2, pw_cell_below hb d3, pw_cell_below hb d4, ⟨below_step (below_drew1 (Below.refl _ _)) hb⟩⟩)
                  (first | (refine (HC2.out _).mono ?_; rintro e w1 ⟨rfl, hb⟩))
                have HB4 := Aside0.mk (below_then HB3.out (by have := HBS.out; have := HB3.out.size; omega) (below_step (below_drew1 (Below.refl _ _)) hb))
                have HG4 := Aside0.mk (HG3.out.keep (below_step (below_drew1 (Below.refl _ _)) hb))
                clear hb d1 d2 d3 d4 d5 d6 d7 d8 HC2
                go_wp2
                go_roundg (xs.length - (k + (k2 + 1)))
                case measure => have := HY.out; have := HL2.out; omega
                case rel => exact ⟨kk, k2 + 1, ys, rfl, by rw [w64_ (by have := HSZ.out; omega) (by have := HSZ.out; omega)]; rfl, ⟨by omega, by have := HL2.out; omega, by have := HY.out; omega, by omega⟩, ⟨HZ.out.1, by
                  rw [show k + (k2 + 1) = k + k2 + 1 by omega, HCM.out, KP2.out]
                  exact HZ.out.2.1, by
                  have h3 := congrArg (List.drop 1) HZ.out.2.2
                  rw [List.drop_drop, List.drop_drop, show k + k2 - 1 + 1 = k + (k2 + 1) - 1 by have := HY.out; omega] at h3
                  exact h3⟩, HG4, HB4⟩
            · have hend : k + k2 = xs.length := by have := HY.out; omega
              have hkn : kk < xs.length := by have := HY.out; omega
              obtain ⟨w1, hcl, HG5, HB5⟩ := HG3.out.clear kk (by rw [HZ.out.1]; exact hkn)
              rw [HZ.out.1] at hcl
              have hz := HZ.out.2.1
              rw [hend] at hz
              rw [hz] at HG5
              have hl5 : kk = (cmS xs xs.length).length := by rw [← hz, List.length_take, HZ.out.1]; omega
              have HB6 := Aside0.mk (HB5 _ _ HB3.out HBB.out)
              replace HG5 := Aside0.mk HG5
              have HL5 := Aside0.mk hl5
              have hn1 : decide (k2 < xs.length - k) = false := decide_eq_false (by omega)
              have hn8 : (kk : Int) ≤ (xs.length : Int) := by omega
              have hn9 : kk ≤ xs.length := by omega
              have hn10 : (kk : Int) ≤ (c : Int) := by omega
              have hn11 : kk ≤ c := by omega
              clear hz HB5 hl5 hend
              go_wp2
              go_ret
              rw [← HL5.out]
              exact ⟨rfl, HG5.out, HB6.out⟩
      · have hltb : decide (k < xs.length) = false := decide_eq_false (by omega)
        have e1 : cmS xs xs.length = xs := by
          rw [cmS_all xs _ (Nat.le_refl _) (fun j hj => HX.out.2.2.2 j (by omega)), List.take_length]
        have E1 := Aside0.mk e1
        clear e1 hlt
        go_wp2
        go_ret
        rw [E1.out]
        exact ⟨rfl, HG.out, HB.out⟩

end Go.Proofs.Ytcapbigknimgnaa.PF
