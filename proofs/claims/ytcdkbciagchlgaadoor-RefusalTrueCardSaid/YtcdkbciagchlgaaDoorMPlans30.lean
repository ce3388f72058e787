/- The iterator of blend.plans, which writes its own row between yields. -/
import Derived.Test.YtcdkbciagchlgaaDoorMEv
import Derived.Test.YtcdkbciagchlgaaDoorPF1
import Derived.Test.YtcdkbciagchlgaaDoorPF7
import Derived.RangeFuncNested
import Derived.RangeFuncBound
import Derived.RangeFuncCalls
import Derived.RangeFuncLeaves
import Derived.RangeFuncBox
import Derived.Shelf.RegionOpen
import Derived.WalkKit
import Derived.OwnWalkIn
import Derived.TacticsInMore
import Derived.LoopNIn
import Derived.LoopIn
import Derived.Sort.LoopGhostIn
import Derived.Lib.SliceRun
import Derived.Carry
import Derived.Sort.CutIn
import Derived.Deep.CutBlock
import Derived.BigRegion
import Derived.Shelf.Abstract
import Derived.StillTailTactics
import Derived.Laws.Cover3
namespace Go.Proofs.YtcdkbciagchlgaaDoor.PF
open Go.RowKit Go.Proofs.YtcdkbciagchlgaaDoorW.PrintWords Go.Proofs.YtcdkbciagchlgaaDoorW.PrintLast Go.Proofs.YtcdkbciagchlgaaDoorW.PrintMore
set_option linter.unusedVariables false
set_option linter.unusedSimpArgs false
def prodP (V : List Int) : Nat → Int
  | 0 => 1
  | i + 1 => prodP V i * (rd V (i : Int) + 1)
def rk (V u : List Int) : Nat → Int
  | 0 => 0
  | i + 1 => rk V u i * (rd V (i : Int) + 1) + rd u (i : Int)
structure PlOK (V u : List Int) : Prop where
  len : u.length = V.length
  b : ∀ j : Nat, j < V.length → 0 ≤ rd u (j : Int) ∧ rd u (j : Int) ≤ rd V (j : Int)
theorem PlOK.rng {V u : List Int} (h : PlOK V u) : ∀ i : Nat, i ≤ V.length → 0 ≤ rk V u i ∧ rk V u i + 1 ≤ prodP V i
  | 0, _ => ⟨Int.le_refl _, Int.le_refl _⟩
  | i + 1, hi => by
    obtain ⟨h1, h2⟩ := h.rng i (by omega)
    obtain ⟨b0, b1⟩ := h.b i (by omega)
    have p1 : 0 ≤ rk V u i * (rd V (i : Int) + 1) := Int.mul_nonneg h1 (by omega)
    have p2 : (rk V u i + 1) * (rd V (i : Int) + 1) ≤ prodP V i * (rd V (i : Int) + 1) := Int.mul_le_mul_of_nonneg_right h2 (by omega)
    rw [Int.add_mul, Int.one_mul] at p2
    show 0 ≤ rk V u i * (rd V (i : Int) + 1) + rd u (i : Int) ∧ rk V u i * (rd V (i : Int) + 1) + rd u (i : Int) + 1 ≤ prodP V i * (rd V (i : Int) + 1)
    omega
theorem rk_same {V u v : List Int} : ∀ i : Nat, (∀ j : Nat, j < i → rd v (j : Int) = rd u (j : Int)) → rk V v i = rk V u i
  | 0, _ => rfl
  | i + 1, h => by
    show rk V v i * (rd V (i : Int) + 1) + rd v (i : Int) = rk V u i * (rd V (i : Int) + 1) + rd u (i : Int)
    rw [rk_same i (fun j hj => h j (by omega)), h i (by omega)]
theorem rd_set_ {V : List Int} {i : Nat} (hi : i < V.length) (x : Int) (j : Nat) : rd (V.set i x) (j : Int) = if j = i then x else rd V (j : Int) := by
  unfold rd
  rw [Int.toNat_natCast, List.getD_eq_getElem?_getD, List.getD_eq_getElem?_getD, List.getElem?_set]
  by_cases c : j = i
  · subst c
    rw [if_pos rfl, if_pos rfl, if_pos hi]
    rfl
  · rw [if_neg c, if_neg (fun e => c e.symm)]
theorem rd_zeros (n j : Nat) : rd (List.replicate n 0) (j : Int) = 0 := by
  unfold rd
  rw [Int.toNat_natCast, List.getD_eq_getElem?_getD, List.getElem?_replicate]
  split <;> rfl
theorem rk_zeros (V : List Int) (n : Nat) : ∀ i : Nat, rk V (List.replicate n 0) i = 0
  | 0 => rfl
  | i + 1 => by
    show rk V (List.replicate n 0) i * (rd V (i : Int) + 1) + rd (List.replicate n 0) (i : Int) = 0
    rw [rk_zeros V n i, rd_zeros, Int.zero_mul]
    rfl
structure ZOK (V u v : List Int) (i : Nat) : Prop where
  len : v.length = V.length
  il : i ≤ V.length
  lo : ∀ j : Nat, j < i → rd v (j : Int) = rd u (j : Int)
  hi : ∀ j : Nat, i ≤ j → j < V.length → rd v (j : Int) = 0 ∧ rd u (j : Int) = rd V (j : Int)
theorem ZOK.start {V u : List Int} (h : PlOK V u) : ZOK V u u V.length := ⟨h.len, Nat.le_refl _, fun _ _ => rfl, fun j h1 h2 => by omega⟩
theorem ZOK.step {V u v : List Int} {i : Nat} (h : ZOK V u v (i + 1)) (he : rd v (i : Int) = rd V (i : Int)) : ZOK V u (v.set i 0) i := by
  have hl := h.len; have hi := h.il
  have hs := rd_set_ (V := v) (i := i) (by omega) 0
  refine ⟨by rw [List.length_set]; exact hl, by omega, fun j hj => ?_, fun j h1 h2 => ?_⟩
  · rw [hs j, if_neg (by omega)]; exact h.lo j (by omega)
  · rw [hs j]
    by_cases c : j = i
    · subst c
      rw [if_pos rfl]
      exact ⟨rfl, by rw [← h.lo j (by omega)]; exact he⟩
    · rw [if_neg c]; exact h.hi j (by omega) h2
theorem ZOK.next {V u v : List Int} {i : Nat} (hp : PlOK V u) (h : ZOK V u v (i + 1)) (he : rd v (i : Int) ≠ rd V (i : Int)) : PlOK V (v.set i (rd v (i : Int) + 1)) ∧ rk V (v.set i (rd v (i : Int) + 1)) V.length = rk V u V.length + 1 := by
  have hl := h.len; have hi := h.il
  have hs := rd_set_ (V := v) (i := i) (by omega) (rd v (i : Int) + 1)
  have hui := h.lo i (by omega)
  refine ⟨⟨by rw [List.length_set]; exact hl, fun j hj => ?_⟩, ?_⟩
  · have hb := hp.b j hj
    rw [hs j]
    by_cases c : j = i
    · subst c
      rw [if_pos rfl]
      omega
    · rw [if_neg c]
      rcases Nat.lt_or_ge j (i + 1) with hh | hh
      · rw [h.lo j hh]; exact hb
      · rw [(h.hi j hh hj).1]; omega
  · have key : ∀ d m : Nat, m = i + 1 + d → m ≤ V.length → rk V (v.set i (rd v (i : Int) + 1)) m = rk V u m + 1 := by
      intro d
      induction d with
      | zero =>
        intro m hm _
        subst hm
        show rk V _ i * (rd V (i : Int) + 1) + rd _ (i : Int) = rk V u i * (rd V (i : Int) + 1) + rd u (i : Int) + 1
        rw [rk_same (u := u) i (fun j hj => by rw [hs j, if_neg (by omega)]; exact h.lo j (by omega)), hs i, if_pos rfl, hui]
        omega
      | succ d ih =>
        intro m hm hml
        subst hm
        have e := ih (i + 1 + d) rfl (by omega)
        obtain ⟨z1, z2⟩ := h.hi (i + 1 + d) (by omega) (by omega)
        show rk V _ (i + 1 + d) * (rd V ((i + 1 + d : Nat) : Int) + 1) + rd _ ((i + 1 + d : Nat) : Int) = rk V u (i + 1 + d) * (rd V ((i + 1 + d : Nat) : Int) + 1) + rd u ((i + 1 + d : Nat) : Int) + 1
        rw [e, hs, if_neg (by omega), z1, z2, Int.add_mul]
        omega
    exact key (V.length - (i + 1)) V.length (by omega) (Nat.le_refl _)
theorem wpListIn_make_zeros {F : Fence} {n : Nat} {P : Program} (w : World) {ops : Array Oper} {rest : List Oper} {o : Oper} {a : Act} {Q : Exit → Act → World → Prop}
    (hg : o.guard = none) (l c : Operand) (t e : TypeId) (hop : o.op = Op.makeSlice t l c) (m : Nat) (hl : a.eval l = .int .i64 (m : Int)) (hc : a.eval c = .int .i64 (m : Int))
    (h1 : P.underlying t = some (.slice e)) (i : TypeInfo) (h2 : P.info? e = some i) (h3 : i.zero = some (.int .i64 0)) (h4 : i.size = 1) (h5 : i.bytes = 8) (hm : m ≤ 1000)
    (hK : ∀ w', Kd.R (Kd.int .i64) e w' w.heap.size (fun _ => True) (.slice (some ⟨w.heap.size, 0, none⟩) m m) (List.replicate m 0) → w.grownBy w' none → wpListIn F n P ops Q rest (a.put o.dst (.slice (some ⟨w.heap.size, 0, none⟩) m m)) w') :
    wpListIn F n P ops Q (o :: rest) a w := by
  refine wpListIn_plain hg fun K hK' => ?_
  obtain ⟨w', hrun, r1, r2⟩ := run_make_full (P := P) w w.heap.size t e i (.int .i64 0) 1 h1 h2 h3 h4 .i64 .i64 m (by rw [h5]; omega) (by simp only [maxLen]; omega) (Nat.le_refl _)
  have r3 : Kd.R (Kd.int .i64) e w' w.heap.size (fun _ => True) (.slice (some ⟨w.heap.size, 0, none⟩) m m) (List.replicate m 0) := by
    refine Kd.R_of_own (enc := Value.int .i64) (h1 := fun _ => rfl) (xs := List.replicate m 0) ?_ (fun _ _ => trivial)
    have e1 : encs (Value.int .i64) (List.replicate m 0) = (madeCells (Value.int .i64 0).cells (m * 1)).toList := by
      rw [Nat.mul_one]
      show _ = (madeCells #[Value.int .i64 0] m).toList
      rw [toList_madeCells_one]
      simp [encs]
    rw [e1, List.length_replicate]
    exact r1
  unfold Oper.wpIn
  refine ⟨?_, ?_⟩
  · simp [Oper.about, hop]
  · rw [Oper.semAt_plain F _ _ (by rw [hop]; intro c hc'; cases hc')]
    simp [execOp, hop, hl, hc, hrun, Result.andThen]
    exact hK' _ _ (hK w' r3 r2)
theorem cellsOnly_cell {X : World} {a : Addr} {v : Value} (h : X.cell? a = some v) (u : Value) : CellsOnly X (X.setCell a u) := ⟨some a.block, ⟨by simp [World.setCell], by simp [World.setCell], by simp [World.setCell], by simp, fun k _ hk => Below.heap_setCell X a u k (fun e => hk (by rw [e]))⟩, fun r e => by cases e; exact cells_of_cell h⟩
def RowsStay (X Y : World) : Prop := ∀ (k : Nat) (cs : Array Value), X.heap[k]? = some (Obj.cells cs 3 (0, 0)) → Y.heap[k]? = some (Obj.cells cs 3 (0, 0))
theorem rows_R {X Y : World} (h : RowsStay X Y) {base : Nat} {ok : Nat → Prop} {v : Value} {xs : List Int} (hR : Kd.R (Kd.int .i64) 3 X base ok v xs) : Kd.R (Kd.int .i64) 3 Y base ok v xs :=
  Kd.R_mono (Kd.R_step (Kd.R_bound hR) (fun k hk _ => by
    obtain ⟨_, _, _, q, hq, cells, hc⟩ := hk
    have hq' : q = 3 := by simpa [Kd.int, Kd.scalar] using hq
    subst hq'
    exact (h k cells hc).trans hc.symm)) (fun _ hk => hk.1)
def PE (D bo : Nat) (cs : Array Value) (A : Option Addr) (V : List Int) (W : World) : Prop := W.heap[bo]? = some (.cells cs 26 (0, 0)) ∧ Kd.C (Kd.int .i64) W A V.length V ∧ D ≤ W.heap.size
def GP (D : Nat) (V : List Int) (pre : List Value) (v : Value) (W : World) : Prop := ∃ g u, v = .slice (some ⟨g, 0, none⟩) V.length V.length ∧ D ≤ g ∧ PlOK V u ∧ Kd.R (Kd.int .i64) 3 W D (fun _ => True) v u ∧ ∀ x ∈ pre, x.ownBlock = some g
attribute [local go_sem] Oper.semAt_some
set_option maxHeartbeats 8000000 in
set_option maxRecDepth 100000 in
theorem plans.iter (n : Nat) (bo D : Nat) (V : List Int) (A0_0 A0_1 A0_2 : Option Addr) (n0 c0_0 c0_1 n2 c0_2 : Nat) (a0_3 a0_4 a0_5 : Int)
    (hcV : V.length ≤ c0_1) (h1 : 0 < V.length) (h4 : V.length ≤ 4) (hb : ∀ j : Nat, j < V.length → 0 ≤ rd V (j : Int) ∧ rd V (j : Int) ≤ 64)
    (I R : List Value → World → Prop) (hE : ∀ pre W, I pre W → PE D bo #[.slice A0_0 n0 c0_0, .slice A0_1 V.length c0_1, .slice A0_2 n2 c0_2, .int .i64 a0_3, .int .i64 a0_4, .int .i64 a0_5] A0_1 V W) (hIb : ∀ pre X Y, I pre X → Below X.heap.size X Y → I pre Y)
    (hIw : ∀ pre X (g i : Nat) v, I pre X → D ≤ g → (∀ x ∈ pre, x.ownBlock = some g) → pre ≠ [] → I pre (X.setCell ⟨g, i, none⟩ v)) :
    IterG Fence.wide n Tryd.prog 84 #[.pointer (some ⟨bo, 0, none⟩)] (fun v => #[v]) (fun _ => True) (fun _ => True) (prodP V V.length).toNat RowsStay (fun _ => True) I R (GP D V) := by
  intro lp Bk W hbook hI0 _ hB0 hY
  have HY := Aside0.mk hY
  have HBK := Aside0.mk hbook
  have HIE := Aside0.mk hE
  have HIB := Aside0.mk hIb
  have HIW := Aside0.mk hIw
  have HN := Aside0.mk (⟨h1, h4, hb⟩ : _ ∧ _ ∧ _)
  have HI0 := Aside0.mk (⟨hI0, hB0, hE _ _ hI0⟩ : _ ∧ _ ∧ _)
  have hu := Tryd.underlying26
  have e1 : W.cell? ⟨bo, 1, none⟩ = some (.slice A0_1 V.length c0_1) := blk_cell HI0.out.2.2.1 1
  obtain ⟨i0, hi0, hz0, hz1, hz2⟩ : ∃ i0, Tryd.prog.info? 3 = some i0 ∧ i0.zero = some (.int .i64 0) ∧ i0.size = 1 ∧ i0.bytes = 8 := by
    have hinfo : (Tryd.prog.info? 3).map (fun i => (i.zero, i.size, i.bytes)) = some (some (.int .i64 0), 1, 8) := by kernel_rfl
    cases hq : Tryd.prog.info? 3 with
    | none => rw [hq] at hinfo; simp at hinfo
    | some i0 => rw [hq] at hinfo; simp at hinfo; exact ⟨i0, rfl, hinfo.1, hinfo.2.1, hinfo.2.2⟩
  clear hY hbook hE hIb hIw hI0 hB0 hcV h1 h4 hb
  refine callsIn_of_wp Tryd.func84 rfl trivial ?_ rfl
  simp only [Tryd.ntmps84, List.size_toArray, List.length_cons, List.length_nil, Nat.reduceAdd, Nat.reduceSub, Array.replicate_succ, Array.replicate_zero, List.push_toArray, List.append_toArray, List.nil_append, List.cons_append]
  gi_wp2_with (gi_at_make; refine wpListIn_make_zeros W rfl (.tmp 7) (.tmp 7) 24 3 rfl V.length rfl rfl Tryd.underlying24 i0 hi0 hz0 hz1 hz2 (by have := HN.out.2.1; omega) ?_; intro w1 hR hg)
  obtain ⟨gr, hgr⟩ : ∃ g, g = W.heap.size := ⟨_, rfl⟩
  rw [← hgr] at hR
  try rw [← hgr]
  have hbw : Below W.heap.size W w1 := (Below.refl W.heap.size W).grown hg (Nat.le_refl _) (fun k hk => by cases hk)
  have HGR := Aside0.mk (show D ≤ gr by rw [hgr]; exact HI0.out.2.2.2.2)
  have HS := Aside0.mk (show I [] w1 ∧ Bk true w1 ∧ PE D bo #[.slice A0_0 n0 c0_0, .slice A0_1 V.length c0_1, .slice A0_2 n2 c0_2, .int .i64 a0_3, .int .i64 a0_4, .int .i64 a0_5] A0_1 V w1 from ⟨HIB.out _ _ _ HI0.out.1 hbw, HBK.out _ _ _ HI0.out.2.1 ⟨none, hg, fun r e => by cases e⟩, HIE.out _ _ (HIB.out _ _ _ HI0.out.1 hbw)⟩)
  have HR := Aside0.mk (Kd.R_lower hR HGR.out)
  clear e1 hi0 hz0 hz1 hz2 hR hg hbw hgr
  gi_loopg [] ((prodP V V.length).toNat + 1) (fun g wr => Aside0 (∃ (pre : List Value) (u : List Int), (pre.length : Int) = rk V u V.length ∧ PlOK V u ∧ (prodP V V.length).toNat + 1 - pre.length ≤ g ∧ I pre wr ∧ Bk true wr ∧ PE D bo #[.slice A0_0 n0 c0_0, .slice A0_1 V.length c0_1, .slice A0_2 n2 c0_2, .int .i64 a0_3, .int .i64 a0_4, .int .i64 a0_5] A0_1 V wr ∧ Kd.R (Kd.int .i64) 3 wr D (fun _ => True) (.slice (some ⟨gr, 0, none⟩) V.length V.length) u ∧ ∀ x ∈ pre, x.ownBlock = some gr))
  case atStart => exact ⟨[], List.replicate V.length 0, by rw [rk_zeros]; rfl, ⟨by rw [List.length_replicate], fun j hj => by rw [rd_zeros]; exact ⟨Int.le_refl _, (HN.out.2.2 j hj).1⟩⟩, by show _ + 1 - 0 ≤ _; omega, HS.out.1, HS.out.2.1, HS.out.2.2, HR.out, fun x hx => by cases hx⟩
  case round =>
    clear HS HR HI0
    obtain ⟨pre, u, hrk, hpl, hgk, hI, hBk, hbe, hrow, hown⟩ := hrel.out
    have hrg := hpl.rng V.length (Nat.le_refl _)
    have hlen : pre.length < (prodP V V.length).toNat := by omega
    obtain ⟨X, hX⟩ : ∃ X : Value, X = .slice (some ⟨gr, 0, none⟩) V.length V.length := ⟨_, rfl⟩
    obtain ⟨fn, tmps, assign, body, hy, hR⟩ := HY.out pre X wr hI ⟨gr, u, hX, HGR.out, hpl, by rw [hX]; exact hrow, hown⟩ hBk hlen
    have HP := Aside0.mk (⟨hrk, hpl, hgk, hrow, hown⟩ : _ ∧ _ ∧ _ ∧ _ ∧ _)
    have HXX := Aside0.mk hX
    rw [hX] at hy
    have HR := Aside0.mk hR
    have HBE := Aside0.mk hbe
    clear hR hX hrel hrk hpl hgk hI hBk hbe hrow hown hrg
    have HLT := Aside0.mk hlen
    clear hlen
    gi_wp2_with fail
    refine ⟨fun h => (by cases h), ?_⟩
    refine HR.out.mono ?_
    rintro e w3 h3
    obtain ⟨b, rfl, h6⟩ : ∃ b : Bool, e = .returned (.bool b) ∧ (if b = true then I (pre ++ [X]) w3 ∧ Bk true w3 ∧ RowsStay wr w3 else R (pre ++ [X]) w3 ∧ Bk false w3) := by
      rcases h3 with ⟨rfl, h4, h5, h7⟩ | ⟨rfl, h4, h5⟩
      · exact ⟨true, rfl, by rw [if_pos rfl]; exact ⟨h4, h5, h7⟩⟩
      · exact ⟨false, rfl, by rw [if_neg (by decide)]; exact ⟨h4, h5⟩⟩
    have H3 := Aside0.mk h6
    clear h6 h3 hy HR HBE
    cases b
    · have h4 := H3.out
      rw [if_neg (by decide)] at h4
      have H4 := Aside0.mk h4
      clear h4 H3
      gi_wp2
      refine bodyPost_ret (results_none rfl _ _ _) rfl ?_
      exact ⟨⟨_, rfl⟩, .inr ⟨_, trivial, H4.out.1, H4.out.2⟩⟩
    have h4 := H3.out
    rw [if_pos rfl] at h4
    have H4 := Aside0.mk (⟨h4.1, h4.2.1, HIE.out _ _ h4.1⟩ : _ ∧ _ ∧ _)
    have HROW := Aside0.mk (rows_R h4.2.2 HP.out.2.2.2.1)
    clear h4 H3
    have wn : wrap64 ((V.length : Int) - 1) = (V.length : Int) - 1 := w64_ (by omega) (by have := HN.out.2.1; omega)
    gi_wp2_with fail
    rw [wn]
    clear wn
    gi_loopg [4] (V.length + 1) (fun g s4 wz => ∃ (x : Int), s4 = .int .i64 x ∧ Aside0 (∃ (i : Nat) (v : List Int), x = (i : Int) - 1 ∧ i + 1 ≤ g ∧ ZOK V u v i ∧ Kd.R (Kd.int .i64) 3 wz D (fun _ => True) (.slice (some ⟨gr, 0, none⟩) V.length V.length) v) ∧ Aside0 (I (pre ++ [X]) wz ∧ Bk true wz ∧ PE D bo #[.slice A0_0 n0 c0_0, .slice A0_1 V.length c0_1, .slice A0_2 n2 c0_2, .int .i64 a0_3, .int .i64 a0_4, .int .i64 a0_5] A0_1 V wz))
    case atStart => exact ⟨_, rfl, ⟨V.length, u, rfl, Nat.le_refl _, ZOK.start HP.out.2.1, HROW.out⟩, H4⟩
    case round =>
      clear H4 HROW
      obtain ⟨x, rfl, HI0, HS⟩ := hrel
      obtain ⟨i, v, hxi, hig, hz, hrw⟩ := HI0.out
      clear HI0
      cases i with
      | zero =>
        have q1 : decide (0 ≤ x) = false := decide_eq_false (by omega)
        have q2 : decide (x < 0) = true := decide_eq_true (by omega)
        clear hxi hig hz hrw
        gi_wp2_with fail
        gi_quiet (fail)
        gi_wp2_with fail
        refine bodyPost_ret (results_none rfl _ _ _) rfl ?_
        exact ⟨⟨_, rfl⟩, .inl ⟨pre ++ [X], trivial, HIB.out _ _ _ HS.out.1 (pw_below_drewN (Below.refl _ _) _), HBK.out _ _ _ HS.out.2.1 (cellsOnly_below (pw_below_drewN (Below.refl _ _) _))⟩⟩
      | succ j =>
        have hl := HN.out
        have hil := hz.il
        have HZ := Aside0.mk hz
        have HG := Aside0.mk hig
        have HXI := Aside0.mk (show x = (j : Int) by omega)
        clear hxi
        rw [HXI.out] at *
        clear HXI
        have q1 : decide (0 ≤ (j : Int)) = true := decide_eq_true (by omega)
        have p0 : (0 ≤ (j : Int)) = True := eq_true (by omega)
        have p1 : ((j : Int) < (V.length : Int)) = True := eq_true (by omega)
        obtain ⟨hx, hf⟩ := Kd.R_celln 0 hrw (j : Int) (by omega) (by omega)
        have HRW := Aside0.mk hrw
        obtain ⟨ad, e, t2⟩ := Kd.at_int HS.out.2.2.2.1 (j : Int) (by omega) (by omega)
        cases e
        have e1 : wr.cell? ⟨bo, 1, none⟩ = some (.slice (some ad) V.length c0_1) := blk_cell HS.out.2.2.1 1
        clear hz hig hil hl hrw
        rw [Int.toNat_natCast] at hx hf t2
        have HLO := Aside0.mk (HZ.out.lo j (by omega))
        have HUB := Aside0.mk (HP.out.2.1.b j (by have := HZ.out.il; omega))
        have HNB := Aside0.mk (HN.out.2.2 j (by have := HZ.out.il; omega))
        obtain ⟨a, ha⟩ : ∃ a, a = rd v (j : Int) := ⟨_, rfl⟩
        obtain ⟨b, hb⟩ : ∃ b, b = rd V (j : Int) := ⟨_, rfl⟩
        rw [show rdOf 0 v (j : Int) = a by rw [ha]; rfl] at hx
        rw [← hb] at t2
        have HAB := Aside0.mk (show a ≤ 64 ∧ 0 ≤ a by have := HLO.out; have := HUB.out; have := HNB.out; omega)
        have HA := Aside0.mk ha
        have HB := Aside0.mk hb
        have HCL := Aside0.mk (show ∀ m, (wr.drewN m).cell? ⟨gr, j, none⟩ = some (.int .i64 a) from fun m => pw_cell_below (pw_below_drewN (Below.refl _ _) m) hx)
        have HOWN := Aside0.mk (show ∀ x ∈ pre ++ [X], x.ownBlock = some gr by
          intro x hx
          rcases List.mem_append.1 hx with h | h
          · exact HP.out.2.2.2.2 x h
          · rw [List.mem_singleton.1 h, HXX.out]; rfl)
        clear ha hb HUB HNB HLO
        by_cases hab : a = b
        · have q5 : (a == b) = true := by rw [hab]; exact beq_self_eq_true _
          have HE := Aside0.mk (show rd v (j : Int) = rd V (j : Int) by rw [← HA.out, ← HB.out]; exact hab)
          clear hab
          gi_wp2_with fail
          gi_quiet (fail)
          gi_wp2_with fail
          have wj : wrap64 ((j : Int) - 1) = (j : Int) - 1 := w64_ (by omega) (by have := HZ.out.il; have := HN.out.2.1; omega)
          rw [wj]
          gi_roundg (j + 1)
          case measure => have := HG.out; omega
          case rel => exact ⟨(j : Int) - 1, rfl, ⟨j, v.set j 0, rfl, Nat.le_refl _, HZ.out.step HE.out, (Kd.R_putg (Kd.R_drewN HRW.out nq) (j : Int) 0).1⟩, ⟨HIW.out _ _ gr j _ (HIB.out _ _ _ HS.out.1 (pw_below_drewN (Below.refl _ _) _)) HGR.out HOWN.out (by simp), HBK.out _ _ _ (HBK.out _ _ _ HS.out.2.1 (cellsOnly_below (pw_below_drewN (Below.refl _ _) nq))) (cellsOnly_cell (HCL.out nq) _), HIE.out _ _ (HIW.out _ _ gr j _ (HIB.out _ _ _ HS.out.1 (pw_below_drewN (Below.refl _ _) _)) HGR.out HOWN.out (by simp))⟩⟩
        · have q5 : (a == b) = false := beq_eq_false_iff_ne.2 hab
          have HE := Aside0.mk (show rd v (j : Int) ≠ rd V (j : Int) by rw [← HA.out, ← HB.out]; exact hab)
          have q6 : decide ((j : Int) < 0) = false := decide_eq_false (by omega)
          clear hab
          gi_wp2_with fail
          gi_quiet (fail)
          gi_wp2_with fail
          have wa : wrap64 (a + 1) = a + 1 := w64_ (by have := HAB.out; omega) (by have := HAB.out; omega)
          rw [wa]
          have HNX := Aside0.mk (HZ.out.next HP.out.2.1 HE.out)
          rw [← HA.out] at HNX
          gi_roundg ((prodP V V.length).toNat + 1 - (pre.length + 1))
          case measure => have := HP.out.2.2.1; have := HLT.out; omega
          case rel => exact ⟨pre ++ [X], v.set j (a + 1), by rw [HNX.out.2, ← HP.out.1, List.length_append]; rfl, HNX.out.1, by rw [List.length_append]; exact Nat.le_refl _, HIW.out _ _ gr j _ (HIB.out _ _ _ HS.out.1 (pw_below_drewN (Below.refl _ _) _)) HGR.out HOWN.out (by simp), HBK.out _ _ _ (HBK.out _ _ _ HS.out.2.1 (cellsOnly_below (pw_below_drewN (Below.refl _ _) nq))) (cellsOnly_cell (HCL.out nq) _), HIE.out _ _ (HIW.out _ _ gr j _ (HIB.out _ _ _ HS.out.1 (pw_below_drewN (Below.refl _ _) _)) HGR.out HOWN.out (by simp)), (Kd.R_putg (Kd.R_drewN HRW.out nq) (j : Int) (a + 1)).1, HOWN.out⟩
theorem plans.known (V : List Int) (A0_0 A0_1 A0_2 : Option Addr) (n0 c0_0 c0_1 n2 c0_2 : Nat) (a0_3 a0_4 a0_5 : Int) (w : World) :
    Calls Tryd.prog 72 #[.agg #[.slice A0_0 n0 c0_0, .slice A0_1 V.length c0_1, .slice A0_2 n2 c0_2, .int .i64 a0_3, .int .i64 a0_4, .int .i64 a0_5]] w fun e w' => ∃ bo, e = .returned (.func (.func 84) #[] #[.pointer (some ⟨bo, 0, none⟩)]) ∧ w.heap.size ≤ bo ∧ w'.heap[bo]? = some (.cells #[.slice A0_0 n0 c0_0, .slice A0_1 V.length c0_1, .slice A0_2 n2 c0_2, .int .i64 a0_3, .int .i64 a0_4, .int .i64 a0_5] 26 (0, 0)) ∧ Below w.heap.size w w' := by
  have hu := Tryd.underlying26
  refine calls_of_wp Tryd.func72 rfl ?_
  simp only [Tryd.ntmps72, List.size_toArray, List.length_cons, List.length_nil, Nat.reduceAdd, Nat.reduceSub, Array.replicate_succ, Array.replicate_zero, List.push_toArray, List.append_toArray, List.nil_append, List.cons_append]
  go_wp2
  go_ret
  exact ⟨w.heap.size, rfl, Nat.le_refl _, blk_new w _, below_alloc (Below.refl _ _) _⟩
end Go.Proofs.YtcdkbciagchlgaaDoor.PF
