/- column.open, right, Balance, Open, Whole: what they return. -/
import Derived.Test.YtodfjkdgfjkifaaMBal36
import Derived.Test.YtodfjkdgfjkifaaPF0
import Derived.Test.YtodfjkdgfjkifaaPF1
import Derived.Carry
namespace Go.Proofs.Ytodfjkdgfjkifaa.PF
open Go.RowKit Go.Proofs.YtodfjkdgfjkifaaW.PrintWords Go.Proofs.YtodfjkdgfjkifaaW.PrintLast Go.Proofs.YtodfjkdgfjkifaaW.PrintMore
set_option linter.unusedVariables false
set_option linter.unusedSimpArgs false
theorem idx54 (B : Nat → Int × Int) {x : Int} (h0 : 0 ≤ x) (h1 : x < 17) (w : World) :
    (Instr.index 54 (.agg (arrB B)) (.int .i64 x)).run Try.prog w = .ok (.agg #[.int .i64 (B x.toNat).1, .int .i64 (B x.toNat).2]) w := by
  have hi : (Try.prog.info? 53).map (·.size) = some 2 := by kernel_rfl
  cases hq : Try.prog.info? 53 with
  | none => rw [hq] at hi; cases hi
  | some i =>
    have hs : i.size = 2 := by rw [hq] at hi; simpa using hi
    have hagg : (isAgg 53).run Try.prog w = .ok true w := by
      unfold isAgg
      rw [Sem.run_bind, run_underlying Try.underlying53 w]
      rfl
    simp [Instr.index, asIntOf, Sem.run_bind, run_underlying Try.underlying54 w, h0, h1, part, hagg, sizeOf, typeInfo, hq, hs]
    obtain ⟨n, rfl⟩ : ∃ n : Nat, x = n := ⟨x.toNat, by omega⟩
    rw [Int.toNat_natCast]
    have hn : n < 17 := by omega
    apply Array.ext_getElem?
    intro i
    rw [Array.getElem?_extract]
    by_cases h2 : i < 2
    · rw [if_pos (by rw [arrB_size]; omega), arrB_get _ (by omega)]
      unfold cellB
      rcases (show i = 0 ∨ i = 1 by omega) with rfl | rfl
      · rw [if_pos (by omega), show (n * 2 + 0) / 2 = n by omega]; rfl
      · rw [if_neg (by omega), show (n * 2 + 1) / 2 = n by omega]; rfl
    · rw [if_neg (by rw [arrB_size]; omega)]
      rw [Array.getElem?_eq_none (by simp; omega)]
theorem box2h_ {W W5 : World} {g t : Nat} {a b x y : Value} (hb : Below W.heap.size W W5) (hg : g = W.heap.size) (hbox : W5.heap[g]? = some (.cells #[a, b] t (0, 0))) :
    Below W.heap.size W ((W5.setCell ⟨g, 0, none⟩ x).setCell ⟨g, 1, none⟩ y) ∧ ((W5.setCell ⟨g, 0, none⟩ x).setCell ⟨g, 1, none⟩ y).heap[g]? = some (.cells #[x, y] t (0, 0)) :=
  ⟨below_set (below_set hb (Nat.le_of_eq hg.symm)) (Nat.le_of_eq hg.symm), blk_put (blk_put hbox 0 x rfl) 1 y rfl⟩
def openTo (B : Nat → Int × Int) (n : Nat) : List Int := ((List.range n).filter (fun q => decide (0 < q) && !(B q == (0, 0)))).map (fun q : Nat => (q : Int))
def openS (B : Nat → Int × Int) : List Int := openTo B 17
theorem openTo_succ (B : Nat → Int × Int) (n : Nat) : openTo B (n + 1) = if (decide (0 < n) && !(B n == (0, 0))) = true then openTo B n ++ [(n : Int)] else openTo B n := by
  unfold openTo
  rw [List.range_succ, List.filter_append, List.map_append]
  by_cases h : (decide (0 < n) && !(B n == (0, 0))) = true
  · rw [if_pos h]; congr 1; rw [List.filter_cons, if_pos h]; rfl
  · rw [if_neg h]; rw [List.filter_cons, if_neg h]; simp
theorem openTo_length (B : Nat → Int × Int) (n : Nat) : (openTo B n).length ≤ n := by
  unfold openTo
  rw [List.length_map]
  exact Nat.le_trans (List.length_filter_le _ _) (by simp)
set_option maxHeartbeats 8000000 in
set_option maxRecDepth 100000 in
theorem column_open.known (p : Int) (A : Option Addr) (c : Nat) (l : List S28) (w : World) (hr : Kd.C k28 w A l.length l) (hc : l.length ≤ c) (hl : l.length ≤ 64) (hf : ∀ f ∈ l, FlowOK f) :
    Calls Try.prog 33 #[.agg #[.int .i64 p, .slice A l.length c]] w fun e w' => ∃ v, e = .returned v ∧ Kd.R (Kd.int .i64) 3 w' w.heap.size (fun _ => True) v (openS (balL l)) ∧ Below w.heap.size w w' := by
  have hu1 := Try.underlying24
  have hu3 := Try.underlying53
  have HC := Aside0.mk (fun W (hb : Below w.heap.size w W) => column_balances.known p A c l W (Kd.C_below hr hb) hc hl hf)
  clear hr hc hf hl
  have hidx := fun (x : Int) (h0 : 0 ≤ x) (h1 : x < 17) (W : World) => idx54 (balL l) h0 h1 W
  generalize balL l = B at *
  go_enter Try.func33, Try.ntmps33
  go_wp2_with ((with_reducible refine gate_dst (N := 1) rfl ?_); refine box_event ?hg (N := 1) ?hd (cs := #[.int .i64 p, .slice A l.length c]) (t := 24) ?hr ?_; (case hd => rfl); (case hg => rfl); (case hr => first | (go_simp; done) | (go_simp; rfl)); intro gb hg w3 hbox hb; have c0 : w3.cell? ⟨gb, 0, none⟩ = some (.int .i64 p) := blk_cell hbox 0; have c1 : w3.cell? ⟨gb, 1, none⟩ = some (.slice A l.length c) := blk_cell hbox 1; have HB := Aside0.mk hb; clear hbox hb hg)
  refine (HC.out _ HB.out).mono ?_
  rintro e w4 ⟨rfl, hb⟩
  replace HB := Aside0.mk (below_step HB.out hb)
  clear hb HC c0 c1
  go_wp2
  go_loopg [3, 8] 18 (fun g s3 s8 wr => ∃ (xs : List Int) (x : Int), s8 = .int .i64 x ∧ Aside0 (0 ≤ x ∧ x ≤ 17 ∧ 18 - x.toNat ≤ g ∧ openTo B x.toNat = xs) ∧ Aside0 (Kd.R (Kd.int .i64) 3 wr w.heap.size (fun _ => True) s3 xs) ∧ Aside0 (Below w.heap.size w wr))
  case atStart => exact ⟨[], 0, rfl, ⟨by omega, by omega, by omega, rfl⟩, ⟨Kd.R_nil _ _ _ _ _⟩, HB⟩
  case round =>
    clear HB
    obtain ⟨xs, x, rfl, HX, HO, HB⟩ := hrel
    have hx0 := HX.out.1
    by_cases hlt : x < 17
    case neg =>
      have hltb : decide (x < 17) = false := decide_eq_false hlt
      have he : openS B = xs := by rw [← HX.out.2.2.2, show x.toNat = 17 by have := HX.out; omega]; rfl
      clear hx0 hlt hidx
      go_wp2
      go_ret
      exact ⟨_, rfl, by rw [he]; exact HO.out, HB.out⟩
    have hltb : decide (x < 17) = true := decide_eq_true hlt
    have hi := hidx x hx0 hlt
    have HS := Aside0.mk (openTo_succ B x.toNat)
    have hw' : wrap64 (x + 1) = x + 1 := w64_ (by omega) (by omega)
    have hw : IntKind.i64.wrap (x + 1) = x + 1 := by rw [i64_w]; exact hw'
    have HLT := Aside0.mk hlt
    have HLN := Aside0.mk (show xs.length ≤ 17 by rw [← HX.out.2.2.2]; have := openTo_length B x.toNat; omega)
    have hxn : ((x.toNat : Nat) : Int) = x := by omega
    obtain ⟨⟨y, z⟩, hyz⟩ : ∃ yz, yz = B x.toNat := ⟨_, rfl⟩
    rw [← hyz, hxn, HX.out.2.2.2] at HS
    rw [← hyz] at hi
    simp only at hi
    clear hyz hidx hxn
    by_cases h0 : 0 < x
    case neg =>
      have h0b : decide (0 < x) = false := decide_eq_false h0
      have HE := Aside0.mk (show openTo B (x.toNat + 1) = xs by rw [HS.out, if_neg (by simp; omega)])
      clear h0 hlt hx0 HS
      go_wp2_with (first | ((with_reducible refine gate_dst (N := 5) rfl ?_); refine box_event ?hg (N := 5) ?hd (cs := #[.int .i64 0, .int .i64 0]) (t := 53) ?hr ?_; (case hd => rfl); (case hg => rfl); (case hr => first | (go_simp; done) | (go_simp; rfl)); intro g5 hg w5 hbox hb5; have hc0 : w5.cell? ⟨g5, 0, none⟩ = some (.int .i64 0) := blk_cell hbox 0; have hc1 : w5.cell? ⟨g5, 1, none⟩ = some (.int .i64 0) := blk_cell hbox 1; have hf0 := blk_frozen hbox 0; have hf1 := blk_frozen hbox 1; replace hbox := Aside0.mk hbox; replace hb5 := Aside0.mk hb5; replace hg := Aside0.mk hg) | ((with_reducible refine gate_store (t := 53) (p := 5) rfl ?_); refine store_event (t := 53) (p := 5) (v := .tmp 11) (w1 := (w5.setCell ⟨g5, 0, none⟩ (.int .i64 y)).setCell ⟨g5, 1, none⟩ (.int .i64 z)) ?hg ?ho ?hn ?hr ?_; (case ho => rfl); (case hg => rfl); (case hn => rfl); (case hr => first | (go_simp; done) | (go_simp; rfl)); intro w6 hw6; clear hc0 hf0 hc1 hf1; have hbx := box2h_ (x := .int .i64 y) (y := .int .i64 z) hb5.out hg.out hbox.out; rw [← hw6] at hbx; clear hw6 hb5 hg hbox; obtain ⟨hb6, hk6⟩ := hbx; have d0 : w6.cell? ⟨g5, 0, none⟩ = some (.int .i64 y) := blk_cell hk6 0; have d1 : w6.cell? ⟨g5, 1, none⟩ = some (.int .i64 z) := blk_cell hk6 1; replace HO := Aside0.mk (Kd.R_below HO.out hb6); replace HB := Aside0.mk (below_step HB.out hb6); clear hb6 hk6))
      go_roundg (18 - (x + 1).toNat)
      case measure => have := HX.out; have := HLT.out; omega
      case rel => exact ⟨xs, x + 1, by first | rfl | rw [hw'] | rw [hw], ⟨by have := HX.out; omega, by have := HLT.out; omega, Nat.le_refl _, by have := HX.out.1; have e : (x + 1).toNat = x.toNat + 1 := (by omega); rw [e]; exact HE.out⟩, HO, HB⟩
    have h0b : decide (0 < x) = true := decide_eq_true h0
    by_cases hy : y = 0
    case neg =>
      have hyb : (y == 0) = false := beq_eq_false_iff_ne.mpr hy
      have HE := Aside0.mk (show openTo B (x.toNat + 1) = xs ++ [x] by rw [HS.out, if_pos (by simp; exact ⟨by omega, fun h => absurd h hy⟩)])
      clear h0 hlt hx0 HS
      go_wp2_with (first | ((with_reducible refine gate_dst (N := 5) rfl ?_); refine box_event ?hg (N := 5) ?hd (cs := #[.int .i64 0, .int .i64 0]) (t := 53) ?hr ?_; (case hd => rfl); (case hg => rfl); (case hr => first | (go_simp; done) | (go_simp; rfl)); intro g5 hg w5 hbox hb5; have hc0 : w5.cell? ⟨g5, 0, none⟩ = some (.int .i64 0) := blk_cell hbox 0; have hc1 : w5.cell? ⟨g5, 1, none⟩ = some (.int .i64 0) := blk_cell hbox 1; have hf0 := blk_frozen hbox 0; have hf1 := blk_frozen hbox 1; replace hbox := Aside0.mk hbox; replace hb5 := Aside0.mk hb5; replace hg := Aside0.mk hg) | ((with_reducible refine gate_store (t := 53) (p := 5) rfl ?_); refine store_event (t := 53) (p := 5) (v := .tmp 11) (w1 := (w5.setCell ⟨g5, 0, none⟩ (.int .i64 y)).setCell ⟨g5, 1, none⟩ (.int .i64 z)) ?hg ?ho ?hn ?hr ?_; (case ho => rfl); (case hg => rfl); (case hn => rfl); (case hr => first | (go_simp; done) | (go_simp; rfl)); intro w6 hw6; clear hc0 hf0 hc1 hf1; have hbx := box2h_ (x := .int .i64 y) (y := .int .i64 z) hb5.out hg.out hbox.out; rw [← hw6] at hbx; clear hw6 hb5 hg hbox; obtain ⟨hb6, hk6⟩ := hbx; have d0 : w6.cell? ⟨g5, 0, none⟩ = some (.int .i64 y) := blk_cell hk6 0; have d1 : w6.cell? ⟨g5, 1, none⟩ = some (.int .i64 z) := blk_cell hk6 1; replace HO := Aside0.mk (Kd.R_below HO.out hb6); replace HB := Aside0.mk (below_step HB.out hb6); clear hb6 hk6) | ((with_reducible refine gate_builtin (b := .append) (xs := #[.tmp 19, .tmp 21]) rfl ?_); at_builtin; refine Kd.R_append (Kd.int .i64) (w0 := w) w.heap.size rfl (.tmp 19) (.tmp 21) 41 3 (.int .i64 0) 8 rfl Try.underlying41 info3 rfl (by decide) (by omega) u3 xs x [.int .i64 x] (fun _ => True) (fun _ => False) rfl rfl ?aP (fun _ hk => hk.elim) ?aF ?aO ?aB ?aS ?aL ?_; (case aP => exact rfl); (case aB => exact HB.out); (case aF => exact (fun _ _ => trivial)); (case aO => exact HO.out); (case aS => exact HB.out.size); (case aL => have := HLN.out; omega); intro v1 w7 ho hb hg hat; replace HO := Aside0.mk ho; replace HB := Aside0.mk hb; clear ho hb hg hat))
      go_roundg (18 - (x + 1).toNat)
      case measure => have := HX.out; have := HLT.out; omega
      case rel => exact ⟨xs ++ [x], x + 1, by first | rfl | rw [hw'] | rw [hw], ⟨by have := HX.out; omega, by have := HLT.out; omega, Nat.le_refl _, by have := HX.out.1; have e : (x + 1).toNat = x.toNat + 1 := (by omega); rw [e]; exact HE.out⟩, HO, HB⟩
    by_cases hz : z = 0
    case neg =>
      have hyb : (y == 0) = true := beq_iff_eq.mpr hy
      have hzb : (z == 0) = false := beq_eq_false_iff_ne.mpr hz
      have HE := Aside0.mk (show openTo B (x.toNat + 1) = xs ++ [x] by rw [HS.out, if_pos (by simp; exact ⟨by omega, fun _ => hz⟩)])
      clear h0 hlt hx0 HS
      go_wp2_with (first | ((with_reducible refine gate_dst (N := 5) rfl ?_); refine box_event ?hg (N := 5) ?hd (cs := #[.int .i64 0, .int .i64 0]) (t := 53) ?hr ?_; (case hd => rfl); (case hg => rfl); (case hr => first | (go_simp; done) | (go_simp; rfl)); intro g5 hg w5 hbox hb5; have hc0 : w5.cell? ⟨g5, 0, none⟩ = some (.int .i64 0) := blk_cell hbox 0; have hc1 : w5.cell? ⟨g5, 1, none⟩ = some (.int .i64 0) := blk_cell hbox 1; have hf0 := blk_frozen hbox 0; have hf1 := blk_frozen hbox 1; replace hbox := Aside0.mk hbox; replace hb5 := Aside0.mk hb5; replace hg := Aside0.mk hg) | ((with_reducible refine gate_store (t := 53) (p := 5) rfl ?_); refine store_event (t := 53) (p := 5) (v := .tmp 11) (w1 := (w5.setCell ⟨g5, 0, none⟩ (.int .i64 y)).setCell ⟨g5, 1, none⟩ (.int .i64 z)) ?hg ?ho ?hn ?hr ?_; (case ho => rfl); (case hg => rfl); (case hn => rfl); (case hr => first | (go_simp; done) | (go_simp; rfl)); intro w6 hw6; clear hc0 hf0 hc1 hf1; have hbx := box2h_ (x := .int .i64 y) (y := .int .i64 z) hb5.out hg.out hbox.out; rw [← hw6] at hbx; clear hw6 hb5 hg hbox; obtain ⟨hb6, hk6⟩ := hbx; have d0 : w6.cell? ⟨g5, 0, none⟩ = some (.int .i64 y) := blk_cell hk6 0; have d1 : w6.cell? ⟨g5, 1, none⟩ = some (.int .i64 z) := blk_cell hk6 1; replace HO := Aside0.mk (Kd.R_below HO.out hb6); replace HB := Aside0.mk (below_step HB.out hb6); clear hb6 hk6) | ((with_reducible refine gate_builtin (b := .append) (xs := #[.tmp 19, .tmp 21]) rfl ?_); at_builtin; refine Kd.R_append (Kd.int .i64) (w0 := w) w.heap.size rfl (.tmp 19) (.tmp 21) 41 3 (.int .i64 0) 8 rfl Try.underlying41 info3 rfl (by decide) (by omega) u3 xs x [.int .i64 x] (fun _ => True) (fun _ => False) rfl rfl ?aP (fun _ hk => hk.elim) ?aF ?aO ?aB ?aS ?aL ?_; (case aP => exact rfl); (case aB => exact HB.out); (case aF => exact (fun _ _ => trivial)); (case aO => exact HO.out); (case aS => exact HB.out.size); (case aL => have := HLN.out; omega); intro v1 w7 ho hb hg hat; replace HO := Aside0.mk ho; replace HB := Aside0.mk hb; clear ho hb hg hat))
      go_roundg (18 - (x + 1).toNat)
      case measure => have := HX.out; have := HLT.out; omega
      case rel => exact ⟨xs ++ [x], x + 1, by first | rfl | rw [hw'] | rw [hw], ⟨by have := HX.out; omega, by have := HLT.out; omega, Nat.le_refl _, by have := HX.out.1; have e : (x + 1).toNat = x.toNat + 1 := (by omega); rw [e]; exact HE.out⟩, HO, HB⟩
    have HE := Aside0.mk (show openTo B (x.toNat + 1) = xs by rw [HS.out, if_neg (by simp [hy, hz])])
    have hyb : (y == 0) = true := beq_iff_eq.mpr hy
    have hzb : (z == 0) = true := beq_iff_eq.mpr hz
    clear h0 hlt hx0 HS hy hz
    go_wp2_with (first | ((with_reducible refine gate_dst (N := 5) rfl ?_); refine box_event ?hg (N := 5) ?hd (cs := #[.int .i64 0, .int .i64 0]) (t := 53) ?hr ?_; (case hd => rfl); (case hg => rfl); (case hr => first | (go_simp; done) | (go_simp; rfl)); intro g5 hg w5 hbox hb5; have hc0 : w5.cell? ⟨g5, 0, none⟩ = some (.int .i64 0) := blk_cell hbox 0; have hc1 : w5.cell? ⟨g5, 1, none⟩ = some (.int .i64 0) := blk_cell hbox 1; have hf0 := blk_frozen hbox 0; have hf1 := blk_frozen hbox 1; replace hbox := Aside0.mk hbox; replace hb5 := Aside0.mk hb5; replace hg := Aside0.mk hg) | ((with_reducible refine gate_store (t := 53) (p := 5) rfl ?_); refine store_event (t := 53) (p := 5) (v := .tmp 11) (w1 := (w5.setCell ⟨g5, 0, none⟩ (.int .i64 y)).setCell ⟨g5, 1, none⟩ (.int .i64 z)) ?hg ?ho ?hn ?hr ?_; (case ho => rfl); (case hg => rfl); (case hn => rfl); (case hr => first | (go_simp; done) | (go_simp; rfl)); intro w6 hw6; clear hc0 hf0 hc1 hf1; have hbx := box2h_ (x := .int .i64 y) (y := .int .i64 z) hb5.out hg.out hbox.out; rw [← hw6] at hbx; clear hw6 hb5 hg hbox; obtain ⟨hb6, hk6⟩ := hbx; have d0 : w6.cell? ⟨g5, 0, none⟩ = some (.int .i64 y) := blk_cell hk6 0; have d1 : w6.cell? ⟨g5, 1, none⟩ = some (.int .i64 z) := blk_cell hk6 1; replace HO := Aside0.mk (Kd.R_below HO.out hb6); replace HB := Aside0.mk (below_step HB.out hb6); clear hb6 hk6))
    go_roundg (18 - (x + 1).toNat)
    case measure => have := HX.out; have := HLT.out; omega
    case rel => exact ⟨xs, x + 1, by first | rfl | rw [hw'] | rw [hw], ⟨by have := HX.out; omega, by have := HLT.out; omega, Nat.le_refl _, by have := HX.out.1; have e : (x + 1).toNat = x.toNat + 1 := (by omega); rw [e]; exact HE.out⟩, HO, HB⟩

end Go.Proofs.Ytodfjkdgfjkifaa.PF
