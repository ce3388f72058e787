/- column.Merge: what it returns. -/
import Derived.Test.YtodfjkdgfjkifaaMBal36
import Derived.Test.YtodfjkdgfjkifaaMChk36
import Derived.Test.YtodfjkdgfjkifaaMCnt36
import Derived.Test.YtodfjkdgfjkifaaMCol36
import Derived.Test.YtodfjkdgfjkifaaMMap36
import Derived.Test.YtodfjkdgfjkifaaMOpn36
import Derived.Test.YtodfjkdgfjkifaaMPla36
import Derived.Test.YtodfjkdgfjkifaaPF0
import Derived.Test.YtodfjkdgfjkifaaPF1
import Derived.Carry
import Derived.Shelf.RegionOpenPlain
import Derived.Maps.Own
import Derived.Maps.OwnOps
namespace Go.Proofs.Ytodfjkdgfjkifaa.PF
open Go.RowKit Go.Proofs.YtodfjkdgfjkifaaW.PrintWords Go.Proofs.YtodfjkdgfjkifaaW.PrintLast Go.Proofs.YtodfjkdgfjkifaaW.PrintMore
set_option linter.unusedVariables false
set_option linter.unusedSimpArgs false
def endsF (f : S28) : Int × Int := (f.f0, f.f1)
def mgF (q : Int) (f : S28) : S28 := ⟨mgN q f.f0, mgN q f.f1, f.f2, f.f3⟩
def addAt (out : List S28) (i : Nat) (f : S28) : List S28 :=
  out.set i ⟨(rd_T28 out i).f0, (rd_T28 out i).f1, (rd_T28 out i).f2 + f.f2, (rd_T28 out i).f3 + f.f3⟩
def mgS (out : List S28) (f : S28) : List S28 :=
  if f.f0 = f.f1 then out else if endsF f ∈ out.map endsF then addAt out ((out.map endsF).idxOf (endsF f)) f else out ++ [f]
def mgO (q : Int) (l : List S28) : List S28 := l.foldl (fun o f => mgS o (mgF q f)) []
def bgS (o : List S28) : Bool := decide (0 ≤ idxP (fun j => big36 (rd_T28 o (j : Int))) o.length 0)
def mgR (p : Int) (l : List S28) (q : Int) : Int × List S28 × Int :=
  if rt36 p l = true then (if q < 1 ∨ p ≤ q then (0, [], 2) else if bgS (mgO q l) = true then (0, [], 15) else (p - 1, mgO q l, 0)) else (0, [], 1)
theorem mgO_snoc (q : Int) (l : List S28) (f : S28) : mgO q (l ++ [f]) = mgS (mgO q l) (mgF q f) := by
  unfold mgO
  rw [List.foldl_append]
  rfl
def InvO (out : List S28) (m : Nat) : Prop := out.length ≤ m ∧ ∀ g ∈ out, 0 ≤ g.f2 ∧ g.f2 ≤ m * 10737418240000 ∧ 0 ≤ g.f3 ∧ g.f3 ≤ m * 128849018880000
theorem rd_mem {out : List S28} {i : Nat} (h : i < out.length) : rd_T28 out (i : Int) ∈ out := by
  unfold rd_T28
  rw [Int.toNat_natCast, List.getD_eq_getElem?_getD, List.getElem?_eq_getElem h]
  exact List.getElem_mem h
theorem idx_lt {out : List S28} {x : Int × Int} (h : x ∈ out.map endsF) : (out.map endsF).idxOf x < out.length := by
  have := List.idxOf_lt_length_of_mem h
  rwa [List.length_map] at this
theorem idx_ends {out : List S28} {x : Int × Int} (h : x ∈ out.map endsF) : endsF (rd_T28 out ((out.map endsF).idxOf x : Nat)) = x := by
  have h1 := idx_lt h
  have h2 := List.getElem_idxOf (List.idxOf_lt_length_of_mem h)
  rw [List.getElem_map] at h2
  unfold rd_T28
  rw [Int.toNat_natCast, List.getD_eq_getElem?_getD, List.getElem?_eq_getElem h1]
  exact h2
theorem mgS_inv {out : List S28} {m : Nat} {f : S28} (h : InvO out m) (h2 : 0 ≤ f.f2 ∧ f.f2 ≤ 10737418240000) (h3 : 0 ≤ f.f3 ∧ f.f3 ≤ 128849018880000) : InvO (mgS out f) (m + 1) := by
  have hw : ∀ g ∈ out, 0 ≤ g.f2 ∧ g.f2 ≤ (m + 1 : Nat) * 10737418240000 ∧ 0 ≤ g.f3 ∧ g.f3 ≤ (m + 1 : Nat) * 128849018880000 := fun g hg => by have := h.2 g hg; omega
  unfold mgS
  split
  · exact ⟨Nat.le_succ_of_le h.1, hw⟩
  · split
    · rename_i hm
      unfold addAt
      refine ⟨by rw [List.length_set]; exact Nat.le_succ_of_le h.1, fun g hg => ?_⟩
      rcases List.mem_or_eq_of_mem_set hg with hg | rfl
      · exact hw g hg
      · have := h.2 _ (rd_mem (idx_lt hm))
        simp only
        omega
    · refine ⟨by rw [List.length_append, List.length_singleton]; exact Nat.succ_le_succ h.1, fun g hg => ?_⟩
      rcases List.mem_append.1 hg with hg | hg
      · exact hw g hg
      · rw [List.mem_singleton] at hg
        subst hg
        omega
theorem mgO_inv (q : Int) (l : List S28) (h : ∀ f ∈ l, FlowOK f) : InvO (mgO q l) l.length := by
  have key : ∀ (l : List S28) (o : List S28) (m : Nat), (∀ f ∈ l, FlowOK f) → InvO o m → InvO (l.foldl (fun o f => mgS o (mgF q f)) o) (m + l.length) := by
    intro l
    induction l with
    | nil => intro o m _ ho; exact ho
    | cons f l ih =>
      intro o m hf ho
      have h1 := hf f (by simp)
      unfold FlowOK at h1
      rw [List.foldl_cons, List.length_cons, show m + (l.length + 1) = (m + 1) + l.length by omega]
      exact ih _ _ (fun g hg => hf g (by simp [hg])) (mgS_inv ho ⟨h1.2.2.2.2.1, h1.2.2.2.2.2.1⟩ ⟨h1.2.2.2.2.2.2.1, h1.2.2.2.2.2.2.2⟩)
  have := key l [] 0 h ⟨Nat.le_refl _, fun g hg => by cases hg⟩
  rw [Nat.zero_add] at this
  exact this
theorem PlaceM.mono {w : World} {b n n' : Nat} {E : List (Int × Int)} (h : PlaceM w b n E) (hn : n ≤ n') : PlaceM w b n' E := by
  obtain ⟨D, h1, h2, h3⟩ := h
  exact ⟨D, h1, h2.mono hn, h3⟩
theorem wpList_mapUpdate_place (w : World) {ops : Array Oper} {rest : List Oper} {o : Oper} {a : Act} {Q : Exit → Act → World → Prop}
    (hg : o.guard = none) (m x v : Operand) (hop : o.op = Op.mapUpdate 60 m x v) (b n : Nat) (E : List (Int × Int)) (hm : a.eval m = .map (some b)) (h : PlaceM w b n E) (hn : n < maxLen)
    (y0 y1 : Int) (h0 : (Lit.int .i64 y0).wf = true) (h1 : (Lit.int .i64 y1).wf = true) (hne : (y0, y1) ∉ E) (hl : E.length ≤ 1000) (k : Int) (hk : k = E.length) (hx : a.eval x = endsV y0 y1) (hv : a.eval v = .int .i64 k)
    (hK : ∀ w', PlaceM w' b (n + 1) (E ++ [(y0, y1)]) → w.grownBy w' (some b) → wpList Try.prog ops Q rest (a.put o.dst undef) w') :
    wpList Try.prog ops Q (o :: rest) a w := by
  subst hk
  refine wpList_plain hg fun K' hK' => ?_
  obtain ⟨w', hrun, r1, r2⟩ := h.update hn h0 h1 hne hl
  unfold Oper.wp
  simp [execOp, hop, hm, hx, hv, hrun, Result.andThen]
  exact hK' _ _ (hK w' r1 r2)
theorem r_map {W W' : World} {mb base : Nat} {ok : Nat → Prop} {v : Value} {xs : List S28} {es : Array MapEntry} {cl : Nat} (h : Kd.R k28 28 W base ok v xs) (hm : W.heap[mb]? = some (.map es cl)) (hg : W.grownBy W' (some mb)) : Kd.R k28 28 W' base ok v xs :=
  Kd.R_mono (Kd.R_step (Kd.R_bound h) (fun k hk hlt => hg.block k hlt (by
    intro e
    injection e with e
    subst e
    obtain ⟨_, _, _, _, _, cells, hc⟩ := hk
    rw [hm] at hc
    cases hc))) (fun _ hk => hk.1)
theorem addAt_ends {out : List S28} {i : Nat} (h : i < out.length) (f : S28) : (addAt out i f).map endsF = out.map endsF := by
  unfold addAt
  rw [List.map_set]
  have e : endsF ⟨(rd_T28 out i).f0, (rd_T28 out i).f1, (rd_T28 out i).f2 + f.f2, (rd_T28 out i).f3 + f.f3⟩ = (out.map endsF)[i]'(by rw [List.length_map]; exact h) := by
    rw [List.getElem_map]
    unfold rd_T28 endsF
    rw [Int.toNat_natCast, List.getD_eq_getElem?_getD, List.getElem?_eq_getElem h]
    rfl
  rw [e, List.set_getElem_self]
theorem r_nemap {W : World} {mb base : Nat} {ok : Nat → Prop} {v : Value} {xs : List S28} {es : Array MapEntry} {cl : Nat} (h : Kd.R k28 28 W base ok v xs) (hm : W.heap[mb]? = some (.map es cl)) (e : some mb = v.ownBlock) : False := by
  obtain ⟨_, _, _, _, _, cells, hc⟩ := (Kd.R_bound h).1 mb e.symm
  rw [hm] at hc
  cases hc
theorem r_setRow28 {W : World} {g base : Nat} {v : Value} {xs : List S28} {old cs : Array Value} (h : Kd.R k28 28 W base (fun _ => True) v xs) (hb : W.heap[g]? = some (.cells old 24 (0, 0))) : Kd.R k28 28 (W.setRow g cs) base (fun _ => True) v xs :=
  Kd.R_mono (Kd.R_step (Kd.R_types h hb (by decide)) (fun k hk _ => setRow_other W g k cs hk.2)) (fun _ _ => trivial)
theorem one2s (a : Int) (A : Option Addr) (n c : Nat) : (#[Value.int .i64 a, .slice A n c] : Array Value).all (·.oneCell') = true := by simp [Value.oneCell']
theorem r_far {W : World} {g j base : Nat} {u v : Value} {xs : List S28} {old : Array Value} (h : Kd.R k28 28 W base (fun _ => True) v xs) (hb : W.heap[g]? = some (.cells old 24 (0, 0))) : Kd.R k28 28 (W.setCell ⟨g, j, none⟩ u) base (fun _ => True) v xs :=
  Kd.R_mono (Kd.R_far (Kd.R_types h hb (by decide)) (p := ⟨g, j, none⟩) (fun k hk => hk.2) u) (fun _ _ => trivial)
set_option maxHeartbeats 8000000 in
set_option maxRecDepth 100000 in
theorem column_Merge.good (p : Int) (A : Option Addr) (c : Nat) (l : List S28) (q : Int) (w : World) (hr : Kd.C k28 w A l.length l) (hc : l.length ≤ c) (hb : rt36 p l = true) (hq : 1 ≤ q ∧ q < p) {r1 : Int} {r2 : List S28} {r3 : Int} (hres : (if bgS (mgO q l) = true then (0, [], 15) else (p - 1, mgO q l, 0)) = (r1, r2, r3)) :
    Calls Try.prog 15 #[.agg #[.int .i64 p, .slice A l.length c], .int .i64 q] w fun x w' => ∃ A' c', x = .returned (.tuple #[.agg #[.int .i64 r1, .slice A' r2.length c'], .int .i64 r3]) ∧ r2.length ≤ c' ∧ Kd.C k28 w' A' r2.length r2 ∧ Below w.heap.size w w' := by
  have hu1 := Try.underlying24
  have hu2 := Try.underlying28
  have HR := Aside0.mk (fun W (hb : Below w.heap.size w W) => column_right.known p A c l W (Kd.C_below hr hb) hc (b := rt36 p l) rfl)
  rw [hb] at HR
  have RC := Aside0.mk (rt36_iff.1 hb)
  have HC := Aside0.mk hr
  have HRES := Aside0.mk hres
  have HPQ := Aside0.mk hq
  have b1 : decide (q < 1) = false := decide_eq_false (by omega)
  have b2 : decide (p ≤ q) = false := decide_eq_false (by omega)
  have n1 : IntKind.i64.wrap (p - 1) = p - 1 := by rw [i64_w]; exact w64_ (by omega) (by have := RC.out.2.1; omega)
  have hmm := @run_makeMap Try.prog
  have eg1 : ∀ args w, (callFunc 39 args).run Try.prog w = .ok (.enter 39 args) w := enters_of Try.func39 (by kernel_rfl) rfl
  clear hr hc hb hres hq
  go_enter Try.func15, Try.ntmps15
  go_wp2_with (first | ((with_reducible refine gate_dst (N := 2) rfl ?_); refine box_event ?hg (N := 2) ?hd (cs := #[.int .i64 p, .slice A l.length c]) (t := 24) ?hr ?_; (case hd => rfl); (case hg => rfl); (case hr => first | (go_simp; done) | (go_simp; rfl)); intro gb hg w3 hbox hb; have c0 : w3.cell? ⟨gb, 0, none⟩ = some (.int .i64 p) := blk_cell hbox 0; have c1 : w3.cell? ⟨gb, 1, none⟩ = some (.slice A l.length c) := blk_cell hbox 1; have HB := Aside0.mk hb; clear hbox hb hg) | ((with_reducible refine gate_dst (N := 3) rfl ?_); refine box_event ?hg (N := 3) ?hd (cs := #[.int .i64 q]) (t := 3) ?hr ?_; (case hd => rfl); (case hg => rfl); (case hr => first | (go_simp; done) | (go_simp; rfl)); intro gq hg w3b hbox hb; replace c0 := pw_cell_below hb c0; replace c1 := pw_cell_below hb c1; have cq : w3b.cell? ⟨gq, 0, none⟩ = some (.int .i64 q) := blk_cell hbox 0; replace HB := Aside0.mk (below_step HB.out hb); have HQ := Aside0.mk hbox; clear hbox hb hg) | ((with_reducible refine gate_dst (N := 4) rfl ?_); refine box_event ?hg (N := 4) ?hd (cs := #[.int .i64 0, .slice none 0 0]) (t := 24) ?hr ?_; (case hd => rfl); (case hg => rfl); (case hr => first | (go_simp; done) | (go_simp; rfl)); intro g4 hg w4 hbox hb; replace c0 := pw_cell_below hb c0; replace c1 := pw_cell_below hb c1; replace cq := pw_cell_below hb cq; replace HQ := Aside0.mk (blk_below HQ.out hb); have H4 := Aside0.mk hbox; have HG4 := Aside0.mk (show w.heap.size ≤ g4 by rw [hg]; exact HB.out.size); replace HB := Aside0.mk (below_step HB.out hb); clear hbox hb hg))
  refine (HR.out _ HB.out).mono ?_
  rintro e w5 ⟨rfl, hb⟩
  replace HB := Aside0.mk (below_step HB.out hb)
  replace c0 := pw_cell_below hb c0
  replace c1 := pw_cell_below hb c1
  replace cq := pw_cell_below hb cq
  replace H4 := Aside0.mk (blk_below H4.out hb)
  replace HQ := Aside0.mk (blk_below HQ.out hb)
  clear hb HR
  go_wp2_with (first | ((with_reducible refine gate_dst (N := 7) rfl ?_); refine box_event ?hg (N := 7) ?hd (cs := #[.int .i64 0, .slice none 0 0]) (t := 24) ?hr ?_; (case hd => rfl); (case hg => rfl); (case hr => first | (go_simp; done) | (go_simp; rfl)); intro g7 hg w6 hbox hb; have z0 : w6.cell? ⟨g7, 0, none⟩ = some (.int .i64 0) := blk_cell hbox 0; have z1 : w6.cell? ⟨g7, 1, none⟩ = some (.slice none 0 0) := blk_cell hbox 1; have zf0 := blk_frozen hbox 0; have zf1 := blk_frozen hbox 1; replace hbox := Aside0.mk hbox; replace hb := Aside0.mk hb; replace hg := Aside0.mk hg) | ((with_reducible refine gate_store (t := 24) (p := 7) rfl ?_); refine store_event (t := 24) (p := 7) (v := .tmp 32) (w1 := (w6.setCell ⟨g7, 0, none⟩ (.int .i64 (p - 1))).setCell ⟨g7, 1, none⟩ (.slice none 0 0)) ?hg ?ho ?hn ?hr ?_; (case ho => rfl); (case hg => rfl); (case hn => rfl); (case hr => first | (go_simp; done) | (go_simp; rfl)); intro w7 hw7; clear z0 z1 zf0 zf1; have hbx := box2h_ (x := .int .i64 (p - 1)) (y := .slice none 0 0) hb.out hg.out hbox.out; rw [← hw7] at hbx; clear hw7 hb hbox; obtain ⟨hb7, hk7⟩ := hbx; have HG7 := Aside0.mk (show g4 < g7 by rw [hg.out]; exact blk_lt H4.out); have HGQ7 := Aside0.mk (show gq < g7 by rw [hg.out]; exact blk_lt HQ.out); clear hg; replace c0 := pw_cell_below hb7 c0; replace c1 := pw_cell_below hb7 c1; have c1' := pw_cell_alloc (.map #[] 0) c1; replace HQ := Aside0.mk (blk_below HQ.out hb7); replace H4 := Aside0.mk (blk_below H4.out hb7); replace HB := Aside0.mk (below_step HB.out hb7); have H7 := Aside0.mk hk7; clear hb7 hk7))
  have hM0 : PlaceM (w7.alloc (.map #[] 0)) w7.heap.size 0 [] := PlaceM.made w7
  have HB8 := Aside0.mk (below_alloc HB.out (.map #[] 0))
  have H78 := Aside0.mk (blk_alloc H7.out (.map #[] 0))
  have H48 := Aside0.mk (blk_alloc H4.out (.map #[] 0))
  have HQ8 := Aside0.mk (blk_alloc HQ.out (.map #[] 0))
  obtain ⟨mb, hmb⟩ : ∃ mb, mb = w7.heap.size := ⟨_, rfl⟩
  have HMB := Aside0.mk (show w.heap.size ≤ mb by rw [hmb]; exact HB.out.size)
  have HM7 := Aside0.mk (show g7 < mb by rw [hmb]; exact blk_lt H7.out)
  rw [← hmb] at hM0
  have HM0 := Aside0.mk hM0
  generalize hw8 : w7.alloc (.map #[] 0) = w8 at *
  rw [← hmb]
  clear hw8 hmb hM0 hmm c0 c1 c1' cq HB H7 H4 HQ
  go_loopg [37] (l.length + 1) (fun g s37 wr => ∃ (j : Int) (out : List S28) (v : Value), s37 = .int .i64 j ∧ Aside0 (0 ≤ j ∧ j ≤ l.length ∧ l.length + 1 - j.toNat ≤ g ∧ mgO q (l.take j.toNat) = out) ∧ Aside0 (PlaceM wr mb j.toNat (out.map endsF)) ∧ Aside0 (Kd.R k28 28 wr w.heap.size (fun _ => True) v out) ∧ Aside0 (wr.heap[g7]? = some (.cells #[.int .i64 (p - 1), v] 24 (0, 0))) ∧ Aside0 (wr.heap[g4]? = some (.cells #[.int .i64 0, .slice none 0 0] 24 (0, 0))) ∧ Aside0 (wr.heap[gq]? = some (.cells #[.int .i64 q] 3 (0, 0))) ∧ Aside0 (Below w.heap.size w wr))
  case atStart => exact ⟨0, [], .slice none 0 0, by rfl, ⟨by omega, by omega, by omega, rfl⟩, HM0, ⟨Kd.R_nil _ _ _ _ _⟩, H78, H48, HQ8, HB8⟩
  case round =>
    obtain ⟨j, out, v, rfl, HJ, HM, HO, H7, H4, HQ, HB⟩ := hrel
    clear HM0 HB8 H78 H48 HQ8
    have hj0 := HJ.out.1
    obtain ⟨A', c', rfl⟩ := Kd.R_slice HO.out
    have e1 : wr.cell? ⟨g7, 1, none⟩ = some (.slice A' out.length c') := blk_cell H7.out 1
    by_cases hlt : j < (l.length : Int)
    case neg =>
      have hltb : decide (j < (l.length : Int)) = false := decide_eq_false hlt
      have ht : List.take j.toNat l = l := List.take_of_length_le (by have := HJ.out; omega)
      have hmo := HJ.out.2.2.2
      rw [ht] at hmo
      have hres := HRES.out
      rw [hmo] at hres
      have hinv := mgO_inv q l RC.out.ok
      rw [hmo] at hinv
      have e0 : wr.cell? ⟨g7, 0, none⟩ = some (.int .i64 (p - 1)) := blk_cell H7.out 0
      have i24 : (Try.prog.info? 24).map (·.size) = some 2 := by kernel_rfl
      have eg2 : ∀ args w, (callFunc 41 args).run Try.prog w = .ok (.enter 41 args) w := enters_of Try.func41 (by kernel_rfl) rfl
      have HCF := Aside0.mk (flowContainsFunc.below 41 #[] A' c' out (fun j => big36 (rd_T28 out (j : Int))) wr eg2 (by have := hinv.1; have := RC.out.2.2.1; omega) (Kd.R_reads' HO.out).2.2 (fun W i h0 h1 _ => by
        have := merge.big (rd_T28 out i) W
        show Calls _ _ _ W fun e w' => e = .returned (.bool (big36 (rd_T28 out ((i.toNat : Nat) : Int)))) ∧ _
        rw [show ((i.toNat : Nat) : Int) = i by omega]
        exact this))
      have HBG := Aside0.mk (show decide (0 ≤ idxP (fun j => big36 (rd_T28 out (j : Int))) out.length 0) = bgS out from rfl)
      rw [HBG.out] at HCF
      have HRD := Aside0.mk (Kd.R_reads' HO.out).2
      clear ht hlt hj0 hinv hmo HRES HBG
      cases hbg : bgS out
      · rw [hbg] at hres HCF
        rw [if_neg (by decide)] at hres
        injection hres with q1 q2
        injection q2 with q2 q3
        subst q1 q2 q3
        go_wp2_with fail
        refine HCF.out.mono ?_
        rintro e w9 ⟨rfl, hb⟩
        replace e0 := pw_cell_below hb e0
        replace e1 := pw_cell_below hb e1
        replace H4 := Aside0.mk (blk_below H4.out hb)
        replace HO := Aside0.mk (Kd.R_below HO.out hb)
        replace HB := Aside0.mk (below_step HB.out hb)
        clear hb HCF
        go_wp2_with (first | (refine wpList_store_row rfl 24 (.tmp 4) (.tmp 110) rfl g4 #[.int .i64 (p - 1), .slice A' out.length c'] rfl rfl 24 _ H4.out (by rw [i24]; rfl) rfl (one2s _ _ _ _) ?_))
        refine bodyPost_ret (results_ct rfl _ _ g4 24 #[.int .i64 (p - 1), .slice A' out.length c'] (0, 0) _ rfl (setRow_heap _ g4 _ _ _ _ H4.out) Try.underlying24 rfl (by rw [i24]; rfl)) rfl ?_
        exact ⟨A', c', rfl, HRD.out.1, (Kd.R_reads' (r_setRow28 HO.out H4.out)).2.2, below_setRow HB.out HG4.out _⟩
      · rw [hbg] at hres HCF
        rw [if_pos rfl] at hres
        injection hres with q1 q2
        injection q2 with q2 q3
        subst q1 q2 q3
        go_wp2_with fail
        refine HCF.out.mono ?_
        rintro e w9 ⟨rfl, hb⟩
        replace H4 := Aside0.mk (blk_below H4.out hb)
        replace HB := Aside0.mk (below_step HB.out hb)
        clear hb HCF e0 e1
        go_wp2_with (first | (refine wpList_store_row rfl 24 (.tmp 4) (.tmp 109) rfl g4 #[.int .i64 0, .slice none 0 0] rfl rfl 24 _ H4.out (by rw [i24]; rfl) rfl (one2s _ _ _ _) ?_))
        refine bodyPost_ret (results_ct rfl _ _ g4 24 #[.int .i64 0, .slice none 0 0] (0, 0) _ rfl (setRow_heap _ g4 _ _ _ _ H4.out) Try.underlying24 rfl (by rw [i24]; rfl)) rfl ?_
        exact ⟨none, 0, rfl, Nat.le_refl _, Kd.C_nil _ _, below_setRow HB.out HG4.out _⟩
    have hltb : decide (j < (l.length : Int)) = true := decide_eq_true hlt
    have hlt' : j.toNat < l.length := by omega
    have hjn : ((j.toNat : Nat) : Int) = j := by omega
    obtain ⟨ad, e, h1, h2, h3, h4⟩ := at_T28 HC.out j hj0 hlt
    cases e
    replace h1 := pw_cell_below HB.out h1
    replace h2 := pw_cell_below HB.out h2
    replace h3 := pw_cell_below HB.out h3
    replace h4 := pw_cell_below HB.out h4
    have hfm : rd_T28 l j ∈ l := by have := rd_mem hlt'; rwa [hjn] at this
    have hy := RC.out.2.2.2.1 _ hfm
    have hsn : mgO q (List.take (j.toNat + 1) l) = mgS (mgO q (List.take j.toNat l)) (mgF q (rd_T28 l j)) := by
      rw [← mgO_snoc, List.take_succ_eq_append_getElem hlt']
      unfold rd_T28
      rw [List.getD_eq_getElem?_getD, List.getElem?_eq_getElem hlt']
      rfl
    have hinv := mgO_inv q (List.take j.toNat l) (fun f hf => RC.out.ok f (List.mem_of_mem_take hf))
    rw [List.length_take, Nat.min_eq_left (by omega)] at hinv
    rw [HJ.out.2.2.2] at hsn hinv
    generalize (rd_T28 l j) = y at *
    obtain ⟨y0, y1, y2, y3⟩ := y
    simp only at h1 h2 h3 h4
    unfold FlowOK at hy
    simp only at hy
    have HY := Aside0.mk hy
    have HSN := Aside0.mk hsn
    have HIN := Aside0.mk hinv
    have hw' : wrap64 (j + 1) = j + 1 := w64_ (by omega) (by have := RC.out.2.2.1; omega)
    have hw : IntKind.i64.wrap (j + 1) = j + 1 := by rw [i64_w]; exact hw'
    have p1 : (0 ≤ j) = True := eq_true hj0
    have p2 : (j < (l.length : Int)) = True := eq_true hlt
    have HN0 := Aside0.mk (fun (W : World) (h : W.cell? ⟨gq, 0, none⟩ = some (.int .i64 q)) => merge.num gq q y0 W h (by rw [i64_w]; exact w64_ (by omega) (by omega)))
    have HN1 := Aside0.mk (fun (W : World) (h : W.cell? ⟨gq, 0, none⟩ = some (.int .i64 q)) => merge.num gq q y1 W h (by rw [i64_w]; exact w64_ (by omega) (by omega)))
    have hn0 : 0 ≤ mgN q y0 ∧ mgN q y0 ≤ 16 := by have := HPQ.out; unfold mgN; split <;> omega
    have hn1 : 0 ≤ mgN q y1 ∧ mgN q y1 ≤ 16 := by have := HPQ.out; unfold mgN; split <;> omega
    have WF0 := Aside0.mk (wf_i64 (x := mgN q y0) (by omega) (by omega))
    have WF1 := Aside0.mk (wf_i64 (x := mgN q y1) (by omega) (by omega))
    generalize hm0 : mgN q y0 = n0 at *
    generalize hm1 : mgN q y1 = n1' at *
    have HMG := Aside0.mk (show mgF q ⟨y0, y1, y2, y3⟩ = ⟨n0, n1', y2, y3⟩ by unfold mgF; rw [hm0, hm1])
    have HJ0 := Aside0.mk hj0
    have HLT := Aside0.mk hlt
    clear hj0 hlt hjn hlt' hy hsn hinv hfm hm0 hm1 hn0 hn1
    go_upto_region 11 with (first | ((with_reducible refine gate_dst (N := 10) rfl ?_); refine box_event ?hg (N := 10) ?hd (cs := #[.int .i64 0, .int .i64 0, .int .i64 0, .int .i64 0]) (t := 28) ?hr ?_; (case hd => rfl); (case hg => rfl); (case hr => first | (go_simp; done) | (go_simp; rfl)); intro g10 hg w10 hbox hb5; have hc0 : w10.cell? ⟨g10, 0, none⟩ = some (.int .i64 0) := blk_cell hbox 0; have hf0 := blk_frozen hbox 0; have hc1 : w10.cell? ⟨g10, 1, none⟩ = some (.int .i64 0) := blk_cell hbox 1; have hf1 := blk_frozen hbox 1; have hc2 : w10.cell? ⟨g10, 2, none⟩ = some (.int .i64 0) := blk_cell hbox 2; have hf2 := blk_frozen hbox 2; have hc3 : w10.cell? ⟨g10, 3, none⟩ = some (.int .i64 0) := blk_cell hbox 3; have hf3 := blk_frozen hbox 3; replace hbox := Aside0.mk hbox; replace hb5 := Aside0.mk hb5; replace hg := Aside0.mk hg) | ((with_reducible refine gate_store (t := 28) (p := 10) rfl ?_); refine store_event (t := 28) (p := 10) (v := .tmp 40) (w1 := ((((w10.setCell ⟨g10, 0, none⟩ (.int .i64 y0)).setCell ⟨g10, 1, none⟩ (.int .i64 y1)).setCell ⟨g10, 2, none⟩ (.int .i64 y2)).setCell ⟨g10, 3, none⟩ (.int .i64 y3))) ?hg ?ho ?hn ?hr ?_; (case ho => rfl); (case hg => rfl); (case hn => rfl); (case hr => first | (go_simp; done) | (go_simp; rfl)); intro w11 hw6; clear hc0 hf0 hc1 hf1 hc2 hf2 hc3 hf3 h1 h2 h3 h4; have hbx := box4_ (x := .int .i64 y0) (y := .int .i64 y1) (z := .int .i64 y2) (u := .int .i64 y3) hb5.out hg.out hbox.out; rw [← hw6] at hbx; clear hw6 hb5 hbox; obtain ⟨hb6, hk6⟩ := hbx; replace e1 := pw_cell_below hb6 e1; have d0 : w11.cell? ⟨g10, 0, none⟩ = some (.int .i64 y0) := blk_cell hk6 0; have d1 : w11.cell? ⟨g10, 1, none⟩ = some (.int .i64 y1) := blk_cell hk6 1; have d2 : w11.cell? ⟨g10, 2, none⟩ = some (.int .i64 y2) := blk_cell hk6 2; have d3 : w11.cell? ⟨g10, 3, none⟩ = some (.int .i64 y3) := blk_cell hk6 3; have HG10 := Aside0.mk (show mb < g10 ∧ g7 < g10 ∧ g4 < g10 ∧ gq < g10 ∧ w.heap.size ≤ g10 by rw [hg.out]; exact ⟨HM.out.lt, blk_lt H7.out, blk_lt H4.out, blk_lt HQ.out, HB.out.size⟩); have K10 := Aside0.mk hk6; replace HM := Aside0.mk (HM.out.below hb6); replace H7 := Aside0.mk (blk_below H7.out hb6); replace H4 := Aside0.mk (blk_below H4.out hb6); replace HQ := Aside0.mk (blk_below HQ.out hb6); replace HO := Aside0.mk (Kd.R_below (Kd.R_elderB HO.out g10 (Nat.le_of_eq hg.out.symm)) hb6); clear hg; replace HB := Aside0.mk (below_step HB.out hb6); have cq : w11.cell? ⟨gq, 0, none⟩ = some (.int .i64 q) := blk_cell HQ.out 0; clear hb6 hk6))
    have df0 := blk_frozen K10.out 0
    have df1 := blk_frozen K10.out 1
    (try simp only [Act.put, List.setIfInBounds_toArray, List.set_cons_zero, List.set_cons_succ])
    go_cut [37] (fun v37 w2 => v37 = .int .i64 j ∧ Aside0 (w2 = ((w11.setCell ⟨g10, 0, none⟩ (.int .i64 n0)).setCell ⟨g10, 1, none⟩ (.int .i64 n1')).drew))
    case first =>
      go_region_with (first
        | (go_at_call_of 39 y0; refine (HN0.out _ ?hcq).mono ?_; (case hcq => exact cq); rintro e w12 ⟨rfl, rfl⟩)
        | (go_at_call_of 39 y1; refine (HN1.out _ ?hcq).mono ?_; (case hcq => exact cq); rintro e w12 ⟨rfl, rfl⟩))
      all_goals go_wp2
      all_goals go_meet
      all_goals exact ⟨rfl, ⟨rfl⟩⟩
    obtain ⟨rfl, HW⟩ := hcut
    rename World => w12
    have hk : ∀ k, k ≠ g10 → w12.heap[k]? = w11.heap[k]? := fun k hk => by rw [HW.out]; exact (Below.heap_setCell _ _ _ k hk).trans (Below.heap_setCell _ _ _ k hk)
    replace K10 := Aside0.mk (show w12.heap[g10]? = some (.cells #[.int .i64 n0, .int .i64 n1', .int .i64 y2, .int .i64 y3] 28 (0, 0)) by rw [HW.out]; exact blk_drew (blk_put (blk_put K10.out 0 _ rfl) 1 _ rfl))
    replace HM := Aside0.mk (HM.out.heap (hk mb (by have := HG10.out; omega)))
    replace H7 := Aside0.mk ((hk g7 (by have := HG10.out; omega)).trans H7.out)
    replace H4 := Aside0.mk ((hk g4 (by have := HG10.out; omega)).trans H4.out)
    replace HQ := Aside0.mk ((hk gq (by have := HG10.out; omega)).trans HQ.out)
    replace HO := Aside0.mk (Kd.R_step HO.out (fun k ho _ => hk k ho.2))
    replace HB := Aside0.mk (show Below w.heap.size w w12 by rw [HW.out]; exact below_drew1 (below_set (below_set HB.out HG10.out.2.2.2.2) HG10.out.2.2.2.2))
    clear HW hk e1 d0 d1 d2 d3 df0 df1 cq HN0 HN1
    have d0 : w12.cell? ⟨g10, 0, none⟩ = some (.int .i64 n0) := blk_cell K10.out 0
    have d1 : w12.cell? ⟨g10, 1, none⟩ = some (.int .i64 n1') := blk_cell K10.out 1
    have d2 : w12.cell? ⟨g10, 2, none⟩ = some (.int .i64 y2) := blk_cell K10.out 2
    have d3 : w12.cell? ⟨g10, 3, none⟩ = some (.int .i64 y3) := blk_cell K10.out 3
    have e1 : w12.cell? ⟨g7, 1, none⟩ = some (.slice A' out.length c') := blk_cell H7.out 1
    have HS2 := Aside0.mk (show mgO q (List.take (j.toNat + 1) l) = mgS out ⟨n0, n1', y2, y3⟩ by rw [HSN.out, HMG.out])
    clear HSN HMG
    by_cases m0 : n0 = n1'
    case pos =>
      have m0b : (n0 == n1') = true := beq_iff_eq.mpr m0
      have HE := Aside0.mk (show mgS out ⟨n0, n1', y2, y3⟩ = out by unfold mgS; rw [if_pos m0])
      clear m0
      go_wp2
      go_roundg (l.length + 1 - (j + 1).toNat)
      case measure => have := HJ.out; have := HLT.out; omega
      case rel =>
        have ej : (j + 1).toNat = j.toNat + 1 := by have := HJ0.out; omega
        exact ⟨j + 1, out, _, by first | rfl | rw [hw'] | rw [hw], ⟨by have := HJ0.out; omega, by have := HLT.out; omega, Nat.le_refl _, by rw [ej, HS2.out, HE.out]⟩, ⟨by rw [ej]; exact HM.out.mono (Nat.le_succ _)⟩, ⟨Kd.R_mono HO.out (fun _ _ => trivial)⟩, H7, H4, HQ, HB⟩
    have m0b : (n0 == n1') = false := beq_eq_false_iff_ne.mpr m0
    have hlk := HM.out.lookup WF0.out WF1.out
    unfold endsV at hlk
    by_cases hin : (n0, n1') ∈ out.map endsF
    case neg =>
      rw [if_neg hin, decide_eq_false hin] at hlk
      have HE := Aside0.mk (show mgS out ⟨n0, n1', y2, y3⟩ = out ++ [⟨n0, n1', y2, y3⟩] by unfold mgS; rw [if_neg m0, if_neg (show ¬ endsF _ ∈ _ from hin)])
      have HIN2 := Aside0.mk hin
      clear m0 hin
      go_wp2_with (first | (at_mapUpdate; refine wpList_mapUpdate_place _ rfl _ _ _ rfl mb j.toNat (out.map endsF) rfl HM.out (small_max (by have := HJ0.out; have := HLT.out; have := RC.out.2.2.1; omega)) n0 n1' WF0.out WF1.out HIN2.out (by rw [List.length_map]; have := HIN.out.1; have := HJ0.out; have := HLT.out; have := RC.out.2.2.1; omega) (out.length : Int) (by rw [List.length_map]) rfl rfl ?_; intro w13 hM13 hg13; obtain ⟨es, cl, hmp⟩ := HM.out.isMap; replace HO := Aside0.mk (r_map HO.out hmp hg13); clear hlk d0 d1 d2 d3 e1 hmp; replace H7 := Aside0.mk (blk_grown H7.out hg13 (by have := HM7.out; simp; omega)); replace H4 := Aside0.mk (blk_grown H4.out hg13 (by have := HM7.out; have := HG7.out; simp; omega)); replace HQ := Aside0.mk (blk_grown HQ.out hg13 (by have := HM7.out; have := HGQ7.out; simp; omega)); replace K10 := Aside0.mk (blk_grown K10.out hg13 (by have := HG10.out; simp; omega)); replace HB := Aside0.mk (HB.out.grown hg13 HB.out.size (fun k hk => by cases hk; exact HMB.out)); clear HM hg13; replace HM := Aside0.mk hM13; clear hM13; have d0 : w13.cell? ⟨g10, 0, none⟩ = some (.int .i64 n0) := blk_cell K10.out 0; have d1 : w13.cell? ⟨g10, 1, none⟩ = some (.int .i64 n1') := blk_cell K10.out 1; have d2 : w13.cell? ⟨g10, 2, none⟩ = some (.int .i64 y2) := blk_cell K10.out 2; have d3 : w13.cell? ⟨g10, 3, none⟩ = some (.int .i64 y3) := blk_cell K10.out 3; have e1 : w13.cell? ⟨g7, 1, none⟩ = some (.slice A' out.length c') := blk_cell H7.out 1) | ((with_reducible refine gate_builtin (b := .append) (xs := #[.tmp 78, .tmp 80]) rfl ?_); at_builtin; refine Kd.R_append k28 (w0 := w) w.heap.size rfl (.tmp 78) (.tmp 80) 22 28 (.agg #[.int .i64 0, .int .i64 0, .int .i64 0, .int .i64 0]) 32 rfl Try.underlying22 info28 rfl (by decide) (by omega) _ out (⟨n0, n1', y2, y3⟩ : S28) [.int .i64 n0, .int .i64 n1', .int .i64 y2, .int .i64 y3] (fun k => True ∧ k ≠ g10) (fun _ => False) rfl rfl ?aP (fun _ hk => hk.elim) ?aF ?aO ?aB ?aS ?aL ?_; (case aP => exact k28_mkM _ _ _ _); (case aB => exact HB.out); (case aF => exact (fun k hk => ⟨trivial, by have := blk_lt K10.out; omega⟩)); (case aO => exact HO.out); (case aS => exact HB.out.size); (case aL => have := HIN.out.1; have := HJ0.out; have := HLT.out; have := RC.out.2.2.1; omega); intro v1 w14 ho hb hg hat; obtain ⟨A2, c2, rfl⟩ := Kd.R_slice ho; simp only [List.length_append, List.length_cons, List.length_nil, Nat.zero_add] at ho; have hne7 := Kd.R_ne HO.out H7.out (by decide); have hne4 := Kd.R_ne HO.out H4.out (by decide); have hneq := Kd.R_ne HO.out HQ.out (by decide); obtain ⟨es, cl, hmp⟩ := HM.out.isMap; replace H7 := Aside0.mk (blk_grown H7.out hg hne7); replace H4 := Aside0.mk (blk_grown H4.out hg hne4); replace HQ := Aside0.mk (blk_grown HQ.out hg hneq); replace HM := Aside0.mk (HM.out.kept hg (fun e => r_nemap HO.out hmp e)); clear d0 d1 d2 d3 e1 hmp hne7 hne4 hneq; have e1 : w14.cell? ⟨g7, 1, none⟩ = some (.slice A' out.length c') := blk_cell H7.out 1; have ef : w14.frozen? ⟨g7, 1, none⟩ = false := blk_frozen H7.out 1; replace HB := Aside0.mk hb; replace HO := Aside0.mk ho; clear K10 ho hb hg hat))
      go_roundg (l.length + 1 - (j + 1).toNat)
      case measure => have := HJ.out; have := HLT.out; omega
      case rel =>
        have ej : (j + 1).toNat = j.toNat + 1 := by have := HJ0.out; omega
        exact ⟨j + 1, out ++ [⟨n0, n1', y2, y3⟩], _, by first | rfl | rw [hw'] | rw [hw], ⟨by have := HJ0.out; omega, by have := HLT.out; omega, Nat.le_refl _, by rw [ej, HS2.out, HE.out]⟩, ⟨by rw [ej, List.map_append]; exact HM.out.heap (Below.heap_setCell _ _ _ mb (by have := HM7.out; show mb ≠ g7; omega))⟩, ⟨r_far (Kd.R_mono HO.out (fun _ _ => trivial)) H7.out⟩, ⟨blk_put H7.out 1 _ rfl⟩, ⟨blk_far H4.out (by show g4 ≠ g7; have := HG7.out; omega) _⟩, ⟨blk_far HQ.out (by show gq ≠ g7; have := HGQ7.out; omega) _⟩, ⟨below_set HB.out (by have := HG4.out; have := HG7.out; omega)⟩⟩
    rw [if_pos hin, decide_eq_true hin] at hlk
    have hil := idx_lt hin
    have hie := idx_ends hin
    have HE := Aside0.mk (show mgS out ⟨n0, n1', y2, y3⟩ = addAt out ((out.map endsF).idxOf (n0, n1')) ⟨n0, n1', y2, y3⟩ by unfold mgS; rw [if_neg m0, if_pos (show endsF _ ∈ _ from hin)]; rfl)
    generalize (out.map endsF).idxOf (n0, n1') = i at *
    have hmi := HIN.out.2 _ (rd_mem hil)
    obtain ⟨x, hx⟩ : ∃ x : Int, x = (i : Int) := ⟨_, rfl⟩
    have hxi : x.toNat = i := by omega
    rw [← hx] at hlk hie hmi
    obtain ⟨gO, cap, hv, -, -, -⟩ := Kd.R_form HO.out (by omega)
    injection hv with hv hv1 hv2
    subst hv
    subst hv2
    clear hv1
    obtain ⟨cs, hcl, hM, hcc, hfr⟩ := Kd.R_elem HO.out z28 x (by omega) (by omega)
    obtain rfl := k28_openM hM
    have HEL := Aside0.mk (show rd_T28 out x = out.getD x.toNat z28 from rfl)
    rw [← HEL.out] at hcl hcc
    obtain ⟨z, hz⟩ : ∃ z, z = rd_T28 out x := ⟨_, rfl⟩
    rw [← hz] at hcl hcc hie hmi
    obtain ⟨z0, z1, z2, z3⟩ := z
    unfold endsF at hie
    injection hie with hz0 hz1
    simp only at hz0 hz1 hcl hcc hmi
    subst hz0
    subst hz1
    have s2 : w12.cell? ⟨gO, x.toNat * 4 + 2, none⟩ = some (.int .i64 z2) := hcc 2 _ rfl
    have s3 : w12.cell? ⟨gO, x.toNat * 4 + 3, none⟩ = some (.int .i64 z3) := hcc 3 _ rfl
    have fz2 : w12.frozen? ⟨gO, x.toNat * 4 + 2, none⟩ = false := hfr 2
    have hjl : j.toNat ≤ 64 := by have := HJ0.out; have := HLT.out; have := RC.out.2.2.1; omega
    have hm1 : (j.toNat : Int) * 10737418240000 ≤ 687194767360000 := by omega
    have hm2 : (j.toNat : Int) * 128849018880000 ≤ 8246337208320000 := by omega
    have nz2 : IntKind.i64.wrap (z2 + y2) = z2 + y2 := by rw [i64_w]; have := HY.out; exact w64_ (by omega) (by omega)
    have nz3 : IntKind.i64.wrap (z3 + y3) = z3 + y3 := by rw [i64_w]; have := HY.out; exact w64_ (by omega) (by omega)
    clear hm1 hm2
    have k1 : (0 ≤ x) = True := eq_true (by omega)
    have k2 : (x < (out.length : Int)) = True := eq_true (by omega)
    have HSG := Aside0.mk (fun (W : World) (hW : Kd.R k28 28 W w.heap.size (fun k => True ∧ k ≠ g10) (.slice (some ⟨gO, 0, none⟩) out.length c') out) (hcW : ∀ j' u, [Value.int .i64 z0, .int .i64 z1, .int .i64 z2, .int .i64 z3][j']? = some u → W.cell? ⟨gO, x.toNat * 4 + j', none⟩ = some u) =>
      Kd.R_seg hW x (by omega) (by omega) (seg := [.int .i64 (z2 + y2)]) (j := 2) (x' := (⟨z0, z1, z2 + y2, z3⟩ : S28)) rfl hcW (show 3 ≤ 4 by decide) (k28_mkM _ _ (fun _ => False) _) (fun _ hk => hk.elim))
    have HIX := Aside0.mk (⟨hil, hx, hxi⟩ : i < out.length ∧ x = (i : Int) ∧ x.toNat = i)
    have HCC := Aside0.mk hcc
    have HZ := Aside0.mk hz
    clear m0 hin hil hmi hx hxi hM hfr hcl hcc hz HEL hjl
    go_wp2_with fail
    refine pw_still_tail 11 (by kernel_rfl) (by kernel_rfl) ?_
    simp only [List.take_succ_cons, List.take_zero, List.drop_succ_cons, List.drop_zero]
    replace e1 := pw_cell_drewN e1 1
    replace d2 := pw_cell_drewN d2 1
    replace d3 := pw_cell_drewN d3 1
    replace s2 := pw_cell_drewN s2 1
    replace s3 := pw_cell_drewN s3 1
    replace fz2 : (w12.drewN 1).frozen? ⟨gO, x.toNat * 4 + 2, none⟩ = false := fz2
    replace H7 := Aside0.mk (blk_drewN H7.out 1)
    replace H4 := Aside0.mk (blk_drewN H4.out 1)
    replace HQ := Aside0.mk (blk_drewN HQ.out 1)
    replace K10 := Aside0.mk (blk_drewN K10.out 1)
    replace HM := Aside0.mk (show PlaceM (w12.drewN 1) mb j.toNat (out.map endsF) from HM.out.heap rfl)
    replace HO := Aside0.mk (Kd.R_drewN HO.out 1)
    replace HB := Aside0.mk (pw_below_drewN HB.out 1)
    replace HCC := Aside0.mk (fun j' u hu => pw_cell_drewN (HCC.out j' u hu) 1)
    generalize w12.drewN 1 = w12d at *
    repeat still_step
    refine wpStill_nil ?_
    go_wp2_with fail
    obtain ⟨w14, hV⟩ : ∃ w', w' = w12d.setCell ⟨gO, x.toNat * 4 + 2, none⟩ (.int .i64 (z2 + y2)) := ⟨_, rfl⟩
    rw [← hV]
    have hsg := HSG.out w12d HO.out HCC.out
    have hgr : w12d.grownBy w14 (some gO) := by rw [hV]; exact hsg.2
    have ho1 : Kd.R k28 28 w14 w.heap.size (fun k => True ∧ k ≠ g10) (.slice (some ⟨gO, 0, none⟩) out.length c') (out.set x.toNat (⟨z0, z1, z2 + y2, z3⟩ : S28)) := by rw [hV]; exact hsg.1
    obtain ⟨es, cl, hmp⟩ := HM.out.isMap
    replace H7 := Aside0.mk (blk_grown H7.out hgr (Kd.R_ne HO.out H7.out (by decide)))
    replace H4 := Aside0.mk (blk_grown H4.out hgr (Kd.R_ne HO.out H4.out (by decide)))
    replace HQ := Aside0.mk (blk_grown HQ.out hgr (Kd.R_ne HO.out HQ.out (by decide)))
    replace K10 := Aside0.mk (blk_grown K10.out hgr (fun e => by injection e with e; exact (HO.out.1 gO rfl).2 e.symm))
    replace HM := Aside0.mk (HM.out.kept hgr (fun e => r_nemap HO.out hmp e))
    replace HB := Aside0.mk (HB.out.grown hgr HB.out.size (fun k hk => by cases hk; exact Kd.R_base HO.out gO rfl))
    clear hsg hgr hV hmp e1 d2 d3 s2 s3 fz2 HO HCC HSG w12d
    have HO := Aside0.mk ho1
    clear ho1
    obtain ⟨cs, hcl, hM, hcc, hfr⟩ := Kd.R_elem HO.out z28 x (by have := HIX.out; omega) (by have := HIX.out; omega)
    rw [show (out.set x.toNat (⟨z0, z1, z2 + y2, z3⟩ : S28)).getD x.toNat z28 = (⟨z0, z1, z2 + y2, z3⟩ : S28) by rw [List.getD_eq_getElem?_getD, List.getElem?_set_self (by have := HIX.out; omega)]; rfl] at hM
    obtain rfl := k28_openM hM
    have s2 : w14.cell? ⟨gO, x.toNat * 4 + 2, none⟩ = some (.int .i64 (z2 + y2)) := hcc 2 _ rfl
    have s3 : w14.cell? ⟨gO, x.toNat * 4 + 3, none⟩ = some (.int .i64 z3) := hcc 3 _ rfl
    have fz2 : w14.frozen? ⟨gO, x.toNat * 4 + 3, none⟩ = false := hfr 3
    have d2 : w14.cell? ⟨g10, 2, none⟩ = some (.int .i64 y2) := blk_cell K10.out 2
    have d3 : w14.cell? ⟨g10, 3, none⟩ = some (.int .i64 y3) := blk_cell K10.out 3
    have e1 : w14.cell? ⟨g7, 1, none⟩ = some (.slice (some ⟨gO, 0, none⟩) out.length c') := blk_cell H7.out 1
    have HSG := Aside0.mk (fun (W : World) (hW : Kd.R k28 28 W w.heap.size (fun k => True ∧ k ≠ g10) (.slice (some ⟨gO, 0, none⟩) out.length c') (out.set x.toNat (⟨z0, z1, z2 + y2, z3⟩ : S28))) (hcW : ∀ j' u, [Value.int .i64 z0, .int .i64 z1, .int .i64 (z2 + y2), .int .i64 z3][j']? = some u → W.cell? ⟨gO, x.toNat * 4 + j', none⟩ = some u) =>
      Kd.R_seg hW x (by have := HIX.out; omega) (by have := HIX.out; omega) (seg := [.int .i64 (z3 + y3)]) (j := 3) (x' := (⟨z0, z1, z2 + y2, z3 + y3⟩ : S28)) rfl hcW (show 4 ≤ 4 by decide) (k28_mkM _ _ (fun _ => False) _) (fun _ hk => hk.elim))
    have HCC := Aside0.mk hcc
    clear hM hfr hcl hcc
    refine pw_still_tail 11 (by kernel_rfl) (by kernel_rfl) ?_
    simp only [List.take_succ_cons, List.take_zero, List.drop_succ_cons, List.drop_zero]
    replace e1 := pw_cell_drewN e1 1
    replace d2 := pw_cell_drewN d2 1
    replace d3 := pw_cell_drewN d3 1
    replace s2 := pw_cell_drewN s2 1
    replace s3 := pw_cell_drewN s3 1
    replace fz2 : (w14.drewN 1).frozen? ⟨gO, x.toNat * 4 + 3, none⟩ = false := fz2
    replace H7 := Aside0.mk (blk_drewN H7.out 1)
    replace H4 := Aside0.mk (blk_drewN H4.out 1)
    replace HQ := Aside0.mk (blk_drewN HQ.out 1)
    replace K10 := Aside0.mk (blk_drewN K10.out 1)
    replace HM := Aside0.mk (show PlaceM (w14.drewN 1) mb j.toNat (out.map endsF) from HM.out.heap rfl)
    replace HO := Aside0.mk (Kd.R_drewN HO.out 1)
    replace HB := Aside0.mk (pw_below_drewN HB.out 1)
    replace HCC := Aside0.mk (fun j' u hu => pw_cell_drewN (HCC.out j' u hu) 1)
    generalize w14.drewN 1 = w14d at *
    repeat still_step
    refine wpStill_nil ?_
    go_wp2_with fail
    obtain ⟨w15, hV⟩ : ∃ w', w' = w14d.setCell ⟨gO, x.toNat * 4 + 3, none⟩ (.int .i64 (z3 + y3)) := ⟨_, rfl⟩
    rw [← hV]
    have hsg := HSG.out w14d HO.out HCC.out
    have hgr : w14d.grownBy w15 (some gO) := by rw [hV]; exact hsg.2
    have ho1 : Kd.R k28 28 w15 w.heap.size (fun k => True ∧ k ≠ g10) (.slice (some ⟨gO, 0, none⟩) out.length c') ((out.set x.toNat (⟨z0, z1, z2 + y2, z3⟩ : S28)).set x.toNat (⟨z0, z1, z2 + y2, z3 + y3⟩ : S28)) := by rw [hV]; exact hsg.1
    obtain ⟨es, cl, hmp⟩ := HM.out.isMap
    replace H7 := Aside0.mk (blk_grown H7.out hgr (Kd.R_ne HO.out H7.out (by decide)))
    replace H4 := Aside0.mk (blk_grown H4.out hgr (Kd.R_ne HO.out H4.out (by decide)))
    replace HQ := Aside0.mk (blk_grown HQ.out hgr (Kd.R_ne HO.out HQ.out (by decide)))
    replace K10 := Aside0.mk (blk_grown K10.out hgr (fun e => by injection e with e; exact (HO.out.1 gO rfl).2 e.symm))
    replace HM := Aside0.mk (HM.out.kept hgr (fun e => r_nemap HO.out hmp e))
    replace HB := Aside0.mk (HB.out.grown hgr HB.out.size (fun k hk => by cases hk; exact Kd.R_base HO.out gO rfl))
    clear hsg hgr hV hmp e1 d2 d3 s2 s3 fz2 HO HCC HSG w14d
    have HO := Aside0.mk ho1
    clear ho1
    go_roundg (l.length + 1 - (j + 1).toNat)
    case measure => have := HJ.out; have := HLT.out; omega
    case rel =>
      have ej : (j + 1).toNat = j.toNat + 1 := by have := HJ0.out; omega
      have eo : (out.set x.toNat (⟨z0, z1, z2 + y2, z3⟩ : S28)).set x.toNat (⟨z0, z1, z2 + y2, z3 + y3⟩ : S28) = addAt out i ⟨z0, z1, y2, y3⟩ := by
        rw [List.set_set, HIX.out.2.2]
        unfold addAt
        rw [← HIX.out.2.1, ← HZ.out]
      exact ⟨j + 1, addAt out i ⟨z0, z1, y2, y3⟩, _, by first | rfl | rw [hw'] | rw [hw], ⟨by have := HJ0.out; omega, by have := HLT.out; omega, Nat.le_refl _, by rw [ej, HS2.out, HE.out]⟩, ⟨by rw [ej, addAt_ends HIX.out.1]; exact HM.out.mono (Nat.le_succ _)⟩, ⟨by rw [← eo]; exact Kd.R_mono HO.out (fun _ _ => trivial)⟩, H7, H4, HQ, HB⟩
set_option maxHeartbeats 8000000 in
set_option maxRecDepth 100000 in
theorem column_Merge.known (p : Int) (A : Option Addr) (c : Nat) (l : List S28) (q : Int) (w : World) (hr : Kd.C k28 w A l.length l) (hc : l.length ≤ c) {r1 : Int} {r2 : List S28} {r3 : Int} (h : mgR p l q = (r1, r2, r3)) :
    Calls Try.prog 15 #[.agg #[.int .i64 p, .slice A l.length c], .int .i64 q] w fun x w' => ∃ A' c', x = .returned (.tuple #[.agg #[.int .i64 r1, .slice A' r2.length c'], .int .i64 r3]) ∧ r2.length ≤ c' ∧ Kd.C k28 w' A' r2.length r2 ∧ Below w.heap.size w w' := by
  unfold mgR at h
  have hu1 := Try.underlying24
  have HR := Aside0.mk (fun W (hb : Below w.heap.size w W) => column_right.known p A c l W (Kd.C_below hr hb) hc (b := rt36 p l) rfl)
  have i24 : (Try.prog.info? 24).map (·.size) = some 2 := by kernel_rfl
  cases hb : rt36 p l
  · rw [hb] at h HR
    rw [if_neg (by decide)] at h
    injection h with q1 q2
    injection q2 with q2 q3
    subst q1 q2 q3
    clear hr hc hb
    go_enter Try.func15, Try.ntmps15
    go_wp2_with (first | ((with_reducible refine gate_dst (N := 2) rfl ?_); refine box_event ?hg (N := 2) ?hd (cs := #[.int .i64 p, .slice A l.length c]) (t := 24) ?hr ?_; (case hd => rfl); (case hg => rfl); (case hr => first | (go_simp; done) | (go_simp; rfl)); intro gb hg w3 hbox hb; have c0 : w3.cell? ⟨gb, 0, none⟩ = some (.int .i64 p) := blk_cell hbox 0; have c1 : w3.cell? ⟨gb, 1, none⟩ = some (.slice A l.length c) := blk_cell hbox 1; have HB := Aside0.mk hb; clear hbox hb hg) | ((with_reducible refine gate_dst (N := 3) rfl ?_); refine box_event ?hg (N := 3) ?hd (cs := #[.int .i64 q]) (t := 3) ?hr ?_; (case hd => rfl); (case hg => rfl); (case hr => first | (go_simp; done) | (go_simp; rfl)); intro gq hg w3b hbox hb; replace c0 := pw_cell_below hb c0; replace c1 := pw_cell_below hb c1; have cq : w3b.cell? ⟨gq, 0, none⟩ = some (.int .i64 q) := blk_cell hbox 0; replace HB := Aside0.mk (below_step HB.out hb); have HQ := Aside0.mk hbox; clear hbox hb hg) | ((with_reducible refine gate_dst (N := 4) rfl ?_); refine box_event ?hg (N := 4) ?hd (cs := #[.int .i64 0, .slice none 0 0]) (t := 24) ?hr ?_; (case hd => rfl); (case hg => rfl); (case hr => first | (go_simp; done) | (go_simp; rfl)); intro g4 hg w4 hbox hb; replace c0 := pw_cell_below hb c0; replace c1 := pw_cell_below hb c1; replace cq := pw_cell_below hb cq; replace HQ := Aside0.mk (blk_below HQ.out hb); have H4 := Aside0.mk hbox; have HG4 := Aside0.mk (show w.heap.size ≤ g4 by rw [hg]; exact HB.out.size); replace HB := Aside0.mk (below_step HB.out hb); clear hbox hb hg))
    refine (HR.out _ HB.out).mono ?_
    rintro e w5 ⟨rfl, hb⟩
    replace HB := Aside0.mk (below_step HB.out hb)
    replace H4 := Aside0.mk (blk_below H4.out hb)
    clear hb HR c0 c1 cq
    go_wp2_with (first | (refine wpList_store_row rfl 24 (.tmp 4) (.tmp 17) rfl g4 #[.int .i64 0, .slice none 0 0] rfl rfl 24 _ H4.out (by rw [i24]; rfl) rfl (one2s _ _ _ _) ?_))
    refine bodyPost_ret (results_ct rfl _ _ g4 24 #[.int .i64 0, .slice none 0 0] (0, 0) _ rfl (setRow_heap _ g4 _ _ _ _ H4.out) Try.underlying24 rfl (by rw [i24]; rfl)) rfl ?_
    exact ⟨none, 0, rfl, Nat.le_refl _, Kd.C_nil _ _, below_setRow HB.out HG4.out _⟩
  by_cases hq : q < 1 ∨ p ≤ q
  case neg =>
    rw [hb, if_pos rfl, if_neg hq] at h
    exact column_Merge.good p A c l q w hr hc hb (by omega) h
  rw [hb] at h HR
  rw [if_pos rfl, if_pos hq] at h
  injection h with q1 q2
  injection q2 with q2 q3
  subst q1 q2 q3
  clear hr hc hb
  by_cases q1 : q < 1
  · have b1 : decide (q < 1) = true := decide_eq_true q1
    clear q1 hq
    go_enter Try.func15, Try.ntmps15
    go_wp2_with (first | ((with_reducible refine gate_dst (N := 2) rfl ?_); refine box_event ?hg (N := 2) ?hd (cs := #[.int .i64 p, .slice A l.length c]) (t := 24) ?hr ?_; (case hd => rfl); (case hg => rfl); (case hr => first | (go_simp; done) | (go_simp; rfl)); intro gb hg w3 hbox hb; have c0 : w3.cell? ⟨gb, 0, none⟩ = some (.int .i64 p) := blk_cell hbox 0; have c1 : w3.cell? ⟨gb, 1, none⟩ = some (.slice A l.length c) := blk_cell hbox 1; have HB := Aside0.mk hb; clear hbox hb hg) | ((with_reducible refine gate_dst (N := 3) rfl ?_); refine box_event ?hg (N := 3) ?hd (cs := #[.int .i64 q]) (t := 3) ?hr ?_; (case hd => rfl); (case hg => rfl); (case hr => first | (go_simp; done) | (go_simp; rfl)); intro gq hg w3b hbox hb; replace c0 := pw_cell_below hb c0; replace c1 := pw_cell_below hb c1; have cq : w3b.cell? ⟨gq, 0, none⟩ = some (.int .i64 q) := blk_cell hbox 0; replace HB := Aside0.mk (below_step HB.out hb); have HQ := Aside0.mk hbox; clear hbox hb hg) | ((with_reducible refine gate_dst (N := 4) rfl ?_); refine box_event ?hg (N := 4) ?hd (cs := #[.int .i64 0, .slice none 0 0]) (t := 24) ?hr ?_; (case hd => rfl); (case hg => rfl); (case hr => first | (go_simp; done) | (go_simp; rfl)); intro g4 hg w4 hbox hb; replace c0 := pw_cell_below hb c0; replace c1 := pw_cell_below hb c1; replace cq := pw_cell_below hb cq; replace HQ := Aside0.mk (blk_below HQ.out hb); have H4 := Aside0.mk hbox; have HG4 := Aside0.mk (show w.heap.size ≤ g4 by rw [hg]; exact HB.out.size); replace HB := Aside0.mk (below_step HB.out hb); clear hbox hb hg))
    refine (HR.out _ HB.out).mono ?_
    rintro e w5 ⟨rfl, hb⟩
    replace HB := Aside0.mk (below_step HB.out hb)
    replace c0 := pw_cell_below hb c0
    replace cq := pw_cell_below hb cq
    replace H4 := Aside0.mk (blk_below H4.out hb)
    clear hb HR c1
    go_wp2_with (first | (refine wpList_store_row rfl 24 (.tmp 4) (.tmp 27) rfl g4 #[.int .i64 0, .slice none 0 0] rfl rfl 24 _ H4.out (by rw [i24]; rfl) rfl (one2s _ _ _ _) ?_))
    refine bodyPost_ret (results_ct rfl _ _ g4 24 #[.int .i64 0, .slice none 0 0] (0, 0) _ rfl (setRow_heap _ g4 _ _ _ _ H4.out) Try.underlying24 rfl (by rw [i24]; rfl)) rfl ?_
    exact ⟨none, 0, rfl, Nat.le_refl _, Kd.C_nil _ _, below_setRow HB.out HG4.out _⟩
  · have b1 : decide (q < 1) = false := decide_eq_false q1
    have b2 : decide (p ≤ q) = true := decide_eq_true (by omega)
    clear q1 hq
    go_enter Try.func15, Try.ntmps15
    go_wp2_with (first | ((with_reducible refine gate_dst (N := 2) rfl ?_); refine box_event ?hg (N := 2) ?hd (cs := #[.int .i64 p, .slice A l.length c]) (t := 24) ?hr ?_; (case hd => rfl); (case hg => rfl); (case hr => first | (go_simp; done) | (go_simp; rfl)); intro gb hg w3 hbox hb; have c0 : w3.cell? ⟨gb, 0, none⟩ = some (.int .i64 p) := blk_cell hbox 0; have c1 : w3.cell? ⟨gb, 1, none⟩ = some (.slice A l.length c) := blk_cell hbox 1; have HB := Aside0.mk hb; clear hbox hb hg) | ((with_reducible refine gate_dst (N := 3) rfl ?_); refine box_event ?hg (N := 3) ?hd (cs := #[.int .i64 q]) (t := 3) ?hr ?_; (case hd => rfl); (case hg => rfl); (case hr => first | (go_simp; done) | (go_simp; rfl)); intro gq hg w3b hbox hb; replace c0 := pw_cell_below hb c0; replace c1 := pw_cell_below hb c1; have cq : w3b.cell? ⟨gq, 0, none⟩ = some (.int .i64 q) := blk_cell hbox 0; replace HB := Aside0.mk (below_step HB.out hb); have HQ := Aside0.mk hbox; clear hbox hb hg) | ((with_reducible refine gate_dst (N := 4) rfl ?_); refine box_event ?hg (N := 4) ?hd (cs := #[.int .i64 0, .slice none 0 0]) (t := 24) ?hr ?_; (case hd => rfl); (case hg => rfl); (case hr => first | (go_simp; done) | (go_simp; rfl)); intro g4 hg w4 hbox hb; replace c0 := pw_cell_below hb c0; replace c1 := pw_cell_below hb c1; replace cq := pw_cell_below hb cq; replace HQ := Aside0.mk (blk_below HQ.out hb); have H4 := Aside0.mk hbox; have HG4 := Aside0.mk (show w.heap.size ≤ g4 by rw [hg]; exact HB.out.size); replace HB := Aside0.mk (below_step HB.out hb); clear hbox hb hg))
    refine (HR.out _ HB.out).mono ?_
    rintro e w5 ⟨rfl, hb⟩
    replace HB := Aside0.mk (below_step HB.out hb)
    replace c0 := pw_cell_below hb c0
    replace cq := pw_cell_below hb cq
    replace H4 := Aside0.mk (blk_below H4.out hb)
    clear hb HR c1
    go_wp2_with (first | (refine wpList_store_row rfl 24 (.tmp 4) (.tmp 27) rfl g4 #[.int .i64 0, .slice none 0 0] rfl rfl 24 _ H4.out (by rw [i24]; rfl) rfl (one2s _ _ _ _) ?_))
    refine bodyPost_ret (results_ct rfl _ _ g4 24 #[.int .i64 0, .slice none 0 0] (0, 0) _ rfl (setRow_heap _ g4 _ _ _ _ H4.out) Try.underlying24 rfl (by rw [i24]; rfl)) rfl ?_
    exact ⟨none, 0, rfl, Nat.le_refl _, Kd.C_nil _ _, below_setRow HB.out HG4.out _⟩

end Go.Proofs.Ytodfjkdgfjkifaa.PF
