-- Written by a program of this session (wip/pr.py) out of Lean's print of the translation; Lean checks it.
import Derived.Test.YtdolabpkgienkaaPF0
import Derived.Test.YtdolabpkgienkaaPF1
import Derived.Test.YtdolabpkgienkaaPF3
import Derived.Test.YtdolabpkgienkaaPF4
import Derived.Test.YtdolabpkgienkaaPF5
import Derived.Test.YtdolabpkgienkaaPF7
import Derived.Test.YtdolabpkgienkaaPF8
import Derived.Test.YtdolabpkgienkaaPF9
namespace Go.Proofs.Ytdolabpkgienkaa.PF
open Go.RowKit Go.Proofs.YtdolabpkgienkaaW.PrintWords Go.Proofs.YtdolabpkgienkaaW.PrintLast Go.Proofs.YtdolabpkgienkaaW.PrintMore
attribute [local go_sem] max2_int min2_int max_two min_two max_three min_three max_four min_four   -- for this text's walks alone
set_option linter.unusedVariables false
set_option linter.unusedSimpArgs false

/-! ### bond_Short: function 29 -/
-- MAKING
-- behind 15 12 39 31
def okA (x : S35) : Bool := decide (0 ≤ x.f2 ∧ x.f2 ≤ 1125899906842624)
def shtL (l : List S31) (h : List S35) : List S35 := l.filterMap (fun b => if 0 < sumH h b.f0 - b.f3 then some ⟨b.f0, 0, sumH h b.f0 - b.f3⟩ else none)
def shtR (l : List S31) (h : List S35) : List S35 × Int :=
  if (chkB l).2 ≠ 0 then ([], 1) else if 64 < h.length then ([], 8) else if h.any (fun x => !okA x) = true then ([], 2) else if h.any (fun x => (findB l x.f0).isNone) = true then ([], 7) else (shtL l h, 0)
theorem shtL_length (l : List S31) (h : List S35) : (shtL l h).length ≤ l.length := List.length_filterMap_le _ _
theorem shtL_snoc (l : List S31) (b : S31) (h : List S35) : shtL (l ++ [b]) h = shtL l h ++ (if 0 < sumH h b.f0 - b.f3 then [⟨b.f0, 0, sumH h b.f0 - b.f3⟩] else []) := by
  unfold shtL
  rw [List.filterMap_append]
  congr 1
  simp only [List.filterMap_cons, List.filterMap_nil]
  split <;> simp_all
theorem takeB {l : List S31} {i : Nat} (hi : i < l.length) : l.take (i + 1) = l.take i ++ [rd_T31 l (i : Int)] := by
  rw [List.take_succ_eq_append_getElem hi, rdB hi]
theorem sum_own {W : World} {mb n base : Nat} {S : Int → Int} {ok : Nat → Prop} {v : Value} {xs : List S35} (hm : SumM W mb n S) (hr : Kd.R k35 35 W base ok v xs) : some mb ≠ v.ownBlock := fun e => by
  obtain ⟨es, clock, hb⟩ := hm.isMap
  obtain ⟨cells, hc⟩ := Kd.R_typed hr mb e.symm
  rw [hb] at hc
  cases hc
theorem far_any (h : List S35) : decide (0 ≤ idxP (fun j => !okA (rd_T35 h (j : Int))) h.length 0) = h.any (fun x => !okA x) := by
  rw [Bool.eq_iff_iff, decide_eq_true_eq, idxP_any, List.any_eq_true]
  constructor
  · rintro ⟨j, _, h2, h3⟩
    have hj : j < h.length := by omega
    refine ⟨h[j], List.getElem_mem hj, ?_⟩
    rw [rdH hj] at h3
    exact h3
  · rintro ⟨x, hx, e⟩
    obtain ⟨j, hj, rfl⟩ := List.mem_iff_getElem.1 hx
    refine ⟨j, Nat.zero_le _, by omega, ?_⟩
    rw [rdH hj]
    exact e
set_option maxHeartbeats 1000000 in
theorem bond_Short.clo (x0 x1 x2 : Int) (W : World) :
    Calls Try.prog 49 (#[.agg #[.int .i64 x0, .int .i64 x1, .int .i64 x2]] ++ #[]) W fun e w' => e = .returned (.bool (!okA ⟨x0, x1, x2⟩)) ∧ Below W.heap.size W w' := by
  have hu := Try.underlying35
  have HW := Aside0.mk (fun W' => bond_within.calls x2 0 1125899906842624 (okA ⟨x0, x1, x2⟩) W' (by rw [bond_within.plain]; rfl))
  generalize okA ⟨x0, x1, x2⟩ = b at HW ⊢
  go_enter Try.func49, Try.ntmps49
  go_wp2_with (first
    | ((with_reducible refine gate_dst (N := 1) rfl ?_); refine box_event ?hg (N := 1) ?hd (cs := #[.int .i64 x0, .int .i64 x1, .int .i64 x2]) (t := 35) ?hr ?_; (case hd => rfl); (case hg => rfl); (case hr => first | (go_simp; done) | (go_simp; rfl)); intro g2 hg w2 hbox hb; have c2 : w2.cell? ⟨g2, 2, none⟩ = some (.int .i64 x2) := blk_cell hbox 2; have HB := Aside0.mk hb; clear hb hg hbox)
    | (go_at_call 37; refine (HW.out _).mono ?_; rintro e' wz ⟨rfl, hd⟩; have hb := hd.below; replace HB := Aside0.mk (below_step HB.out hb); clear hb hd))
  go_ret
  exact ⟨rfl, HB.out⟩
def bond_Short.f (l0 : List S31) (l1 : List S35) : Option (List S35 × Int) := some (shtR l0 l1)
set_option maxHeartbeats 8000000 in
set_option maxRecDepth 100000 in
theorem bond_Short.calls (A0 : Option Addr) (c0 : Nat) (l : List S31) (A1 : Option Addr) (c1 : Nat) (h : List S35) (r1 : List S35) (r2 : Int) (w : World) (hr0 : Kd.C k31 w A0 l.length l) (hc0 : l.length ≤ c0) (hr1 : Kd.C k35 w A1 h.length h) (hc1 : h.length ≤ c1) (hh : bond_Short.f l h = some (r1, r2)) :
    Calls Try.prog 29 #[.slice A0 l.length c0, .slice A1 h.length c1] w fun e w' => ∃ v0_ : Value, e = .returned (.tuple #[v0_, .int .i64 r2]) ∧ Kd.R k35 35 w' w.heap.size (fun _ => True) v0_ r1 ∧ Below w.heap.size w w' := by
  have hu1 := Try.underlying31
  have hu2 := Try.underlying35
  have hh := Option.some.inj hh
  obtain ⟨⟨q1, q2⟩, hck⟩ : ∃ q, chkB l = q := ⟨_, rfl⟩
  have HCK := Aside0.mk (fun W (hb : Below w.heap.size w W) => bond_Check_s.calls A0 c0 l q1 q2 W (Kd.C_below hr0 hb) hc0 (by unfold bond_Check_s.f; rw [hck]))
  unfold shtR at hh
  rw [hck] at hh
  by_cases hq : q2 = 0
  case neg =>
    rw [if_pos hq] at hh
    simp only [Prod.mk.injEq] at hh
    obtain ⟨rfl, rfl⟩ := hh
    have b1 : (q2 != 0) = true := bne_iff_ne.mpr hq
    clear hr0 hr1 hc0 hc1 hck hq
    go_enter Try.func29, Try.ntmps29
    go_wp2_with fail
    refine (HCK.out _ (Below.refl _ _)).mono ?_
    rintro e' w4 ⟨rfl, hb⟩
    go_wp2
    go_ret2
    exact ⟨_, rfl, Kd.R_nil _ _ _ _ _, hb⟩
  subst hq
  rw [if_neg (by simp)] at hh
  by_cases hl : 64 < h.length
  · rw [if_pos hl] at hh
    simp only [Prod.mk.injEq] at hh
    obtain ⟨rfl, rfl⟩ := hh
    have b1 : decide (64 < (h.length : Int)) = true := decide_eq_true (by omega)
    have b2 : decide (64 < h.length) = true := decide_eq_true hl
    clear hr0 hr1 hc0 hc1 hck hl
    go_enter Try.func29, Try.ntmps29
    go_wp2_with fail
    refine (HCK.out _ (Below.refl _ _)).mono ?_
    rintro e' w4 ⟨rfl, hb⟩
    go_wp2
    go_ret2
    exact ⟨_, rfl, Kd.R_nil _ _ _ _ _, hb⟩
  rw [if_neg hl] at hh
  have b1 : decide (64 < (h.length : Int)) = false := decide_eq_false (by omega)
  have b2 : decide (64 < h.length) = false := decide_eq_false hl
  have eg : ∀ args w, (callFunc 49 args).run Try.prog w = .ok (.enter 49 args) w := enters_of Try.func49 (by kernel_rfl) rfl
  have HCF := Aside0.mk (fun (W : World) (hb : Below w.heap.size w W) => api_Hold_31.below 49 #[] A1 c1 h (fun j => !okA (rd_T35 h (j : Int))) W eg (by omega) (Kd.C_below hr1 hb)
    (fun W' i h0 h1 hb' => by
      have := bond_Short.clo (rd_T35 h i).f0 (rd_T35 h i).f1 (rd_T35 h i).f2 W'
      rw [show ((i.toNat : Nat) : Int) = i by omega]
      exact this))
  rw [far_any] at HCF
  clear eg
  obtain ⟨far, hfar⟩ : ∃ b, h.any (fun x => !okA x) = b := ⟨_, rfl⟩
  have HFAR := Aside0.mk hfar
  rw [hfar] at HCF hh
  clear hfar
  cases far with
  | true =>
    rw [if_pos rfl] at hh
    simp only [Prod.mk.injEq] at hh
    obtain ⟨rfl, rfl⟩ := hh
    clear hr0 hr1 hc0 hc1 hck hl
    go_enter Try.func29, Try.ntmps29
    go_wp2_with fail
    refine (HCK.out _ (Below.refl _ _)).mono ?_
    rintro e' w4 ⟨rfl, hb⟩
    have HB := Aside0.mk hb
    clear hb
    go_wp2_with fail
    refine (HCF.out _ HB.out).mono ?_
    rintro e' w5 ⟨rfl, hb⟩
    replace HB := Aside0.mk (below_step HB.out hb)
    clear hb
    go_wp2
    go_ret2
    exact ⟨_, rfl, Kd.R_nil _ _ _ _ _, HB.out⟩
  | false =>
  rw [if_neg (by decide)] at hh
  have HOK := Aside0.mk (show ∀ x ∈ h, 0 ≤ x.f2 ∧ x.f2 ≤ 1125899906842624 from fun x hx => by
    have hn := HFAR.out
    rw [List.any_eq_false] at hn
    have := hn x hx
    unfold okA at this
    simpa using this)
  have RB := (chkB_zero l).1 (by rw [hck])
  have HRB := Aside0.mk RB
  have HFA := Aside0.mk (fun (id : Int) {x1 x2 x3 x4 : Int} {x5 : Bool} (hf : bond_find.f l id = some (x1, x2, x3, x4, x5)) (W : World) (hb : Below w.heap.size w W) => bond_find.calls A0 c0 l id x1 x2 x3 x4 x5 W (Kd.C_below hr0 hb) hc0 hf)
  have HAT := Aside0.mk (fun (W : World) (hb : Below w.heap.size w W) => at_T35 (Kd.C_below hr1 hb))
  have HAB := Aside0.mk (fun (W : World) (hb : Below w.heap.size w W) => at_T31 (Kd.C_below hr0 hb))
  have HH := Aside0.mk (show h.length ≤ 64 by omega)
  have HR := Aside0.mk hh
  have hmm := @run_makeMap Try.prog
  clear hr0 hr1 hc0 hc1 hck hl hh RB HFAR
  go_enter Try.func29, Try.ntmps29
  go_wp2_with fail
  refine (HCK.out _ (Below.refl _ _)).mono ?_
  rintro e' w2 ⟨rfl, hb⟩
  have HB := Aside0.mk hb
  clear hb HCK
  go_wp2_with fail
  refine (HCF.out _ HB.out).mono ?_
  rintro e' w3 ⟨rfl, hb⟩
  replace HB := Aside0.mk (below_step HB.out hb)
  clear hb HCF
  go_wp2
  have hM0 : SumM (w3.alloc (.map #[] 0)) w3.heap.size 0 (fun _ => 0) := SumM.made w3
  have HB3 := Aside0.mk (below_alloc HB.out (.map #[] 0))
  obtain ⟨mb, hmb⟩ : ∃ mb, mb = w3.heap.size := ⟨_, rfl⟩
  have HMB := Aside0.mk (show w.heap.size ≤ mb by rw [hmb]; exact HB.out.size)
  rw [← hmb] at hM0
  have HM0 := Aside0.mk hM0
  generalize hw4 : w3.alloc (.map #[] 0) = w4 at *
  rw [← hmb]
  clear hw4 hmb hM0 hmm HB
  go_loopg [32] (h.length + 1) (fun g s32 wr => ∃ (j : Nat) (S : Int → Int), s32 = .int .i64 (j : Int) ∧ Aside0 (j ≤ h.length ∧ h.length + 1 - j ≤ g ∧ (∀ x ∈ h.take j, (findB l x.f0).isNone = false) ∧ ∀ id, S id = sumH (h.take j) id) ∧ Aside0 (SumM wr mb j S) ∧ Aside0 (Below w.heap.size w wr))
  case atStart => exact ⟨0, fun _ => 0, by rfl, ⟨by omega, by omega, fun x hx => by simp at hx, fun id => by rw [List.take_zero]; rfl⟩, HM0, HB3⟩
  case round =>
    obtain ⟨j, S, rfl, HJ, HM, HB⟩ := hrel
    clear HM0 HB3
    by_cases hlt : j < h.length
    case neg =>
      have hltb : decide (j < h.length) = false := decide_eq_false hlt
      have hltc : decide ((j : Int) < (h.length : Int)) = false := decide_eq_false (by omega)
      have hjh : j = h.length := by have := HJ.out.1; omega
      have hno : h.any (fun x => (findB l x.f0).isNone) = false := by
        rw [List.any_eq_false]
        intro x hx
        have := HJ.out.2.2.1 x (by rw [hjh, List.take_length]; exact hx)
        rw [this]; decide
      have hre := HR.out
      rw [hno, if_neg (by decide)] at hre
      simp only [Prod.mk.injEq] at hre
      obtain ⟨hre, rfl⟩ := hre
      have HRE := Aside0.mk hre
      have HS := Aside0.mk (show ∀ id, S id = sumH h id from fun id => by have := HJ.out.2.2.2 id; rw [hjh, List.take_length] at this; exact this)
      clear hlt hjh hno hre HR
      go_wp2
      go_loopg [13, 55] (l.length + 1) (fun g s13 s55 wr => ∃ (i : Nat), s55 = .int .i64 (i : Int) ∧ Aside0 (i ≤ l.length ∧ l.length + 1 - i ≤ g) ∧ Aside0 (Kd.R k35 35 wr w.heap.size (fun _ => True) s13 (shtL (l.take i) h)) ∧ Aside0 (SumM wr mb j S) ∧ Aside0 (Below w.heap.size w wr))
      case atStart => exact ⟨0, by rfl, ⟨by omega, by omega⟩, ⟨Kd.R_nil _ _ _ _ _⟩, HM, HB⟩
      case round =>
        obtain ⟨i, rfl, HI, HR, HM, HB⟩ := hrel
        by_cases hlt : i < l.length
        case neg =>
          have hltb2 : decide (i < l.length) = false := decide_eq_false hlt
          have hltc2 : decide ((i : Int) < (l.length : Int)) = false := decide_eq_false (by omega)
          have hi : i = l.length := by have := HI.out.1; omega
          have HR2 := HR.out
          rw [hi, List.take_length, HRE.out] at HR2
          have HR2 := Aside0.mk HR2
          clear hlt hi
          go_wp2
          go_ret2
          exact ⟨_, rfl, HR2.out, HB.out⟩
        have hltb2 : decide (i < l.length) = true := decide_eq_true hlt
        have hltc2 : decide ((i : Int) < (l.length : Int)) = true := decide_eq_true (by omega)
        have p1 : (0 ≤ (i : Int)) = True := eq_true (by omega)
        have p2 : ((i : Int) < (l.length : Int)) = True := eq_true (by omega)
        have p3 : (i < l.length) = True := eq_true hlt
        obtain ⟨ad, e, h1, h2, h3, h4⟩ := HAB.out wr HB.out (i : Int) (by omega) (by omega)
        cases e
        rw [Int.toNat_natCast] at h1 h2 h3 h4
        have htk := takeB hlt
        have hmem : rd_T31 l (i : Int) ∈ l := by rw [rdB hlt]; exact List.getElem_mem hlt
        have hw' : wrap64 ((i : Int) + 1) = (i : Int) + 1 := w64_ (by omega) (by have := HRB.out.1; omega)
        have hw : IntKind.i64.wrap ((i : Int) + 1) = (i : Int) + 1 := by rw [i64_w]; exact hw'
        generalize (rd_T31 l (i : Int)) = b at *
        obtain ⟨b0, b1, b2, b3⟩ := b
        simp only at h1 h2 h3 h4
        have hbr := HRB.out.2.1 _ hmem
        unfold okB at hbr
        simp only at hbr
        have hs0 : 0 ≤ S b0 ∧ S b0 ≤ 72057594037927936 := by
          rw [HS.out b0]
          have a1 := sumH_nonneg (fun x hx => (HOK.out x hx).1) b0
          have a2 := sumH_le (M := 1125899906842624) (by decide) (fun x hx => (HOK.out x hx).2) b0
          have a3 := HH.out
          omega
        have WFB := Aside0.mk (wf_i64 (x := b0) (by omega) (by omega))
        have HSN := Aside0.mk (show shtL (l.take (i + 1)) h = shtL (l.take i) h ++ (if 0 < S b0 - b3 then [⟨b0, 0, S b0 - b3⟩] else []) by rw [htk, shtL_snoc, HS.out b0])
        have HLEN := Aside0.mk (show ((shtL (l.take i) h).length + 1) * 24 ≤ 140737488355328 by
          have a1 := shtL_length (l.take i) h
          rw [List.length_take] at a1
          have a2 := HRB.out.1
          omega)
        have HLT := Aside0.mk hlt
        have HW := Aside0.mk (⟨hw, hw'⟩ : _ ∧ _)
        have HLK := Aside0.mk (fun (W : World) (hm : SumM W mb j S) => hm.lookup WFB.out)
        clear hlt hw hw' htk hmem
        obtain ⟨s0, hse⟩ : ∃ s0, s0 = S b0 := ⟨_, rfl⟩
        rw [← hse] at hs0 HSN HLK
        have vs' : wrap64 (s0 - b3) = s0 - b3 := w64_ (by omega) (by omega)
        have vs : IntKind.i64.wrap (s0 - b3) = s0 - b3 := by rw [i64_w]; exact vs'
        clear hse hs0 hbr
        by_cases m1 : 0 < s0 - b3
        case pos =>
          have HSN2 := Aside0.mk (by have := HSN.out; rw [if_pos m1] at this; exact this)
          have m1a : decide (0 < s0 - b3) = true := decide_eq_true m1
          have m1b : decide (b3 < s0) = true := decide_eq_true (by omega)
          clear m1 HSN
          go_upto_region 21 with (first
            | ((with_reducible refine gate_dst (N := 15) rfl ?_); refine box_event ?hg (N := 15) ?hd (cs := #[.int .i64 0, .int .i64 0, .int .i64 0, .int .i64 0]) (t := 31) ?hr ?_; (case hd => rfl); (case hg => rfl); (case hr => first | (go_simp; done) | (go_simp; rfl)); intro g15 hg wy hbox hb5; have hc0 : wy.cell? ⟨g15, 0, none⟩ = some (.int .i64 0) := blk_cell hbox 0; have hf0 := blk_frozen hbox 0; have hc1 : wy.cell? ⟨g15, 1, none⟩ = some (.int .i64 0) := blk_cell hbox 1; have hf1 := blk_frozen hbox 1; have hc2 : wy.cell? ⟨g15, 2, none⟩ = some (.int .i64 0) := blk_cell hbox 2; have hf2 := blk_frozen hbox 2; have hc3 : wy.cell? ⟨g15, 3, none⟩ = some (.int .i64 0) := blk_cell hbox 3; have hf3 := blk_frozen hbox 3; replace hbox := Aside0.mk hbox; replace hb5 := Aside0.mk hb5; replace hg := Aside0.mk hg)
            | ((with_reducible refine gate_store (t := 31) (p := 15) rfl ?_); refine store_event (t := 31) (p := 15) (v := .tmp 58) (w1 := ((((wy.setCell ⟨g15, 0, none⟩ (.int .i64 b0)).setCell ⟨g15, 1, none⟩ (.int .i64 b1)).setCell ⟨g15, 2, none⟩ (.int .i64 b2)).setCell ⟨g15, 3, none⟩ (.int .i64 b3))) ?hg ?ho ?hn ?hr ?_; (case ho => rfl); (case hg => rfl); (case hn => rfl); (case hr => first | (go_simp; done) | (go_simp; rfl)); intro wz hw6; clear hc0 hf0 hc1 hf1 hc2 hf2 hc3 hf3; have hbx := box4_ (x := .int .i64 b0) (y := .int .i64 b1) (z := .int .i64 b2) (u := .int .i64 b3) hb5.out hg.out hbox.out; rw [← hw6] at hbx; clear hw6 hb5 hg hbox; obtain ⟨hb, hk6⟩ := hbx; replace HM := Aside0.mk (HM.out.below hb); replace HB := Aside0.mk (below_step HB.out hb); replace HR := Aside0.mk (Kd.R_below HR.out hb); have d0 : wz.cell? ⟨g15, 0, none⟩ = some (.int .i64 b0) := blk_cell hk6 0; have d3 : wz.cell? ⟨g15, 3, none⟩ = some (.int .i64 b3) := blk_cell hk6 3; clear h1 h2 h3 h4; clear hb hk6))
          have hlk := HLK.out _ HM.out
          go_wp2_with (at_builtin; refine Kd.R_append k35 (w0 := w) (HO := HR.out) (HB := HB.out) w.heap.size rfl (.tmp 68) (.tmp 73) 23 35 (.agg #[(.int .i64 0), (.int .i64 0), (.int .i64 0)]) 24 rfl Try.underlying23 info35 rfl (by decide) (by omega) _ _ (⟨b0, 0, s0 - b3⟩ : S35) [.int .i64 b0, .int .i64 0, .int .i64 (s0 - b3)] (fun _ => True) (fun _ => False) rfl rfl ?aP (fun _ hk => hk.elim) ?aF ?aS ?aL ?_; (case aP => exact k35_mkM _ _ _ (⟨b0, 0, s0 - b3⟩ : S35)); (case aF => exact fun _ _ => trivial); (case aS => exact below_size HB.out); (case aL => exact HLEN.out); intro v1 w1 ho hb hg hat; have HMK := Aside0.mk (HM.out.kept hg (sum_own HM.out HR.out)); clear hlk; replace HM := HMK; replace HR := Aside0.mk ho; replace HB := Aside0.mk hb; clear ho hb hg hat HMK)
          go_roundg (l.length + 1 - (i + 1))
          case measure => have := HI.out; have := HLT.out; omega
          case rel => exact ⟨i + 1, by first | rfl | (rw [HW.out.1]; rfl) | (rw [HW.out.2]; rfl), ⟨HLT.out, Nat.le_refl _⟩, ⟨by rw [HSN2.out]; exact HR.out⟩, HM, HB⟩
        case neg =>
          have HSN2 := Aside0.mk (by have := HSN.out; rw [if_neg m1, List.append_nil] at this; exact this)
          have m1a : decide (0 < s0 - b3) = false := decide_eq_false m1
          have m1b : decide (b3 < s0) = false := decide_eq_false (by omega)
          clear m1 HSN
          go_upto_region 21 with (first
            | ((with_reducible refine gate_dst (N := 15) rfl ?_); refine box_event ?hg (N := 15) ?hd (cs := #[.int .i64 0, .int .i64 0, .int .i64 0, .int .i64 0]) (t := 31) ?hr ?_; (case hd => rfl); (case hg => rfl); (case hr => first | (go_simp; done) | (go_simp; rfl)); intro g15 hg wy hbox hb5; have hc0 : wy.cell? ⟨g15, 0, none⟩ = some (.int .i64 0) := blk_cell hbox 0; have hf0 := blk_frozen hbox 0; have hc1 : wy.cell? ⟨g15, 1, none⟩ = some (.int .i64 0) := blk_cell hbox 1; have hf1 := blk_frozen hbox 1; have hc2 : wy.cell? ⟨g15, 2, none⟩ = some (.int .i64 0) := blk_cell hbox 2; have hf2 := blk_frozen hbox 2; have hc3 : wy.cell? ⟨g15, 3, none⟩ = some (.int .i64 0) := blk_cell hbox 3; have hf3 := blk_frozen hbox 3; replace hbox := Aside0.mk hbox; replace hb5 := Aside0.mk hb5; replace hg := Aside0.mk hg)
            | ((with_reducible refine gate_store (t := 31) (p := 15) rfl ?_); refine store_event (t := 31) (p := 15) (v := .tmp 58) (w1 := ((((wy.setCell ⟨g15, 0, none⟩ (.int .i64 b0)).setCell ⟨g15, 1, none⟩ (.int .i64 b1)).setCell ⟨g15, 2, none⟩ (.int .i64 b2)).setCell ⟨g15, 3, none⟩ (.int .i64 b3))) ?hg ?ho ?hn ?hr ?_; (case ho => rfl); (case hg => rfl); (case hn => rfl); (case hr => first | (go_simp; done) | (go_simp; rfl)); intro wz hw6; clear hc0 hf0 hc1 hf1 hc2 hf2 hc3 hf3; have hbx := box4_ (x := .int .i64 b0) (y := .int .i64 b1) (z := .int .i64 b2) (u := .int .i64 b3) hb5.out hg.out hbox.out; rw [← hw6] at hbx; clear hw6 hb5 hg hbox; obtain ⟨hb, hk6⟩ := hbx; replace HM := Aside0.mk (HM.out.below hb); replace HB := Aside0.mk (below_step HB.out hb); replace HR := Aside0.mk (Kd.R_below HR.out hb); have d0 : wz.cell? ⟨g15, 0, none⟩ = some (.int .i64 b0) := blk_cell hk6 0; have d3 : wz.cell? ⟨g15, 3, none⟩ = some (.int .i64 b3) := blk_cell hk6 3; clear h1 h2 h3 h4; clear hb hk6))
          have hlk := HLK.out _ HM.out
          go_wp2
          go_roundg (l.length + 1 - (i + 1))
          case measure => have := HI.out; have := HLT.out; omega
          case rel => exact ⟨i + 1, by first | rfl | (rw [HW.out.1]; rfl) | (rw [HW.out.2]; rfl), ⟨HLT.out, Nat.le_refl _⟩, ⟨by rw [HSN2.out]; exact HR.out⟩, HM, HB⟩
    have hltb : decide (j < h.length) = true := decide_eq_true hlt
    have hltc : decide ((j : Int) < (h.length : Int)) = true := decide_eq_true (by omega)
    have p1 : (0 ≤ (j : Int)) = True := eq_true (by omega)
    have p2 : ((j : Int) < (h.length : Int)) = True := eq_true (by omega)
    have p3 : (j < h.length) = True := eq_true hlt
    obtain ⟨ad, e, h1, h2, h3⟩ := HAT.out wr HB.out (j : Int) (by omega) (by omega)
    cases e
    rw [Int.toNat_natCast] at h1 h2 h3
    have htk := takeH hlt
    have hmem : rd_T35 h (j : Int) ∈ h := by rw [rdH hlt]; exact List.getElem_mem hlt
    have hw' : wrap64 ((j : Int) + 1) = (j : Int) + 1 := w64_ (by omega) (by have := HH.out; omega)
    have hw : IntKind.i64.wrap ((j : Int) + 1) = (j : Int) + 1 := by rw [i64_w]; exact hw'
    generalize (rd_T35 h (j : Int)) = x at *
    obtain ⟨x0, x1, x2⟩ := x
    simp only at h1 h2 h3
    obtain ⟨b0, b1', b2', b3, ok, hfi⟩ : ∃ b0 b1 b2 b3 ok, bond_find.f l x0 = some (b0, b1, b2, b3, ok) := by
      unfold bond_find.f
      rw [if_pos (by have := HRB.out.1; omega)]
      cases findB l x0 with
      | none => exact ⟨_, _, _, _, _, rfl⟩
      | some b => exact ⟨_, _, _, _, _, rfl⟩
    have HFI := Aside0.mk (fun W hb => HFA.out x0 hfi W hb)
    have hok2 := hfi
    unfold bond_find.f at hok2
    rw [if_pos (by have := HRB.out.1; omega)] at hok2
    have hok2 := Option.some.inj hok2
    have HLT := Aside0.mk hlt
    have HW := Aside0.mk (⟨hw, hw'⟩ : _ ∧ _)
    clear hlt hfi hw hw'
    cases hf : findB l x0 with
    | none =>
      rw [hf] at hok2
      simp only [Prod.mk.injEq] at hok2
      obtain ⟨-, -, -, -, rfl⟩ := hok2
      have hyes : h.any (fun x => (findB l x.f0).isNone) = true := by
        rw [List.any_eq_true]
        exact ⟨_, hmem, by simp only [hf]; rfl⟩
      have hre := HR.out
      rw [hyes, if_pos rfl] at hre
      simp only [Prod.mk.injEq] at hre
      obtain ⟨rfl, rfl⟩ := hre
      clear hf hmem hyes htk HR
      go_wp2_with (first
        | ((with_reducible refine gate_dst (N := 10) rfl ?_); refine box_event ?hg (N := 10) ?hd (cs := #[.int .i64 0, .int .i64 0, .int .i64 0]) (t := 35) ?hr ?_; (case hd => rfl); (case hg => rfl); (case hr => first | (go_simp; done) | (go_simp; rfl)); intro g10 hg wy hbox hb5; have hc0 : wy.cell? ⟨g10, 0, none⟩ = some (.int .i64 0) := blk_cell hbox 0; have hf0 := blk_frozen hbox 0; have hc1 : wy.cell? ⟨g10, 1, none⟩ = some (.int .i64 0) := blk_cell hbox 1; have hf1 := blk_frozen hbox 1; have hc2 : wy.cell? ⟨g10, 2, none⟩ = some (.int .i64 0) := blk_cell hbox 2; have hf2 := blk_frozen hbox 2; replace hbox := Aside0.mk hbox; replace hb5 := Aside0.mk hb5; replace hg := Aside0.mk hg)
        | ((with_reducible refine gate_store (t := 35) (p := 10) rfl ?_); refine store_event (t := 35) (p := 10) (v := .tmp 35) (w1 := (((wy.setCell ⟨g10, 0, none⟩ (.int .i64 x0)).setCell ⟨g10, 1, none⟩ (.int .i64 x1)).setCell ⟨g10, 2, none⟩ (.int .i64 x2))) ?hg ?ho ?hn ?hr ?_; (case ho => rfl); (case hg => rfl); (case hn => rfl); (case hr => first | (go_simp; done) | (go_simp; rfl)); intro wz hw6; clear hc0 hf0 hc1 hf1 hc2 hf2; have hbx := box3_ (x := .int .i64 x0) (y := .int .i64 x1) (z := .int .i64 x2) hb5.out hg.out hbox.out; rw [← hw6] at hbx; clear hw6 hb5 hg hbox; obtain ⟨hb, hk6⟩ := hbx; replace HM := Aside0.mk (HM.out.below hb); replace HB := Aside0.mk (below_step HB.out hb); have d0 : wz.cell? ⟨g10, 0, none⟩ = some (.int .i64 x0) := blk_cell hk6 0; have d2 : wz.cell? ⟨g10, 2, none⟩ = some (.int .i64 x2) := blk_cell hk6 2; clear h1 h2 h3; clear hb hk6)
        | (go_at_call 39; refine (HFI.out _ HB.out).mono ?_; rintro e' wz ⟨rfl, hb⟩; replace HM := Aside0.mk (HM.out.below hb); replace HB := Aside0.mk (below_step HB.out hb); replace d0 := pw_cell_below hb d0; replace d2 := pw_cell_below hb d2; clear hb)
        | ((with_reducible refine gate_dst (N := 11) rfl ?_); refine box_event ?hg (N := 11) ?hd (cs := #[.int .i64 0, .int .i64 0, .int .i64 0, .int .i64 0]) (t := 31) ?hr ?_; (case hd => rfl); (case hg => rfl); (case hr => first | (go_simp; done) | (go_simp; rfl)); intro g11 hg wy hbox hb5; have hc0 : wy.cell? ⟨g11, 0, none⟩ = some (.int .i64 0) := blk_cell hbox 0; have hf0 := blk_frozen hbox 0; have hc1 : wy.cell? ⟨g11, 1, none⟩ = some (.int .i64 0) := blk_cell hbox 1; have hf1 := blk_frozen hbox 1; have hc2 : wy.cell? ⟨g11, 2, none⟩ = some (.int .i64 0) := blk_cell hbox 2; have hf2 := blk_frozen hbox 2; have hc3 : wy.cell? ⟨g11, 3, none⟩ = some (.int .i64 0) := blk_cell hbox 3; have hf3 := blk_frozen hbox 3; replace hbox := Aside0.mk hbox; replace hb5 := Aside0.mk hb5; replace hg := Aside0.mk hg)
        | ((with_reducible refine gate_store (t := 31) (p := 11) rfl ?_); refine store_event (t := 31) (p := 11) (v := .tmp 41) (w1 := ((((wy.setCell ⟨g11, 0, none⟩ (.int .i64 b0)).setCell ⟨g11, 1, none⟩ (.int .i64 b1')).setCell ⟨g11, 2, none⟩ (.int .i64 b2')).setCell ⟨g11, 3, none⟩ (.int .i64 b3))) ?hg ?ho ?hn ?hr ?_; (case ho => rfl); (case hg => rfl); (case hn => rfl); (case hr => first | (go_simp; done) | (go_simp; rfl)); intro wz hw6; clear hc0 hf0 hc1 hf1 hc2 hf2 hc3 hf3; have hbx := box4_ (x := .int .i64 b0) (y := .int .i64 b1') (z := .int .i64 b2') (u := .int .i64 b3) hb5.out hg.out hbox.out; rw [← hw6] at hbx; clear hw6 hb5 hg hbox; obtain ⟨hb, hk6⟩ := hbx; replace HM := Aside0.mk (HM.out.below hb); replace HB := Aside0.mk (below_step HB.out hb); replace d0 := pw_cell_below hb d0; replace d2 := pw_cell_below hb d2; clear hb hk6))
      go_ret2
      exact ⟨_, rfl, Kd.R_nil _ _ _ _ _, HB.out⟩
    | some b =>
      rw [hf] at hok2
      simp only [Prod.mk.injEq] at hok2
      obtain ⟨e0', e1', e2', e3', rfl⟩ := hok2
      have hid : b.f0 = x0 := (findB_some hf).2
      have hbr := HRB.out.2.1 b (findB_some hf).1
      unfold okB at hbr
      have hxr := HOK.out _ hmem
      simp only at hxr
      have hs0 : 0 ≤ S x0 ∧ S x0 ≤ 72057594037927936 := by
        rw [HJ.out.2.2.2 x0]
        have a1 := sumH_nonneg (h := h.take j) (fun x hx => (HOK.out x (List.mem_of_mem_take hx)).1) x0
        have a2 := sumH_le (h := h.take j) (M := 1125899906842624) (by decide) (fun x hx => (HOK.out x (List.mem_of_mem_take hx)).2) x0
        have a3 : ((List.take j h).length : Int) ≤ 64 := by rw [List.length_take]; have := HH.out; omega
        omega
      have WFB := Aside0.mk (wf_i64 (x := x0) (by omega) (by omega))
      have HNN := Aside0.mk (show ∀ x ∈ h.take (j + 1), (findB l x.f0).isNone = false from fun y hy => by
        rw [htk] at hy
        rcases List.mem_append.1 hy with hy | hy
        · exact HJ.out.2.2.1 y hy
        · rw [List.mem_singleton] at hy; rw [hy]; simp only [hf]; rfl)
      have HS' := Aside0.mk (fun (id : Int) => show (if id = x0 then S x0 + x2 else S id) = sumH (h.take (j + 1)) id from by
        rw [htk, sumH_append]
        by_cases e : id = x0
        · rw [if_pos e, e, HJ.out.2.2.2 x0]; simp [sumH]
        · rw [if_neg e, HJ.out.2.2.2 id, show sumH [(⟨x0, x1, x2⟩ : S35)] id = 0 from by rw [sumH, if_neg (fun e2 => e e2.symm)]; rfl, Int.add_zero])
      have HLK := Aside0.mk (fun (W : World) (hm : SumM W mb j S) => hm.lookup WFB.out)
      obtain ⟨s0, hse⟩ : ∃ s0, s0 = S x0 := ⟨_, rfl⟩
      rw [← hse] at hs0 HS' HLK
      have WFV := Aside0.mk (wf_i64 (x := s0 + x2) (by omega) (by omega))
      have vs : IntKind.i64.wrap (s0 + x2) = s0 + x2 := by rw [i64_w]; exact w64_ (by omega) (by omega)
      clear hse hs0 hbr hxr hid hf hmem htk e0' e1' e2' e3'
      go_upto_region 15 with (first
        | ((with_reducible refine gate_dst (N := 10) rfl ?_); refine box_event ?hg (N := 10) ?hd (cs := #[.int .i64 0, .int .i64 0, .int .i64 0]) (t := 35) ?hr ?_; (case hd => rfl); (case hg => rfl); (case hr => first | (go_simp; done) | (go_simp; rfl)); intro g10 hg wy hbox hb5; have hc0 : wy.cell? ⟨g10, 0, none⟩ = some (.int .i64 0) := blk_cell hbox 0; have hf0 := blk_frozen hbox 0; have hc1 : wy.cell? ⟨g10, 1, none⟩ = some (.int .i64 0) := blk_cell hbox 1; have hf1 := blk_frozen hbox 1; have hc2 : wy.cell? ⟨g10, 2, none⟩ = some (.int .i64 0) := blk_cell hbox 2; have hf2 := blk_frozen hbox 2; replace hbox := Aside0.mk hbox; replace hb5 := Aside0.mk hb5; replace hg := Aside0.mk hg)
        | ((with_reducible refine gate_store (t := 35) (p := 10) rfl ?_); refine store_event (t := 35) (p := 10) (v := .tmp 35) (w1 := (((wy.setCell ⟨g10, 0, none⟩ (.int .i64 x0)).setCell ⟨g10, 1, none⟩ (.int .i64 x1)).setCell ⟨g10, 2, none⟩ (.int .i64 x2))) ?hg ?ho ?hn ?hr ?_; (case ho => rfl); (case hg => rfl); (case hn => rfl); (case hr => first | (go_simp; done) | (go_simp; rfl)); intro wz hw6; clear hc0 hf0 hc1 hf1 hc2 hf2; have hbx := box3_ (x := .int .i64 x0) (y := .int .i64 x1) (z := .int .i64 x2) hb5.out hg.out hbox.out; rw [← hw6] at hbx; clear hw6 hb5 hg hbox; obtain ⟨hb, hk6⟩ := hbx; replace HM := Aside0.mk (HM.out.below hb); replace HB := Aside0.mk (below_step HB.out hb); have d0 : wz.cell? ⟨g10, 0, none⟩ = some (.int .i64 x0) := blk_cell hk6 0; have d2 : wz.cell? ⟨g10, 2, none⟩ = some (.int .i64 x2) := blk_cell hk6 2; clear h1 h2 h3; clear hb hk6)
        | (go_at_call 39; refine (HFI.out _ HB.out).mono ?_; rintro e' wz ⟨rfl, hb⟩; replace HM := Aside0.mk (HM.out.below hb); replace HB := Aside0.mk (below_step HB.out hb); replace d0 := pw_cell_below hb d0; replace d2 := pw_cell_below hb d2; clear hb)
        | ((with_reducible refine gate_dst (N := 11) rfl ?_); refine box_event ?hg (N := 11) ?hd (cs := #[.int .i64 0, .int .i64 0, .int .i64 0, .int .i64 0]) (t := 31) ?hr ?_; (case hd => rfl); (case hg => rfl); (case hr => first | (go_simp; done) | (go_simp; rfl)); intro g11 hg wy hbox hb5; have hc0 : wy.cell? ⟨g11, 0, none⟩ = some (.int .i64 0) := blk_cell hbox 0; have hf0 := blk_frozen hbox 0; have hc1 : wy.cell? ⟨g11, 1, none⟩ = some (.int .i64 0) := blk_cell hbox 1; have hf1 := blk_frozen hbox 1; have hc2 : wy.cell? ⟨g11, 2, none⟩ = some (.int .i64 0) := blk_cell hbox 2; have hf2 := blk_frozen hbox 2; have hc3 : wy.cell? ⟨g11, 3, none⟩ = some (.int .i64 0) := blk_cell hbox 3; have hf3 := blk_frozen hbox 3; replace hbox := Aside0.mk hbox; replace hb5 := Aside0.mk hb5; replace hg := Aside0.mk hg)
        | ((with_reducible refine gate_store (t := 31) (p := 11) rfl ?_); refine store_event (t := 31) (p := 11) (v := .tmp 41) (w1 := ((((wy.setCell ⟨g11, 0, none⟩ (.int .i64 b0)).setCell ⟨g11, 1, none⟩ (.int .i64 b1')).setCell ⟨g11, 2, none⟩ (.int .i64 b2')).setCell ⟨g11, 3, none⟩ (.int .i64 b3))) ?hg ?ho ?hn ?hr ?_; (case ho => rfl); (case hg => rfl); (case hn => rfl); (case hr => first | (go_simp; done) | (go_simp; rfl)); intro wz hw6; clear hc0 hf0 hc1 hf1 hc2 hf2 hc3 hf3; have hbx := box4_ (x := .int .i64 b0) (y := .int .i64 b1') (z := .int .i64 b2') (u := .int .i64 b3) hb5.out hg.out hbox.out; rw [← hw6] at hbx; clear hw6 hb5 hg hbox; obtain ⟨hb, hk6⟩ := hbx; replace HM := Aside0.mk (HM.out.below hb); replace HB := Aside0.mk (below_step HB.out hb); replace d0 := pw_cell_below hb d0; replace d2 := pw_cell_below hb d2; clear hb hk6))
      have hlk := HLK.out _ HM.out
      go_wp2_with (first | (at_mapUpdate; refine wpList_mapUpdate_sum _ rfl _ _ _ rfl mb j S rfl HM.out (small_max (by have := HJ.out; have := HH.out; omega)) x0 (s0 + x2) WFB.out WFV.out rfl rfl ?_; intro w7 hM7 hg7; clear hlk; replace HB := Aside0.mk (HB.out.grown hg7 HB.out.size (fun k hk => by cases hk; exact HMB.out)); clear HM hg7 d0 d2; have HM := Aside0.mk hM7; clear hM7))
      go_roundg (h.length + 1 - (j + 1))
      case measure => have := HJ.out; have := HLT.out; omega
      case rel => exact ⟨j + 1, _, by first | rfl | (rw [HW.out.1]; rfl) | (rw [HW.out.2]; rfl), ⟨HLT.out, Nat.le_refl _, HNN.out, HS'.out⟩, HM, HB⟩

/-! ### spilelaw52_bonds: function 36 -/
def spilelaw52_bonds.f  : Option ((List (S31))) := some (([(⟨1, 0, 50, 100⟩ : S31), (⟨2, 0, 90, 70⟩ : S31)] : List (S31)))
set_option maxHeartbeats 8000000 in
set_option maxRecDepth 100000 in
theorem spilelaw52_bonds.calls  (r : List (S31)) (w : World) (h : spilelaw52_bonds.f  = some r) :
  Calls Try.prog 36 #[] w fun e w' => ∃ v0_ : Value, e = .returned (v0_) ∧ Kd.R k31 31 w' w.heap.size (fun _ => True) v0_ r ∧ Below w.heap.size w w' := by
 have hu31 := Try.underlying31
 have HB := Aside0.mk (Below.refl w.heap.size w)
 have H : (some (([(⟨1, 0, 50, 100⟩ : S31), (⟨2, 0, 90, 70⟩ : S31)] : List (S31)))) = some r := h
 clear h
 obtain ⟨y150, hy150⟩ : ∃ y_ : List (S31), y_ = (([(⟨1, 0, 50, 100⟩ : S31), (⟨2, 0, 90, 70⟩ : S31)] : List (S31))) := ⟨_, rfl⟩
 replace H : (some y150) = some r := by first | (rw [hy150]; with_reducible exact H) | (have H2_ := (Option.bind_some _ _).symm.trans H; rw [hy150]; with_reducible exact H2_) | (have H2_ := (Option.bind_some _ _).symm.trans H; with_reducible exact H2_) | with_reducible exact H | (rw [hy150]; exact H) | exact H
 have Ny150 := Aside0.mk hy150
 clear hy150
 obtain rfl := Option.some.inj H
 go_enter Try.func36, Try.ntmps36
 go_wp2_with (first | ((with_reducible refine gate_dst (N := 3) rfl ?_); refine Kd.R_lit k31 _ 31 ?hg (N := 3) ?hd (xs := ([(⟨1, 0, 50, 100⟩ : S31), (⟨2, 0, 90, 70⟩ : S31)] : List (S31))) (inner := [.int .i64 1, .int .i64 0, .int .i64 50, .int .i64 100, .int .i64 2, .int .i64 0, .int .i64 90, .int .i64 70]) (ok := fun _ => True) (okp := fun _ => True) ?hr ?hp (fun _ hk => hk) trivial (Below.refl _ _) (Nat.le_refl _) (by simp) ?_; (case hd => rfl); (case hg => rfl); (case hr => first | (go_simp; done) | (go_simp; rfl)); (case hp => exact (Reps.c4 (show Kd.M k31 _ _ _ (⟨1, 0, 50, 100⟩ : S31) [.int .i64 1, .int .i64 0, .int .i64 50, .int .i64 100] from (k31_mkM _ _ _ (⟨1, 0, 50, 100⟩ : S31) )) (Reps.c4 (show Kd.M k31 _ _ _ (⟨2, 0, 90, 70⟩ : S31) [.int .i64 2, .int .i64 0, .int .i64 90, .int .i64 70] from (k31_mkM _ _ _ (⟨2, 0, 90, 70⟩ : S31) )) (Reps.none _ _)))); intro v151 w1 ho2 hb hg_ hnew_; clear hg_ hnew_; (first | rw [← Ny150.out] at ho2 | (simp only [Int.reduceToNat] at ho2; rw [← Ny150.out] at ho2)); have n0_ := Aside0.mk (Kd.R_lower ho2 (below_size (by repeat (first | (with_reducible first | exact HB.out | apply below_alloc | apply pw_below_drewN | apply below_drew1) | exact HB.out)))); have n1_ := Aside0.mk (below_step (by repeat (first | (with_reducible first | exact HB.out | apply below_alloc | apply pw_below_drewN | apply below_drew1) | exact HB.out)) hb); clear HB; have HO152 := n0_; have HB := n1_; clear n0_ n1_; clear hb ho2))
 go_ret
 exact ⟨_, by first | rfl | (simp [errW_none, errW_some] <;> rfl) | (simp [*, errW_none, errW_some] <;> rfl), by (with_reducible repeat (first | apply Kd.R_alloc | apply Kd.R_drewN | apply Kd.R_drew)); exact HO152.out, by repeat (first | (with_reducible first | exact HB.out | apply below_alloc | apply pw_below_drewN | apply below_drew1) | exact HB.out)⟩

/-! ### spilelaw52_awake: function 10 -/
-- MAKING
-- behind 29 20 22 24 27 18 26 36
def exB : List S31 := [(⟨1, 0, 50, 100⟩ : S31), (⟨2, 0, 90, 70⟩ : S31)]
def exH : List S35 := [(⟨1, 5, 40⟩ : S35)]
def exN : List S35 := [(⟨1, 0, 70⟩ : S35), (⟨1, 0, 50⟩ : S35)]
def exS : List S35 := [(⟨1, 0, 20⟩ : S35)]
def exC : List S35 := [(⟨1, 5, 100⟩ : S35)]
theorem exB_len : exB.length = 2 := rfl
theorem exH_len : exH.length = 1 := rfl
theorem ex_bind : bond_Bind.f exB [] 1 5 40 10 = some (exH, 0) := by kernel_rfl
theorem ex_free : bond_Free.f 20 exB exH 1 = some (60, 0) := by kernel_rfl
theorem ex_ch1 : bond_Choose.f 20 exB exH 60 50 = some (1, 0) := by kernel_rfl
theorem ex_ch2 : bond_Choose.f 20 exB exH 60 51 = some (2, 0) := by kernel_rfl
theorem ex_short : bond_Short.f exB exN = some (exS, 0) := by kernel_rfl
theorem ex_change : bond_Change.f 20 exB exH 5 100 = some (exC, 0) := by kernel_rfl
theorem ex_release : bond_Release.f exB exH 5 = some ([], 0) := by kernel_rfl
theorem ex_holds : bond_Holds.f exB exH = some (-1, 0) := by kernel_rfl
theorem ex_check : bond_Check_s.f exB = some (-1, 0) := by kernel_rfl
theorem ex_eqS : api_Hold_26.f 5 exS exS = some true := by kernel_rfl
theorem ex_eqC : api_Hold_26.f 5 exC exC = some true := by kernel_rfl
theorem R_of_alloc {α : Type} (d : Kd α) (W : World) (e : Nat) {xs : List α} {inner : List Value} (hrep : Reps (d.M W W.heap.size (fun _ => True)) d.sz xs inner) (hm : xs.length ≤ 1000) :
    d.R e (W.alloc (.cells inner.toArray e)) W.heap.size (fun _ => True) (.slice (some ⟨W.heap.size, 0, none⟩) xs.length xs.length) xs := by
  refine ⟨fun _ _ => trivial, inner, ?_, ?_⟩
  · have h2 := World.ownsRow_lit (base := W.heap.size) (e := e) (size := d.sz) W inner.toArray xs.length (Nat.le_refl _) (by simp [maxLen]; omega) (by simpa using hrep.1)
    simpa using h2
  · refine hrep.imp_ (fun p c hp => d.M_mono (fun k hk => ⟨trivial, fun he => ?_⟩) (Kd.M_below (d.M_bound hp) (below_alloc (Below.refl _ _) _)))
    have h3 : k = W.heap.size := by simpa [Value.ownBlock] using he
    have := hk.2.2.1
    omega
theorem C_exN (W : World) : Kd.C k35 (W.alloc (.cells #[.int .i64 1, .int .i64 0, .int .i64 70, .int .i64 1, .int .i64 0, .int .i64 50] 35)) (some ⟨W.heap.size, 0, none⟩) 2 exN :=
  (Kd.R_reads' (R_of_alloc k35 W 35 (xs := exN) (inner := [.int .i64 1, .int .i64 0, .int .i64 70, .int .i64 1, .int .i64 0, .int .i64 50]) (Reps.front (p := (⟨1, 0, 70⟩ : S35)) (c := [.int .i64 1, .int .i64 0, .int .i64 70]) (k35_mkM _ _ _ _) rfl (Reps.front (p := (⟨1, 0, 50⟩ : S35)) (c := [.int .i64 1, .int .i64 0, .int .i64 50]) (k35_mkM _ _ _ _) rfl (Reps.none _ _) rfl) rfl) (by decide))).2.2
theorem C_exS (W : World) : Kd.C k35 (W.alloc (.cells #[.int .i64 1, .int .i64 0, .int .i64 20] 35)) (some ⟨W.heap.size, 0, none⟩) 1 exS :=
  (Kd.R_reads' (R_of_alloc k35 W 35 (xs := exS) (inner := [.int .i64 1, .int .i64 0, .int .i64 20]) (Reps.front (p := (⟨1, 0, 20⟩ : S35)) (c := [.int .i64 1, .int .i64 0, .int .i64 20]) (k35_mkM _ _ _ _) rfl (Reps.none _ _) rfl) (by decide))).2.2
theorem C_exC (W : World) : Kd.C k35 (W.alloc (.cells #[.int .i64 1, .int .i64 5, .int .i64 100] 35)) (some ⟨W.heap.size, 0, none⟩) 1 exC :=
  (Kd.R_reads' (R_of_alloc k35 W 35 (xs := exC) (inner := [.int .i64 1, .int .i64 5, .int .i64 100]) (Reps.front (p := (⟨1, 5, 100⟩ : S35)) (c := [.int .i64 1, .int .i64 5, .int .i64 100]) (k35_mkM _ _ _ _) rfl (Reps.none _ _) rfl) (by decide))).2.2
theorem bonds52.known (w : World) : Calls Try.prog 36 #[] w fun e w' => ∃ A c, e = .returned (.slice A 2 c) ∧ Aside0 (2 ≤ c ∧ Kd.C k31 w' A 2 exB) ∧ Below w.heap.size w w' := by
  refine (spilelaw52_bonds.calls exB w rfl).mono ?_
  rintro e w' ⟨v, rfl, hR, hb⟩
  obtain ⟨A, c, rfl⟩ := Kd.R_slice hR
  exact ⟨A, c, rfl, ⟨(Kd.R_reads' hR).2.1, (Kd.R_reads' hR).2.2⟩, hb⟩
theorem clone52.known (w : World) (A : Option Addr) (c : Nat) (hr : Kd.C k35 w A 1 exH) (hc : 1 ≤ c) : Calls Try.prog 16 #[.slice A 1 c] w fun e w' => ∃ A c, e = .returned (.slice A 1 c) ∧ Aside0 (1 ≤ c ∧ Kd.C k35 w' A 1 exH) ∧ Below w.heap.size w w' := by
  refine (api_Hold_16.calls A c exH exH w hr hc rfl).mono ?_
  rintro e w' ⟨v, rfl, hR, hb⟩
  obtain ⟨A, c, rfl⟩ := Kd.R_slice hR
  exact ⟨A, c, rfl, ⟨(Kd.R_reads' hR).2.1, (Kd.R_reads' hR).2.2⟩, hb⟩
theorem row52 {f : Nat} {args : Array Value} {w : World} {r1 : List S35} {r2 : Int} (n : Nat) (hn : r1.length = n) (h : Calls Try.prog f args w fun e w' => ∃ v0_ : Value, e = .returned (.tuple #[v0_, .int .i64 r2]) ∧ Kd.R k35 35 w' w.heap.size (fun _ => True) v0_ r1 ∧ Below w.heap.size w w') :
    Calls Try.prog f args w fun e w' => ∃ A c, e = .returned (.tuple #[.slice A n c, .int .i64 r2]) ∧ Aside0 (n ≤ c ∧ Kd.C k35 w' A n r1) ∧ Below w.heap.size w w' := by
  refine h.mono ?_
  rintro e w' ⟨v, rfl, hR, hb⟩
  obtain ⟨A, c, rfl⟩ := Kd.R_slice hR
  subst hn
  exact ⟨A, c, rfl, ⟨(Kd.R_reads' hR).2.1, (Kd.R_reads' hR).2.2⟩, hb⟩
def spilelaw52_awake.f : Option Bool := some true
set_option maxHeartbeats 8000000 in
set_option maxRecDepth 100000 in
theorem spilelaw52_awake.calls (r : Bool) (w : World) (h : spilelaw52_awake.f = some r) : Calls Try.prog 10 #[] w fun e w' => e = .returned (.bool r) ∧ Below w.heap.size w w' := by
  have h := Option.some.inj h
  subst h
  have hu2 := Try.underlying35
  have hu1 := Try.underlying31
  have HB := Aside0.mk (Below.refl w.heap.size w)
  go_enter Try.func10, Try.ntmps10
  go_wp2_with fail
  refine (bonds52.known _).mono ?_
  rintro e w1 ⟨Ab, cb, rfl, HX, hb⟩
  replace HB := Aside0.mk (below_step HB.out hb)
  clear hb
  go_wp2_with fail
  refine (row52 1 rfl (bond_Bind.calls _ _ exB none 0 [] 1 5 40 10 exH 0 _ HX.out.2 HX.out.1 (Kd.C_nil _ _) (Nat.zero_le _) ex_bind)).mono ?_
  rintro e w2 ⟨A1, c1, rfl, H1, hb⟩
  replace HB := Aside0.mk (below_step HB.out hb)
  replace HX := Aside0.mk (⟨HX.out.1, Kd.C_below HX.out.2 hb⟩ : _ ∧ _)
  clear hb
  clear HX
  go_wp2_with fail
  refine (bonds52.known _).mono ?_
  rintro e w3 ⟨Ab, cb, rfl, HX, hb⟩
  replace HB := Aside0.mk (below_step HB.out hb)
  replace H1 := Aside0.mk (⟨H1.out.1, Kd.C_below H1.out.2 hb⟩ : _ ∧ _)
  clear hb
  go_wp2_with fail
  refine (clone52.known _ _ _ H1.out.2 H1.out.1).mono ?_
  rintro e w4 ⟨Ac, cc, rfl, HY, hb⟩
  replace HB := Aside0.mk (below_step HB.out hb)
  replace H1 := Aside0.mk (⟨H1.out.1, Kd.C_below H1.out.2 hb⟩ : _ ∧ _)
  replace HX := Aside0.mk (⟨HX.out.1, Kd.C_below HX.out.2 hb⟩ : _ ∧ _)
  clear hb
  go_wp2_with fail
  refine (bond_Free.calls 20 _ _ exB _ _ exH 1 60 0 _ HX.out.2 HX.out.1 HY.out.2 HY.out.1 ex_free).mono ?_
  rintro e w5 ⟨rfl, hb⟩
  replace HB := Aside0.mk (below_step HB.out hb)
  replace H1 := Aside0.mk (⟨H1.out.1, Kd.C_below H1.out.2 hb⟩ : _ ∧ _)
  replace HX := Aside0.mk (⟨HX.out.1, Kd.C_below HX.out.2 hb⟩ : _ ∧ _)
  replace HY := Aside0.mk (⟨HY.out.1, Kd.C_below HY.out.2 hb⟩ : _ ∧ _)
  clear hb
  clear HX
  clear HY
  go_wp2_with fail
  refine (bonds52.known _).mono ?_
  rintro e w6 ⟨Ab, cb, rfl, HX, hb⟩
  replace HB := Aside0.mk (below_step HB.out hb)
  replace H1 := Aside0.mk (⟨H1.out.1, Kd.C_below H1.out.2 hb⟩ : _ ∧ _)
  clear hb
  go_wp2_with fail
  refine (clone52.known _ _ _ H1.out.2 H1.out.1).mono ?_
  rintro e w7 ⟨Ac, cc, rfl, HY, hb⟩
  replace HB := Aside0.mk (below_step HB.out hb)
  replace H1 := Aside0.mk (⟨H1.out.1, Kd.C_below H1.out.2 hb⟩ : _ ∧ _)
  replace HX := Aside0.mk (⟨HX.out.1, Kd.C_below HX.out.2 hb⟩ : _ ∧ _)
  clear hb
  go_wp2_with fail
  refine (bond_Choose.calls 20 _ _ exB _ _ exH 60 50 1 0 _ HX.out.2 HX.out.1 HY.out.2 HY.out.1 ex_ch1).mono ?_
  rintro e w8 ⟨rfl, hb⟩
  replace HB := Aside0.mk (below_step HB.out hb)
  replace H1 := Aside0.mk (⟨H1.out.1, Kd.C_below H1.out.2 hb⟩ : _ ∧ _)
  replace HX := Aside0.mk (⟨HX.out.1, Kd.C_below HX.out.2 hb⟩ : _ ∧ _)
  replace HY := Aside0.mk (⟨HY.out.1, Kd.C_below HY.out.2 hb⟩ : _ ∧ _)
  clear hb
  clear HX
  clear HY
  go_wp2_with fail
  refine (bonds52.known _).mono ?_
  rintro e w9 ⟨Ab, cb, rfl, HX, hb⟩
  replace HB := Aside0.mk (below_step HB.out hb)
  replace H1 := Aside0.mk (⟨H1.out.1, Kd.C_below H1.out.2 hb⟩ : _ ∧ _)
  clear hb
  go_wp2_with fail
  refine (clone52.known _ _ _ H1.out.2 H1.out.1).mono ?_
  rintro e w10 ⟨Ac, cc, rfl, HY, hb⟩
  replace HB := Aside0.mk (below_step HB.out hb)
  replace H1 := Aside0.mk (⟨H1.out.1, Kd.C_below H1.out.2 hb⟩ : _ ∧ _)
  replace HX := Aside0.mk (⟨HX.out.1, Kd.C_below HX.out.2 hb⟩ : _ ∧ _)
  clear hb
  go_wp2_with fail
  refine (bond_Choose.calls 20 _ _ exB _ _ exH 60 51 2 0 _ HX.out.2 HX.out.1 HY.out.2 HY.out.1 ex_ch2).mono ?_
  rintro e w11 ⟨rfl, hb⟩
  replace HB := Aside0.mk (below_step HB.out hb)
  replace H1 := Aside0.mk (⟨H1.out.1, Kd.C_below H1.out.2 hb⟩ : _ ∧ _)
  replace HX := Aside0.mk (⟨HX.out.1, Kd.C_below HX.out.2 hb⟩ : _ ∧ _)
  replace HY := Aside0.mk (⟨HY.out.1, Kd.C_below HY.out.2 hb⟩ : _ ∧ _)
  clear hb
  clear HX
  clear HY
  go_wp2_with fail
  refine (bonds52.known _).mono ?_
  rintro e w12 ⟨Ab, cb, rfl, HX, hb⟩
  replace HB := Aside0.mk (below_step HB.out hb)
  replace H1 := Aside0.mk (⟨H1.out.1, Kd.C_below H1.out.2 hb⟩ : _ ∧ _)
  clear hb
  go_wp2_with fail
  have hb := below_alloc (Below.refl _ _) (.cells #[.int .i64 1, .int .i64 0, .int .i64 70, .int .i64 1, .int .i64 0, .int .i64 50] 35) (w := w12)
  replace HB := Aside0.mk (below_step HB.out hb)
  replace H1 := Aside0.mk (⟨H1.out.1, Kd.C_below H1.out.2 hb⟩ : _ ∧ _)
  replace HX := Aside0.mk (⟨HX.out.1, Kd.C_below HX.out.2 hb⟩ : _ ∧ _)
  clear hb
  refine (row52 1 rfl (bond_Short.calls _ _ exB _ _ exN exS 0 _ HX.out.2 HX.out.1 (C_exN _) (Nat.le_refl _) ex_short)).mono ?_
  rintro e w14 ⟨A2, c2, rfl, H2, hb⟩
  replace HB := Aside0.mk (below_step HB.out hb)
  replace H1 := Aside0.mk (⟨H1.out.1, Kd.C_below H1.out.2 hb⟩ : _ ∧ _)
  replace HX := Aside0.mk (⟨HX.out.1, Kd.C_below HX.out.2 hb⟩ : _ ∧ _)
  clear hb
  clear HX
  go_wp2_with fail
  refine (bonds52.known _).mono ?_
  rintro e w15 ⟨Ab, cb, rfl, HX, hb⟩
  replace HB := Aside0.mk (below_step HB.out hb)
  replace H1 := Aside0.mk (⟨H1.out.1, Kd.C_below H1.out.2 hb⟩ : _ ∧ _)
  replace H2 := Aside0.mk (⟨H2.out.1, Kd.C_below H2.out.2 hb⟩ : _ ∧ _)
  clear hb
  go_wp2_with fail
  refine (clone52.known _ _ _ H1.out.2 H1.out.1).mono ?_
  rintro e w16 ⟨Ac, cc, rfl, HY, hb⟩
  replace HB := Aside0.mk (below_step HB.out hb)
  replace H1 := Aside0.mk (⟨H1.out.1, Kd.C_below H1.out.2 hb⟩ : _ ∧ _)
  replace H2 := Aside0.mk (⟨H2.out.1, Kd.C_below H2.out.2 hb⟩ : _ ∧ _)
  replace HX := Aside0.mk (⟨HX.out.1, Kd.C_below HX.out.2 hb⟩ : _ ∧ _)
  clear hb
  go_wp2_with fail
  refine (row52 1 rfl (bond_Change.calls 20 _ _ exB _ _ exH 5 100 exC 0 _ HX.out.2 HX.out.1 HY.out.2 HY.out.1 ex_change)).mono ?_
  rintro e w17 ⟨A3, c3, rfl, H3, hb⟩
  replace HB := Aside0.mk (below_step HB.out hb)
  replace H1 := Aside0.mk (⟨H1.out.1, Kd.C_below H1.out.2 hb⟩ : _ ∧ _)
  replace H2 := Aside0.mk (⟨H2.out.1, Kd.C_below H2.out.2 hb⟩ : _ ∧ _)
  replace HX := Aside0.mk (⟨HX.out.1, Kd.C_below HX.out.2 hb⟩ : _ ∧ _)
  replace HY := Aside0.mk (⟨HY.out.1, Kd.C_below HY.out.2 hb⟩ : _ ∧ _)
  clear hb
  clear HX
  clear HY
  go_wp2_with fail
  refine (bonds52.known _).mono ?_
  rintro e w18 ⟨Ab, cb, rfl, HX, hb⟩
  replace HB := Aside0.mk (below_step HB.out hb)
  replace H1 := Aside0.mk (⟨H1.out.1, Kd.C_below H1.out.2 hb⟩ : _ ∧ _)
  replace H2 := Aside0.mk (⟨H2.out.1, Kd.C_below H2.out.2 hb⟩ : _ ∧ _)
  replace H3 := Aside0.mk (⟨H3.out.1, Kd.C_below H3.out.2 hb⟩ : _ ∧ _)
  clear hb
  go_wp2_with fail
  refine (clone52.known _ _ _ H1.out.2 H1.out.1).mono ?_
  rintro e w19 ⟨Ac, cc, rfl, HY, hb⟩
  replace HB := Aside0.mk (below_step HB.out hb)
  replace H1 := Aside0.mk (⟨H1.out.1, Kd.C_below H1.out.2 hb⟩ : _ ∧ _)
  replace H2 := Aside0.mk (⟨H2.out.1, Kd.C_below H2.out.2 hb⟩ : _ ∧ _)
  replace H3 := Aside0.mk (⟨H3.out.1, Kd.C_below H3.out.2 hb⟩ : _ ∧ _)
  replace HX := Aside0.mk (⟨HX.out.1, Kd.C_below HX.out.2 hb⟩ : _ ∧ _)
  clear hb
  go_wp2_with fail
  refine (row52 0 rfl (bond_Release.calls _ _ exB _ _ exH 5 [] 0 _ HX.out.2 HX.out.1 HY.out.2 HY.out.1 ex_release)).mono ?_
  rintro e w20 ⟨A4, c4, rfl, H4, hb⟩
  replace HB := Aside0.mk (below_step HB.out hb)
  replace H1 := Aside0.mk (⟨H1.out.1, Kd.C_below H1.out.2 hb⟩ : _ ∧ _)
  replace H2 := Aside0.mk (⟨H2.out.1, Kd.C_below H2.out.2 hb⟩ : _ ∧ _)
  replace H3 := Aside0.mk (⟨H3.out.1, Kd.C_below H3.out.2 hb⟩ : _ ∧ _)
  replace HX := Aside0.mk (⟨HX.out.1, Kd.C_below HX.out.2 hb⟩ : _ ∧ _)
  replace HY := Aside0.mk (⟨HY.out.1, Kd.C_below HY.out.2 hb⟩ : _ ∧ _)
  clear hb
  clear HX
  clear HY
  clear H4
  go_wp2_with fail
  refine (bonds52.known _).mono ?_
  rintro e w21 ⟨Ab, cb, rfl, HX, hb⟩
  replace HB := Aside0.mk (below_step HB.out hb)
  replace H1 := Aside0.mk (⟨H1.out.1, Kd.C_below H1.out.2 hb⟩ : _ ∧ _)
  replace H2 := Aside0.mk (⟨H2.out.1, Kd.C_below H2.out.2 hb⟩ : _ ∧ _)
  replace H3 := Aside0.mk (⟨H3.out.1, Kd.C_below H3.out.2 hb⟩ : _ ∧ _)
  clear hb
  go_wp2_with fail
  refine (clone52.known _ _ _ H1.out.2 H1.out.1).mono ?_
  rintro e w22 ⟨Ac, cc, rfl, HY, hb⟩
  replace HB := Aside0.mk (below_step HB.out hb)
  replace H1 := Aside0.mk (⟨H1.out.1, Kd.C_below H1.out.2 hb⟩ : _ ∧ _)
  replace H2 := Aside0.mk (⟨H2.out.1, Kd.C_below H2.out.2 hb⟩ : _ ∧ _)
  replace H3 := Aside0.mk (⟨H3.out.1, Kd.C_below H3.out.2 hb⟩ : _ ∧ _)
  replace HX := Aside0.mk (⟨HX.out.1, Kd.C_below HX.out.2 hb⟩ : _ ∧ _)
  clear hb
  go_wp2_with fail
  refine (bond_Holds.calls _ _ exB _ _ exH (-1) 0 _ HX.out.2 HX.out.1 HY.out.2 HY.out.1 ex_holds).mono ?_
  rintro e w23 ⟨rfl, hb⟩
  replace HB := Aside0.mk (below_step HB.out hb)
  replace H1 := Aside0.mk (⟨H1.out.1, Kd.C_below H1.out.2 hb⟩ : _ ∧ _)
  replace H2 := Aside0.mk (⟨H2.out.1, Kd.C_below H2.out.2 hb⟩ : _ ∧ _)
  replace H3 := Aside0.mk (⟨H3.out.1, Kd.C_below H3.out.2 hb⟩ : _ ∧ _)
  replace HX := Aside0.mk (⟨HX.out.1, Kd.C_below HX.out.2 hb⟩ : _ ∧ _)
  replace HY := Aside0.mk (⟨HY.out.1, Kd.C_below HY.out.2 hb⟩ : _ ∧ _)
  clear hb
  clear HX
  clear HY
  clear H1
  go_wp2_with fail
  refine (bonds52.known _).mono ?_
  rintro e w24 ⟨Ab, cb, rfl, HX, hb⟩
  replace HB := Aside0.mk (below_step HB.out hb)
  replace H2 := Aside0.mk (⟨H2.out.1, Kd.C_below H2.out.2 hb⟩ : _ ∧ _)
  replace H3 := Aside0.mk (⟨H3.out.1, Kd.C_below H3.out.2 hb⟩ : _ ∧ _)
  clear hb
  go_wp2_with fail
  refine (bond_Check_s.calls _ _ exB (-1) 0 _ HX.out.2 HX.out.1 ex_check).mono ?_
  rintro e w25 ⟨rfl, hb⟩
  replace HB := Aside0.mk (below_step HB.out hb)
  replace H2 := Aside0.mk (⟨H2.out.1, Kd.C_below H2.out.2 hb⟩ : _ ∧ _)
  replace H3 := Aside0.mk (⟨H3.out.1, Kd.C_below H3.out.2 hb⟩ : _ ∧ _)
  replace HX := Aside0.mk (⟨HX.out.1, Kd.C_below HX.out.2 hb⟩ : _ ∧ _)
  clear hb
  clear HX
  go_wp2_with fail
  have hb := below_alloc (Below.refl _ _) (.cells #[.int .i64 1, .int .i64 0, .int .i64 20] 35) (w := w25)
  replace HB := Aside0.mk (below_step HB.out hb)
  replace H2 := Aside0.mk (⟨H2.out.1, Kd.C_below H2.out.2 hb⟩ : _ ∧ _)
  replace H3 := Aside0.mk (⟨H3.out.1, Kd.C_below H3.out.2 hb⟩ : _ ∧ _)
  clear hb
  refine (api_Hold_26.calls 5 _ _ exS _ _ exS true _ H2.out.2 H2.out.1 (C_exS _) (Nat.le_refl _) ex_eqS).mono ?_
  rintro e w27 ⟨rfl, hd⟩
  have hb := hd.below
  replace HB := Aside0.mk (below_step HB.out hb)
  clear H2
  replace H3 := Aside0.mk (⟨H3.out.1, Kd.C_below H3.out.2 hb⟩ : _ ∧ _)
  clear hb hd
  go_wp2_with fail
  have hb := below_alloc (Below.refl _ _) (.cells #[.int .i64 1, .int .i64 5, .int .i64 100] 35) (w := w27)
  replace HB := Aside0.mk (below_step HB.out hb)
  replace H3 := Aside0.mk (⟨H3.out.1, Kd.C_below H3.out.2 hb⟩ : _ ∧ _)
  clear hb
  refine (api_Hold_26.calls 5 _ _ exC _ _ exC true _ H3.out.2 H3.out.1 (C_exC _) (Nat.le_refl _) ex_eqC).mono ?_
  rintro e w29 ⟨rfl, hd⟩
  have hb := hd.below
  replace HB := Aside0.mk (below_step HB.out hb)
  clear H3
  clear hb hd
  go_wp2
  go_ret
  exact ⟨rfl, HB.out⟩

/-! ### spileref52_Few: function 11 -/
def spileref52_Few.f (l0 : List (S31)) (l1 : List (S35)) : Option (Bool) := if (l0.length : Int) ≤ 8 then (some (decide ((l1.length : Int) ≤ 17))) else (if (l0.length : Int) = 17 then (some (decide ((l1.length : Int) ≤ 17))) else (some false))
set_option maxHeartbeats 8000000 in
set_option maxRecDepth 100000 in
theorem spileref52_Few.calls (A0 : Option Addr) (c0 : Nat) (l0 : List (S31)) (A1 : Option Addr) (c1 : Nat) (l1 : List (S35)) (r : Bool) (w : World) (hr0 : Kd.C k31 w A0 l0.length l0) (hc0 : l0.length ≤ c0) (hr1 : Kd.C k35 w A1 l1.length l1) (hc1 : l1.length ≤ c1) (h : spileref52_Few.f l0 l1 = some r) :
  Calls Try.prog 11 #[.slice A0 l0.length c0, .slice A1 l1.length c1] w fun e w' => e = .returned (.bool r) ∧ Drawn0 w w' := by
 have HR0 := Aside0.mk hr0
 have HC0 := Aside0.mk hc0
 clear hr0 hc0
 have HR1 := Aside0.mk hr1
 have HC1 := Aside0.mk hc1
 clear hr1 hc1
 have H : (if (l0.length : Int) ≤ 8 then (some (decide ((l1.length : Int) ≤ 17))) else (if (l0.length : Int) = 17 then (some (decide ((l1.length : Int) ≤ 17))) else (some false))) = some r := h
 clear h
 by_cases c3 : (l0.length : Int) ≤ 8
 ·rw [if_pos c3] at H
  have c3b0 : decide ((l0.length : Int) ≤ 8) = true := decide_eq_true c3
  have c3b1 : decide (l0.length ≤ 8) = true := decide_eq_true (by omega)
  clear c3
  obtain rfl := Option.some.inj H
  go_enter Try.func11, Try.ntmps11
  go_wp2
  go_ret
  exact ⟨by first | rfl | (simp; done) | (simp [*]; done), by repeat (first | exact Drawn0.refl _ | apply Drawn0.step)⟩
 ·rw [if_neg c3] at H
  have c3b0 : decide ((l0.length : Int) ≤ 8) = false := decide_eq_false c3
  have c3b1 : decide (l0.length ≤ 8) = false := decide_eq_false (by omega)
  clear c3
  by_cases c4 : (l0.length : Int) = 17
  ·rw [if_pos c4] at H
   have c4b0 : ((l0.length : Int) == 17) = true := beq_iff_eq.mpr c4
   have c4b1 : ((l0.length : Int) != 17) = false := bne_eq_false_iff_eq.mpr c4
   clear c4
   obtain rfl := Option.some.inj H
   go_enter Try.func11, Try.ntmps11
   go_wp2
   go_ret
   exact ⟨by first | rfl | (simp; done) | (simp [*]; done), by repeat (first | exact Drawn0.refl _ | apply Drawn0.step)⟩
  ·rw [if_neg c4] at H
   have c4b0 : ((l0.length : Int) == 17) = false := beq_eq_false_iff_ne.mpr c4
   have c4b1 : ((l0.length : Int) != 17) = true := bne_iff_ne.mpr c4
   obtain rfl := Option.some.inj H
   go_enter Try.func11, Try.ntmps11
   go_wp2
   go_ret
   exact ⟨by first | rfl | (simp; done) | (simp [*]; done), by repeat (first | exact Drawn0.refl _ | apply Drawn0.step)⟩

/-! ### api_Bond_13: function 13 -/
-- MAKING
theorem api_Bond_13.info : (Try.prog.info? 31).map (fun i => (i.zero, i.size, i.bytes)) = some (some (.agg #[(.int .i64 0), (.int .i64 0), (.int .i64 0), (.int .i64 0)]), 4, 32) := by kernel_rfl
theorem api_Bond_13.eqn (w : World) (a : Option Addr) (l c : Nat) : (binOp .eql 22 (.slice a l c) (.slice none 0 0)).run Try.prog w = .ok (.bool a.isNone) w := by
  simp only [binOp]
  simp [run_equal_slice_nil w 22 31 a l c Try.underlying22]
section
attribute [local go_sem] api_Bond_13.eqn
def api_Bond_13.f (l0 : List S31) : Option (List S31) := if l0.length < 4398046511104 then some l0 else none
set_option maxHeartbeats 4000000 in
set_option maxRecDepth 100000 in
theorem api_Bond_13.calls (A0 : Option Addr) (c0 : Nat) (l0 : List S31) (r : List S31) (w : World) (hr0 : Kd.C k31 w A0 l0.length l0) (hc0 : l0.length ≤ c0) (h : api_Bond_13.f l0 = some r) :
    Calls Try.prog 13 #[.slice A0 l0.length c0] w fun e w' => ∃ v0_ : Value, e = .returned (v0_) ∧ Kd.R k31 31 w' w.heap.size (fun _ => True) v0_ r ∧ Below w.heap.size w w' := by
  unfold api_Bond_13.f at h
  by_cases hl : l0.length < 4398046511104
  case neg => rw [if_neg hl] at h; exact absurd h (by simp)
  rw [if_pos hl] at h
  obtain rfl := Option.some.inj h
  clear h
  have HL := Aside0.mk hl
  have HR := Aside0.mk hr0
  clear hl
  cases A0 with
  | none =>
    have e0 : l0 = [] := by
      rcases Nat.eq_zero_or_pos l0.length with h0 | h0
      · exact List.eq_nil_of_length_eq_zero h0
      · obtain ⟨ad, h1, _⟩ := hr0.2.2 h0
        cases h1
    subst e0
    clear HR HL hc0 hr0
    go_enter Try.func13, Try.ntmps13
    go_wp2
    go_ret
    exact ⟨_, rfl, Kd.R_nil _ _ _ _ _, Below.refl _ _⟩
  | some ad =>
    clear hr0
    go_enter Try.func13, Try.ntmps13
    go_wp2_with (first | ((with_reducible refine gate_dst (N := 5) rfl ?_); refine Kd.R_lit k31 _ 31 ?hg (N := 5) ?hd (xs := ([] : List (S31))) (inner := []) (ok := fun _ => True) (okp := fun _ => True) ?hr ?hp (fun _ hk => hk) trivial (Below.refl _ _) (Nat.le_refl _) (by simp) ?_; (case hd => rfl); (case hg => rfl); (case hr => first | (go_simp; done) | (go_simp; rfl)); (case hp => exact (Reps.none _ _)); intro v1 w1 ho1 hb hg_ hnew_; clear hg_ hnew_; have HO1 := Aside0.mk ho1; have HB1 := Aside0.mk hb; clear ho1 hb) | ((with_reducible refine gate_builtin (b := .append) (xs := #[.tmp 5, .tmp 6]) rfl ?_); at_builtin; refine Kd.R_append_rows k31 (w0 := w) w.heap.size rfl (.tmp 5) (.tmp 6) 22 31 (.agg #[(.int .i64 0), (.int .i64 0), (.int .i64 0), (.int .i64 0)]) 32 rfl Try.underlying22 api_Bond_13.info rfl (by decide) (by omega) v1 [] l0 _ _ _ (fun _ => True) (fun _ => False) rfl rfl ?aO ?aR (fun _ _ h => h) (fun _ h => h.elim) ?aF ?aB ?aS ?aL ?_; (case aR => exact (Kd.C_below HR.out HB1.out)); (case aB => exact HB1.out); (case aF => exact (fun _ _ => trivial)); (case aO => exact HO1.out); (case aS => exact HB1.out.size); (case aL => have := HL.out; simp only [List.length_nil]; omega); intro v2 w2 ho hb hg hat; clear hg hat; have HO2 := Aside0.mk ho; have HB2 := Aside0.mk hb; clear ho hb))
    go_ret
    exact ⟨_, rfl, HO2.out, HB2.out⟩
end

/-! ### spileref47_Between: function 52 -/
def spileref47_Between.f (a0 : Int) (a1 : Int) (a2 : Int) : Option (Bool) := if a0 ≥ a1 then (some (decide (a0 ≤ a2))) else (some false)
set_option maxHeartbeats 8000000 in
set_option maxRecDepth 100000 in
theorem spileref47_Between.calls (a0 : Int) (a1 : Int) (a2 : Int) (r : Bool) (w : World) (h : spileref47_Between.f a0 a1 a2 = some r) :
  Calls Try.prog 52 #[.int .i64 a0, .int .i64 a1, .int .i64 a2] w fun e w' => e = .returned (.bool r) ∧ Drawn0 w w' := by
 have H : (if a0 ≥ a1 then (some (decide (a0 ≤ a2))) else (some false)) = some r := h
 clear h
 by_cases c4 : a0 ≥ a1
 ·rw [if_pos c4] at H
  have c4b0 : decide (a1 ≤ a0) = true := decide_eq_true c4
  clear c4
  obtain rfl := Option.some.inj H
  go_enter Try.func52, Try.ntmps52
  go_wp2
  go_ret
  exact ⟨by first | rfl | (simp; done) | (simp [*]; done), by repeat (first | exact Drawn0.refl _ | apply Drawn0.step)⟩
 ·rw [if_neg c4] at H
  have c4b0 : decide (a1 ≤ a0) = false := decide_eq_false c4
  clear c4
  obtain rfl := Option.some.inj H
  go_enter Try.func52, Try.ntmps52
  go_wp2
  go_ret
  exact ⟨by first | rfl | (simp; done) | (simp [*]; done), by repeat (first | exact Drawn0.refl _ | apply Drawn0.step)⟩

/-! ### spileref52_between: function 38 -/
def spileref52_between.f (a0 : Int) (a1 : Int) (a2 : Int) : Option (Bool) := (spileref47_Between.f a0 a1 a2).bind fun t153 => (some t153)
set_option maxHeartbeats 8000000 in
set_option maxRecDepth 100000 in
theorem spileref52_between.calls (a0 : Int) (a1 : Int) (a2 : Int) (r : Bool) (w : World) (h : spileref52_between.f a0 a1 a2 = some r) :
  Calls Try.prog 38 #[.int .i64 a0, .int .i64 a1, .int .i64 a2] w fun e w' => e = .returned (.bool r) ∧ Drawn0 w w' := by
 have H : ((spileref47_Between.f a0 a1 a2).bind fun t153 => (some t153)) = some r := h
 clear h
 replace H := Option.bind_eq_some_iff.mp H
 obtain ⟨t153, A40, H⟩ := H
 replace H : (some t153) = some r := H
 have A4 := Aside0.mk A40
 clear A40
 obtain rfl := Option.some.inj H
 go_enter Try.func38, Try.ntmps38
 go_wp2_with (first | ((with_reducible refine gate_callee (f := 52) rfl ?_); refine goesL_ (some 10) rfl rfl Try.func52 (by kernel_rfl) rfl #[.int .i64 a0, .int .i64 a1, .int .i64 a2] rfl (by (try simp only [List.map_toArray, List.map_cons, List.map_nil]); first | done | rfl | (simp only [List.length_drop, List.length_take]; rfl)) ?_; (with_reducible refine (spileref47_Between.calls a0 a1 a2 t153 _ A4.out).mono ?_); rintro e w' ⟨rfl, ⟨nd, rfl⟩⟩; refine ⟨_, rfl, ?_⟩))
 go_ret
 exact ⟨by first | rfl | (simp; done) | (simp [*]; done), by repeat (first | exact Drawn0.refl _ | apply Drawn0.step)⟩

end Go.Proofs.Ytdolabpkgienkaa.PF
