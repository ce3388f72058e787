/- The walk through the law BondBinds of package spilelaw52. -/
import Derived.Test.YtdolabpkgienkaaMBnd52b
import Derived.Test.YtdolabpkgienkaaMBnd52c
import Derived.Test.YtdolabpkgienkaaMBnd52d
import Derived.Test.YtdolabpkgienkaaMBnd52e
import Derived.Test.YtdolabpkgienkaaMBnd52s
import Derived.Test.YtdolabpkgienkaaPF0
import Derived.Test.YtdolabpkgienkaaPF10
import Derived.Test.YtdolabpkgienkaaPF15
import Derived.Test.YtdolabpkgienkaaPF16
import Derived.Test.YtdolabpkgienkaaPF17
import Derived.Test.YtdolabpkgienkaaPF5
import Derived.Test.YtdolabpkgienkaaPF7
import Derived.Test.YtdolabpkgienkaaPF8
namespace Go.Proofs.Ytdolabpkgienkaa.PF
open Go.RowKit Go.Proofs.YtdolabpkgienkaaW.PrintWords Go.Proofs.YtdolabpkgienkaaW.PrintLast Go.Proofs.YtdolabpkgienkaaW.PrintMore
set_option linter.unusedVariables false
set_option linter.unusedSimpArgs false
def spilelaw52_BondBinds.f (l : List S31) (h : List S35) (x0 x1 x2 day m a : Int) : Option Bool := if -9223372036854775808 ≤ m ∧ m ≤ 9223372036854775807 then some true else none
theorem R_rowsE {f : Nat} {args : Array Value} {w : World} {r1 : List S35} {r2 : Int} (h : Calls Try.prog f args w fun e w' => ∃ v0_ : Value, e = .returned (.tuple #[v0_, .int .i64 r2]) ∧ Kd.R k35 35 w' w.heap.size (fun _ => True) v0_ r1 ∧ Below w.heap.size w w') :
    Calls Try.prog f args w fun e w' => ∃ A c, e = .returned (.tuple #[.slice A r1.length c, .int .i64 r2]) ∧ Aside0 (r1.length ≤ c ∧ Kd.C k35 w' A r1.length r1) ∧ Below w.heap.size w w' := by
  refine h.mono ?_
  rintro e w' ⟨v, rfl, hR, hb⟩
  obtain ⟨A, c, rfl⟩ := Kd.R_slice hR
  exact ⟨A, c, rfl, ⟨(Kd.R_reads' hR).2.1, (Kd.R_reads' hR).2.2⟩, hb⟩
theorem cloneB {l : List S31} (hl : l.length ≤ 1000) (A : Option Addr) (c : Nat) (hc : l.length ≤ c) (w : World) (hr : Kd.C k31 w A l.length l) : Calls Try.prog 13 #[.slice A l.length c] w fun e w' => ∃ A c, e = .returned (.slice A l.length c) ∧ Aside0 (l.length ≤ c ∧ Kd.C k31 w' A l.length l) ∧ Below w.heap.size w w' := by
  refine (api_Bond_13.calls A c l l w hr hc (clB hl)).mono ?_
  rintro e w' ⟨v, rfl, hR, hb⟩
  obtain ⟨A, c, rfl⟩ := Kd.R_slice hR
  exact ⟨A, c, rfl, ⟨(Kd.R_reads' hR).2.1, (Kd.R_reads' hR).2.2⟩, hb⟩
theorem cloneH {l : List S35} (hl : l.length ≤ 1000) (A : Option Addr) (c : Nat) (hc : l.length ≤ c) (w : World) (hr : Kd.C k35 w A l.length l) : Calls Try.prog 16 #[.slice A l.length c] w fun e w' => ∃ A c, e = .returned (.slice A l.length c) ∧ Aside0 (l.length ≤ c ∧ Kd.C k35 w' A l.length l) ∧ Below w.heap.size w w' := by
  refine (api_Hold_16.calls A c l l w hr hc (clH hl)).mono ?_
  rintro e w' ⟨v, rfl, hR, hb⟩
  obtain ⟨A, c, rfl⟩ := Kd.R_slice hR
  exact ⟨A, c, rfl, ⟨(Kd.R_reads' hR).2.1, (Kd.R_reads' hR).2.2⟩, hb⟩
theorem bnd_len (l : List S31) (h : List S35) (x : S35) (day : Int) (hh : h.length ≤ 17) : (bndR l h x day).1.length ≤ 1000 := by
  obtain ⟨⟨a, r⟩, e⟩ : ∃ q, bndR l h x day = q := ⟨_, rfl⟩
  by_cases hr : r = 0
  · subst hr
    obtain ⟨_, _, _, _, _, _, rfl⟩ := bnd_ok e
    rw [e]
    simp only
    rw [len_ins]
    omega
  · have := bnd_err (l := l) (h := h) (x := x) (day := day) (by rw [e]; exact hr)
    rw [this]
    simp
theorem chg_len (l : List S31) (h : List S35) (m a : Int) (hh : h.length ≤ 17) : (chgR l h m a).1.length ≤ 1000 := by
  obtain ⟨⟨c, r⟩, e⟩ : ∃ q, chgR l h m a = q := ⟨_, rfl⟩
  by_cases hr : r = 0
  · subst hr
    obtain ⟨_, _, _, _, rfl⟩ := chg_ok e
    rw [e]
    simp only
    rw [set_len]
    omega
  · have := chg_err (l := l) (h := h) (m := m) (v := a) (by rw [e]; exact hr)
    rw [this]
    simp
theorem rel_len (l : List S31) (h : List S35) (m : Int) (hh : h.length ≤ 17) : (relR l h m).1.length ≤ 1000 := by
  obtain ⟨⟨c, r⟩, e⟩ : ∃ q, relR l h m = q := ⟨_, rfl⟩
  by_cases hr : r = 0
  · subst hr
    obtain ⟨_, _, rfl⟩ := rel_ok e
    rw [e]
    have : (delH h m).length ≤ h.length := List.length_filter_le _ _
    simp only
    omega
  · have := rel_err (l := l) (h := h) (m := m) (by rw [e]; exact hr)
    rw [this]
    simp
set_option maxHeartbeats 8000000 in
set_option maxRecDepth 100000 in
theorem spilelaw52_BondBinds.calls (A0 : Option Addr) (c0 : Nat) (l : List S31) (A1 : Option Addr) (c1 : Nat) (h : List S35) (x0 x1 x2 day m a : Int) (r : Bool) (w : World) (hr0 : Kd.C k31 w A0 l.length l) (hc0 : l.length ≤ c0) (hr1 : Kd.C k35 w A1 h.length h) (hc1 : h.length ≤ c1) (hf : spilelaw52_BondBinds.f l h x0 x1 x2 day m a = some r) :
    Calls Try.prog 4 #[.slice A0 l.length c0, .slice A1 h.length c1, .agg #[.int .i64 x0, .int .i64 x1, .int .i64 x2], .int .i64 day, .int .i64 m, .int .i64 a] w fun e w' => e = .returned (.bool r) ∧ Below w.heap.size w w' := by
  unfold spilelaw52_BondBinds.f at hf
  by_cases hm : -9223372036854775808 ≤ m ∧ m ≤ 9223372036854775807
  case neg => rw [if_neg hm] at hf; cases hf
  rw [if_pos hm] at hf
  have hf := Option.some.inj hf
  subst hf
  have hu := Try.underlying35
  have HB := Aside0.mk (Below.refl w.heap.size w)
  have hfew := few52 l h
  by_cases hf : (((l.length : Int) ≤ 8 ∨ (l.length : Int) = 17) ∧ (h.length : Int) ≤ 17)
  case neg =>
    rw [decide_eq_false hf] at hfew
    have HFW := Aside0.mk (fun (W : World) (hb : Below w.heap.size w W) => spileref52_Few.calls A0 c0 l A1 c1 h false W (Kd.C_below hr0 hb) hc0 (Kd.C_below hr1 hb) hc1 hfew)
    clear hr0 hr1 hc0 hc1 hf hfew hm
    go_enter Try.func4, Try.ntmps4
    go_wp2_with (first
      | ((with_reducible refine gate_dst (N := 8) rfl ?_); refine box_event ?hg (N := 8) ?hd (cs := #[.int .i64 x0, .int .i64 x1, .int .i64 x2]) (t := 35) ?hr ?_; (case hd => rfl); (case hg => rfl); (case hr => first | (go_simp; done) | (go_simp; rfl)); intro g8 hg8 wy hbox hb; replace HB := Aside0.mk (below_step HB.out hb); have d0 : wy.cell? ⟨g8, 0, none⟩ = some (.int .i64 x0) := blk_cell hbox 0; have d1 : wy.cell? ⟨g8, 1, none⟩ = some (.int .i64 x1) := blk_cell hbox 1; have d2 : wy.cell? ⟨g8, 2, none⟩ = some (.int .i64 x2) := blk_cell hbox 2; clear hb hbox hg8)
      | (go_at_call 10; refine (spilelaw52_awake.calls true _ rfl).mono ?_; rintro e' wz ⟨rfl, hb⟩; replace HB := Aside0.mk (below_step HB.out hb); replace d0 := pw_cell_below hb d0; replace d1 := pw_cell_below hb d1; replace d2 := pw_cell_below hb d2; clear hb)
      | (go_at_call 11; refine (HFW.out _ HB.out).mono ?_; rintro e' wz ⟨rfl, hd⟩; have hb := hd.below; replace HB := Aside0.mk (below_step HB.out hb); replace d0 := pw_cell_below hb d0; replace d1 := pw_cell_below hb d1; replace d2 := pw_cell_below hb d2; clear hb hd))
    go_ret
    exact ⟨rfl, HB.out⟩
  rw [decide_eq_true hf] at hfew
  have hl : l.length ≤ 1000 := by omega
  have hh : h.length ≤ 17 := by omega
  have HFW := Aside0.mk (fun (W : World) (hb : Below w.heap.size w W) => spileref52_Few.calls A0 c0 l A1 c1 h true W (Kd.C_below hr0 hb) hc0 (Kd.C_below hr1 hb) hc1 hfew)
  have HCB := Aside0.mk (fun (W : World) (hb : Below w.heap.size w W) => cloneB hl A0 c0 hc0 W (Kd.C_below hr0 hb))
  have HCH := Aside0.mk (fun (W : World) (hb : Below w.heap.size w W) => cloneH (show h.length ≤ 1000 by omega) A1 c1 hc1 W (Kd.C_below hr1 hb))
  obtain ⟨k1, hk1⟩ := (rBind_ev hl h x0 x1 x2 day).ex
  obtain ⟨k2, hk2⟩ := (pChg_ev (l := l) h a hm).ex
  obtain ⟨k3, hk3⟩ := (rChg_ev hl h m a).ex
  obtain ⟨k4, hk4⟩ := (rRel_ev hl h m).ex
  have hb1 := bnd_len l h ⟨x0, x1, x2⟩ day hh
  have hb2 := chg_len l h m a hh
  have hb3 := rel_len l h m hh
  obtain ⟨n1, hn1⟩ := (eqH hb1).ex
  obtain ⟨n2, hn2⟩ := (eqH hb2).ex
  obtain ⟨n3, hn3⟩ := (eqH hb3).ex
  have hp1 := pBind l h x0 x1 x2 day
  have hp3 := pRel l h hm
  obtain ⟨⟨ra, re⟩, e1⟩ : ∃ q, bndR l h ⟨x0, x1, x2⟩ day = q := ⟨_, rfl⟩
  obtain ⟨⟨ca, ce⟩, e2⟩ : ∃ q, chgR l h m a = q := ⟨_, rfl⟩
  obtain ⟨⟨la, le⟩, e3⟩ : ∃ q, relR l h m = q := ⟨_, rfl⟩
  rw [e1] at hk1 hb1 hn1 hp1
  rw [e2] at hk2 hk3 hb2 hn2
  rw [e3] at hk4 hb3 hn3 hp3
  simp only at hn1 hn2 hn3
  have HP1 := Aside0.mk (fun (W : World) (A A' : Option Addr) (c c' : Nat) (h1 : l.length ≤ c ∧ Kd.C k31 W A l.length l) (h2 : h.length ≤ c' ∧ Kd.C k35 W A' h.length h) => R_rowsE (bond_Bind.calls A c l A' c' h x0 x1 x2 day ra re W h1.2 h1.1 h2.2 h2.1 hp1))
  have HP2 := Aside0.mk (fun (W : World) (A A' : Option Addr) (c c' : Nat) (h1 : l.length ≤ c ∧ Kd.C k31 W A l.length l) (h2 : h.length ≤ c' ∧ Kd.C k35 W A' h.length h) => R_rowsE (bond_Change.calls k2 A c l A' c' h m a ca ce W h1.2 h1.1 h2.2 h2.1 hk2))
  have HP3 := Aside0.mk (fun (W : World) (A A' : Option Addr) (c c' : Nat) (h1 : l.length ≤ c ∧ Kd.C k31 W A l.length l) (h2 : h.length ≤ c' ∧ Kd.C k35 W A' h.length h) => R_rowsE (bond_Release.calls A c l A' c' h m la le W h1.2 h1.1 h2.2 h2.1 hp3))
  have HR1 := Aside0.mk (fun (W : World) (hb : Below w.heap.size w W) => R_rowsE (spileref52_Bind.calls k1 A0 c0 l A1 c1 h x0 x1 x2 day ra re W (Kd.C_below hr0 hb) hc0 (Kd.C_below hr1 hb) hc1 hk1))
  have HR2 := Aside0.mk (fun (W : World) (hb : Below w.heap.size w W) => R_rowsE (spileref52_Change.calls k3 A0 c0 l A1 c1 h m a ca ce W (Kd.C_below hr0 hb) hc0 (Kd.C_below hr1 hb) hc1 hk3))
  have HR3 := Aside0.mk (fun (W : World) (hb : Below w.heap.size w W) => R_rowsE (spileref52_Release.calls k4 A0 c0 l A1 c1 h m la le W (Kd.C_below hr0 hb) hc0 (Kd.C_below hr1 hb) hc1 hk4))
  have HQ1 := Aside0.mk (fun (W : World) (A A' : Option Addr) (c c' : Nat) (h1 : ra.length ≤ c ∧ Kd.C k35 W A ra.length ra) (h2 : ra.length ≤ c' ∧ Kd.C k35 W A' ra.length ra) => api_Hold_26.calls n1 A c ra A' c' ra true W h1.2 h1.1 h2.2 h2.1 hn1)
  have HQ2 := Aside0.mk (fun (W : World) (A A' : Option Addr) (c c' : Nat) (h1 : ca.length ≤ c ∧ Kd.C k35 W A ca.length ca) (h2 : ca.length ≤ c' ∧ Kd.C k35 W A' ca.length ca) => api_Hold_26.calls n2 A c ca A' c' ca true W h1.2 h1.1 h2.2 h2.1 hn2)
  have HQ3 := Aside0.mk (fun (W : World) (A A' : Option Addr) (c c' : Nat) (h1 : la.length ≤ c ∧ Kd.C k35 W A la.length la) (h2 : la.length ≤ c' ∧ Kd.C k35 W A' la.length la) => api_Hold_26.calls n3 A c la A' c' la true W h1.2 h1.1 h2.2 h2.1 hn3)
  have b1 : (re == re) = true := by simp
  have b2 : (ce == ce) = true := by simp
  have b3 : (le == le) = true := by simp
  clear hr0 hr1 hc0 hc1 hf hfew hm hk1 hk2 hk3 hk4 hb1 hb2 hb3 hn1 hn2 hn3 hp1 hp3 e1 e2 e3 hl hh
  go_enter Try.func4, Try.ntmps4
  go_upto_region 3 with (first
    | ((with_reducible refine gate_dst (N := 8) rfl ?_); refine box_event ?hg (N := 8) ?hd (cs := #[.int .i64 x0, .int .i64 x1, .int .i64 x2]) (t := 35) ?hr ?_; (case hd => rfl); (case hg => rfl); (case hr => first | (go_simp; done) | (go_simp; rfl)); intro g8 hg8 wy hbox hb; replace HB := Aside0.mk (below_step HB.out hb); have d0 : wy.cell? ⟨g8, 0, none⟩ = some (.int .i64 x0) := blk_cell hbox 0; have d1 : wy.cell? ⟨g8, 1, none⟩ = some (.int .i64 x1) := blk_cell hbox 1; have d2 : wy.cell? ⟨g8, 2, none⟩ = some (.int .i64 x2) := blk_cell hbox 2; clear hb hbox hg8)
    | (go_at_call 10; refine (spilelaw52_awake.calls true _ rfl).mono ?_; rintro e' wz ⟨rfl, hb⟩; replace HB := Aside0.mk (below_step HB.out hb); replace d0 := pw_cell_below hb d0; replace d1 := pw_cell_below hb d1; replace d2 := pw_cell_below hb d2; clear hb)
    | (go_at_call 11; refine (HFW.out _ HB.out).mono ?_; rintro e' wz ⟨rfl, hd⟩; have hb := hd.below; replace HB := Aside0.mk (below_step HB.out hb); replace d0 := pw_cell_below hb d0; replace d1 := pw_cell_below hb d1; replace d2 := pw_cell_below hb d2; clear hb hd))
  go_cut [13, 14] (fun v13 v14 wc => ∃ A c, v13 = .slice A ra.length c ∧ v14 = .int .i64 re ∧ Aside0 (ra.length ≤ c ∧ Kd.C k35 wc A ra.length ra) ∧ Aside0 (wc.cell? ⟨g8, 0, none⟩ = some (.int .i64 x0) ∧ wc.cell? ⟨g8, 1, none⟩ = some (.int .i64 x1) ∧ wc.cell? ⟨g8, 2, none⟩ = some (.int .i64 x2)) ∧ Aside0 (Below w.heap.size w wc))
  case first =>
    replace HB := Aside0.mk (below_drew1 HB.out)
    replace d0 : wz.drew.cell? _ = _ := d0
    replace d1 : wz.drew.cell? _ = _ := d1
    replace d2 : wz.drew.cell? _ = _ := d2
    go_region_with (first
      | (go_at_call 13; refine (HCB.out _ HB.out).mono ?_; rintro e' wz ⟨Ab, cb, rfl, HX, hb⟩; replace HB := Aside0.mk (below_step HB.out hb); replace d0 := pw_cell_below hb d0; replace d1 := pw_cell_below hb d1; replace d2 := pw_cell_below hb d2; clear hb)
      | (go_at_call 16; refine (HCH.out _ HB.out).mono ?_; rintro e' wz ⟨Ac, cc, rfl, HY, hb⟩; replace HB := Aside0.mk (below_step HB.out hb); replace HX := Aside0.mk (⟨HX.out.1, Kd.C_below HX.out.2 hb⟩ : _ ∧ _); replace d0 := pw_cell_below hb d0; replace d1 := pw_cell_below hb d1; replace d2 := pw_cell_below hb d2; clear hb)
      | (go_at_call 20; refine (HP1.out _ _ _ _ _ HX.out HY.out).mono ?_; rintro e' wz ⟨A, c, rfl, HZ, hb⟩; replace HB := Aside0.mk (below_step HB.out hb); replace d0 := pw_cell_below hb d0; replace d1 := pw_cell_below hb d1; replace d2 := pw_cell_below hb d2; clear hb))
    all_goals go_wp2
    all_goals go_meet
    all_goals exact ⟨_, _, rfl, rfl, HZ, ⟨d0, d1, d2⟩, HB⟩
  clear HB d0 d1 d2
  obtain ⟨A3, c3, rfl, rfl, HZ, HD, HB⟩ := hcut
  rename World => wx
  have d0 := HD.out.1
  have d1 := HD.out.2.1
  have d2 := HD.out.2.2
  clear HD
  go_wp2_with fail
  refine (HR1.out _ HB.out).mono ?_
  rintro e' wx ⟨A4, c4, rfl, HZ2, hb⟩
  replace HB := Aside0.mk (below_step HB.out hb)
  replace HZ := Aside0.mk (⟨HZ.out.1, Kd.C_below HZ.out.2 hb⟩ : _ ∧ _)
  clear hb
  clear d0 d1 d2
  go_wp2_with fail
  refine (HCB.out _ HB.out).mono ?_
  rintro e' wx ⟨Ab, cb, rfl, HX, hb⟩
  replace HB := Aside0.mk (below_step HB.out hb)
  replace HZ := Aside0.mk (⟨HZ.out.1, Kd.C_below HZ.out.2 hb⟩ : _ ∧ _)
  replace HZ2 := Aside0.mk (⟨HZ2.out.1, Kd.C_below HZ2.out.2 hb⟩ : _ ∧ _)
  clear hb
  go_wp2_with fail
  refine (HCH.out _ HB.out).mono ?_
  rintro e' wx ⟨Ac, cc, rfl, HY, hb⟩
  replace HB := Aside0.mk (below_step HB.out hb)
  replace HZ := Aside0.mk (⟨HZ.out.1, Kd.C_below HZ.out.2 hb⟩ : _ ∧ _)
  replace HZ2 := Aside0.mk (⟨HZ2.out.1, Kd.C_below HZ2.out.2 hb⟩ : _ ∧ _)
  replace HX := Aside0.mk (⟨HX.out.1, Kd.C_below HX.out.2 hb⟩ : _ ∧ _)
  clear hb
  go_wp2_with fail
  refine (HP2.out _ _ _ _ _ HX.out HY.out).mono ?_
  rintro e' wx ⟨A5, c5, rfl, HU, hb⟩
  clear HX
  clear HY
  replace HB := Aside0.mk (below_step HB.out hb)
  replace HZ := Aside0.mk (⟨HZ.out.1, Kd.C_below HZ.out.2 hb⟩ : _ ∧ _)
  replace HZ2 := Aside0.mk (⟨HZ2.out.1, Kd.C_below HZ2.out.2 hb⟩ : _ ∧ _)
  clear hb
  go_wp2_with fail
  refine (HR2.out _ HB.out).mono ?_
  rintro e' wx ⟨A6, c6, rfl, HU2, hb⟩
  replace HB := Aside0.mk (below_step HB.out hb)
  replace HZ := Aside0.mk (⟨HZ.out.1, Kd.C_below HZ.out.2 hb⟩ : _ ∧ _)
  replace HZ2 := Aside0.mk (⟨HZ2.out.1, Kd.C_below HZ2.out.2 hb⟩ : _ ∧ _)
  replace HU := Aside0.mk (⟨HU.out.1, Kd.C_below HU.out.2 hb⟩ : _ ∧ _)
  clear hb
  go_wp2_with fail
  refine (HCB.out _ HB.out).mono ?_
  rintro e' wx ⟨Ab, cb, rfl, HX, hb⟩
  replace HB := Aside0.mk (below_step HB.out hb)
  replace HZ := Aside0.mk (⟨HZ.out.1, Kd.C_below HZ.out.2 hb⟩ : _ ∧ _)
  replace HZ2 := Aside0.mk (⟨HZ2.out.1, Kd.C_below HZ2.out.2 hb⟩ : _ ∧ _)
  replace HU := Aside0.mk (⟨HU.out.1, Kd.C_below HU.out.2 hb⟩ : _ ∧ _)
  replace HU2 := Aside0.mk (⟨HU2.out.1, Kd.C_below HU2.out.2 hb⟩ : _ ∧ _)
  clear hb
  go_wp2_with fail
  refine (HCH.out _ HB.out).mono ?_
  rintro e' wx ⟨Ac, cc, rfl, HY, hb⟩
  replace HB := Aside0.mk (below_step HB.out hb)
  replace HZ := Aside0.mk (⟨HZ.out.1, Kd.C_below HZ.out.2 hb⟩ : _ ∧ _)
  replace HZ2 := Aside0.mk (⟨HZ2.out.1, Kd.C_below HZ2.out.2 hb⟩ : _ ∧ _)
  replace HU := Aside0.mk (⟨HU.out.1, Kd.C_below HU.out.2 hb⟩ : _ ∧ _)
  replace HU2 := Aside0.mk (⟨HU2.out.1, Kd.C_below HU2.out.2 hb⟩ : _ ∧ _)
  replace HX := Aside0.mk (⟨HX.out.1, Kd.C_below HX.out.2 hb⟩ : _ ∧ _)
  clear hb
  go_wp2_with fail
  refine (HP3.out _ _ _ _ _ HX.out HY.out).mono ?_
  rintro e' wx ⟨A7, c7, rfl, HV, hb⟩
  clear HX
  clear HY
  replace HB := Aside0.mk (below_step HB.out hb)
  replace HZ := Aside0.mk (⟨HZ.out.1, Kd.C_below HZ.out.2 hb⟩ : _ ∧ _)
  replace HZ2 := Aside0.mk (⟨HZ2.out.1, Kd.C_below HZ2.out.2 hb⟩ : _ ∧ _)
  replace HU := Aside0.mk (⟨HU.out.1, Kd.C_below HU.out.2 hb⟩ : _ ∧ _)
  replace HU2 := Aside0.mk (⟨HU2.out.1, Kd.C_below HU2.out.2 hb⟩ : _ ∧ _)
  clear hb
  go_wp2_with fail
  refine (HR3.out _ HB.out).mono ?_
  rintro e' wx ⟨A8, c8, rfl, HV2, hb⟩
  replace HB := Aside0.mk (below_step HB.out hb)
  replace HZ := Aside0.mk (⟨HZ.out.1, Kd.C_below HZ.out.2 hb⟩ : _ ∧ _)
  replace HZ2 := Aside0.mk (⟨HZ2.out.1, Kd.C_below HZ2.out.2 hb⟩ : _ ∧ _)
  replace HU := Aside0.mk (⟨HU.out.1, Kd.C_below HU.out.2 hb⟩ : _ ∧ _)
  replace HU2 := Aside0.mk (⟨HU2.out.1, Kd.C_below HU2.out.2 hb⟩ : _ ∧ _)
  replace HV := Aside0.mk (⟨HV.out.1, Kd.C_below HV.out.2 hb⟩ : _ ∧ _)
  clear hb
  go_wp2_with fail
  refine (HQ1.out _ _ _ _ _ HZ.out HZ2.out).mono ?_
  rintro e' wx ⟨rfl, hd⟩
  have hb := hd.below
  clear HZ
  clear HZ2
  replace HB := Aside0.mk (below_step HB.out hb)
  replace HU := Aside0.mk (⟨HU.out.1, Kd.C_below HU.out.2 hb⟩ : _ ∧ _)
  replace HU2 := Aside0.mk (⟨HU2.out.1, Kd.C_below HU2.out.2 hb⟩ : _ ∧ _)
  replace HV := Aside0.mk (⟨HV.out.1, Kd.C_below HV.out.2 hb⟩ : _ ∧ _)
  replace HV2 := Aside0.mk (⟨HV2.out.1, Kd.C_below HV2.out.2 hb⟩ : _ ∧ _)
  clear hb hd
  go_wp2_with fail
  refine (HQ2.out _ _ _ _ _ HU.out HU2.out).mono ?_
  rintro e' wx ⟨rfl, hd⟩
  have hb := hd.below
  clear HU
  clear HU2
  replace HB := Aside0.mk (below_step HB.out hb)
  replace HV := Aside0.mk (⟨HV.out.1, Kd.C_below HV.out.2 hb⟩ : _ ∧ _)
  replace HV2 := Aside0.mk (⟨HV2.out.1, Kd.C_below HV2.out.2 hb⟩ : _ ∧ _)
  clear hb hd
  go_wp2_with fail
  refine (HQ3.out _ _ _ _ _ HV.out HV2.out).mono ?_
  rintro e' wx ⟨rfl, hd⟩
  have hb := hd.below
  clear HV
  clear HV2
  replace HB := Aside0.mk (below_step HB.out hb)
  clear hb hd
  go_wp2
  go_ret
  exact ⟨rfl, HB.out⟩

end Go.Proofs.Ytdolabpkgienkaa.PF
