/- The walk through the law BondFits of package spilelaw52. -/
import Derived.Test.YtdolabpkgienkaaMBnd52
import Derived.Test.YtdolabpkgienkaaMBnd52b
import Derived.Test.YtdolabpkgienkaaMBnd52c
import Derived.Test.YtdolabpkgienkaaMBnd52d
import Derived.Test.YtdolabpkgienkaaMBnd52f
import Derived.Test.YtdolabpkgienkaaMBnd52h
import Derived.Test.YtdolabpkgienkaaPF0
import Derived.Test.YtdolabpkgienkaaPF1
import Derived.Test.YtdolabpkgienkaaPF10
import Derived.Test.YtdolabpkgienkaaPF3
import Derived.Test.YtdolabpkgienkaaPF4
import Derived.Test.YtdolabpkgienkaaPF5
import Derived.Test.YtdolabpkgienkaaPF7
import Derived.Test.YtdolabpkgienkaaPF9
namespace Go.Proofs.Ytdolabpkgienkaa.PF
open Go.RowKit Go.Proofs.YtdolabpkgienkaaW.PrintWords Go.Proofs.YtdolabpkgienkaaW.PrintLast Go.Proofs.YtdolabpkgienkaaW.PrintMore
set_option linter.unusedVariables false
set_option linter.unusedSimpArgs false
def spilelaw52_BondFits.f (l : List S31) (h : List S35) (a day m : Int) : Option Bool := some true
theorem fits_clo (g : Nat) (x0 x1 x2 m : Int) (W : World) (h : W.cell? ⟨g, 0, none⟩ = some (.int .i64 m)) :
    Calls Try.prog 32 (#[.agg #[.int .i64 x0, .int .i64 x1, .int .i64 x2]] ++ #[.pointer (some ⟨g, 0, none⟩)]) W fun e w' => e = .returned (.bool (x1 == m)) ∧ Below W.heap.size W w' := by
  have hu := Try.underlying35
  go_enter Try.func32, Try.ntmps32
  go_wp2_with ((with_reducible refine gate_dst (N := 2) rfl ?_); refine box_event ?hg (N := 2) ?hd (cs := #[.int .i64 x0, .int .i64 x1, .int .i64 x2]) (t := 35) ?hr ?_; (case hd => rfl); (case hg => rfl); (case hr => first | (go_simp; done) | (go_simp; rfl)); intro g2 hg w2 hbox hb; replace h := pw_cell_below hb h; have c1 : w2.cell? ⟨g2, 1, none⟩ = some (.int .i64 x1) := blk_cell hbox 1; have HB := Aside0.mk hb; clear hb hg hbox)
  go_ret
  exact ⟨rfl, HB.out⟩
theorem has_idx (h : List S35) (m : Int) : decide (0 ≤ idxP (fun j => (rd_T35 h (j : Int)).f1 == m) h.length 0) = has h m := by
  rw [Bool.eq_iff_iff, decide_eq_true_eq, idxP_any, has_iff]
  constructor
  · rintro ⟨j, _, h2, h3⟩
    have hj : j < h.length := by omega
    refine ⟨h[j], List.getElem_mem hj, ?_⟩
    rw [rdH hj] at h3
    simpa using h3
  · rintro ⟨x, hx, e⟩
    obtain ⟨j, hj, rfl⟩ := List.mem_iff_getElem.1 hx
    refine ⟨j, Nat.zero_le _, by omega, ?_⟩
    rw [rdH hj]
    simpa using e
set_option maxHeartbeats 8000000 in
set_option maxRecDepth 100000 in
theorem spilelaw52_BondFits.calls (A0 : Option Addr) (c0 : Nat) (l : List S31) (A1 : Option Addr) (c1 : Nat) (h : List S35) (a day m : Int) (r : Bool) (w : World) (hr0 : Kd.C k31 w A0 l.length l) (hc0 : l.length ≤ c0) (hr1 : Kd.C k35 w A1 h.length h) (hc1 : h.length ≤ c1) (hf : spilelaw52_BondFits.f l h a day m = some r) :
    Calls Try.prog 7 #[.slice A0 l.length c0, .slice A1 h.length c1, .int .i64 a, .int .i64 day, .int .i64 m] w fun e w' => e = .returned (.bool r) ∧ Below w.heap.size w w' := by
  have hf := Option.some.inj hf
  subst hf
  have hu1 := Try.underlying31
  have hu2 := Try.underlying35
  have HB := Aside0.mk (Below.refl w.heap.size w)
  have hfew := few52 l h
  by_cases hf : (((l.length : Int) ≤ 8 ∨ (l.length : Int) = 17) ∧ (h.length : Int) ≤ 17)
  case neg =>
    rw [decide_eq_false hf] at hfew
    have HFW := Aside0.mk (fun (W : World) (hb : Below w.heap.size w W) => spileref52_Few.calls A0 c0 l A1 c1 h false W (Kd.C_below hr0 hb) hc0 (Kd.C_below hr1 hb) hc1 hfew)
    clear hr0 hr1 hc0 hc1 hf hfew
    go_enter Try.func7, Try.ntmps7
    go_wp2_with (first
      | ((with_reducible refine gate_dst (N := 9) rfl ?_); refine box_event ?hg (N := 9) ?hd (cs := #[.int .i64 m]) (t := 3) ?hr ?_; (case hd => rfl); (case hg => rfl); (case hr => first | (go_simp; done) | (go_simp; rfl)); intro g9 hg9 wy hbox hb; replace HB := Aside0.mk (below_step HB.out hb); have d9 : wy.cell? ⟨g9, 0, none⟩ = some (.int .i64 m) := blk_cell hbox 0; clear hb hbox hg9)
      | (go_at_call 10; refine (spilelaw52_awake.calls true _ rfl).mono ?_; rintro e' wz ⟨rfl, hb⟩; replace HB := Aside0.mk (below_step HB.out hb); replace d9 := pw_cell_below hb d9; clear hb)
      | (go_at_call 11; refine (HFW.out _ HB.out).mono ?_; rintro e' wz ⟨rfl, hd⟩; have hb := hd.below; replace HB := Aside0.mk (below_step HB.out hb); replace d9 := pw_cell_below hb d9; clear hb hd))
    go_ret
    exact ⟨rfl, HB.out⟩
  rw [decide_eq_true hf] at hfew
  have hl : l.length ≤ 1000 := by omega
  have hh : h.length ≤ 17 := by omega
  have HFW := Aside0.mk (fun (W : World) (hb : Below w.heap.size w W) => spileref52_Few.calls A0 c0 l A1 c1 h true W (Kd.C_below hr0 hb) hc0 (Kd.C_below hr1 hb) hc1 hfew)
  clear hf hfew
  by_cases g1 : 15 < h.length
  · have g1a : decide (15 < h.length) = true := decide_eq_true g1
    have g1b : decide (15 < (h.length : Int)) = true := decide_eq_true (by omega)
    clear hr0 hr1 hc0 hc1 hl hh g1
    go_enter Try.func7, Try.ntmps7
    go_wp2_with (first
      | ((with_reducible refine gate_dst (N := 9) rfl ?_); refine box_event ?hg (N := 9) ?hd (cs := #[.int .i64 m]) (t := 3) ?hr ?_; (case hd => rfl); (case hg => rfl); (case hr => first | (go_simp; done) | (go_simp; rfl)); intro g9 hg9 wy hbox hb; replace HB := Aside0.mk (below_step HB.out hb); have d9 : wy.cell? ⟨g9, 0, none⟩ = some (.int .i64 m) := blk_cell hbox 0; clear hb hbox hg9)
      | (go_at_call 10; refine (spilelaw52_awake.calls true _ rfl).mono ?_; rintro e' wz ⟨rfl, hb⟩; replace HB := Aside0.mk (below_step HB.out hb); replace d9 := pw_cell_below hb d9; clear hb)
      | (go_at_call 11; refine (HFW.out _ HB.out).mono ?_; rintro e' wz ⟨rfl, hd⟩; have hb := hd.below; replace HB := Aside0.mk (below_step HB.out hb); replace d9 := pw_cell_below hb d9; clear hb hd))
    go_ret
    exact ⟨rfl, HB.out⟩
  have g1a : decide (15 < h.length) = false := decide_eq_false g1
  have g1b : decide (15 < (h.length : Int)) = false := decide_eq_false (by omega)
  by_cases g2 : m < 1
  · have g2a : decide (m < 1) = true := decide_eq_true g2
    clear hr0 hr1 hc0 hc1 hl hh g1 g2
    go_enter Try.func7, Try.ntmps7
    go_wp2_with (first
      | ((with_reducible refine gate_dst (N := 9) rfl ?_); refine box_event ?hg (N := 9) ?hd (cs := #[.int .i64 m]) (t := 3) ?hr ?_; (case hd => rfl); (case hg => rfl); (case hr => first | (go_simp; done) | (go_simp; rfl)); intro g9 hg9 wy hbox hb; replace HB := Aside0.mk (below_step HB.out hb); have d9 : wy.cell? ⟨g9, 0, none⟩ = some (.int .i64 m) := blk_cell hbox 0; clear hb hbox hg9)
      | (go_at_call 10; refine (spilelaw52_awake.calls true _ rfl).mono ?_; rintro e' wz ⟨rfl, hb⟩; replace HB := Aside0.mk (below_step HB.out hb); replace d9 := pw_cell_below hb d9; clear hb)
      | (go_at_call 11; refine (HFW.out _ HB.out).mono ?_; rintro e' wz ⟨rfl, hd⟩; have hb := hd.below; replace HB := Aside0.mk (below_step HB.out hb); replace d9 := pw_cell_below hb d9; clear hb hd))
    go_ret
    exact ⟨rfl, HB.out⟩
  have g2a : decide (m < 1) = false := decide_eq_false g2
  by_cases g3 : 1073741824 < m
  · have g3a : decide (1073741824 < m) = true := decide_eq_true g3
    clear hr0 hr1 hc0 hc1 hl hh g1 g2 g3
    go_enter Try.func7, Try.ntmps7
    go_wp2_with (first
      | ((with_reducible refine gate_dst (N := 9) rfl ?_); refine box_event ?hg (N := 9) ?hd (cs := #[.int .i64 m]) (t := 3) ?hr ?_; (case hd => rfl); (case hg => rfl); (case hr => first | (go_simp; done) | (go_simp; rfl)); intro g9 hg9 wy hbox hb; replace HB := Aside0.mk (below_step HB.out hb); have d9 : wy.cell? ⟨g9, 0, none⟩ = some (.int .i64 m) := blk_cell hbox 0; clear hb hbox hg9)
      | (go_at_call 10; refine (spilelaw52_awake.calls true _ rfl).mono ?_; rintro e' wz ⟨rfl, hb⟩; replace HB := Aside0.mk (below_step HB.out hb); replace d9 := pw_cell_below hb d9; clear hb)
      | (go_at_call 11; refine (HFW.out _ HB.out).mono ?_; rintro e' wz ⟨rfl, hd⟩; have hb := hd.below; replace HB := Aside0.mk (below_step HB.out hb); replace d9 := pw_cell_below hb d9; clear hb hd))
    go_ret
    exact ⟨rfl, HB.out⟩
  have g3a : decide (1073741824 < m) = false := decide_eq_false g3
  have eg : ∀ args w, (callFunc 32 args).run Try.prog w = .ok (.enter 32 args) w := enters_of Try.func32 (by kernel_rfl) rfl
  have HCF := Aside0.mk (fun (W : World) (g : Nat) (hb : Below w.heap.size w W) (hc : W.cell? ⟨g, 0, none⟩ = some (.int .i64 m)) => api_Hold_31.below 32 #[.pointer (some ⟨g, 0, none⟩)] A1 c1 h (fun j => (rd_T35 h (j : Int)).f1 == m) W eg (by omega) (Kd.C_below hr1 hb)
    (fun W' i h0 h1 hb' => by
      have := fits_clo g (rd_T35 h i).f0 (rd_T35 h i).f1 (rd_T35 h i).f2 m W' (pw_cell_below hb' hc)
      rw [show ((i.toNat : Nat) : Int) = i by omega]
      exact this))
  rw [has_idx] at HCF
  clear eg
  obtain ⟨hs, hhs⟩ : ∃ b, has h m = b := ⟨_, rfl⟩
  rw [hhs] at HCF
  cases hs with
  | true =>
    clear hr0 hr1 hc0 hc1 hl hh g1 g2 g3 hhs
    go_enter Try.func7, Try.ntmps7
    go_wp2_with (first
      | ((with_reducible refine gate_dst (N := 9) rfl ?_); refine box_event ?hg (N := 9) ?hd (cs := #[.int .i64 m]) (t := 3) ?hr ?_; (case hd => rfl); (case hg => rfl); (case hr => first | (go_simp; done) | (go_simp; rfl)); intro g9 hg9 wy hbox hb; replace HB := Aside0.mk (below_step HB.out hb); have d9 : wy.cell? ⟨g9, 0, none⟩ = some (.int .i64 m) := blk_cell hbox 0; clear hb hbox hg9)
      | (go_at_call 10; refine (spilelaw52_awake.calls true _ rfl).mono ?_; rintro e' wz ⟨rfl, hb⟩; replace HB := Aside0.mk (below_step HB.out hb); replace d9 := pw_cell_below hb d9; clear hb)
      | (go_at_call 11; refine (HFW.out _ HB.out).mono ?_; rintro e' wz ⟨rfl, hd⟩; have hb := hd.below; replace HB := Aside0.mk (below_step HB.out hb); replace d9 := pw_cell_below hb d9; clear hb hd)
      | (go_at_call 31; refine (HCF.out _ _ HB.out d9).mono ?_; rintro e' wz ⟨rfl, hb⟩; replace HB := Aside0.mk (below_step HB.out hb); replace d9 := pw_cell_below hb d9; clear hb))
    go_ret
    exact ⟨rfl, HB.out⟩
  | false =>
  have HCB := Aside0.mk (fun (W : World) (hb : Below w.heap.size w W) => cloneB hl A0 c0 hc0 W (Kd.C_below hr0 hb))
  have HCH := Aside0.mk (fun (W : World) (hb : Below w.heap.size w W) => cloneH (show h.length ≤ 1000 by omega) A1 c1 hc1 W (Kd.C_below hr1 hb))
  obtain ⟨k1, hk1⟩ := (pChoose_ev l h a day).ex
  obtain ⟨⟨id, e⟩, e1⟩ : ∃ q, choR l h a day = q := ⟨_, rfl⟩
  rw [e1] at hk1
  have HP1 := Aside0.mk (fun (W : World) (A A' : Option Addr) (c c' : Nat) (h1 : l.length ≤ c ∧ Kd.C k31 W A l.length l) (h2 : h.length ≤ c' ∧ Kd.C k35 W A' h.length h) => bond_Choose.calls k1 A c l A' c' h a day id e W h1.2 h1.1 h2.2 h2.1 hk1)
  have HFR := Aside0.mk (fun (b : S31) (hb : b ∈ l) (hR : RightH l h) => by
    have := pFree_ev hl h b.f0
    rw [fre_mem hR hb] at this
    obtain ⟨k, hk⟩ := this.ex
    exact (fun (W : World) (A A' : Option Addr) (c c' : Nat) (h1 : l.length ≤ c ∧ Kd.C k31 W A l.length l) (h2 : h.length ≤ c' ∧ Kd.C k35 W A' h.length h) => bond_Free.calls k A c l A' c' h b.f0 (b.f3 - sumH h b.f0) 0 W h1.2 h1.1 h2.2 h2.1 hk : ∀ (W : World) (A A' : Option Addr) (c c' : Nat), (l.length ≤ c ∧ Kd.C k31 W A l.length l) → (h.length ≤ c' ∧ Kd.C k35 W A' h.length h) → Calls Try.prog 18 #[.slice A l.length c, .slice A' h.length c', .int .i64 b.f0] W fun e w' => e = .returned (.tuple #[.int .i64 (b.f3 - sumH h b.f0), .int .i64 0]) ∧ Below W.heap.size W w'))
  have HBI := Aside0.mk (fun (b0 : Int) (q1 : List S35) (q2 : Int) (hq : bndR l h ⟨b0, m, a⟩ day = (q1, q2)) (W : World) (A A' : Option Addr) (c c' : Nat) (h1 : l.length ≤ c ∧ Kd.C k31 W A l.length l) (h2 : h.length ≤ c' ∧ Kd.C k35 W A' h.length h) => R_rowsE (bond_Bind.calls A c l A' c' h b0 m a day q1 q2 W h1.2 h1.1 h2.2 h2.1 (by rw [pBind, hq])))
  have HAB := Aside0.mk (fun (W : World) (hb : Below w.heap.size w W) => at_T31 (Kd.C_below hr0 hb))
  have HLL := Aside0.mk hl
  have hsp := cho_spec e1
  have HM := Aside0.mk (show 1 ≤ m ∧ m ≤ 1073741824 by omega)
  have HHL := Aside0.mk (show h.length ≤ 15 by omega)
  have HNO := Aside0.mk hhs
  clear hr0 hr1 hc0 hc1 hl hh g1 g2 g3 hhs e1 hk1
  rcases hsp with ⟨n0, n17, rfl⟩ | ⟨hR, ha, hday, hsp⟩
  · have q1 : (e != 0) = true := bne_iff_ne.mpr n0
    have q2 : (e != 17) = true := bne_iff_ne.mpr n17
    clear n0 n17 HFR HBI HAB HM HHL HNO
    go_enter Try.func7, Try.ntmps7
    go_upto_region 3 with (first
      | ((with_reducible refine gate_dst (N := 9) rfl ?_); refine box_event ?hg (N := 9) ?hd (cs := #[.int .i64 m]) (t := 3) ?hr ?_; (case hd => rfl); (case hg => rfl); (case hr => first | (go_simp; done) | (go_simp; rfl)); intro g9 hg9 wy hbox hb; replace HB := Aside0.mk (below_step HB.out hb); have d9 : wy.cell? ⟨g9, 0, none⟩ = some (.int .i64 m) := blk_cell hbox 0; clear hb hbox hg9)
      | (go_at_call 10; refine (spilelaw52_awake.calls true _ rfl).mono ?_; rintro e' wz ⟨rfl, hb⟩; replace HB := Aside0.mk (below_step HB.out hb); replace d9 := pw_cell_below hb d9; clear hb)
      | (go_at_call 11; refine (HFW.out _ HB.out).mono ?_; rintro e' wz ⟨rfl, hd⟩; have hb := hd.below; replace HB := Aside0.mk (below_step HB.out hb); replace d9 := pw_cell_below hb d9; clear hb hd)
      | (go_at_call 31; refine (HCF.out _ _ HB.out d9).mono ?_; rintro e' wz ⟨rfl, hb⟩; replace HB := Aside0.mk (below_step HB.out hb); replace d9 := pw_cell_below hb d9; clear hb))
    go_wp2_with (first
      | (go_at_call 13; refine (HCB.out _ HB.out).mono ?_; rintro e' wz ⟨AHX, cHX, rfl, HX, hb⟩; replace HB := Aside0.mk (below_step HB.out hb); replace d9 := pw_cell_below hb d9; clear hb)
      | (go_at_call 16; refine (HCH.out _ HB.out).mono ?_; rintro e' wz ⟨AHY, cHY, rfl, HY, hb⟩; replace HB := Aside0.mk (below_step HB.out hb); replace HX := Aside0.mk (⟨HX.out.1, Kd.C_below HX.out.2 hb⟩ : _ ∧ _); replace d9 := pw_cell_below hb d9; clear hb)
      | (go_at_call 27; refine (HP1.out _ _ _ _ _ HX.out HY.out).mono ?_; rintro e' wz ⟨rfl, hb⟩; replace HB := Aside0.mk (below_step HB.out hb); replace d9 := pw_cell_below hb d9; clear hb HX HY))
    go_ret
    exact ⟨rfl, HB.out⟩
  have HRH := Aside0.mk hR
  have HRG := Aside0.mk (⟨ha, hday⟩ : _ ∧ _)
  clear hR ha hday
  rcases hsp with ⟨rfl, hno⟩ | ⟨rfl, b, hbm, hcb, rfl, hall⟩
  · obtain ⟨L, hL⟩ : ∃ L : Int, L = -1 := ⟨_, rfl⟩
    have HALL := Aside0.mk (show ∀ c ∈ l, (bndR l h ⟨c.f0, m, a⟩ day).2 = 0 → 0 ≤ L ∧ L ≤ c.f3 - sumH h c.f0 ∧ (c.f3 - sumH h c.f0 = L → id ≤ c.f0) from fun c hc e => absurd ((bnd_mem HRH.out hc HM.out HRG.out.1 HRG.out.2 HNO.out HHL.out).1 e) (hno c hc))
    clear hno HHL HM HNO HRG
    go_enter Try.func7, Try.ntmps7
    go_upto_region 3 with (first
      | ((with_reducible refine gate_dst (N := 9) rfl ?_); refine box_event ?hg (N := 9) ?hd (cs := #[.int .i64 m]) (t := 3) ?hr ?_; (case hd => rfl); (case hg => rfl); (case hr => first | (go_simp; done) | (go_simp; rfl)); intro g9 hg9 wy hbox hb; replace HB := Aside0.mk (below_step HB.out hb); have d9 : wy.cell? ⟨g9, 0, none⟩ = some (.int .i64 m) := blk_cell hbox 0; clear hb hbox hg9)
      | (go_at_call 10; refine (spilelaw52_awake.calls true _ rfl).mono ?_; rintro e' wz ⟨rfl, hb⟩; replace HB := Aside0.mk (below_step HB.out hb); replace d9 := pw_cell_below hb d9; clear hb)
      | (go_at_call 11; refine (HFW.out _ HB.out).mono ?_; rintro e' wz ⟨rfl, hd⟩; have hb := hd.below; replace HB := Aside0.mk (below_step HB.out hb); replace d9 := pw_cell_below hb d9; clear hb hd)
      | (go_at_call 31; refine (HCF.out _ _ HB.out d9).mono ?_; rintro e' wz ⟨rfl, hb⟩; replace HB := Aside0.mk (below_step HB.out hb); replace d9 := pw_cell_below hb d9; clear hb))
    go_upto_region 13 with (first
      | (go_at_call 13; refine (HCB.out _ HB.out).mono ?_; rintro e' wz ⟨AHX, cHX, rfl, HX, hb⟩; replace HB := Aside0.mk (below_step HB.out hb); replace d9 := pw_cell_below hb d9; clear hb)
      | (go_at_call 16; refine (HCH.out _ HB.out).mono ?_; rintro e' wz ⟨AHY, cHY, rfl, HY, hb⟩; replace HB := Aside0.mk (below_step HB.out hb); replace HX := Aside0.mk (⟨HX.out.1, Kd.C_below HX.out.2 hb⟩ : _ ∧ _); replace d9 := pw_cell_below hb d9; clear hb)
      | (go_at_call 27; refine (HP1.out _ _ _ _ _ HX.out HY.out).mono ?_; rintro e' wz ⟨rfl, hb⟩; replace HB := Aside0.mk (below_step HB.out hb); replace d9 := pw_cell_below hb d9; clear hb HX HY))
    rw [← hL]
    clear hL
    go_wp2
    go_loopg [102] (l.length + 1) (fun g s102 wr => ∃ (i : Nat), s102 = .int .i64 (i : Int) ∧ Aside0 (i ≤ l.length ∧ l.length + 1 - i ≤ g) ∧ Aside0 (wr.cell? ⟨g9, 0, none⟩ = some (.int .i64 m)) ∧ Aside0 (Below w.heap.size w wr))
    case atStart => exact ⟨0, by rfl, ⟨by omega, by omega⟩, ⟨d9⟩, HB⟩
    case round =>
      clear d9 HB
      obtain ⟨i, rfl, HI, HD, HB⟩ := hrel
      have d9 := HD.out
      clear HD
      by_cases hlt : i < l.length
      case neg =>
        have hltb2 : decide (i < l.length) = false := decide_eq_false hlt
        have hltc2 : decide ((i : Int) < (l.length : Int)) = false := decide_eq_false (by omega)
        clear hlt
        go_wp2
        go_ret
        exact ⟨rfl, HB.out⟩
      have hltb2 : decide (i < l.length) = true := decide_eq_true hlt
      have hltc2 : decide ((i : Int) < (l.length : Int)) = true := decide_eq_true (by omega)
      have p1 : (0 ≤ (i : Int)) = True := eq_true (by omega)
      have p2 : ((i : Int) < (l.length : Int)) = True := eq_true (by omega)
      have p3 : (i < l.length) = True := eq_true hlt
      obtain ⟨ad, e, h1, h2, h3, h4⟩ := HAB.out wr HB.out (i : Int) (by omega) (by omega)
      cases e
      rw [Int.toNat_natCast] at h1 h2 h3 h4
      have hmem : rd_T31 l (i : Int) ∈ l := by rw [rdB hlt]; exact List.getElem_mem hlt
      have hw' : wrap64 ((i : Int) + 1) = (i : Int) + 1 := w64_ (by omega) (by have := HLL.out; omega)
      have hw : IntKind.i64.wrap ((i : Int) + 1) = (i : Int) + 1 := by rw [i64_w]; exact hw'
      generalize (rd_T31 l (i : Int)) = b at *
      have HFB := Aside0.mk (HFR.out b hmem HRH.out)
      have hA := HALL.out b hmem
      obtain ⟨⟨qa, qe⟩, hq⟩ : ∃ q, bndR l h ⟨b.f0, m, a⟩ day = q := ⟨_, rfl⟩
      have HBB := Aside0.mk (HBI.out b.f0 qa qe hq)
      rw [hq] at hA
      simp only at hA
      obtain ⟨b0, b1, b2, b3⟩ := b
      simp only at h1 h2 h3 h4 HFB HBB hA
      obtain ⟨n, hn⟩ : ∃ n, n = b3 - sumH h b0 := ⟨_, rfl⟩
      rw [← hn] at HFB hA
      have HLT := Aside0.mk hlt
      have HW := Aside0.mk (⟨hw, hw'⟩ : _ ∧ _)
      clear hlt hw hw' hmem hn hq
      have htest : (qe = 0 ∧ 0 ≤ L ∧ L < n) ∨ (qe = 0 ∧ 0 ≤ L ∧ L = n ∧ id ≤ b0) ∨ qe ≠ 0 := by
        by_cases c : qe = 0
        · obtain ⟨a1, a2, a3⟩ := hA c
          by_cases c2 : n = L
          · exact .inr (.inl ⟨c, a1, c2.symm, a3 c2⟩)
          · exact .inl ⟨c, a1, by omega⟩
        · exact .inr (.inr c)
      clear hA
      go_upto_region 16 with (first
        | ((with_reducible refine gate_dst (N := 19) rfl ?_); refine box_event ?hg (N := 19) ?hd (cs := #[.int .i64 0, .int .i64 0, .int .i64 0, .int .i64 0]) (t := 31) ?hr ?_; (case hd => rfl); (case hg => rfl); (case hr => first | (go_simp; done) | (go_simp; rfl)); intro g19 hg wy hbox hb5; have hc0 : wy.cell? ⟨g19, 0, none⟩ = some (.int .i64 0) := blk_cell hbox 0; have hf0 := blk_frozen hbox 0; have hc1 : wy.cell? ⟨g19, 1, none⟩ = some (.int .i64 0) := blk_cell hbox 1; have hf1 := blk_frozen hbox 1; have hc2 : wy.cell? ⟨g19, 2, none⟩ = some (.int .i64 0) := blk_cell hbox 2; have hf2 := blk_frozen hbox 2; have hc3 : wy.cell? ⟨g19, 3, none⟩ = some (.int .i64 0) := blk_cell hbox 3; have hf3 := blk_frozen hbox 3; replace hbox := Aside0.mk hbox; replace hb5 := Aside0.mk hb5; replace hg := Aside0.mk hg)
        | ((with_reducible refine gate_store (t := 31) (p := 19) rfl ?_); refine store_event (t := 31) (p := 19) (v := .tmp 105) (w1 := ((((wy.setCell ⟨g19, 0, none⟩ (.int .i64 b0)).setCell ⟨g19, 1, none⟩ (.int .i64 b1)).setCell ⟨g19, 2, none⟩ (.int .i64 b2)).setCell ⟨g19, 3, none⟩ (.int .i64 b3))) ?hg ?ho ?hn ?hr ?_; (case ho => rfl); (case hg => rfl); (case hn => rfl); (case hr => first | (go_simp; done) | (go_simp; rfl)); intro wz hw6; clear hc0 hf0 hc1 hf1 hc2 hf2 hc3 hf3; have hbx := box4_ (x := .int .i64 b0) (y := .int .i64 b1) (z := .int .i64 b2) (u := .int .i64 b3) hb5.out hg.out hbox.out; rw [← hw6] at hbx; clear hw6 hb5 hg hbox; obtain ⟨hb, hk6⟩ := hbx; replace HB := Aside0.mk (below_step HB.out hb); replace d9 := pw_cell_below hb d9; have e0 : wz.cell? ⟨g19, 0, none⟩ = some (.int .i64 b0) := blk_cell hk6 0; clear h1 h2 h3 h4; clear hb hk6))
      replace HB := Aside0.mk (below_drew1 HB.out)
      replace d9 : (World.drew _).cell? _ = _ := d9
      replace e0 : (World.drew _).cell? _ = _ := e0
      go_region_held3 (fun w' => w'.cell? ⟨g9, 0, none⟩ = some (.int .i64 m) ∧ w'.cell? ⟨g19, 0, none⟩ = some (.int .i64 b0) ∧ Aside0 (Below w.heap.size w w'))
        (first | exact ⟨d9, e0, HB⟩)
        (first
          | (go_at_call 13; refine (HCB.out _ HB.out).mono ?_; rintro e' wz ⟨AHX, cHX, rfl, HX, hb⟩; replace HB := Aside0.mk (below_step HB.out hb); replace d9 := pw_cell_below hb d9; replace e0 := pw_cell_below hb e0; clear hb)
          | (go_at_call 16; refine (HCH.out _ HB.out).mono ?_; rintro e' wz ⟨AHY, cHY, rfl, HY, hb⟩; replace HB := Aside0.mk (below_step HB.out hb); replace HX := Aside0.mk (⟨HX.out.1, Kd.C_below HX.out.2 hb⟩ : _ ∧ _); replace d9 := pw_cell_below hb d9; replace e0 := pw_cell_below hb e0; clear hb)
          | (go_at_call 18; refine (HFB.out _ _ _ _ _ HX.out HY.out).mono ?_; rintro e' wz ⟨rfl, hb⟩; replace HB := Aside0.mk (below_step HB.out hb); replace d9 := pw_cell_below hb d9; replace e0 := pw_cell_below hb e0; clear hb HX HY))
      go_upto_region 17 with fail
      replace HB := Aside0.mk (below_drew1 HB.out)
      replace d9 : (World.drew _).cell? _ = _ := d9
      replace e0 : (World.drew _).cell? _ = _ := e0
      go_region_held3 (fun w' => w'.cell? ⟨g9, 0, none⟩ = some (.int .i64 m) ∧ w'.cell? ⟨g19, 0, none⟩ = some (.int .i64 b0) ∧ Aside0 (Below w.heap.size w w'))
        (first | exact ⟨d9, e0, HB⟩)
        (first
          | (go_at_call 13; refine (HCB.out _ HB.out).mono ?_; rintro e' wz ⟨AHX, cHX, rfl, HX, hb⟩; replace HB := Aside0.mk (below_step HB.out hb); replace d9 := pw_cell_below hb d9; replace e0 := pw_cell_below hb e0; clear hb)
          | (go_at_call 16; refine (HCH.out _ HB.out).mono ?_; rintro e' wz ⟨AHY, cHY, rfl, HY, hb⟩; replace HB := Aside0.mk (below_step HB.out hb); replace HX := Aside0.mk (⟨HX.out.1, Kd.C_below HX.out.2 hb⟩ : _ ∧ _); replace d9 := pw_cell_below hb d9; replace e0 := pw_cell_below hb e0; clear hb)
          | (go_at_call 20; refine (HBB.out _ _ _ _ _ HX.out HY.out).mono ?_; rintro e' wz ⟨Aq, cq, rfl, HZ, hb⟩; replace HB := Aside0.mk (below_step HB.out hb); replace d9 := pw_cell_below hb d9; replace e0 := pw_cell_below hb e0; clear hb HX HY HZ))
      go_upto_region 18 with fail
      rcases htest with ⟨rfl, t1, t2⟩ | ⟨rfl, t1, rfl, t2⟩ | t1
      · have u1 : decide (L < 0) = false := decide_eq_false (by omega)
        have u2 : decide (n < L) = false := decide_eq_false (by omega)
        have u3 : (n == L) = false := beq_eq_false_iff_ne.mpr (by omega)
        clear t1 t2
        go_wp2
        go_roundg (l.length + 1 - (i + 1))
        case measure => have := HI.out; have := HLT.out; omega
        case rel => exact ⟨i + 1, by first | rfl | (rw [HW.out.1]; rfl) | (rw [HW.out.2]; rfl), ⟨HLT.out, Nat.le_refl _⟩, ⟨d9⟩, HB⟩
      · have u1 : decide (L < 0) = false := decide_eq_false (by omega)
        have u2 : decide (L < L) = false := decide_eq_false (by omega)
        have u3 : (L == L) = true := beq_iff_eq.mpr rfl
        have u4 : decide (b0 < id) = false := decide_eq_false (by omega)
        clear t1 t2
        go_wp2
        go_roundg (l.length + 1 - (i + 1))
        case measure => have := HI.out; have := HLT.out; omega
        case rel => exact ⟨i + 1, by first | rfl | (rw [HW.out.1]; rfl) | (rw [HW.out.2]; rfl), ⟨HLT.out, Nat.le_refl _⟩, ⟨d9⟩, HB⟩
      · have u1 : (qe == 0) = false := beq_eq_false_iff_ne.mpr t1
        clear t1
        go_wp2
        go_roundg (l.length + 1 - (i + 1))
        case measure => have := HI.out; have := HLT.out; omega
        case rel => exact ⟨i + 1, by first | rfl | (rw [HW.out.1]; rfl) | (rw [HW.out.2]; rfl), ⟨HLT.out, Nat.le_refl _⟩, ⟨d9⟩, HB⟩
  · obtain ⟨L, hL⟩ : ∃ L : Int, L = b.f3 - sumH h b.f0 := ⟨_, rfl⟩
    have HFB := Aside0.mk (HFR.out b hbm HRH.out)
    obtain ⟨⟨qa, qe⟩, hq⟩ : ∃ q, bndR l h ⟨b.f0, m, a⟩ day = q := ⟨_, rfl⟩
    have hqe : qe = 0 := by
      have := (bnd_mem HRH.out hbm HM.out HRG.out.1 HRG.out.2 HNO.out HHL.out).2 hcb
      rw [hq] at this
      exact this
    subst hqe
    have HBB := Aside0.mk (HBI.out b.f0 qa 0 hq)
    rw [← hL] at HFB hall
    have hL0 : 0 ≤ L := by have := hcb.2; have := HRG.out.1; omega
    have HALL := Aside0.mk (show ∀ c ∈ l, (bndR l h ⟨c.f0, m, a⟩ day).2 = 0 → 0 ≤ L ∧ L ≤ c.f3 - sumH h c.f0 ∧ (c.f3 - sumH h c.f0 = L → b.f0 ≤ c.f0) from fun c hc e => by
      have h1 := (bnd_mem HRH.out hc HM.out HRG.out.1 HRG.out.2 HNO.out HHL.out).1 e
      exact ⟨hL0, hall c hc h1⟩)
    generalize b.f0 = id at HP1 HFB HBB HALL
    clear hq hcb hall hL hL0 hbm HHL HM HNO HRG
    go_enter Try.func7, Try.ntmps7
    go_upto_region 3 with (first
      | ((with_reducible refine gate_dst (N := 9) rfl ?_); refine box_event ?hg (N := 9) ?hd (cs := #[.int .i64 m]) (t := 3) ?hr ?_; (case hd => rfl); (case hg => rfl); (case hr => first | (go_simp; done) | (go_simp; rfl)); intro g9 hg9 wy hbox hb; replace HB := Aside0.mk (below_step HB.out hb); have d9 : wy.cell? ⟨g9, 0, none⟩ = some (.int .i64 m) := blk_cell hbox 0; clear hb hbox hg9)
      | (go_at_call 10; refine (spilelaw52_awake.calls true _ rfl).mono ?_; rintro e' wz ⟨rfl, hb⟩; replace HB := Aside0.mk (below_step HB.out hb); replace d9 := pw_cell_below hb d9; clear hb)
      | (go_at_call 11; refine (HFW.out _ HB.out).mono ?_; rintro e' wz ⟨rfl, hd⟩; have hb := hd.below; replace HB := Aside0.mk (below_step HB.out hb); replace d9 := pw_cell_below hb d9; clear hb hd)
      | (go_at_call 31; refine (HCF.out _ _ HB.out d9).mono ?_; rintro e' wz ⟨rfl, hb⟩; replace HB := Aside0.mk (below_step HB.out hb); replace d9 := pw_cell_below hb d9; clear hb))
    go_upto_region 9 with (first
      | (go_at_call 13; refine (HCB.out _ HB.out).mono ?_; rintro e' wz ⟨AHX, cHX, rfl, HX, hb⟩; replace HB := Aside0.mk (below_step HB.out hb); replace d9 := pw_cell_below hb d9; clear hb)
      | (go_at_call 16; refine (HCH.out _ HB.out).mono ?_; rintro e' wz ⟨AHY, cHY, rfl, HY, hb⟩; replace HB := Aside0.mk (below_step HB.out hb); replace HX := Aside0.mk (⟨HX.out.1, Kd.C_below HX.out.2 hb⟩ : _ ∧ _); replace d9 := pw_cell_below hb d9; clear hb)
      | (go_at_call 27; refine (HP1.out _ _ _ _ _ HX.out HY.out).mono ?_; rintro e' wz ⟨rfl, hb⟩; replace HB := Aside0.mk (below_step HB.out hb); replace d9 := pw_cell_below hb d9; clear hb HX HY)
      | (go_at_call 18; refine (HFB.out _ _ _ _ _ HX.out HY.out).mono ?_; rintro e' wz ⟨rfl, hb⟩; replace HB := Aside0.mk (below_step HB.out hb); replace d9 := pw_cell_below hb d9; clear hb HX HY))
    go_cut [17] (fun v17 wc => v17 = .int .i64 0 ∧ Aside0 (wc.cell? ⟨g9, 0, none⟩ = some (.int .i64 m)) ∧ Aside0 (Below w.heap.size w wc))
    case first =>
      replace HB := Aside0.mk (below_drew1 HB.out)
      replace d9 : wz.drew.cell? _ = _ := d9
      go_region_with (first
        | (go_at_call 13; refine (HCB.out _ HB.out).mono ?_; rintro e' wz ⟨AHX, cHX, rfl, HX, hb⟩; replace HB := Aside0.mk (below_step HB.out hb); replace d9 := pw_cell_below hb d9; clear hb)
        | (go_at_call 16; refine (HCH.out _ HB.out).mono ?_; rintro e' wz ⟨AHY, cHY, rfl, HY, hb⟩; replace HB := Aside0.mk (below_step HB.out hb); replace HX := Aside0.mk (⟨HX.out.1, Kd.C_below HX.out.2 hb⟩ : _ ∧ _); replace d9 := pw_cell_below hb d9; clear hb)
        | (go_at_call 20; refine (HBB.out _ _ _ _ _ HX.out HY.out).mono ?_; rintro e' wz ⟨Aq, cq, rfl, HZ, hb⟩; replace HB := Aside0.mk (below_step HB.out hb); replace d9 := pw_cell_below hb d9; clear hb HX HY HZ))
      all_goals go_wp2
      all_goals go_meet
      all_goals exact ⟨rfl, ⟨d9⟩, HB⟩
    clear HB d9
    obtain ⟨rfl, HD, HB⟩ := hcut
    rename World => wx
    have d9 := HD.out
    clear HD HFB HBB
    go_upto_region 13 with fail
    go_wp2
    go_loopg [102] (l.length + 1) (fun g s102 wr => ∃ (i : Nat), s102 = .int .i64 (i : Int) ∧ Aside0 (i ≤ l.length ∧ l.length + 1 - i ≤ g) ∧ Aside0 (wr.cell? ⟨g9, 0, none⟩ = some (.int .i64 m)) ∧ Aside0 (Below w.heap.size w wr))
    case atStart => exact ⟨0, by rfl, ⟨by omega, by omega⟩, ⟨d9⟩, HB⟩
    case round =>
      clear d9 HB
      obtain ⟨i, rfl, HI, HD, HB⟩ := hrel
      have d9 := HD.out
      clear HD
      by_cases hlt : i < l.length
      case neg =>
        have hltb2 : decide (i < l.length) = false := decide_eq_false hlt
        have hltc2 : decide ((i : Int) < (l.length : Int)) = false := decide_eq_false (by omega)
        clear hlt
        go_wp2
        go_ret
        exact ⟨rfl, HB.out⟩
      have hltb2 : decide (i < l.length) = true := decide_eq_true hlt
      have hltc2 : decide ((i : Int) < (l.length : Int)) = true := decide_eq_true (by omega)
      have p1 : (0 ≤ (i : Int)) = True := eq_true (by omega)
      have p2 : ((i : Int) < (l.length : Int)) = True := eq_true (by omega)
      have p3 : (i < l.length) = True := eq_true hlt
      obtain ⟨ad, e, h1, h2, h3, h4⟩ := HAB.out wr HB.out (i : Int) (by omega) (by omega)
      cases e
      rw [Int.toNat_natCast] at h1 h2 h3 h4
      have hmem : rd_T31 l (i : Int) ∈ l := by rw [rdB hlt]; exact List.getElem_mem hlt
      have hw' : wrap64 ((i : Int) + 1) = (i : Int) + 1 := w64_ (by omega) (by have := HLL.out; omega)
      have hw : IntKind.i64.wrap ((i : Int) + 1) = (i : Int) + 1 := by rw [i64_w]; exact hw'
      generalize (rd_T31 l (i : Int)) = b at *
      have HFB := Aside0.mk (HFR.out b hmem HRH.out)
      have hA := HALL.out b hmem
      obtain ⟨⟨qa, qe⟩, hq⟩ : ∃ q, bndR l h ⟨b.f0, m, a⟩ day = q := ⟨_, rfl⟩
      have HBB := Aside0.mk (HBI.out b.f0 qa qe hq)
      rw [hq] at hA
      simp only at hA
      obtain ⟨b0, b1, b2, b3⟩ := b
      simp only at h1 h2 h3 h4 HFB HBB hA
      obtain ⟨n, hn⟩ : ∃ n, n = b3 - sumH h b0 := ⟨_, rfl⟩
      rw [← hn] at HFB hA
      have HLT := Aside0.mk hlt
      have HW := Aside0.mk (⟨hw, hw'⟩ : _ ∧ _)
      clear hlt hw hw' hmem hn hq
      have htest : (qe = 0 ∧ 0 ≤ L ∧ L < n) ∨ (qe = 0 ∧ 0 ≤ L ∧ L = n ∧ id ≤ b0) ∨ qe ≠ 0 := by
        by_cases c : qe = 0
        · obtain ⟨a1, a2, a3⟩ := hA c
          by_cases c2 : n = L
          · exact .inr (.inl ⟨c, a1, c2.symm, a3 c2⟩)
          · exact .inl ⟨c, a1, by omega⟩
        · exact .inr (.inr c)
      clear hA
      go_upto_region 16 with (first
        | ((with_reducible refine gate_dst (N := 19) rfl ?_); refine box_event ?hg (N := 19) ?hd (cs := #[.int .i64 0, .int .i64 0, .int .i64 0, .int .i64 0]) (t := 31) ?hr ?_; (case hd => rfl); (case hg => rfl); (case hr => first | (go_simp; done) | (go_simp; rfl)); intro g19 hg wy hbox hb5; have hc0 : wy.cell? ⟨g19, 0, none⟩ = some (.int .i64 0) := blk_cell hbox 0; have hf0 := blk_frozen hbox 0; have hc1 : wy.cell? ⟨g19, 1, none⟩ = some (.int .i64 0) := blk_cell hbox 1; have hf1 := blk_frozen hbox 1; have hc2 : wy.cell? ⟨g19, 2, none⟩ = some (.int .i64 0) := blk_cell hbox 2; have hf2 := blk_frozen hbox 2; have hc3 : wy.cell? ⟨g19, 3, none⟩ = some (.int .i64 0) := blk_cell hbox 3; have hf3 := blk_frozen hbox 3; replace hbox := Aside0.mk hbox; replace hb5 := Aside0.mk hb5; replace hg := Aside0.mk hg)
        | ((with_reducible refine gate_store (t := 31) (p := 19) rfl ?_); refine store_event (t := 31) (p := 19) (v := .tmp 105) (w1 := ((((wy.setCell ⟨g19, 0, none⟩ (.int .i64 b0)).setCell ⟨g19, 1, none⟩ (.int .i64 b1)).setCell ⟨g19, 2, none⟩ (.int .i64 b2)).setCell ⟨g19, 3, none⟩ (.int .i64 b3))) ?hg ?ho ?hn ?hr ?_; (case ho => rfl); (case hg => rfl); (case hn => rfl); (case hr => first | (go_simp; done) | (go_simp; rfl)); intro wz hw6; clear hc0 hf0 hc1 hf1 hc2 hf2 hc3 hf3; have hbx := box4_ (x := .int .i64 b0) (y := .int .i64 b1) (z := .int .i64 b2) (u := .int .i64 b3) hb5.out hg.out hbox.out; rw [← hw6] at hbx; clear hw6 hb5 hg hbox; obtain ⟨hb, hk6⟩ := hbx; replace HB := Aside0.mk (below_step HB.out hb); replace d9 := pw_cell_below hb d9; have e0 : wz.cell? ⟨g19, 0, none⟩ = some (.int .i64 b0) := blk_cell hk6 0; clear h1 h2 h3 h4; clear hb hk6))
      replace HB := Aside0.mk (below_drew1 HB.out)
      replace d9 : (World.drew _).cell? _ = _ := d9
      replace e0 : (World.drew _).cell? _ = _ := e0
      go_region_held3 (fun w' => w'.cell? ⟨g9, 0, none⟩ = some (.int .i64 m) ∧ w'.cell? ⟨g19, 0, none⟩ = some (.int .i64 b0) ∧ Aside0 (Below w.heap.size w w'))
        (first | exact ⟨d9, e0, HB⟩)
        (first
          | (go_at_call 13; refine (HCB.out _ HB.out).mono ?_; rintro e' wz ⟨AHX, cHX, rfl, HX, hb⟩; replace HB := Aside0.mk (below_step HB.out hb); replace d9 := pw_cell_below hb d9; replace e0 := pw_cell_below hb e0; clear hb)
          | (go_at_call 16; refine (HCH.out _ HB.out).mono ?_; rintro e' wz ⟨AHY, cHY, rfl, HY, hb⟩; replace HB := Aside0.mk (below_step HB.out hb); replace HX := Aside0.mk (⟨HX.out.1, Kd.C_below HX.out.2 hb⟩ : _ ∧ _); replace d9 := pw_cell_below hb d9; replace e0 := pw_cell_below hb e0; clear hb)
          | (go_at_call 18; refine (HFB.out _ _ _ _ _ HX.out HY.out).mono ?_; rintro e' wz ⟨rfl, hb⟩; replace HB := Aside0.mk (below_step HB.out hb); replace d9 := pw_cell_below hb d9; replace e0 := pw_cell_below hb e0; clear hb HX HY))
      go_upto_region 17 with fail
      replace HB := Aside0.mk (below_drew1 HB.out)
      replace d9 : (World.drew _).cell? _ = _ := d9
      replace e0 : (World.drew _).cell? _ = _ := e0
      go_region_held3 (fun w' => w'.cell? ⟨g9, 0, none⟩ = some (.int .i64 m) ∧ w'.cell? ⟨g19, 0, none⟩ = some (.int .i64 b0) ∧ Aside0 (Below w.heap.size w w'))
        (first | exact ⟨d9, e0, HB⟩)
        (first
          | (go_at_call 13; refine (HCB.out _ HB.out).mono ?_; rintro e' wz ⟨AHX, cHX, rfl, HX, hb⟩; replace HB := Aside0.mk (below_step HB.out hb); replace d9 := pw_cell_below hb d9; replace e0 := pw_cell_below hb e0; clear hb)
          | (go_at_call 16; refine (HCH.out _ HB.out).mono ?_; rintro e' wz ⟨AHY, cHY, rfl, HY, hb⟩; replace HB := Aside0.mk (below_step HB.out hb); replace HX := Aside0.mk (⟨HX.out.1, Kd.C_below HX.out.2 hb⟩ : _ ∧ _); replace d9 := pw_cell_below hb d9; replace e0 := pw_cell_below hb e0; clear hb)
          | (go_at_call 20; refine (HBB.out _ _ _ _ _ HX.out HY.out).mono ?_; rintro e' wz ⟨Aq, cq, rfl, HZ, hb⟩; replace HB := Aside0.mk (below_step HB.out hb); replace d9 := pw_cell_below hb d9; replace e0 := pw_cell_below hb e0; clear hb HX HY HZ))
      go_upto_region 18 with fail
      rcases htest with ⟨rfl, t1, t2⟩ | ⟨rfl, t1, rfl, t2⟩ | t1
      · have u1 : decide (L < 0) = false := decide_eq_false (by omega)
        have u2 : decide (n < L) = false := decide_eq_false (by omega)
        have u3 : (n == L) = false := beq_eq_false_iff_ne.mpr (by omega)
        clear t1 t2
        go_wp2
        go_roundg (l.length + 1 - (i + 1))
        case measure => have := HI.out; have := HLT.out; omega
        case rel => exact ⟨i + 1, by first | rfl | (rw [HW.out.1]; rfl) | (rw [HW.out.2]; rfl), ⟨HLT.out, Nat.le_refl _⟩, ⟨d9⟩, HB⟩
      · have u1 : decide (L < 0) = false := decide_eq_false (by omega)
        have u2 : decide (L < L) = false := decide_eq_false (by omega)
        have u3 : (L == L) = true := beq_iff_eq.mpr rfl
        have u4 : decide (b0 < id) = false := decide_eq_false (by omega)
        clear t1 t2
        go_wp2
        go_roundg (l.length + 1 - (i + 1))
        case measure => have := HI.out; have := HLT.out; omega
        case rel => exact ⟨i + 1, by first | rfl | (rw [HW.out.1]; rfl) | (rw [HW.out.2]; rfl), ⟨HLT.out, Nat.le_refl _⟩, ⟨d9⟩, HB⟩
      · have u1 : (qe == 0) = false := beq_eq_false_iff_ne.mpr t1
        clear t1
        go_wp2
        go_roundg (l.length + 1 - (i + 1))
        case measure => have := HI.out; have := HLT.out; omega
        case rel => exact ⟨i + 1, by first | rfl | (rw [HW.out.1]; rfl) | (rw [HW.out.2]; rfl), ⟨HLT.out, Nat.le_refl _⟩, ⟨d9⟩, HB⟩

end Go.Proofs.Ytdolabpkgienkaa.PF
