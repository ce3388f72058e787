/- The walk through the law BondCovers of package spilelaw52. -/
import Derived.Test.YtdolabpkgienkaaMBnd52b
import Derived.Test.YtdolabpkgienkaaMBnd52g
import Derived.Test.YtdolabpkgienkaaMBnd52h
import Derived.Test.YtdolabpkgienkaaPF0
import Derived.Test.YtdolabpkgienkaaPF1
import Derived.Test.YtdolabpkgienkaaPF10
import Derived.Test.YtdolabpkgienkaaPF3
import Derived.Test.YtdolabpkgienkaaPF4
import Derived.Test.YtdolabpkgienkaaPF5
namespace Go.Proofs.Ytdolabpkgienkaa.PF
open Go.RowKit Go.Proofs.YtdolabpkgienkaaW.PrintWords Go.Proofs.YtdolabpkgienkaaW.PrintLast Go.Proofs.YtdolabpkgienkaaW.PrintMore
set_option linter.unusedVariables false
set_option linter.unusedSimpArgs false
def spilelaw52_BondCovers.f (l : List S31) (h nd : List S35) : Option Bool := some true
theorem covers_clo (g : Nat) (b0 b1 b2 b3 id : Int) (W : World) (h : W.cell? ⟨g, 0, none⟩ = some (.int .i64 id)) :
    Calls Try.prog 34 (#[.agg #[.int .i64 b0, .int .i64 b1, .int .i64 b2, .int .i64 b3]] ++ #[.pointer (some ⟨g, 0, none⟩)]) W fun e w' => e = .returned (.bool (b0 == id)) ∧ Below W.heap.size W w' := by
  have hu := Try.underlying31
  go_enter Try.func34, Try.ntmps34
  go_wp2_with ((with_reducible refine gate_dst (N := 2) rfl ?_); refine box_event ?hg (N := 2) ?hd (cs := #[.int .i64 b0, .int .i64 b1, .int .i64 b2, .int .i64 b3]) (t := 31) ?hr ?_; (case hd => rfl); (case hg => rfl); (case hr => first | (go_simp; done) | (go_simp; rfl)); intro g2 hg w2 hbox hb; replace h := pw_cell_below hb h; have c0 : w2.cell? ⟨g2, 0, none⟩ = some (.int .i64 b0) := blk_cell hbox 0; have HB := Aside0.mk hb; clear hb hg hbox)
  go_ret
  exact ⟨rfl, HB.out⟩
theorem covers_idx (A : Option Addr) (c n : Nat) (R : List S31) (hn : R.length = n) (hs : n ≤ 1000) (g : Nat) (id : Int) (w : World) (hr : Kd.C k31 w A R.length R) (hc : w.cell? ⟨g, 0, none⟩ = some (.int .i64 id)) :
    Calls Try.prog 33 #[.slice A n c, .func (.func 34) #[] #[.pointer (some ⟨g, 0, none⟩)]] w fun e w' => e = .returned (.int .i64 (idxP (fun k => (rd_T31 R (k : Int)).f0 == id) R.length 0)) ∧ Below w.heap.size w w' := by
  subst hn
  have eg : ∀ args w, (callFunc 34 args).run Try.prog w = .ok (.enter 34 args) w := enters_of Try.func34 (by kernel_rfl) rfl
  refine api_Bond_33.below 34 #[.pointer (some ⟨g, 0, none⟩)] A c R (fun j => (rd_T31 R (j : Int)).f0 == id) w eg (by omega) hr (fun W i h0 h1 hb => ?_)
  have := covers_clo g (rd_T31 R i).f0 (rd_T31 R i).f1 (rd_T31 R i).f2 (rd_T31 R i).f3 id W (pw_cell_below hb hc)
  rw [show ((i.toNat : Nat) : Int) = i by omega]
  exact this
set_option maxHeartbeats 8000000 in
set_option maxRecDepth 100000 in
theorem spilelaw52_BondCovers.calls (A0 : Option Addr) (c0 : Nat) (l : List S31) (A1 : Option Addr) (c1 : Nat) (h : List S35) (A2 : Option Addr) (c2 : Nat) (nd : List S35) (r : Bool) (w : World) (hr0 : Kd.C k31 w A0 l.length l) (hc0 : l.length ≤ c0) (hr1 : Kd.C k35 w A1 h.length h) (hc1 : h.length ≤ c1) (hr2 : Kd.C k35 w A2 nd.length nd) (hc2 : nd.length ≤ c2) (hf : spilelaw52_BondCovers.f l h nd = some r) :
    Calls Try.prog 8 #[.slice A0 l.length c0, .slice A1 h.length c1, .slice A2 nd.length c2] w fun e w' => e = .returned (.bool r) ∧ Below w.heap.size w w' := by
  have hf := Option.some.inj hf
  subst hf
  have hu1 := Try.underlying31
  have hu2 := Try.underlying35
  have HB := Aside0.mk (Below.refl w.heap.size w)
  have hfew := few52 l h
  by_cases hf : (((l.length : Int) ≤ 8 ∨ (l.length : Int) = 17) ∧ (h.length : Int) ≤ 17)
  case neg =>
    rw [decide_eq_false hf] at hfew
    have HFW := Aside0.mk (fun (W : World) (hb : Below w.heap.size w W) => spileref52_Few.calls A0 c0 l A1 c1 h false W (Kd.C_below hr0 hb) hc0 (Kd.C_below hr1 hb) hc1 hfew)
    clear hr0 hr1 hr2 hc0 hc1 hc2 hf hfew
    go_enter Try.func8, Try.ntmps8
    go_wp2_with (first
      | (go_at_call 10; refine (spilelaw52_awake.calls true _ rfl).mono ?_; rintro e' wz ⟨rfl, hb⟩; replace HB := Aside0.mk (below_step HB.out hb); clear hb)
      | (go_at_call 11; refine (HFW.out _ HB.out).mono ?_; rintro e' wz ⟨rfl, hd⟩; have hb := hd.below; replace HB := Aside0.mk (below_step HB.out hb); clear hb hd))
    go_ret
    exact ⟨rfl, HB.out⟩
  rw [decide_eq_true hf] at hfew
  have hl : l.length ≤ 1000 := by omega
  have hh : h.length ≤ 17 := by omega
  have HFW := Aside0.mk (fun (W : World) (hb : Below w.heap.size w W) => spileref52_Few.calls A0 c0 l A1 c1 h true W (Kd.C_below hr0 hb) hc0 (Kd.C_below hr1 hb) hc1 hfew)
  clear hf hfew
  by_cases g1 : 12 < nd.length
  · have g1a : decide (12 < nd.length) = true := decide_eq_true g1
    have g1b : decide (12 < (nd.length : Int)) = true := decide_eq_true (by omega)
    clear hr0 hr1 hr2 hc0 hc1 hc2 hl hh g1
    go_enter Try.func8, Try.ntmps8
    go_wp2_with (first
      | (go_at_call 10; refine (spilelaw52_awake.calls true _ rfl).mono ?_; rintro e' wz ⟨rfl, hb⟩; replace HB := Aside0.mk (below_step HB.out hb); clear hb)
      | (go_at_call 11; refine (HFW.out _ HB.out).mono ?_; rintro e' wz ⟨rfl, hd⟩; have hb := hd.below; replace HB := Aside0.mk (below_step HB.out hb); clear hb hd))
    go_ret
    exact ⟨rfl, HB.out⟩
  have g1a : decide (12 < nd.length) = false := decide_eq_false g1
  have g1b : decide (12 < (nd.length : Int)) = false := decide_eq_false (by omega)
  have HCB := Aside0.mk (fun (W : World) (hb : Below w.heap.size w W) => cloneB hl A0 c0 hc0 W (Kd.C_below hr0 hb))
  have HCR := Aside0.mk (fun (W : World) (hb : Below w.heap.size w W) => api_Bond_13.calls A0 c0 l l W (Kd.C_below hr0 hb) hc0 (clB hl))
  have HCH := Aside0.mk (fun (W : World) (hb : Below w.heap.size w W) => cloneH (show h.length ≤ 1000 by omega) A1 c1 hc1 W (Kd.C_below hr1 hb))
  have HCN := Aside0.mk (fun (W : World) (hb : Below w.heap.size w W) => cloneH (show nd.length ≤ 1000 by omega) A2 c2 hc2 W (Kd.C_below hr2 hb))
  obtain ⟨⟨hi, he⟩, e1⟩ : ∃ q, hldR l h = q := ⟨_, rfl⟩
  obtain ⟨⟨s, se⟩, e2⟩ : ∃ q, shtR l nd = q := ⟨_, rfl⟩
  have HHO := Aside0.mk (fun (W : World) (A A' : Option Addr) (c c' : Nat) (h1 : l.length ≤ c ∧ Kd.C k31 W A l.length l) (h2 : h.length ≤ c' ∧ Kd.C k35 W A' h.length h) => bond_Holds.calls A c l A' c' h hi he W h1.2 h1.1 h2.2 h2.1 (by unfold bond_Holds.f; rw [e1]))
  have HS1 := Aside0.mk (fun (hz : he = 0) (W : World) (A A' : Option Addr) (c c' : Nat) (h1 : l.length ≤ c ∧ Kd.C k31 W A l.length l) (h2 : h.length ≤ c' ∧ Kd.C k35 W A' h.length h) => R_rowsE (bond_Short.calls A c l A' c' h [] 0 W h1.2 h1.1 h2.2 h2.1 (by unfold bond_Short.f; rw [sht_right ((hldR_zero l h).1 (by rw [e1]; exact hz))])))
  have HS2 := Aside0.mk (fun (W : World) (A A' : Option Addr) (c c' : Nat) (h1 : l.length ≤ c ∧ Kd.C k31 W A l.length l) (h2 : nd.length ≤ c' ∧ Kd.C k35 W A' nd.length nd) => R_rowsE (bond_Short.calls A c l A' c' nd s se W h1.2 h1.1 h2.2 h2.1 (by unfold bond_Short.f; rw [e2])))
  have HSE := Aside0.mk e2
  have HND := Aside0.mk (show nd.length ≤ 12 by omega)
  have HLL := Aside0.mk hl
  clear hr0 hr1 hr2 hc0 hc1 hc2 hl hh g1 e1 e2
  go_enter Try.func8, Try.ntmps8
  go_upto_if 42 with (first
    | (go_at_call 10; refine (spilelaw52_awake.calls true _ rfl).mono ?_; rintro e' wz ⟨rfl, hb⟩; replace HB := Aside0.mk (below_step HB.out hb); clear hb)
    | (go_at_call 11; refine (HFW.out _ HB.out).mono ?_; rintro e' wz ⟨rfl, hd⟩; have hb := hd.below; replace HB := Aside0.mk (below_step HB.out hb); clear hb hd)
    | (go_at_call 13; refine (HCB.out _ HB.out).mono ?_; rintro e' wz ⟨AHX, cHX, rfl, HX, hb⟩; replace HB := Aside0.mk (below_step HB.out hb); clear hb)
    | (go_at_call 16; refine (HCH.out _ HB.out).mono ?_; rintro e' wz ⟨AHY, cHY, rfl, HY, hb⟩; replace HB := Aside0.mk (below_step HB.out hb); replace HX := Aside0.mk (⟨HX.out.1, Kd.C_below HX.out.2 hb⟩ : _ ∧ _); clear hb)
    | (go_at_call 15; refine (HHO.out _ _ _ _ _ HX.out HY.out).mono ?_; rintro e' wz ⟨rfl, hb⟩; replace HB := Aside0.mk (below_step HB.out hb); clear hb HX HY))
  go_cut [] (fun wc => Aside0 (Below w.heap.size w wc))
  case first =>
    by_cases hz : he = 0
    · have q1 : (he == 0) = true := beq_iff_eq.mpr hz
      replace HS1 := Aside0.mk (HS1.out hz)
      clear hz
      go_wp2_with (first
        | (go_at_call 13; refine (HCB.out _ HB.out).mono ?_; rintro e' wz ⟨AHX, cHX, rfl, HX, hb⟩; replace HB := Aside0.mk (below_step HB.out hb); clear hb)
        | (go_at_call 16; refine (HCH.out _ HB.out).mono ?_; rintro e' wz ⟨AHY, cHY, rfl, HY, hb⟩; replace HB := Aside0.mk (below_step HB.out hb); replace HX := Aside0.mk (⟨HX.out.1, Kd.C_below HX.out.2 hb⟩ : _ ∧ _); clear hb)
        | (go_at_call 29; refine (HS1.out _ _ _ _ _ HX.out HY.out).mono ?_; rintro e' wz ⟨Aq, cq, rfl, HQ, hb⟩; replace HB := Aside0.mk (below_step HB.out hb); clear hb HX HY HQ))
      go_meet
      exact HB
    · have q1 : (he == 0) = false := beq_eq_false_iff_ne.mpr hz
      clear hz
      go_wp2
      go_meet
      exact HB
  clear HB
  have HB := hcut
  clear hcut HS1 HCH HHO HFW
  rename World => wx
  by_cases hse : se = 0
  case neg =>
    have hs := sht_err (l := l) (h := nd) (by rw [HSE.out]; exact hse)
    rw [HSE.out] at hs
    simp only at hs
    subst hs
    have q2 : (se != 0) = true := bne_iff_ne.mpr hse
    clear hse HSE
    go_wp2_with (first
      | (go_at_call 13; refine (HCB.out _ HB.out).mono ?_; rintro e' wz ⟨AHX, cHX, rfl, HX, hb⟩; replace HB := Aside0.mk (below_step HB.out hb); clear hb)
      | (go_at_call 16; refine (HCN.out _ HB.out).mono ?_; rintro e' wz ⟨AHY, cHY, rfl, HY, hb⟩; replace HB := Aside0.mk (below_step HB.out hb); replace HX := Aside0.mk (⟨HX.out.1, Kd.C_below HX.out.2 hb⟩ : _ ∧ _); clear hb)
      | (go_at_call 29; refine (HS2.out _ _ _ _ _ HX.out HY.out).mono ?_; rintro e' wz ⟨Aq, cq, rfl, HQ, hb⟩; replace HB := Aside0.mk (below_step HB.out hb); clear hb HX HY HQ))
    go_ret
    exact ⟨rfl, HB.out⟩
  subst hse
  obtain ⟨hRB, hn64, hokA, hfnd, hs⟩ := sht_zero HSE.out
  have HRB := Aside0.mk (⟨hRB, hn64, hokA, hfnd⟩ : _ ∧ _ ∧ _ ∧ _)
  have HSL := Aside0.mk hs
  clear hRB hn64 hokA hfnd hs HSE
  go_upto_region 11 with (first
    | (go_at_call 13; refine (HCB.out _ HB.out).mono ?_; rintro e' wz ⟨AHX, cHX, rfl, HX, hb⟩; replace HB := Aside0.mk (below_step HB.out hb); clear hb)
    | (go_at_call 16; refine (HCN.out _ HB.out).mono ?_; rintro e' wz ⟨AHY, cHY, rfl, HY, hb⟩; replace HB := Aside0.mk (below_step HB.out hb); replace HX := Aside0.mk (⟨HX.out.1, Kd.C_below HX.out.2 hb⟩ : _ ∧ _); clear hb)
    | (go_at_call 29; refine (HS2.out _ _ _ _ _ HX.out HY.out).mono ?_; rintro e' wz ⟨As, cs, rfl, HQ, hb⟩; replace HB := Aside0.mk (below_step HB.out hb); clear hb HX HY))
  go_upto_region 12 with (first
    | (go_at_call 13; refine (HCR.out _ HB.out).mono ?_; rintro e' wr0 ⟨v, rfl, hR, hb⟩; have HR := Aside0.mk hR; have HBS := Aside0.mk hb; clear hR hb))
  obtain ⟨A, c, hv⟩ := Kd.R_slice HR.out
  subst hv
  have HSM := Aside0.mk (show s.length ≤ 16 by
    rw [HSL.out]
    have a1 := shtL_length l nd
    have a2 := HRB.out.1.1
    omega)
  clear HCR HS2
  go_wp2
  go_loopg [75] (s.length + 1) (fun g s75 wr => ∃ (j : Nat) (R : List S31), s75 = .int .i64 (j : Int) ∧ Aside0 (j ≤ s.length ∧ s.length + 1 - j ≤ g ∧ Raised l nd (s.take j) R) ∧ Aside0 (Kd.R k31 31 wr wz.heap.size (fun _ => True) (.slice A l.length c) R) ∧ Aside0 (Below wz.heap.size wz wr))
  case atStart => exact ⟨0, l, by rfl, ⟨by omega, by omega, by rw [List.take_zero]; exact raised_nil l nd⟩, HR, HBS⟩
  case round =>
    clear HR HBS
    obtain ⟨j, R, rfl, HJ, HR, HBS⟩ := hrel
    by_cases hlt : j < s.length
    case neg =>
      have hltb2 : decide (j < s.length) = false := decide_eq_false hlt
      have hltc2 : decide ((j : Int) < (s.length : Int)) = false := decide_eq_false (by omega)
      have hj : j = s.length := by have := HJ.out.1; omega
      have hRa := HJ.out.2.2
      rw [hj, List.take_length, HSL.out] at hRa
      have hend := raised_end HRB.out.1 HRB.out.2.1 HRB.out.2.2.1 HRB.out.2.2.2 hRa
      have HLR := Aside0.mk hRa.1
      have HSF := Aside0.mk (fun (W : World) (n : Nat) (A A' : Option Addr) (c c' : Nat) (hn : R.length = n) (h1 : n ≤ c ∧ Kd.C k31 W A R.length R) (h2 : nd.length ≤ c' ∧ Kd.C k35 W A' nd.length nd) => (by subst hn; exact R_rowsE (bond_Short.calls A c R A' c' nd [] 0 W h1.2 h1.1 h2.2 h2.1 (by unfold bond_Short.f; rw [hend])) : Calls Try.prog 29 #[.slice A n c, .slice A' nd.length c'] W _))
      replace HB := Aside0.mk (below_step HB.out HBS.out)
      have HRC := Aside0.mk (show l.length ≤ c ∧ Kd.C k31 wr A R.length R from by have := Kd.R_reads' HR.out; exact ⟨this.2.1, this.2.2⟩)
      clear hlt hj hRa hend HR
      go_wp2_with (first
        | (go_at_call 16; refine (HCN.out _ HB.out).mono ?_; rintro e' wq ⟨Ac, cc, rfl, HY, hb⟩; replace HB := Aside0.mk (below_step HB.out hb); replace HRC := Aside0.mk (⟨HRC.out.1, Kd.C_below HRC.out.2 hb⟩ : _ ∧ _); clear hb)
        | (go_at_call 29; refine (HSF.out _ _ _ _ _ _ HLR.out HRC.out HY.out).mono ?_; rintro e' wq ⟨Aq, cq, rfl, HZ, hb⟩; replace HB := Aside0.mk (below_step HB.out hb); clear hb))
      go_ret
      exact ⟨rfl, HB.out⟩
    have hltb2 : decide (j < s.length) = true := decide_eq_true hlt
    have hltc2 : decide ((j : Int) < (s.length : Int)) = true := decide_eq_true (by omega)
    have p1 : (0 ≤ (j : Int)) = True := eq_true (by omega)
    have p2 : ((j : Int) < (s.length : Int)) = True := eq_true (by omega)
    have p3 : (j < s.length) = True := eq_true hlt
    obtain ⟨ad, e, h1, h2, h3⟩ := at_T35 (Kd.C_below HQ.out.2 HBS.out) (j : Int) (by omega) (by omega)
    cases e
    rw [Int.toNat_natCast] at h1 h2 h3
    have hw' : wrap64 ((j : Int) + 1) = (j : Int) + 1 := w64_ (by omega) (by have := HSM.out; omega)
    have hw : IntKind.i64.wrap ((j : Int) + 1) = (j : Int) + 1 := by rw [i64_w]; exact hw'
    have hRa := HJ.out.2.2
    have hjs : j < (shtL l nd).length := by rw [← HSL.out]; exact hlt
    rw [HSL.out] at hRa
    obtain ⟨i, hi, hpos, hx, hidx, hrd⟩ := raised_at HRB.out.1 hjs hRa
    have hsx : rd_T35 s (j : Int) = ⟨l[i].f0, 0, sumH nd l[i].f0 - l[i].f3⟩ := by
      rw [rdH hlt, ← hx]
      congr 1
      exact HSL.out
    rw [hx] at hidx
    rw [hsx] at h1 h2 h3
    simp only at h1 h2 h3 hidx
    have hbr := HRB.out.1.2.1 _ (List.getElem_mem hi)
    unfold okB at hbr
    have hok2 : ∀ x ∈ nd, 0 ≤ x.f2 ∧ x.f2 ≤ 1125899906842624 := fun x hx => by have := HRB.out.2.2.1 x hx; unfold okA at this; simpa using this
    have hsum : 0 ≤ sumH nd l[i].f0 ∧ sumH nd l[i].f0 ≤ 13510798882111488 := by
      have a1 := sumH_nonneg (h := nd) (fun x hx => (hok2 x hx).1) l[i].f0
      have a2 := sumH_le (h := nd) (M := 1125899906842624) (by decide) (fun x hx => (hok2 x hx).2) l[i].f0
      have a3 := HND.out
      omega
    have HST := Aside0.mk (fun hle => raised_step HRB.out.1 hjs hRa hi hx hle)
    have HIL := Aside0.mk (show i < l.length ∧ R.length = l.length from ⟨hi, hRa.1⟩)
    rw [← HSL.out] at HST
    obtain ⟨xi, hxi⟩ : ∃ x : Int, x = (i : Int) := ⟨_, rfl⟩
    rw [← hxi] at hidx hrd
    have hbb : l[i] = ⟨l[i].f0, l[i].f1, l[i].f2, l[i].f3⟩ := rfl
    clear hbb
    generalize l[i].f0 = b0 at *
    generalize l[i].f1 = b1 at *
    generalize l[i].f2 = b2 at *
    generalize l[i].f3 = b3 at *
    obtain ⟨sm, hsm⟩ : ∃ sm, sm = sumH nd b0 := ⟨_, rfl⟩
    rw [← hsm] at h3 hpos hsum HST
    obtain ⟨d, hd⟩ : ∃ d, d = sm - b3 := ⟨_, rfl⟩
    rw [← hd] at h3 hpos
    have hdb : 1 ≤ d ∧ d ≤ 13510798882111488 := by omega
    have n1 : decide (xi < 0) = false := decide_eq_false (by omega)
    have n2 : decide (d < 1) = false := decide_eq_false (by omega)
    have n3 : decide (13510798882111488 < d) = false := decide_eq_false (by omega)
    have ns' : wrap64 (b3 + d) = sm := by rw [w64_ (by omega) (by omega)]; omega
    have ns : IntKind.i64.wrap (b3 + d) = sm := by rw [i64_w]; exact ns'
    obtain ⟨gO, cap, hv, -, -, -⟩ := Kd.R_form HR.out (by have := HIL.out; omega)
    injection hv with hv hv1 hv2
    subst hv
    subst hv2
    clear hv1
    have k1 : (0 ≤ xi) = True := eq_true (by omega)
    have k2 : (xi < (l.length : Int)) = True := eq_true (by have := HIL.out; omega)
    have HXI := Aside0.mk (⟨hxi, by omega⟩ : xi = (i : Int) ∧ xi.toNat = i)
    have HIDX := Aside0.mk hidx
    have HRD := Aside0.mk hrd
    have HIDN := Aside0.mk (fun (W : World) (g : Nat) (hr : Kd.R k31 31 W wz.heap.size (fun _ => True) (.slice (some ⟨gO, 0, none⟩) l.length c) R) (hc : W.cell? ⟨g, 0, none⟩ = some (.int .i64 b0)) => (by
      have := covers_idx (some ⟨gO, 0, none⟩) c l.length R HIL.out.2 HLL.out g b0 W (Kd.R_reads' hr).2.2 hc
      rw [hidx] at this
      exact this : Calls Try.prog 33 #[.slice (some ⟨gO, 0, none⟩) l.length c, .func (.func 34) #[] #[.pointer (some ⟨g, 0, none⟩)]] W fun e w' => e = .returned (.int .i64 xi) ∧ Below W.heap.size W w'))
    have HLT := Aside0.mk hlt
    have HW := Aside0.mk (⟨hw, hw'⟩ : _ ∧ _)
    have HSUM := Aside0.mk (⟨hsum, hdb, hd⟩ : _ ∧ _ ∧ _)
    clear hlt hw hw' hRa hjs hi hpos hx hidx hrd hsx hbr hok2 hsum hxi hsm hd hdb
    go_upto_region 18 with (first
      | ((with_reducible refine gate_dst (N := 15) rfl ?_); refine box_event ?hg (N := 15) ?hd (cs := #[.int .i64 0, .int .i64 0, .int .i64 0]) (t := 35) ?hr ?_; (case hd => rfl); (case hg => rfl); (case hr => first | (go_simp; done) | (go_simp; rfl)); intro g15 hg wy hbox hb5; have hc0 : wy.cell? ⟨g15, 0, none⟩ = some (.int .i64 0) := blk_cell hbox 0; have hf0 := blk_frozen hbox 0; have hc1 : wy.cell? ⟨g15, 1, none⟩ = some (.int .i64 0) := blk_cell hbox 1; have hf1 := blk_frozen hbox 1; have hc2 : wy.cell? ⟨g15, 2, none⟩ = some (.int .i64 0) := blk_cell hbox 2; have hf2 := blk_frozen hbox 2; replace hbox := Aside0.mk hbox; replace hb5 := Aside0.mk hb5; replace hg := Aside0.mk hg)
      | ((with_reducible refine gate_store (t := 35) (p := 15) rfl ?_); refine store_event (t := 35) (p := 15) (v := .tmp 78) (w1 := (((wy.setCell ⟨g15, 0, none⟩ (.int .i64 b0)).setCell ⟨g15, 1, none⟩ (.int .i64 0)).setCell ⟨g15, 2, none⟩ (.int .i64 d))) ?hg ?ho ?hn ?hr ?_; (case ho => rfl); (case hg => rfl); (case hn => rfl); (case hr => first | (go_simp; done) | (go_simp; rfl)); intro wz2 hw6; clear hc0 hf0 hc1 hf1 hc2 hf2; have hbx := box3_ (x := .int .i64 b0) (y := .int .i64 0) (z := .int .i64 d) hb5.out hg.out hbox.out; rw [← hw6] at hbx; clear hw6 hb5 hg hbox; obtain ⟨hb, hk6⟩ := hbx; replace HR := Aside0.mk (Kd.R_below HR.out hb); replace HBS := Aside0.mk (below_step HBS.out hb); have d0 : wz2.cell? ⟨g15, 0, none⟩ = some (.int .i64 b0) := blk_cell hk6 0; have d1 : wz2.cell? ⟨g15, 1, none⟩ = some (.int .i64 0) := blk_cell hk6 1; have d2 : wz2.cell? ⟨g15, 2, none⟩ = some (.int .i64 d) := blk_cell hk6 2; clear h1 h2 h3; clear hb hk6)
      | (go_at_call 33; refine (HIDN.out _ _ HR.out d0).mono ?_; rintro e' wy2 ⟨rfl, hb⟩; replace HR := Aside0.mk (Kd.R_below HR.out hb); replace HBS := Aside0.mk (below_step HBS.out hb); replace d1 := pw_cell_below hb d1; replace d2 := pw_cell_below hb d2; clear hb d0))
    obtain ⟨cl, hcl, hM, hcc, hfr⟩ := Kd.R_elem HR.out z31 xi (by have := HXI.out; omega) (by have := HXI.out; have := HIL.out; omega)
    obtain rfl := k31_openM hM
    have hzz : R.getD xi.toNat z31 = (⟨b0, b1, b2, b3⟩ : S31) := HRD.out
    rw [hzz] at hcl hcc
    simp only at hcl hcc
    have s3 : wy2.cell? ⟨gO, xi.toNat * 4 + 3, none⟩ = some (.int .i64 b3) := hcc 3 _ rfl
    have f3 : wy2.frozen? ⟨gO, xi.toNat * 4 + 3, none⟩ = false := hfr 3
    have HSG := Aside0.mk (fun (W : World) (hW : Kd.R k31 31 W wz.heap.size (fun _ => True) (.slice (some ⟨gO, 0, none⟩) l.length c) R) (hcW : ∀ j' u, [Value.int .i64 b0, .int .i64 b1, .int .i64 b2, .int .i64 b3][j']? = some u → W.cell? ⟨gO, xi.toNat * 4 + j', none⟩ = some u) =>
      Kd.R_seg hW xi (by have := HXI.out; omega) (by have := HXI.out; have := HIL.out; omega) (seg := [.int .i64 sm]) (j := 3) (x' := (⟨b0, b1, b2, sm⟩ : S31)) rfl hcW (show 4 ≤ 4 by decide) (k31_mkM _ _ (fun _ => False) _) (fun _ hk => hk.elim))
    have HCC := Aside0.mk hcc
    clear hM hfr hcl hcc hzz
    refine pw_still_tail 10 (by kernel_rfl) (by kernel_rfl) ?_
    simp only [List.take_succ_cons, List.take_zero, List.drop_succ_cons, List.drop_zero]
    replace d2 := pw_cell_drewN d2 1
    replace s3 := pw_cell_drewN s3 1
    replace f3 : (wy2.drewN 1).frozen? ⟨gO, xi.toNat * 4 + 3, none⟩ = false := f3
    replace HR := Aside0.mk (Kd.R_drewN HR.out 1)
    replace HBS := Aside0.mk (pw_below_drewN HBS.out 1)
    replace HCC := Aside0.mk (fun j' u hu => pw_cell_drewN (HCC.out j' u hu) 1)
    clear d1
    generalize wy2.drewN 1 = w12d at *
    repeat still_step
    refine wpStill_nil ?_
    go_upto_region 19 with fail
    obtain ⟨w14, hV⟩ : ∃ w', w' = w12d.setCell ⟨gO, xi.toNat * 4 + 3, none⟩ (.int .i64 sm) := ⟨_, rfl⟩
    rw [← hV]
    have hsg := HSG.out w12d HR.out HCC.out
    have hgr : w12d.grownBy w14 (some gO) := by rw [hV]; exact hsg.2
    have ho1 : Kd.R k31 31 w14 wz.heap.size (fun _ => True) (.slice (some ⟨gO, 0, none⟩) l.length c) (R.set xi.toNat (⟨b0, b1, b2, sm⟩ : S31)) := by rw [hV]; exact hsg.1
    replace HBS := Aside0.mk (HBS.out.grown hgr HBS.out.size (fun k hk => by cases hk; exact Kd.R_base HR.out gO rfl))
    obtain ⟨cl, hcl, hM, hcc, hfr⟩ := Kd.R_elem ho1 z31 xi (by have := HXI.out; omega) (by have := HXI.out; have := HIL.out; omega)
    obtain rfl := k31_openM hM
    have hzz : (R.set xi.toNat (⟨b0, b1, b2, sm⟩ : S31)).getD xi.toNat z31 = (⟨b0, b1, b2, sm⟩ : S31) := by
      have a1 := HXI.out; have a2 := HIL.out
      rw [List.getD_eq_getElem?_getD, List.getElem?_set_self (by omega)]
      rfl
    rw [hzz] at hcc
    have s3' : w14.cell? ⟨gO, xi.toNat * 4 + 3, none⟩ = some (.int .i64 sm) := hcc 3 _ rfl
    replace HR := Aside0.mk ho1
    clear hV hsg hgr ho1 hM hfr hcl hcc hzz d2 s3 f3 HCC HSG
    by_cases hle : sm ≤ 1125899906842624
    case neg =>
      have q3 : decide (1125899906842624 < sm) = true := decide_eq_true (by omega)
      replace HB := Aside0.mk (below_step HB.out HBS.out)
      clear hle
      go_wp2
      go_ret
      exact ⟨rfl, HB.out⟩
    have q3 : decide (1125899906842624 < sm) = false := decide_eq_false (by omega)
    have HRN := Aside0.mk (HST.out hle)
    clear hle
    go_wp2
    go_roundg (s.length + 1 - (j + 1))
    case measure => have := HJ.out; have := HLT.out; omega
    case rel => exact ⟨j + 1, R.set i ⟨b0, b1, b2, sm⟩, by first | rfl | (rw [HW.out.1]; rfl) | (rw [HW.out.2]; rfl), ⟨HLT.out, Nat.le_refl _, HRN.out⟩, ⟨by have := HR.out; rw [HXI.out.2] at this; exact this⟩, HBS⟩

end Go.Proofs.Ytdolabpkgienkaa.PF
