/- audit.Table and the reference's Table: what they return. -/
import Derived.Test.YtcapbigknimgnaaMAud
import Derived.Test.YtcapbigknimgnaaMAud2
import Derived.Test.YtcapbigknimgnaaMAudAwake
import Derived.Test.YtcapbigknimgnaaMCf17
import Derived.Test.YtcapbigknimgnaaMEv
import Derived.Test.YtcapbigknimgnaaMKnown17
import Derived.Test.YtcapbigknimgnaaMOpt
import Derived.Test.YtcapbigknimgnaaPF0
import Derived.Test.YtcapbigknimgnaaPF1
import Derived.Test.YtcapbigknimgnaaPF17
import Derived.Test.YtcapbigknimgnaaPF21
import Derived.Test.YtcapbigknimgnaaPF22
import Derived.Test.YtcapbigknimgnaaPF23
import Derived.Test.YtcapbigknimgnaaPF8
namespace Go.Proofs.Ytcapbigknimgnaa.PF
open Go.RowKit Go.Proofs.YtcapbigknimgnaaW.PrintWords Go.Proofs.YtcapbigknimgnaaW.PrintLast Go.Proofs.YtcapbigknimgnaaW.PrintMore
set_option linter.unusedVariables false
set_option linter.unusedSimpArgs false
theorem cmS_length (l : List S44) (m : Nat) : (cmS l m).length ≤ m := cmS_len l m
/-- The answer to the rows that are left. -/
def tabE (out : List S44) : List S44 × Int := if (dchk out).2 = 0 then (out, 0) else ([], (dchk out).2)
def tabS (l : List S44) : List S44 × Int := if (rchk l).2 ≠ 0 then ([], 1) else if 0 < leT l then ([], 18) else tabE (cmS l l.length)
theorem tabE_length (out : List S44) : (tabE out).1.length ≤ out.length := by
  unfold tabE
  split <;> simp
theorem tabS_length (l : List S44) : (tabS l).1.length ≤ l.length := by
  unfold tabS
  split
  · simp
  · split
    · simp
    · exact Nat.le_trans (tabE_length _) (cmS_len l _)
theorem spileref17_Table.go (l : List S44) (hl : l.length ≤ 128) (d : Nat) : ∀ i : Nat, i + d = l.length → Ev (fun k => spileref17_Table.l0 k l (cmS l i) (i : Int)) (tabE (cmS l l.length)) := by
  induction d with
  | zero =>
    intro i hi
    have e : i = l.length := by omega
    subst e
    refine Ev.ret (fun k => ?_)
    simp only [spileref17_Table.l0]
    rw [if_neg (by omega)]
    unfold spileref16_Check_s.f tabE
    rw [Option.bind_some]
    split <;> rfl
  | succ d ih =>
    intro i hi
    have hlen := cmS_len l i
    refine Ev.step (fun k => ?_) (ih (i + 1) (by omega))
    simp only [spileref17_Table.l0]
    have hw : wrap64 ((i : Int) + 1) = ((i + 1 : Nat) : Int) := by rw [w64_ (by omega) (by omega)]; rfl
    rw [if_pos (by omega), hw]
    rcases Nat.eq_zero_or_pos i with rfl | hp
    · rw [if_pos (by rfl), if_pos (by omega), if_pos (by omega)]
      rfl
    · rw [if_neg (by omega), if_pos (by omega), w64_ (by omega) (by omega), if_pos (by omega), if_pos (by omega)]
      have e1 : cmS l (i + 1) = if kpS l i then cmS l i ++ [rd_T44 l (i : Int)] else cmS l i := rfl
      have e2 : kpS l i = !((rd_T44 l (i : Int)).f0 == (rd_T44 l ((i : Int) - 1)).f0) := by
        unfold kpS
        rw [show (i == 0) = false by simp; omega, Bool.false_or]
      rw [e1, e2]
      by_cases hq : (rd_T44 l (i : Int)).f0 = (rd_T44 l ((i : Int) - 1)).f0
      · rw [if_pos hq, hq]
        simp
      · rw [if_neg hq, if_pos (by omega)]
        have : ((rd_T44 l (i : Int)).f0 == (rd_T44 l ((i : Int) - 1)).f0) = false := by simpa using hq
        rw [this]
        rfl
theorem spileref17_Table.ev (l : List S44) : Ev (fun k => spileref17_Table.f k l) (tabS l) := by
  unfold spileref17_Table.f
  refine Ev.bind (spileref17_Least.ev l) ?_
  unfold leS tabS
  by_cases h : (rchk l).2 = 0
  · rw [if_neg (not_not_intro h), if_neg (not_not_intro h)]
    have hR := (rchk_iff l).1 h
    by_cases hp : 0 < leT l
    · refine Ev.now (fun k => ?_)
      rw [if_pos rfl, if_pos hp, if_pos hp]
    · refine Ev.same (fun k => ?_) (by rw [if_neg hp]; exact spileref17_Table.go l hR.hi l.length 0 (by omega))
      rw [if_pos rfl, if_neg (by omega)]
      rfl
  · rw [if_pos h, if_pos h]
    exact Ev.now (fun k => rfl)
set_option maxHeartbeats 1000000 in
set_option maxRecDepth 100000 in
theorem audit_Table.clo (W : World) (x y : S44) : Calls Try.prog 55 #[.agg #[.int .i64 x.f0, .int .i64 x.f1], .agg #[.int .i64 y.f0, .int .i64 y.f1]] W fun e w' => e = .returned (.bool (x.f0 == y.f0)) ∧ Below W.heap.size W w' := by
  have HB := Aside0.mk (below_alloc (below_alloc (Below.refl W.heap.size W) (.cells #[.int .i64 x.f0, .int .i64 x.f1] 44)) (.cells #[.int .i64 y.f0, .int .i64 y.f1] 44))
  generalize x.f0 = x0 at *
  generalize x.f1 = x1 at *
  generalize y.f0 = y0 at *
  generalize y.f1 = y1 at *
  go_enter Try.func55, Try.ntmps55
  go_wp2
  go_ret
  exact ⟨by first | rfl | (congr 1; simp), HB.out⟩
set_option maxHeartbeats 1000000 in
set_option maxRecDepth 100000 in
theorem audit_Table.known1 {l : List S44} (A : Option Addr) (c : Nat) (w : World) (hr : Kd.C k44 w A l.length l) (hc : l.length ≤ c) (hk : (rchk l).2 ≠ 0) :
    Calls Try.prog 36 #[.slice A l.length c] w fun x w' => x = .returned (.tuple #[.slice none 0 0, .int .i64 1]) ∧ Below w.heap.size w w' := by
  have HL := Aside0.mk (audit_Least.known A c w hr hc (show leS l = (0, 1) by unfold leS; rw [if_pos hk]))
  clear hk hr hc
  go_enter Try.func36, Try.ntmps36
  go_wp2_with fail
  refine HL.out.mono ?_
  rintro e w2 ⟨rfl, hb⟩
  have HB := Aside0.mk hb
  clear hb
  go_wp2
  go_ret2
  exact ⟨rfl, HB.out⟩
set_option maxHeartbeats 1000000 in
set_option maxRecDepth 100000 in
theorem audit_Table.known2 {l : List S44} (A : Option Addr) (c : Nat) (w : World) (hr : Kd.C k44 w A l.length l) (hc : l.length ≤ c) (hk : (rchk l).2 = 0) (hp : 0 < leT l) :
    Calls Try.prog 36 #[.slice A l.length c] w fun x w' => x = .returned (.tuple #[.slice none 0 0, .int .i64 18]) ∧ Below w.heap.size w w' := by
  have HL := Aside0.mk (audit_Least.known A c w hr hc (show leS l = (leT l, 0) by unfold leS; rw [if_neg (not_not_intro hk)]))
  have b0 : decide (0 < leT l) = true := decide_eq_true hp
  clear hk hr hc hp
  generalize leT l = t at *
  go_enter Try.func36, Try.ntmps36
  go_wp2_with fail
  refine HL.out.mono ?_
  rintro e w2 ⟨rfl, hb⟩
  have HB := Aside0.mk hb
  clear hb
  go_wp2
  go_ret2
  exact ⟨rfl, HB.out⟩
set_option maxHeartbeats 1000000 in
set_option maxRecDepth 100000 in
theorem audit_Table.known3 {l : List S44} (A : Option Addr) (c : Nat) (w : World) (hr : Kd.C k44 w A l.length l) (hc : l.length ≤ c) (hR : RightR l) (hp : leT l = 0) {r : List S44} {e : Int} (he : tabE (cmS l l.length) = (r, e)) :
    Calls Try.prog 36 #[.slice A l.length c] w fun x w' => ∃ A' c', x = .returned (.tuple #[.slice A' r.length c', .int .i64 e]) ∧ r.length ≤ c' ∧ Kd.C k44 w' A' r.length r ∧ Below w.heap.size w w' := by
  have HL := Aside0.mk (audit_Least.known A c w hr hc (show leS l = (0, 0) by unfold leS; rw [if_neg (not_not_intro ((rchk_iff l).2 hR)), hp]))
  have h128 := hR.hi
  have hlo := hR.lo
  have HCl := Aside0.mk (fun W (hb : Below w.heap.size w W) => api_Grade_25.calls A c l l W (Kd.C_below hr hb) hc (by unfold api_Grade_25.f; rw [if_pos (by omega)]))
  have eg : ∀ args w, (callFunc 55 args).run Try.prog w = .ok (.enter 55 args) w := enters_of Try.func55 (by kernel_rfl) rfl
  have HCF := Aside0.mk (fun (W : World) (base g cc : Nat) (hG : G2 W g cc l) (hb : base ≤ g) (hbb : base ≤ W.heap.size) => cf.calls 55 base g cc l W eg hG hb hbb (by omega) audit_Table.clo)
  obtain ⟨m, hm⟩ : ∃ m, cmS l l.length = m := ⟨_, rfl⟩
  rw [hm] at he HCF
  obtain ⟨q1, q2, hq⟩ : ∃ q1 q2, dchk m = (q1, q2) := ⟨(dchk m).1, (dchk m).2, rfl⟩
  have HD := Aside0.mk (fun (W : World) (A' : Option Addr) (c' : Nat) (h1 : Kd.C k44 W A' m.length m) (h2 : m.length ≤ c') => density_Check_s.calls A' c' m q1 q2 W h1 h2 (by unfold density_Check_s.f; rw [hq]))
  unfold tabE at he
  rw [hq] at he
  have HLO := Aside0.mk hlo
  clear hr hc hR hp h128 hm hq eg hlo
  go_enter Try.func36, Try.ntmps36
  go_wp2_with fail
  refine HL.out.mono ?_
  rintro e1 w2 ⟨rfl, hb⟩
  have HB := Aside0.mk hb
  clear hb HL
  go_wp2_with fail
  refine (HCl.out _ HB.out).mono ?_
  rintro e1 w3 ⟨v3, rfl, hR3, hb⟩
  obtain ⟨g, cap, rfl, hbg, _, _⟩ := Kd.R_form hR3 HLO.out
  obtain ⟨hG, _, _, hcap⟩ := G2.ofR hR3 HLO.out
  have HG := Aside0.mk hG
  have HB3 := Aside0.mk (below_step HB.out hb)
  have HBG := Aside0.mk hbg
  have HS := Aside0.mk (show w2.heap.size ≤ w3.heap.size from hb.size)
  have HSB := Aside0.mk (show w.heap.size ≤ w2.heap.size from HB.out.size)
  have HCAP := Aside0.mk hcap
  clear hb hR3 hG hbg hcap HCl HB
  go_wp2_with fail
  refine (HCF.out _ w2.heap.size g cap HG.out HBG.out HS.out).mono ?_
  rintro e1 w4 ⟨rfl, hG4, hb⟩
  have HB4 := Aside0.mk (HB3.out.trans ⟨hb.os, hb.tape, hb.output, hb.size, fun k hk => hb.block k (by have := HSB.out; omega)⟩)
  have hR4 := hG4.toC w2.heap.size HBG.out HCAP.out
  have hm4 : m.length ≤ cap := (Kd.R_reads' hR4).2.1
  have HC4 := Aside0.mk (Kd.R_reads' hR4).2.2
  have HM4 := Aside0.mk hm4
  clear hb hR4 hG4 hm4 HCF HG HB3 HBG HS HSB HCAP
  go_wp2_with fail
  refine (HD.out _ _ _ HC4.out HM4.out).mono ?_
  rintro e1 w5 ⟨rfl, hb⟩
  have HB5 := Aside0.mk (below_step HB4.out hb)
  have HC5 := Aside0.mk (Kd.C_below HC4.out hb)
  clear hb HD HC4 HB4
  by_cases hz : q2 = 0
  · subst hz
    rw [if_pos rfl] at he
    have h1 := congrArg Prod.fst he
    have h2 := congrArg Prod.snd he
    simp only at h1 h2
    subst h1
    subst h2
    clear he
    go_wp2
    go_ret2
    exact ⟨_, _, rfl, HM4.out, HC5.out, HB5.out⟩
  · have hzb : (q2 == 0) = false := by simpa using hz
    rw [if_neg hz] at he
    have h1 := congrArg Prod.fst he
    have h2 := congrArg Prod.snd he
    simp only at h1 h2
    subst h1
    subst h2
    clear he
    go_wp2
    go_ret2
    exact ⟨_, _, rfl, Nat.le_refl _, Kd.C_nil _ _, HB5.out⟩
theorem audit_Table.known {l : List S44} (A : Option Addr) (c : Nat) (w : World) (hr : Kd.C k44 w A l.length l) (hc : l.length ≤ c) {r : List S44} {e : Int} (h : tabS l = (r, e)) :
    Calls Try.prog 36 #[.slice A l.length c] w fun x w' => ∃ A' c', x = .returned (.tuple #[.slice A' r.length c', .int .i64 e]) ∧ r.length ≤ c' ∧ Kd.C k44 w' A' r.length r ∧ Below w.heap.size w w' := by
  unfold tabS at h
  by_cases hk : (rchk l).2 = 0
  · rw [if_neg (not_not_intro hk)] at h
    by_cases hp : 0 < leT l
    · rw [if_pos hp] at h
      obtain ⟨rfl, rfl⟩ := Prod.mk.inj h
      exact (audit_Table.known2 A c w hr hc hk hp).mono fun x w' ⟨h1, h2⟩ => ⟨_, _, h1, Nat.le_refl _, Kd.C_nil _ _, h2⟩
    · rw [if_neg hp] at h
      exact audit_Table.known3 A c w hr hc ((rchk_iff l).1 hk) (by have := leT_nonneg l; omega) h
  · rw [if_pos hk] at h
    obtain ⟨rfl, rfl⟩ := Prod.mk.inj h
    exact (audit_Table.known1 A c w hr hc hk).mono fun x w' ⟨h1, h2⟩ => ⟨_, _, h1, Nat.le_refl _, Kd.C_nil _ _, h2⟩
theorem spileref17_Table.known {l : List S44} (A : Option Addr) (c : Nat) (w : World) (hr : Kd.C k44 w A l.length l) (hc : l.length ≤ c) {r : List S44} {e : Int} (h : tabS l = (r, e)) :
    Calls Try.prog 37 #[.slice A l.length c] w fun x w' => ∃ A' c', x = .returned (.tuple #[.slice A' r.length c', .int .i64 e]) ∧ r.length ≤ c' ∧ Kd.C k44 w' A' r.length r ∧ Below w.heap.size w w' := by
  obtain ⟨k, hk⟩ := Ev.given (spileref17_Table.ev l)
  rw [h] at hk
  refine (spileref17_Table.calls k A c l r e w hr hc hk).mono ?_
  rintro x w' ⟨v, rfl, hR, hb⟩
  obtain ⟨A', c', rfl⟩ := Kd.R_slice hR
  exact ⟨A', c', rfl, (Kd.R_reads' hR).2.1, (Kd.R_reads' hR).2.2, hb⟩
theorem spileref16_Same.same_ (x : List S44) (hx : x.length ≤ 20000) : Ev (fun k => spileref16_Same.f k x x) true := by
  have key : ∀ d i : Nat, i + d = x.length → Ev (fun k => spileref16_Same.l0 k x x (i : Int)) true := by
    intro d
    induction d with
    | zero =>
      intro i hi
      refine Ev.ret (fun k => ?_)
      simp only [spileref16_Same.l0]
      rw [if_neg (by omega)]
    | succ d ih =>
      intro i hi
      refine Ev.step (fun k => ?_) (ih (i + 1) (by omega))
      simp only [spileref16_Same.l0]
      rw [if_pos (by omega), if_pos (by omega), if_pos (by omega), if_neg (by simp), w64_ (by omega) (by omega)]
      rfl
  unfold spileref16_Same.f
  exact Ev.same (fun k => by rw [if_pos rfl]; rfl) (key x.length 0 (by omega))
theorem spileref16_Same.known {l : List S44} (hn : l.length ≤ 20000) (A B : Option Addr) (c d : Nat) (w : World) (hr : Kd.C k44 w A l.length l) (hc : l.length ≤ c) (hs : Kd.C k44 w B l.length l) (hd : l.length ≤ d) :
    Calls Try.prog 24 #[.slice A l.length c, .slice B l.length d] w fun x w' => x = .returned (.bool true) ∧ Below w.heap.size w w' := by
  obtain ⟨k, hk⟩ := Ev.given (spileref16_Same.same_ l hn)
  exact (spileref16_Same.calls k A c l B d l true w hr hc hs hd hk).mono fun x w' ⟨h1, h2⟩ => ⟨h1, h2.below⟩

end Go.Proofs.Ytcapbigknimgnaa.PF
