/- What the functions of package audit and of its reference return, in plain numbers: repaired rows. -/
import Derived.Test.YtcapbigknimgnaaMAud
import Derived.Test.YtcapbigknimgnaaMEv
import Derived.Test.YtcapbigknimgnaaPF0
import Derived.Test.YtcapbigknimgnaaPF1
import Derived.Test.YtcapbigknimgnaaPF17
import Derived.Test.YtcapbigknimgnaaPF6
import Derived.Test.YtcapbigknimgnaaPF8
namespace Go.Proofs.Ytcapbigknimgnaa.PF
open Go.RowKit Go.Proofs.YtcapbigknimgnaaW.PrintWords Go.Proofs.YtcapbigknimgnaaW.PrintLast Go.Proofs.YtcapbigknimgnaaW.PrintMore
set_option linter.unusedVariables false
set_option linter.unusedSimpArgs false
def rpRow (l : List S44) (i : Nat) : Nat → Nat → Int → Int → Int × Int
  | 0, _, hi, lo => (hi, lo)
  | d + 1, j, hi, lo => rpRow l i d (j + 1) (if (rd_T44 l (j : Int)).f0 ≥ (rd_T44 l (i : Int)).f0 then mx hi (rd_T44 l (j : Int)).f1 else hi) (if (rd_T44 l (j : Int)).f0 ≤ (rd_T44 l (i : Int)).f0 then mn lo (rd_T44 l (j : Int)).f1 else lo)
def repD (l : List S44) (i : Nat) : Int := ((rpRow l i l.length 0 (rd_T44 l (i : Int)).f1 (rd_T44 l (i : Int)).f1).1 + (rpRow l i l.length 0 (rd_T44 l (i : Int)).f1 (rd_T44 l (i : Int)).f1).2) / 2
def repV (l : List S44) (i : Nat) : S44 := ⟨(rd_T44 l (i : Int)).f0, repD l i⟩
def repC (l : List S44) : Nat → Int
  | 0 => 0
  | i + 1 => mx (mx (repC l i) (repD l i - (rd_T44 l (i : Int)).f1)) ((rd_T44 l (i : Int)).f1 - repD l i)
def repS (l : List S44) : List S44 × Int × Int := if (rchk l).2 ≠ 0 then ([], 0, 1) else ((List.range l.length).map (repV l), repC l l.length, 0)
theorem RightR.rpRow_rng {l : List S44} (h : RightR l) {i : Nat} : ∀ d j hi lo, j + d = l.length → 50000 ≤ hi ∧ hi ≤ 120000 → 50000 ≤ lo ∧ lo ≤ 120000 →
    (50000 ≤ (rpRow l i d j hi lo).1 ∧ (rpRow l i d j hi lo).1 ≤ 120000) ∧ (50000 ≤ (rpRow l i d j hi lo).2 ∧ (rpRow l i d j hi lo).2 ≤ 120000) := by
  intro d
  induction d with
  | zero => exact fun _ _ _ _ h1 h2 => ⟨h1, h2⟩
  | succ d ih =>
    intro j hi lo hj h1 h2
    have hr := h.row j (by omega)
    simp only [rpRow]
    refine ih (j + 1) _ _ (by omega) ?_ ?_
    · unfold mx; split <;> (try split) <;> omega
    · unfold mn; split <;> (try split) <;> omega
theorem RightR.repD_rng {l : List S44} (h : RightR l) {i : Nat} (hi : i < l.length) : 50000 ≤ repD l i ∧ repD l i ≤ 120000 := by
  have hr := h.row i hi
  have := h.rpRow_rng (i := i) l.length 0 (rd_T44 l (i : Int)).f1 (rd_T44 l (i : Int)).f1 (by omega) ⟨by omega, by omega⟩ ⟨by omega, by omega⟩
  unfold repD
  omega
theorem RightR.repC_rng {l : List S44} (h : RightR l) : ∀ i, i ≤ l.length → 0 ≤ repC l i ∧ repC l i ≤ 120000 := by
  intro i
  induction i with
  | zero => intro _; exact ⟨Int.le_refl _, by show (0 : Int) ≤ 120000; decide⟩
  | succ i ih =>
    intro hi
    have h1 := ih (by omega)
    have h2 := h.repD_rng (i := i) (by omega)
    have h3 := h.row i (by omega)
    simp only [repC]
    unfold mx
    split <;> (try split) <;> omega
theorem rd_T_app (l : List S44) (i : Nat) (hi : i < l.length) : rd_T44 ((List.range i).map (repV l) ++ l.drop i) (i : Int) = rd_T44 l (i : Int) := by
  unfold rd_T44
  rw [Int.toNat_natCast, List.getD_eq_getElem?_getD, List.getD_eq_getElem?_getD, List.getElem?_append_right (by simp)]
  simp
theorem set_app (l : List S44) (i : Nat) (hi : i < l.length) : ((List.range i).map (repV l) ++ l.drop i).set i (repV l i) = (List.range (i + 1)).map (repV l) ++ l.drop (i + 1) := by
  rw [List.range_succ, List.map_append, List.append_assoc, List.set_append, if_neg (by simp), show i - ((List.range i).map (repV l)).length = 0 by simp, List.drop_eq_getElem_cons hi]
  rfl
theorem rd_T_app1 (l : List S44) (i : Nat) : rd_T44 ((List.range (i + 1)).map (repV l) ++ l.drop (i + 1)) (i : Int) = repV l i := by
  unfold rd_T44
  rw [Int.toNat_natCast, List.getD_eq_getElem?_getD, List.getElem?_append_left (by simp)]
  simp
theorem greatest_ (c a b : Int) (hc : 0 ≤ c) : audit_greatest.f [c, a, b] = some (mx (mx c a) b) := by
  unfold audit_greatest.f slices_Max_int_int.f
  rw [if_pos (by show 3 < 17592186044416; decide), if_pos (by show 0 < 4 ∧ 4 < 4611686018427387904; decide)]
  simp only [Option.bind_some]
  show some (mx (mx (mx c a) b) 0) = _
  congr 1
  unfold mx
  split <;> split <;> (try split) <;> omega
theorem audit_Repair.ev (l : List S44) : Ev (fun k => audit_Repair.f k l) (repS l) := by
  unfold audit_Repair.f repS
  refine Ev.bind (audit_right.ev l) ?_
  by_cases hr : (rchk l).2 = 0
  · have h := (rchk_iff l).1 hr
    have hn := h.hi
    rw [if_neg (not_not_intro hr), hr]
    simp only [beq_self_eq_true, if_true]
    unfold api_Grade_25.f
    rw [if_pos (by omega)]
    simp only [Option.bind_some]
    have key : ∀ d i : Nat, i + d = l.length → Ev (fun k => audit_Repair.l0 k l ((List.range i).map (repV l) ++ l.drop i) (repC l i) l (l.length : Int) (i : Int)) ((List.range l.length).map (repV l), repC l l.length, 0) := by
      intro d
      induction d with
      | zero =>
        intro i hi
        obtain rfl : i = l.length := by omega
        refine Ev.ret (fun k => ?_)
        simp only [audit_Repair.l0]
        rw [if_neg (by omega), List.drop_length, List.append_nil]
      | succ d ih =>
        intro i hi
        have hrow : ∀ e j : Nat, j + e = l.length → ∀ (hi' lo' : Int), 50000 ≤ hi' ∧ hi' ≤ 120000 → 50000 ≤ lo' ∧ lo' ≤ 120000 → rpRow l i e j hi' lo' = rpRow l i l.length 0 (rd_T44 l (i : Int)).f1 (rd_T44 l (i : Int)).f1 →
            Ev (fun k => audit_Repair.l1 k l ((List.range i).map (repV l) ++ l.drop i) (repC l i) (i : Int) hi' lo' l (l.length : Int) (i : Int) l (l.length : Int) (j : Int) (rd_T44 l (i : Int)).f0 (rd_T44 l (i : Int)).f1) ((List.range l.length).map (repV l), repC l l.length, 0) := by
          intro e
          induction e with
          | zero =>
            intro j hj hi' lo' h1 h2 he
            refine Ev.step (fun k => ?_) (ih (i + 1) (by omega))
            have hD : repD l i = (hi' + lo') / 2 := by unfold repD; rw [← he]; rfl
            have hrow := h.row i (by omega)
            have hdr := h.repD_rng (i := i) (by omega)
            have hcr := h.repC_rng i (by omega)
            simp only [audit_Repair.l1]
            rw [if_neg (by omega), if_pos (by omega), if_pos (by simp; omega), w64_ (x := hi' + lo') (by omega) (by omega), Int.tdiv_eq_ediv_of_nonneg (by omega), ← hD, w64_ (x := repD l i) (by omega) (by omega), Int.toNat_natCast, rd_T_app l i (by omega)]
            simp only [Option.bind_some]
            rw [show (⟨(rd_T44 l (i : Int)).f0, repD l i⟩ : S44) = repV l i from rfl, set_app l i (by omega), rd_T_app1]
            rw [show (repV l i).f1 = repD l i from rfl, w64_ (x := repD l i - _) (by omega) (by omega), w64_ (x := _ - repD l i) (by omega) (by omega), greatest_ _ _ _ hcr.1]
            simp only [Option.bind_some]
            rw [w64_ (by omega) (by omega)]
            rfl
          | succ e ihe =>
            intro j hj hi' lo' h1 h2 he
            have hrow := h.row j (by omega)
            refine Ev.step (fun k => ?_) (ihe (j + 1) (by omega) (if (rd_T44 l (j : Int)).f0 ≥ (rd_T44 l (i : Int)).f0 then mx hi' (rd_T44 l (j : Int)).f1 else hi') (if (rd_T44 l (j : Int)).f0 ≤ (rd_T44 l (i : Int)).f0 then mn lo' (rd_T44 l (j : Int)).f1 else lo') (by unfold mx; split <;> (try split) <;> omega) (by unfold mn; split <;> (try split) <;> omega) he)
            simp only [audit_Repair.l1]
            rw [if_pos (by omega), if_pos (by omega), if_pos (by omega), w64_ (by omega) (by omega)]
            by_cases c1 : (rd_T44 l (j : Int)).f0 ≥ (rd_T44 l (i : Int)).f0
            · by_cases c2 : (rd_T44 l (j : Int)).f0 ≤ (rd_T44 l (i : Int)).f0
              · rw [if_pos c1, if_pos c2, if_pos c1, if_pos c2]; rfl
              · rw [if_pos c1, if_neg c2, if_pos c1, if_neg c2]; rfl
            · by_cases c2 : (rd_T44 l (j : Int)).f0 ≤ (rd_T44 l (i : Int)).f0
              · rw [if_neg c1, if_pos c2, if_neg c1, if_pos c2]; rfl
              · rw [if_neg c1, if_neg c2, if_neg c1, if_neg c2]; rfl
        have hr0 := h.row i (by omega)
        refine Ev.step (fun k => ?_) (hrow l.length 0 (by omega) (rd_T44 l (i : Int)).f1 (rd_T44 l (i : Int)).f1 ⟨by omega, by omega⟩ ⟨by omega, by omega⟩ rfl)
        simp only [audit_Repair.l0]
        rw [if_pos (by omega), if_pos (by omega), if_pos (by omega)]
        rfl
    exact key l.length 0 (by omega)
  · rw [if_pos hr]
    have e : ((rchk l).2 == 0) = false := beq_eq_false_iff_ne.mpr hr
    rw [e]
    exact Ev.now (fun k => rfl)
theorem spileref17_Repair.ev (l : List S44) : Ev (fun k => spileref17_Repair.f k l) (repS l) := by
  unfold spileref17_Repair.f repS
  refine Ev.bind (spileref17_right.ev l) ?_
  by_cases hr : (rchk l).2 = 0
  · have h := (rchk_iff l).1 hr
    have hn := h.hi
    rw [if_neg (not_not_intro hr), hr]
    simp only [beq_self_eq_true, if_true]
    have key : ∀ d i : Nat, i + d = l.length → Ev (fun k => spileref17_Repair.l0 k l ((List.range i).map (repV l)) (repC l i) (i : Int)) ((List.range l.length).map (repV l), repC l l.length, 0) := by
      intro d
      induction d with
      | zero =>
        intro i hi
        obtain rfl : i = l.length := by omega
        refine Ev.ret (fun k => ?_)
        simp only [spileref17_Repair.l0]
        rw [if_neg (by omega)]
      | succ d ih =>
        intro i hi
        have hrow : ∀ e j : Nat, j + e = l.length → ∀ (hi' lo' : Int), 50000 ≤ hi' ∧ hi' ≤ 120000 → 50000 ≤ lo' ∧ lo' ≤ 120000 → rpRow l i e j hi' lo' = rpRow l i l.length 0 (rd_T44 l (i : Int)).f1 (rd_T44 l (i : Int)).f1 →
            Ev (fun k => spileref17_Repair.l1 k l ((List.range i).map (repV l)) (repC l i) (i : Int) hi' lo' (j : Int)) ((List.range l.length).map (repV l), repC l l.length, 0) := by
          intro e
          induction e with
          | zero =>
            intro j hj hi' lo' h1 h2 he
            refine Ev.step (fun k => ?_) (ih (i + 1) (by omega))
            have hD : repD l i = (hi' + lo') / 2 := by unfold repD; rw [← he]; rfl
            have hrow := h.row i (by omega)
            have hdr := h.repD_rng (i := i) (by omega)
            have hcr := h.repC_rng i (by omega)
            simp only [spileref17_Repair.l1]
            rw [if_neg (by omega), if_pos (by omega), if_pos (by omega), if_pos (by simp; omega), w64_ (x := hi' + lo') (by omega) (by omega), Int.tdiv_eq_ediv_of_nonneg (by omega), ← hD, w64_ (x := repD l i) (by omega) (by omega)]
            rw [show (⟨(rd_T44 l (i : Int)).f0, repD l i⟩ : S44) = repV l i from rfl, w64_ (x := repD l i - _) (by omega) (by omega), w64_ (x := _ - repD l i) (by omega) (by omega), w64_ (by omega) (by omega), List.range_succ, List.map_append]
            rfl
          | succ e ihe =>
            intro j hj hi' lo' h1 h2 he
            have hrow := h.row j (by omega)
            refine Ev.step (fun k => ?_) (ihe (j + 1) (by omega) (if (rd_T44 l (j : Int)).f0 ≥ (rd_T44 l (i : Int)).f0 then mx hi' (rd_T44 l (j : Int)).f1 else hi') (if (rd_T44 l (j : Int)).f0 ≤ (rd_T44 l (i : Int)).f0 then mn lo' (rd_T44 l (j : Int)).f1 else lo') (by unfold mx; split <;> (try split) <;> omega) (by unfold mn; split <;> (try split) <;> omega) he)
            simp only [spileref17_Repair.l1]
            rw [if_pos (by omega), if_pos (by omega), if_pos (by omega), if_pos (by omega), w64_ (by omega) (by omega)]
            by_cases c1 : (rd_T44 l (j : Int)).f0 ≥ (rd_T44 l (i : Int)).f0
            · by_cases c2 : (rd_T44 l (j : Int)).f0 ≤ (rd_T44 l (i : Int)).f0
              · rw [if_pos c1, if_pos c2, if_pos c1, if_pos c2]; rfl
              · rw [if_pos c1, if_neg c2, if_pos c1, if_neg c2]; rfl
            · by_cases c2 : (rd_T44 l (j : Int)).f0 ≤ (rd_T44 l (i : Int)).f0
              · rw [if_neg c1, if_pos c2, if_neg c1, if_pos c2]; rfl
              · rw [if_neg c1, if_neg c2, if_neg c1, if_neg c2]; rfl
        have hr0 := h.row i (by omega)
        refine Ev.step (fun k => ?_) (hrow l.length 0 (by omega) (rd_T44 l (i : Int)).f1 (rd_T44 l (i : Int)).f1 ⟨by omega, by omega⟩ ⟨by omega, by omega⟩ rfl)
        simp only [spileref17_Repair.l0]
        rw [if_pos (by omega), if_pos (by omega)]
        rfl
    exact key l.length 0 (by omega)
  · rw [if_pos hr]
    have e : ((rchk l).2 == 0) = false := beq_eq_false_iff_ne.mpr hr
    rw [e]
    exact Ev.now (fun k => rfl)

end Go.Proofs.Ytcapbigknimgnaa.PF
