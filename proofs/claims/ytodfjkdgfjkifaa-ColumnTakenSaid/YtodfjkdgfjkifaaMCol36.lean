/- column.right, Balance, Whole, Open: what they return. -/
import Derived.Test.YtodfjkdgfjkifaaMBal36
import Derived.Test.YtodfjkdgfjkifaaMChk36
import Derived.Test.YtodfjkdgfjkifaaMOpn36
import Derived.Test.YtodfjkdgfjkifaaPF0
import Derived.Test.YtodfjkdgfjkifaaPF1
import Derived.Carry
import Derived.Shelf.RegionOpenPlain
namespace Go.Proofs.Ytodfjkdgfjkifaa.PF
open Go.RowKit Go.Proofs.YtodfjkdgfjkifaaW.PrintWords Go.Proofs.YtodfjkdgfjkifaaW.PrintLast Go.Proofs.YtodfjkdgfjkifaaW.PrintMore
set_option linter.unusedVariables false
set_option linter.unusedSimpArgs false
/-- What a right column is. -/
def RightC (p : Int) (l : List S28) : Prop := 1 ≤ p ∧ p ≤ 16 ∧ l.length ≤ 64 ∧ (∀ f ∈ l, FlowOK f ∧ f.f0 ≤ p ∧ f.f1 ≤ p ∧ f.f0 ≠ f.f1 ∧ (0 < f.f2 → f.f3 ≠ 0)) ∧ l.Pairwise (fun f g => ¬ (f.f0 = g.f0 ∧ f.f1 = g.f1))
theorem ckv_zero {p : Int} {f : S28} {sn : Bool} (hp : p ≤ 16) : ckv p f sn = 0 ↔ (FlowOK f ∧ f.f0 ≤ p ∧ f.f1 ≤ p ∧ f.f0 ≠ f.f1 ∧ (0 < f.f2 → f.f3 ≠ 0)) ∧ sn = false := by
  unfold ckv FlowOK
  by_cases h1 : f.f0 < 0 ∨ p < f.f0 ∨ f.f1 < 0 ∨ p < f.f1 ∨ f.f2 < 0 ∨ 10737418240000 < f.f2 ∨ f.f3 < 0 ∨ 128849018880000 < f.f3
  · rw [if_pos h1]
    constructor
    · intro h; cases h
    · rintro ⟨h, _⟩; omega
  · rw [if_neg h1]
    by_cases h2 : f.f0 = f.f1 ∨ (0 < f.f2 ∧ f.f3 = 0)
    · rw [if_pos h2]
      constructor
      · intro h; cases h
      · rintro ⟨h, _⟩; exfalso; rcases h2 with h2 | ⟨h2, h3⟩; exact h.2.2.2.1 h2; exact h.2.2.2.2 h2 h3
    · rw [if_neg h2]
      cases sn
      · simp only [Bool.false_eq_true, if_false, true_iff, and_true]
        refine ⟨by omega, by omega, by omega, fun h => h2 (.inl h), fun h h3 => h2 (.inr ⟨h, h3⟩)⟩
      · simp
theorem ckR_zero {p : Int} (hp : p ≤ 16) (l : List S28) : ∀ (i : Int) (Z : List (Int × Int)), (ckR p l i Z).2 = 0 ↔ (∀ f ∈ l, (FlowOK f ∧ f.f0 ≤ p ∧ f.f1 ≤ p ∧ f.f0 ≠ f.f1 ∧ (0 < f.f2 → f.f3 ≠ 0)) ∧ (f.f0, f.f1) ∉ Z) ∧ l.Pairwise (fun f g => ¬ (f.f0 = g.f0 ∧ f.f1 = g.f1)) := by
  induction l with
  | nil => intro i Z; simp [ckR]
  | cons f l ih =>
    intro i Z
    unfold ckR
    by_cases h : ckv p f (decide ((f.f0, f.f1) ∈ Z)) = 0
    · rw [if_neg (not_not_intro h), ih]
      have h' := (ckv_zero hp).1 h
      have hz : (f.f0, f.f1) ∉ Z := by simpa using h'.2
      constructor
      · rintro ⟨q1, q2⟩
        refine ⟨fun g hg => ?_, List.pairwise_cons.2 ⟨fun g hg he => ?_, q2⟩⟩
        · rcases List.mem_cons.1 hg with rfl | hg
          · exact ⟨h'.1, hz⟩
          · exact ⟨(q1 g hg).1, fun hh => (q1 g hg).2 (List.mem_cons_of_mem _ hh)⟩
        · refine (q1 g hg).2 ?_
          rw [← he.1, ← he.2]
          exact List.mem_cons_self
      · rintro ⟨q1, q2⟩
        obtain ⟨q3, q4⟩ := List.pairwise_cons.1 q2
        refine ⟨fun g hg => ⟨(q1 g (List.mem_cons_of_mem _ hg)).1, fun hh => ?_⟩, q4⟩
        rcases List.mem_cons.1 hh with he | hh
        · injection he with e1 e2
          exact q3 g hg ⟨e1.symm, e2.symm⟩
        · exact (q1 g (List.mem_cons_of_mem _ hg)).2 hh
    · rw [if_pos h]
      constructor
      · intro h0; exact absurd h0 h
      · rintro ⟨q1, _⟩
        have q := q1 f List.mem_cons_self
        exact absurd ((ckv_zero hp).2 ⟨q.1, by simpa using q.2⟩) h
theorem right_iff36 (p : Int) (l : List S28) : (chk36 p l).2 = 0 ↔ RightC p l := by
  unfold chk36 RightC
  by_cases h1 : p < 1 ∨ 16 < p
  · rw [if_pos h1]
    constructor
    · intro h; cases h
    · rintro ⟨a, b, _⟩; omega
  · rw [if_neg h1]
    by_cases h2 : 64 < l.length
    · rw [if_pos h2]
      constructor
      · intro h; cases h
      · rintro ⟨_, _, c, _⟩; omega
    · rw [if_neg h2, ckR_zero (by omega)]
      constructor
      · rintro ⟨q1, q2⟩; exact ⟨by omega, by omega, by omega, fun f hf => (q1 f hf).1, q2⟩
      · rintro ⟨_, _, _, q1, q2⟩; exact ⟨fun f hf => ⟨q1 f hf, by simp⟩, q2⟩
theorem RightC.ok {p : Int} {l : List S28} (h : RightC p l) : ∀ f ∈ l, FlowOK f := fun f hf => (h.2.2.2.1 f hf).1
def rt36 (p : Int) (l : List S28) : Bool := (chk36 p l).2 == 0
theorem rt36_iff {p : Int} {l : List S28} : rt36 p l = true ↔ RightC p l := by unfold rt36; rw [beq_iff_eq, right_iff36]
set_option maxHeartbeats 8000000 in
set_option maxRecDepth 100000 in
theorem column_right.known (p : Int) (A : Option Addr) (c : Nat) (l : List S28) (w : World) (hr : Kd.C k28 w A l.length l) (hc : l.length ≤ c) {b : Bool} (h : rt36 p l = b) :
    Calls Try.prog 32 #[.agg #[.int .i64 p, .slice A l.length c]] w fun e w' => e = .returned (.bool b) ∧ Below w.heap.size w w' := by
  have hu1 := Try.underlying24
  have HC := Aside0.mk (fun W (hb : Below w.heap.size w W) => column_Check.known p A c l W (Kd.C_below hr hb) hc (r := ((chk36 p l).1, (chk36 p l).2)) rfl)
  subst h
  unfold rt36
  clear hr hc
  generalize (chk36 p l).1 = x at *
  generalize (chk36 p l).2 = y at *
  go_enter Try.func32, Try.ntmps32
  go_wp2_with ((with_reducible refine gate_dst (N := 1) rfl ?_); refine box_event ?hg (N := 1) ?hd (cs := #[.int .i64 p, .slice A l.length c]) (t := 24) ?hr ?_; (case hd => rfl); (case hg => rfl); (case hr => first | (go_simp; done) | (go_simp; rfl)); intro gb hg w3 hbox hb; have c0 : w3.cell? ⟨gb, 0, none⟩ = some (.int .i64 p) := blk_cell hbox 0; have c1 : w3.cell? ⟨gb, 1, none⟩ = some (.slice A l.length c) := blk_cell hbox 1; have HB := Aside0.mk hb; clear hbox hb hg)
  refine (HC.out _ HB.out).mono ?_
  rintro e w4 ⟨rfl, hb⟩
  replace HB := Aside0.mk (below_step HB.out hb)
  clear hb HC c0 c1
  go_wp2
  go_ret
  exact ⟨rfl, HB.out⟩
def blR (p : Int) (l : List S28) (q : Int) : Int × Int × Int := if rt36 p l = true then (if q < 1 ∨ p < q then (0, 0, 2) else ((balL l q.toNat).1, (balL l q.toNat).2, 0)) else (0, 0, 1)
def whR (p : Int) (l : List S28) : Int × Int × Int := if rt36 p l = true then (-(balL l 0).1, -(balL l 0).2, 0) else (0, 0, 1)
theorem RightC.bnd {p : Int} {l : List S28} (h : RightC p l) : BndB (balL l) 8246337208320000 := by
  intro q
  have := balL_bnd l h.ok q
  have := h.2.2.1
  have : (l.length : Int) * 128849018880000 ≤ 8246337208320000 := by omega
  omega
set_option maxHeartbeats 8000000 in
set_option maxRecDepth 100000 in
theorem column_Balance.known (p : Int) (A : Option Addr) (c : Nat) (l : List S28) (q : Int) (w : World) (hr : Kd.C k28 w A l.length l) (hc : l.length ≤ c) {r1 r2 r3 : Int} (h : blR p l q = (r1, r2, r3)) :
    Calls Try.prog 20 #[.agg #[.int .i64 p, .slice A l.length c], .int .i64 q] w fun e w' => e = .returned (.tuple #[.int .i64 r1, .int .i64 r2, .int .i64 r3]) ∧ Below w.heap.size w w' := by
  have hu1 := Try.underlying24
  have hu3 := Try.underlying53
  unfold blR at h
  have HR := Aside0.mk (fun W (hb : Below w.heap.size w W) => column_right.known p A c l W (Kd.C_below hr hb) hc (b := rt36 p l) rfl)
  cases hb : rt36 p l
  · rw [hb] at h HR
    rw [if_neg (by decide)] at h
    injection h with e1 h
    injection h with e2 e3
    subst e1
    subst e2
    subst e3
    clear hr hc hb
    go_enter Try.func20, Try.ntmps20
    go_wp2_with ((with_reducible refine gate_dst (N := 2) rfl ?_); refine box_event ?hg (N := 2) ?hd (cs := #[.int .i64 p, .slice A l.length c]) (t := 24) ?hr ?_; (case hd => rfl); (case hg => rfl); (case hr => first | (go_simp; done) | (go_simp; rfl)); intro gb hg w3 hbox hb; have c0 : w3.cell? ⟨gb, 0, none⟩ = some (.int .i64 p) := blk_cell hbox 0; have c1 : w3.cell? ⟨gb, 1, none⟩ = some (.slice A l.length c) := blk_cell hbox 1; have HB := Aside0.mk hb; clear hbox hb hg)
    refine (HR.out _ HB.out).mono ?_
    rintro e w4 ⟨rfl, hb⟩
    replace HB := Aside0.mk (below_step HB.out hb)
    clear hb HR c0 c1
    go_wp2
    go_ret3
    exact ⟨rfl, HB.out⟩
  rw [hb] at h HR
  rw [if_pos rfl] at h
  have RC := rt36_iff.1 hb
  by_cases h1 : q < 1 ∨ p < q
  · rw [if_pos h1] at h
    injection h with e1 h
    injection h with e2 e3
    subst e1
    subst e2
    subst e3
    clear hr hc hb RC
    by_cases q1 : q < 1
    · have b1 : decide (q < 1) = true := decide_eq_true q1
      clear q1 h1
      go_enter Try.func20, Try.ntmps20
      go_wp2_with ((with_reducible refine gate_dst (N := 2) rfl ?_); refine box_event ?hg (N := 2) ?hd (cs := #[.int .i64 p, .slice A l.length c]) (t := 24) ?hr ?_; (case hd => rfl); (case hg => rfl); (case hr => first | (go_simp; done) | (go_simp; rfl)); intro gb hg w3 hbox hb; have c0 : w3.cell? ⟨gb, 0, none⟩ = some (.int .i64 p) := blk_cell hbox 0; have c1 : w3.cell? ⟨gb, 1, none⟩ = some (.slice A l.length c) := blk_cell hbox 1; have HB := Aside0.mk hb; clear hbox hb hg)
      refine (HR.out _ HB.out).mono ?_
      rintro e w4 ⟨rfl, hb⟩
      replace HB := Aside0.mk (below_step HB.out hb)
      replace c0 := pw_cell_below hb c0
      replace c1 := pw_cell_below hb c1
      clear hb HR
      go_wp2
      go_ret3
      exact ⟨rfl, HB.out⟩
    · have b1 : decide (q < 1) = false := decide_eq_false q1
      have b2 : decide (p < q) = true := decide_eq_true (by omega)
      clear q1 h1
      go_enter Try.func20, Try.ntmps20
      go_wp2_with ((with_reducible refine gate_dst (N := 2) rfl ?_); refine box_event ?hg (N := 2) ?hd (cs := #[.int .i64 p, .slice A l.length c]) (t := 24) ?hr ?_; (case hd => rfl); (case hg => rfl); (case hr => first | (go_simp; done) | (go_simp; rfl)); intro gb hg w3 hbox hb; have c0 : w3.cell? ⟨gb, 0, none⟩ = some (.int .i64 p) := blk_cell hbox 0; have c1 : w3.cell? ⟨gb, 1, none⟩ = some (.slice A l.length c) := blk_cell hbox 1; have HB := Aside0.mk hb; clear hbox hb hg)
      refine (HR.out _ HB.out).mono ?_
      rintro e w4 ⟨rfl, hb⟩
      replace HB := Aside0.mk (below_step HB.out hb)
      replace c0 := pw_cell_below hb c0
      replace c1 := pw_cell_below hb c1
      clear hb HR
      go_wp2
      go_ret3
      exact ⟨rfl, HB.out⟩
  rw [if_neg h1] at h
  injection h with e1 h
  injection h with e2 e3
  subst e3
  have HC := Aside0.mk (fun W (hb : Below w.heap.size w W) => column_balances.known p A c l W (Kd.C_below hr hb) hc RC.2.2.1 RC.ok)
  have b1 : decide (q < 1) = false := decide_eq_false (by omega)
  have b2 : decide (p < q) = false := decide_eq_false (by omega)
  have hi := fun W => idx54 (balL l) (x := q) (by omega) (by have := RC.2.1; omega) W
  rw [e1, e2] at hi
  obtain ⟨y, hy⟩ : ∃ y, y = r1 := ⟨_, rfl⟩
  obtain ⟨z, hz⟩ : ∃ z, z = r2 := ⟨_, rfl⟩
  rw [← hy, ← hz] at hi
  rw [← hy, ← hz]
  clear hr hc hb RC h1 e1 e2 hy hz
  generalize balL l = B at *
  go_enter Try.func20, Try.ntmps20
  go_wp2_with ((with_reducible refine gate_dst (N := 2) rfl ?_); refine box_event ?hg (N := 2) ?hd (cs := #[.int .i64 p, .slice A l.length c]) (t := 24) ?hr ?_; (case hd => rfl); (case hg => rfl); (case hr => first | (go_simp; done) | (go_simp; rfl)); intro gb hg w3 hbox hb; have c0 : w3.cell? ⟨gb, 0, none⟩ = some (.int .i64 p) := blk_cell hbox 0; have c1 : w3.cell? ⟨gb, 1, none⟩ = some (.slice A l.length c) := blk_cell hbox 1; have HB := Aside0.mk hb; clear hbox hb hg)
  refine (HR.out _ HB.out).mono ?_
  rintro e w4 ⟨rfl, hb⟩
  replace HB := Aside0.mk (below_step HB.out hb)
  replace c0 := pw_cell_below hb c0
  replace c1 := pw_cell_below hb c1
  clear hb HR
  go_wp2_with fail
  refine (HC.out _ HB.out).mono ?_
  rintro e w4 ⟨rfl, hb⟩
  replace HB := Aside0.mk (below_step HB.out hb)
  clear hb HC c0 c1
  go_wp2_with (first | ((with_reducible refine gate_dst (N := 7) rfl ?_); refine box_event ?hg (N := 7) ?hd (cs := #[.int .i64 0, .int .i64 0]) (t := 53) ?hr ?_; (case hd => rfl); (case hg => rfl); (case hr => first | (go_simp; done) | (go_simp; rfl)); intro g5 hg w5 hbox hb5; have hc0 : w5.cell? ⟨g5, 0, none⟩ = some (.int .i64 0) := blk_cell hbox 0; have hc1 : w5.cell? ⟨g5, 1, none⟩ = some (.int .i64 0) := blk_cell hbox 1; have hf0 := blk_frozen hbox 0; have hf1 := blk_frozen hbox 1; replace hbox := Aside0.mk hbox; replace hb5 := Aside0.mk hb5; replace hg := Aside0.mk hg) | ((with_reducible refine gate_store (t := 53) (p := 7) rfl ?_); refine store_event (t := 53) (p := 7) (v := .tmp 24) (w1 := (w5.setCell ⟨g5, 0, none⟩ (.int .i64 y)).setCell ⟨g5, 1, none⟩ (.int .i64 z)) ?hg ?ho ?hn ?hr ?_; (case ho => rfl); (case hg => rfl); (case hn => rfl); (case hr => first | (go_simp; done) | (go_simp; rfl)); intro w6 hw6; clear hc0 hf0 hc1 hf1; have hbx := box2h_ (x := .int .i64 y) (y := .int .i64 z) hb5.out hg.out hbox.out; rw [← hw6] at hbx; clear hw6 hb5 hg hbox; obtain ⟨hb6, hk6⟩ := hbx; have d0 : w6.cell? ⟨g5, 0, none⟩ = some (.int .i64 y) := blk_cell hk6 0; have d1 : w6.cell? ⟨g5, 1, none⟩ = some (.int .i64 z) := blk_cell hk6 1; replace HB := Aside0.mk (below_step HB.out hb6); clear hb6 hk6))
  go_region
  all_goals go_wp2
  all_goals (refine bodyPost_ret (results_tmp3 rfl _ _ _) rfl ?_; exact ⟨rfl, below_drew1 HB.out⟩)
set_option maxHeartbeats 8000000 in
set_option maxRecDepth 100000 in
theorem column_Whole.known (p : Int) (A : Option Addr) (c : Nat) (l : List S28) (w : World) (hr : Kd.C k28 w A l.length l) (hc : l.length ≤ c) {r1 r2 r3 : Int} (h : whR p l = (r1, r2, r3)) :
    Calls Try.prog 24 #[.agg #[.int .i64 p, .slice A l.length c]] w fun e w' => e = .returned (.tuple #[.int .i64 r1, .int .i64 r2, .int .i64 r3]) ∧ Below w.heap.size w w' := by
  have hu1 := Try.underlying24
  have hu3 := Try.underlying53
  unfold whR at h
  have HR := Aside0.mk (fun W (hb : Below w.heap.size w W) => column_right.known p A c l W (Kd.C_below hr hb) hc (b := rt36 p l) rfl)
  cases hb : rt36 p l
  · rw [hb] at h HR
    rw [if_neg (by decide)] at h
    injection h with e1 h
    injection h with e2 e3
    subst e1
    subst e2
    subst e3
    clear hr hc hb
    go_enter Try.func24, Try.ntmps24
    go_wp2_with ((with_reducible refine gate_dst (N := 1) rfl ?_); refine box_event ?hg (N := 1) ?hd (cs := #[.int .i64 p, .slice A l.length c]) (t := 24) ?hr ?_; (case hd => rfl); (case hg => rfl); (case hr => first | (go_simp; done) | (go_simp; rfl)); intro gb hg w3 hbox hb; have c0 : w3.cell? ⟨gb, 0, none⟩ = some (.int .i64 p) := blk_cell hbox 0; have c1 : w3.cell? ⟨gb, 1, none⟩ = some (.slice A l.length c) := blk_cell hbox 1; have HB := Aside0.mk hb; clear hbox hb hg)
    refine (HR.out _ HB.out).mono ?_
    rintro e w4 ⟨rfl, hb⟩
    replace HB := Aside0.mk (below_step HB.out hb)
    clear hb HR c0 c1
    go_wp2
    go_ret3
    exact ⟨rfl, HB.out⟩
  rw [hb] at h HR
  rw [if_pos rfl] at h
  have RC := rt36_iff.1 hb
  injection h with e1 h
  injection h with e2 e3
  subst e1
  subst e2
  subst e3
  have HC := Aside0.mk (fun W (hb : Below w.heap.size w W) => column_balances.known p A c l W (Kd.C_below hr hb) hc RC.2.2.1 RC.ok)
  have hi := fun W => idx54 (balL l) (x := 0) (by omega) (by omega) W
  have hbn := RC.bnd 0
  simp only [Int.toNat_zero] at hi
  have n1 : IntKind.i64.wrap (-(balL l 0).1) = -(balL l 0).1 := by rw [i64_w]; exact w64_ (by omega) (by omega)
  have n2 : IntKind.i64.wrap (-(balL l 0).2) = -(balL l 0).2 := by rw [i64_w]; exact w64_ (by omega) (by omega)
  clear hr hc hb RC hbn
  generalize balL l = B at *
  generalize (B 0).1 = y at *
  generalize (B 0).2 = z at *
  go_enter Try.func24, Try.ntmps24
  go_wp2_with ((with_reducible refine gate_dst (N := 1) rfl ?_); refine box_event ?hg (N := 1) ?hd (cs := #[.int .i64 p, .slice A l.length c]) (t := 24) ?hr ?_; (case hd => rfl); (case hg => rfl); (case hr => first | (go_simp; done) | (go_simp; rfl)); intro gb hg w3 hbox hb; have c0 : w3.cell? ⟨gb, 0, none⟩ = some (.int .i64 p) := blk_cell hbox 0; have c1 : w3.cell? ⟨gb, 1, none⟩ = some (.slice A l.length c) := blk_cell hbox 1; have HB := Aside0.mk hb; clear hbox hb hg)
  refine (HR.out _ HB.out).mono ?_
  rintro e w4 ⟨rfl, hb⟩
  replace HB := Aside0.mk (below_step HB.out hb)
  replace c0 := pw_cell_below hb c0
  replace c1 := pw_cell_below hb c1
  clear hb HR
  go_wp2_with fail
  refine (HC.out _ HB.out).mono ?_
  rintro e w4 ⟨rfl, hb⟩
  replace HB := Aside0.mk (below_step HB.out hb)
  clear hb HC c0 c1
  go_wp2_with (first | ((with_reducible refine gate_dst (N := 5) rfl ?_); refine box_event ?hg (N := 5) ?hd (cs := #[.int .i64 0, .int .i64 0]) (t := 53) ?hr ?_; (case hd => rfl); (case hg => rfl); (case hr => first | (go_simp; done) | (go_simp; rfl)); intro g5 hg w5 hbox hb5; have hc0 : w5.cell? ⟨g5, 0, none⟩ = some (.int .i64 0) := blk_cell hbox 0; have hc1 : w5.cell? ⟨g5, 1, none⟩ = some (.int .i64 0) := blk_cell hbox 1; have hf0 := blk_frozen hbox 0; have hf1 := blk_frozen hbox 1; replace hbox := Aside0.mk hbox; replace hb5 := Aside0.mk hb5; replace hg := Aside0.mk hg) | ((with_reducible refine gate_store (t := 53) (p := 5) rfl ?_); refine store_event (t := 53) (p := 5) (v := .tmp 11) (w1 := (w5.setCell ⟨g5, 0, none⟩ (.int .i64 y)).setCell ⟨g5, 1, none⟩ (.int .i64 z)) ?hg ?ho ?hn ?hr ?_; (case ho => rfl); (case hg => rfl); (case hn => rfl); (case hr => first | (go_simp; done) | (go_simp; rfl)); intro w6 hw6; clear hc0 hf0 hc1 hf1; have hbx := box2h_ (x := .int .i64 y) (y := .int .i64 z) hb5.out hg.out hbox.out; rw [← hw6] at hbx; clear hw6 hb5 hg hbox; obtain ⟨hb6, hk6⟩ := hbx; have d0 : w6.cell? ⟨g5, 0, none⟩ = some (.int .i64 y) := blk_cell hk6 0; have d1 : w6.cell? ⟨g5, 1, none⟩ = some (.int .i64 z) := blk_cell hk6 1; replace HB := Aside0.mk (below_step HB.out hb6); clear hb6 hk6))
  go_region
  all_goals go_wp2
  all_goals (refine bodyPost_ret (results_tmp3 rfl _ _ _) rfl ?_; exact ⟨rfl, below_drew1 HB.out⟩)
def opR (p : Int) (l : List S28) : List Int × Int := if rt36 p l = true then (openS (balL l), 0) else ([], 1)
set_option maxHeartbeats 8000000 in
set_option maxRecDepth 100000 in
theorem column_Open.known (p : Int) (A : Option Addr) (c : Nat) (l : List S28) (w : World) (hr : Kd.C k28 w A l.length l) (hc : l.length ≤ c) {r : List Int} {e : Int} (h : opR p l = (r, e)) :
    Calls Try.prog 22 #[.agg #[.int .i64 p, .slice A l.length c]] w fun e' w' => ∃ A' c', e' = .returned (.tuple #[.slice A' r.length c', .int .i64 e]) ∧ r.length ≤ c' ∧ Kd.C (Kd.int .i64) w' A' r.length r ∧ Below w.heap.size w w' := by
  have hu1 := Try.underlying24
  unfold opR at h
  have HR := Aside0.mk (fun W (hb : Below w.heap.size w W) => column_right.known p A c l W (Kd.C_below hr hb) hc (b := rt36 p l) rfl)
  cases hb : rt36 p l
  · rw [hb] at h HR
    rw [if_neg (by decide)] at h
    injection h with e1 e2
    subst e1
    subst e2
    clear hr hc hb
    go_enter Try.func22, Try.ntmps22
    go_wp2_with ((with_reducible refine gate_dst (N := 1) rfl ?_); refine box_event ?hg (N := 1) ?hd (cs := #[.int .i64 p, .slice A l.length c]) (t := 24) ?hr ?_; (case hd => rfl); (case hg => rfl); (case hr => first | (go_simp; done) | (go_simp; rfl)); intro gb hg w3 hbox hb; have c0 : w3.cell? ⟨gb, 0, none⟩ = some (.int .i64 p) := blk_cell hbox 0; have c1 : w3.cell? ⟨gb, 1, none⟩ = some (.slice A l.length c) := blk_cell hbox 1; have HB := Aside0.mk hb; clear hbox hb hg)
    refine (HR.out _ HB.out).mono ?_
    rintro e w4 ⟨rfl, hb⟩
    replace HB := Aside0.mk (below_step HB.out hb)
    clear hb HR c0 c1
    go_wp2
    go_ret2
    exact ⟨none, 0, rfl, Nat.le_refl _, ((Kd.R_reads' (Kd.R_nil (Kd.int .i64) 3 w4 0 (fun _ => True))).2).2, HB.out⟩
  rw [hb] at h HR
  rw [if_pos rfl] at h
  have RC := rt36_iff.1 hb
  injection h with e1 e2
  subst e1
  subst e2
  have HC := Aside0.mk (fun W (hb : Below w.heap.size w W) => column_open.known p A c l W (Kd.C_below hr hb) hc RC.2.2.1 RC.ok)
  clear hr hc hb RC
  go_enter Try.func22, Try.ntmps22
  go_wp2_with ((with_reducible refine gate_dst (N := 1) rfl ?_); refine box_event ?hg (N := 1) ?hd (cs := #[.int .i64 p, .slice A l.length c]) (t := 24) ?hr ?_; (case hd => rfl); (case hg => rfl); (case hr => first | (go_simp; done) | (go_simp; rfl)); intro gb hg w3 hbox hb; have c0 : w3.cell? ⟨gb, 0, none⟩ = some (.int .i64 p) := blk_cell hbox 0; have c1 : w3.cell? ⟨gb, 1, none⟩ = some (.slice A l.length c) := blk_cell hbox 1; have HB := Aside0.mk hb; clear hbox hb hg)
  refine (HR.out _ HB.out).mono ?_
  rintro e w4 ⟨rfl, hb⟩
  replace HB := Aside0.mk (below_step HB.out hb)
  replace c0 := pw_cell_below hb c0
  replace c1 := pw_cell_below hb c1
  clear hb HR
  go_wp2_with fail
  refine (HC.out _ HB.out).mono ?_
  rintro e w4 ⟨v, rfl, hU, hb⟩
  replace HB := Aside0.mk (below_step HB.out hb)
  clear hb HC c0 c1
  obtain ⟨A', c', rfl⟩ := Kd.R_slice hU
  have q := Aside0.mk (Kd.R_reads' hU).2
  clear hU
  go_wp2
  go_ret2
  exact ⟨A', c', rfl, q.out.1, q.out.2, HB.out⟩

end Go.Proofs.Ytodfjkdgfjkifaa.PF
