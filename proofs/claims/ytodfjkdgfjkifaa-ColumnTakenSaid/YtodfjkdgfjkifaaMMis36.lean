/- column.Missing: what it returns. -/
import Derived.Test.YtodfjkdgfjkifaaMBal36
import Derived.Test.YtodfjkdgfjkifaaMCol36
import Derived.Test.YtodfjkdgfjkifaaMOpn36
import Derived.Test.YtodfjkdgfjkifaaPF0
import Derived.Test.YtodfjkdgfjkifaaPF1
import Derived.Carry
import Derived.Shelf.RegionOpenPlain
namespace Go.Proofs.Ytodfjkdgfjkifaa.PF
open Go.RowKit Go.Proofs.YtodfjkdgfjkifaaW.PrintWords Go.Proofs.YtodfjkdgfjkifaaW.PrintLast Go.Proofs.YtodfjkdgfjkifaaW.PrintMore
set_option linter.unusedVariables false
set_option linter.unusedSimpArgs false
def fl0 : S28 := ⟨0, 0, 0, 0⟩
/-- The flow from a to b that takes p off a. -/
def misF (a b : Int) (p : Int × Int) : S28 × Int :=
  let q := if p.2 < 0 then (b, a, -p.1, -p.2) else (a, b, p.1, p.2)
  if q.2.2.2 = 0 ∨ q.2.2.1 < 0 then (fl0, 20) else if 10737418240000 < q.2.2.1 ∨ 128849018880000 < q.2.2.2 then (fl0, 15) else (⟨q.1, q.2.1, q.2.2.1, q.2.2.2⟩, 0)
def misO (B : Nat → Int × Int) (O : List Int) : S28 × Int := match O with
  | [] => (fl0, 9)
  | [a] => misF a 0 (B a.toNat)
  | [a, b] => if (B a.toNat).1 ≠ -(B b.toNat).1 ∨ (B a.toNat).2 ≠ -(B b.toNat).2 then (fl0, 20) else misF a b (B a.toNat)
  | _ => (fl0, 20)
def misR (p : Int) (l : List S28) : S28 × Int := if rt36 p l = true then misO (balL l) (openS (balL l)) else (fl0, 1)
theorem r_setRow {W : World} {g base : Nat} {v : Value} {xs : List Int} {old cs : Array Value} (h : Kd.R (Kd.int .i64) 3 W base (fun _ => True) v xs) (hb : W.heap[g]? = some (.cells old 54 (0, 0))) : Kd.R (Kd.int .i64) 3 (W.setRow g cs) base (fun _ => True) v xs :=
  Kd.R_mono (Kd.R_step (Kd.R_types h hb (by decide)) (fun k hk _ => setRow_other W g k cs hk.2)) (fun _ _ => trivial)
theorem h_setRow {W : World} {g g2 : Nat} {c2 old cs : Array Value} (h : W.heap[g2]? = some (.cells c2 28 (0, 0))) (hb : W.heap[g]? = some (.cells old 54 (0, 0))) : (W.setRow g cs).heap[g2]? = some (.cells c2 28 (0, 0)) := by
  rw [setRow_other W g g2 cs (fun e => by subst e; rw [hb] at h; injection h with h; injection h with _ h; cases h)]
  exact h
theorem openS_mem {B : Nat → Int × Int} {x : Int} (h : x ∈ openS B) : 1 ≤ x ∧ x ≤ 16 := by
  unfold openS openTo at h
  rw [List.mem_map] at h
  obtain ⟨q, hq, rfl⟩ := h
  rw [List.mem_filter] at hq
  have h1 := List.mem_range.1 hq.1
  have h2 := hq.2
  simp only [Bool.and_eq_true, decide_eq_true_eq] at h2
  omega
theorem one4 (a b c d : Int) : (#[Value.int .i64 a, .int .i64 b, .int .i64 c, .int .i64 d] : Array Value).all (·.oneCell') = true := by simp [Value.oneCell']
theorem cellB_even (B : Nat → Int × Int) (k : Nat) : cellB B (k * 2) = .int .i64 (B k).1 := by unfold cellB; rw [if_pos (by omega), show k * 2 / 2 = k by omega]
theorem cellB_odd (B : Nat → Int × Int) (k : Nat) : cellB B (k * 2 + 1) = .int .i64 (B k).2 := by unfold cellB; rw [if_neg (by omega), show (k * 2 + 1) / 2 = k by omega]
theorem add_zero' (a : Addr) : a.add 0 = a := by unfold Addr.add; split <;> simp_all
theorem st54_run {W : World} {g : Nat} (B : Nat → Int × Int) {old : Array Value} (h : W.heap[g]? = some (.cells old 54 (0, 0))) (ho : old.size = 34) : (storeCells ⟨g, 0, none⟩ (arrB B).toList).run Try.prog W = .ok () (W.setRow g (arrB B)) := by
  have := run_storeCells_from (P := Try.prog) g 54 (arrB B).toList 0 old W h (by simp [arrB_size, ho]) (fun v hv => (Array.all_eq_true_iff_forall_mem.1 (arrB_one B)) v (by simpa using hv))
  simpa using this
set_option maxHeartbeats 8000000 in
set_option maxRecDepth 100000 in
theorem column_Missing.good (p : Int) (A : Option Addr) (c : Nat) (l : List S28) (w : World) (hr : Kd.C k28 w A l.length l) (hc : l.length ≤ c) (hb : rt36 p l = true) {f0 f1 f2 f3 e : Int} (hres : misO (balL l) (openS (balL l)) = (⟨f0, f1, f2, f3⟩, e)) :
    Calls Try.prog 12 #[.agg #[.int .i64 p, .slice A l.length c]] w fun x w' => x = .returned (.tuple #[.agg #[.int .i64 f0, .int .i64 f1, .int .i64 f2, .int .i64 f3], .int .i64 e]) ∧ Below w.heap.size w w' := by
  have hu1 := Try.underlying24
  have hu3 := Try.underlying53
  have HR := Aside0.mk (fun W (hb : Below w.heap.size w W) => column_right.known p A c l W (Kd.C_below hr hb) hc (b := rt36 p l) rfl)
  rw [hb] at HR
  have RC := rt36_iff.1 hb
  have HC := Aside0.mk (fun W (hb : Below w.heap.size w W) => column_balances.known p A c l W (Kd.C_below hr hb) hc RC.2.2.1 RC.ok)
  have HO := Aside0.mk (fun W (hb : Below w.heap.size w W) => column_open.known p A c l W (Kd.C_below hr hb) hc RC.2.2.1 RC.ok)
  have HBN := Aside0.mk RC.bnd
  have HRES := Aside0.mk hres
  clear hr hc hb RC hres
  generalize balL l = B at *
  have HMEM := Aside0.mk (fun x (hx : x ∈ openS B) => openS_mem hx)
  go_enter Try.func12, Try.ntmps12
  go_wp2_with (first | ((with_reducible refine gate_dst (N := 1) rfl ?_); refine box_event ?hg (N := 1) ?hd (cs := #[.int .i64 p, .slice A l.length c]) (t := 24) ?hr ?_; (case hd => rfl); (case hg => rfl); (case hr => first | (go_simp; done) | (go_simp; rfl)); intro gb hg w3 hbox hb; have c0 : w3.cell? ⟨gb, 0, none⟩ = some (.int .i64 p) := blk_cell hbox 0; have c1 : w3.cell? ⟨gb, 1, none⟩ = some (.slice A l.length c) := blk_cell hbox 1; have HB := Aside0.mk hb; clear hbox hb hg) | ((with_reducible refine gate_dst (N := 2) rfl ?_); refine box_event ?hg (N := 2) ?hd (cs := #[.int .i64 0, .int .i64 0, .int .i64 0, .int .i64 0]) (t := 28) ?hr ?_; (case hd => rfl); (case hg => rfl); (case hr => first | (go_simp; done) | (go_simp; rfl)); intro g2 hg w4 hbox hb; replace c0 := pw_cell_below hb c0; replace c1 := pw_cell_below hb c1; have H2 := Aside0.mk hbox; have HG2 := Aside0.mk (show w.heap.size ≤ g2 by rw [hg]; exact HB.out.size); replace HB := Aside0.mk (below_step HB.out hb); clear hbox hb hg))
  refine (HR.out _ HB.out).mono ?_
  rintro e w4 ⟨rfl, hb⟩
  replace HB := Aside0.mk (below_step HB.out hb)
  replace c0 := pw_cell_below hb c0
  replace c1 := pw_cell_below hb c1
  replace H2 := Aside0.mk (blk_below H2.out hb)
  clear hb HR
  go_wp2_with fail
  have hsz := arrB_size B
  go_cut [4, 5] (fun v4 v5 wc => ∃ (A' : Option Addr) (c' g5 : Nat), v4 = .slice A' (openS B).length c' ∧ v5 = .pointer (some ⟨g5, 0, none⟩) ∧ Aside0 (Kd.R (Kd.int .i64) 3 wc w.heap.size (fun _ => True) v4 (openS B)) ∧ Aside0 (wc.heap[g5]? = some (.cells (arrB B) 54 (0, 0))) ∧ Aside0 (wc.heap[g2]? = some (.cells #[.int .i64 0, .int .i64 0, .int .i64 0, .int .i64 0] 28 (0, 0))) ∧ Aside0 (Below w.heap.size w wc))
  case first =>
    have HB4 := Aside0.mk (below_size HB.out)
    replace HB := Aside0.mk (below_drew1 HB.out)
    replace H2 := Aside0.mk (blk_drew H2.out)
    have cb0 := fun o => pw_cell_alloc o c0
    have cb1 := fun o => pw_cell_alloc o c1
    have cd0 : ∀ o, (w4.alloc o).drew.cell? ⟨gb, 0, none⟩ = some (.int .i64 p) := cb0
    have cd1 : ∀ o, (w4.alloc o).drew.cell? ⟨gb, 1, none⟩ = some (.slice A l.length c) := cb1
    replace c0 : w4.drew.cell? ⟨gb, 0, none⟩ = some (.int .i64 p) := c0
    replace c1 : w4.drew.cell? ⟨gb, 1, none⟩ = some (.slice A l.length c) := c1
    have ca0 := fun o => pw_cell_alloc o c0
    have ca1 := fun o => pw_cell_alloc o c1
    go_region_with (first
      | (go_at_call 33; refine (HO.out _ ?hbx).mono ?_; (case hbx => first | exact HB.out | exact below_alloc HB.out _); rintro e w5 ⟨v, rfl, hU, hb⟩; have HB0 := Aside0.mk HB.out; (first | replace HB := Aside0.mk (below_step HB.out hb) | replace HB := Aside0.mk (below_step (below_alloc HB.out _) hb)); obtain ⟨A', c', rfl⟩ := Kd.R_slice hU; (first | have HU := Aside0.mk (Kd.R_lower hU (below_size HB0.out)) | have HU := Aside0.mk (Kd.R_lower hU (below_size (below_alloc HB0.out _)))); clear HB0; have HB5 := Aside0.mk HB.out; (first | have H5 := Aside0.mk (blk_below (blk_drew (heap_alloc_new _ _)) hb) | skip); (first | replace H2 := Aside0.mk (blk_below H2.out hb) | replace H2 := Aside0.mk (blk_below (blk_alloc H2.out _) hb)); (first | replace c0 := pw_cell_below hb c0 | replace c0 := pw_cell_below hb (pw_cell_alloc _ c0)); (first | replace c1 := pw_cell_below hb c1 | replace c1 := pw_cell_below hb (pw_cell_alloc _ c1)); replace ca0 := fun o => pw_cell_alloc o c0; replace ca1 := fun o => pw_cell_alloc o c1; clear hb hU)
      | (go_at_call 34; refine (HC.out _ ?hbx).mono ?_; (case hbx => first | exact HB.out | exact below_alloc HB.out _); rintro e w6 ⟨rfl, hb⟩; (first | replace HB := Aside0.mk (below_step HB.out hb) | replace HB := Aside0.mk (below_step (below_alloc HB.out _) hb)); (first | replace HU := Aside0.mk (Kd.R_below HU.out hb) | replace HU := Aside0.mk (Kd.R_below (Kd.R_alloc HU.out _) hb)); (first | replace H5 := Aside0.mk (blk_below H5.out hb) | have H5 := Aside0.mk (blk_below (heap_alloc_new _ _) hb) | skip); (first | replace H2 := Aside0.mk (blk_below H2.out hb) | replace H2 := Aside0.mk (blk_below (blk_alloc H2.out _) hb)); clear hb)
      | first | (rw [st54_run B H5.out rfl]) | (rw [st54_run (g := w4.heap.size) B H5.out rfl]) | (rw [st54_run (g := w5.heap.size) B H5.out rfl]) | (rw [st54_run B (heap_alloc_new _ (.cells #[.int .i64 0, .int .i64 0, .int .i64 0, .int .i64 0, .int .i64 0, .int .i64 0, .int .i64 0, .int .i64 0, .int .i64 0, .int .i64 0, .int .i64 0, .int .i64 0, .int .i64 0, .int .i64 0, .int .i64 0, .int .i64 0, .int .i64 0, .int .i64 0, .int .i64 0, .int .i64 0, .int .i64 0, .int .i64 0, .int .i64 0, .int .i64 0, .int .i64 0, .int .i64 0, .int .i64 0, .int .i64 0, .int .i64 0, .int .i64 0, .int .i64 0, .int .i64 0, .int .i64 0, .int .i64 0] 54 (0, 0))) rfl]))
    all_goals go_wp2
    all_goals go_meet
    all_goals
      refine ⟨A', c', _, rfl, rfl, ?_, ?_, ?_, ?_⟩
      · first | exact ⟨r_setRow HU.out H5.out⟩ | exact ⟨r_setRow (Kd.R_alloc HU.out _) (heap_alloc_new _ _)⟩
      · first | exact ⟨setRow_heap _ _ _ _ _ _ H5.out⟩ | exact ⟨setRow_heap _ _ _ _ _ _ (heap_alloc_new _ _)⟩
      · first | exact ⟨h_setRow H2.out H5.out⟩ | exact ⟨h_setRow (blk_alloc H2.out _) (heap_alloc_new _ _)⟩
      · first | exact ⟨below_setRow HB.out HB4.out _⟩ | exact ⟨below_setRow (below_alloc HB.out _) (below_size HB.out) _⟩ | exact ⟨below_setRow HB.out (below_size HB5.out) _⟩
  case rest =>
    clear HB H2 HO HC c0 c1 hsz
    obtain ⟨A', c', g5, rfl, rfl, HU, H5, H2, HB⟩ := hcut
    have i28 : (Try.prog.info? 28).map (·.size) = some 4 := by kernel_rfl
    rename World => w7
    generalize openS B = O at *
    rcases O with _ | ⟨a, _ | ⟨b, _ | ⟨d, r⟩⟩⟩
    · have hres := HRES.out
      unfold misO at hres
      injection hres with e1 e2
      injection e1 with e1 e3 e4 e5
      subst e1 e3 e4 e5 e2
      simp only [List.length_nil]
      go_wp2_with (first | (refine wpList_store_row rfl 28 (.tmp 2) (.tmp 22) rfl g2 #[.int .i64 0, .int .i64 0, .int .i64 0, .int .i64 0] rfl rfl 28 _ H2.out (by rw [i28]; rfl) rfl (one4 _ _ _ _) ?_))
      refine bodyPost_ret (results_ct rfl _ _ g2 28 #[.int .i64 0, .int .i64 0, .int .i64 0, .int .i64 0] (0, 0) _ rfl (setRow_heap _ g2 _ _ _ _ H2.out) Try.underlying28 rfl (by rw [i28]; rfl)) rfl ?_
      exact ⟨rfl, below_setRow HB.out HG2.out _⟩
    · have ha := HMEM.out a (by simp)
      obtain ⟨⟨x, y⟩, hxy⟩ : ∃ q, B a.toNat = q := ⟨_, rfl⟩
      have hres := HRES.out
      simp only [misO] at hres
      rw [hxy] at hres
      have hbx := HBN.out a.toNat
      rw [hxy] at hbx
      simp only at hbx
      have HT0 := Aside0.mk (fun (W : World) (h : W.heap[g5]? = some (.cells (arrB B) 54 (0, 0))) => show W.cell? ⟨g5, a.toNat * 2, none⟩ = some (.int .i64 x) by rw [blk_cell h, arrB_get _ (by omega), cellB_even, hxy])
      have HT1 := Aside0.mk (fun (W : World) (h : W.heap[g5]? = some (.cells (arrB B) 54 (0, 0))) => show W.cell? ⟨g5, a.toNat * 2 + 1, none⟩ = some (.int .i64 y) by rw [blk_cell h, arrB_get _ (by omega), cellB_odd, hxy])
      have p1 : (0 ≤ a) = True := eq_true (by omega)
      have p2 : (a < 17) = True := eq_true (by omega)
      have HBX := Aside0.mk hbx
      clear ha hbx hxy HBN HMEM HRES
      simp only [List.length_cons, List.length_nil]
      go_upto_region 13 with (first | ((with_reducible refine gate_builtin (b := .append) (xs := #[.tmp 25, .tmp 26]) rfl ?_); at_builtin; refine Kd.R_append (Kd.int .i64) (w0 := w) w.heap.size rfl (.tmp 25) (.tmp 26) 41 3 (.int .i64 0) 8 rfl Try.underlying41 info3 rfl (by decide) (by omega) _ [a] 0 [.int .i64 0] (fun _ => True) (fun _ => False) rfl rfl ?aP (fun _ hk => hk.elim) ?aF ?aO ?aB ?aS ?aL ?_; (case aP => exact rfl); (case aB => exact HB.out); (case aF => exact (fun _ _ => trivial)); (case aO => exact HU.out); (case aS => exact HB.out.size); (case aL => simp); intro v1 w8 ho hb hg hat; have K5 := Aside0.mk (blk_grown H5.out hg (Kd.R_ne HU.out H5.out (by decide))); have K2 := Aside0.mk (blk_grown H2.out hg (Kd.R_ne HU.out H2.out (by decide))); have HB8 := Aside0.mk hb; obtain ⟨gA, cap, hv, -, -, -⟩ := Kd.R_form ho (by simp); subst hv; have HO8 := Aside0.mk (Kd.R_reads' ho).2.2; clear ho hb hg hat H5 H2 HB HU))
      have H2 := K2
      have HB := HB8
      have t0 := HT0.out w8 K5.out
      have t1 := HT1.out w8 K5.out
      obtain ⟨ad, e1, s0⟩ := Kd.at_int HO8.out 0 (by omega) (by simp)
      cases e1
      obtain ⟨ad', e1, s1⟩ := Kd.at_int HO8.out 1 (by omega) (by simp)
      cases e1
      rw [add_plain] at s0 s1
      replace s0 : w8.cell? ⟨gA, 0, none⟩ = some (.int .i64 a) := s0
      replace s1 : w8.cell? ⟨gA, 1, none⟩ = some (.int .i64 0) := s1
      clear K2 K5 HB8 HO8 HT0 HT1
      (try simp only [List.length_append, List.length_cons, List.length_nil])
      go_cut [6, 7, 8] (fun v6 v7 v8 w2 => ∃ g8 : Nat, v6 = .int .i64 a ∧ v7 = .int .i64 0 ∧ v8 = .pointer (some ⟨g8, 0, none⟩) ∧ Aside0 (w2.heap[g8]? = some (.cells #[.int .i64 x, .int .i64 y] 53 (0, 0))) ∧ Aside0 (w2.heap[g2]? = some (.cells #[.int .i64 0, .int .i64 0, .int .i64 0, .int .i64 0] 28 (0, 0))) ∧ Aside0 (Below w.heap.size w w2) ∧ Aside0 (w.heap.size ≤ g8 ∧ g2 ≠ g8))
      case first =>
        have cs0 : ∀ o, (w8.alloc o).drew.cell? ⟨gA, 0, none⟩ = some (.int .i64 a) := fun o => pw_cell_alloc o s0
        have cs1 : ∀ o, (w8.alloc o).drew.cell? ⟨gA, 1, none⟩ = some (.int .i64 0) := fun o => pw_cell_alloc o s1
        have ct0 : ∀ o, (w8.alloc o).drew.cell? ⟨g5, a.toNat * 2, none⟩ = some (.int .i64 x) := fun o => pw_cell_alloc o t0
        have ct1 : ∀ o, (w8.alloc o).drew.cell? ⟨g5, a.toNat * 2 + 1, none⟩ = some (.int .i64 y) := fun o => pw_cell_alloc o t1
        have ds0 : ∀ o, (w8.alloc o).cell? ⟨gA, 0, none⟩ = some (.int .i64 a) := fun o => pw_cell_alloc o s0
        have ds1 : ∀ o, (w8.alloc o).cell? ⟨gA, 1, none⟩ = some (.int .i64 0) := fun o => pw_cell_alloc o s1
        have dt0 : ∀ o, (w8.alloc o).cell? ⟨g5, a.toNat * 2, none⟩ = some (.int .i64 x) := fun o => pw_cell_alloc o t0
        have dt1 : ∀ o, (w8.alloc o).cell? ⟨g5, a.toNat * 2 + 1, none⟩ = some (.int .i64 y) := fun o => pw_cell_alloc o t1
        have es0 : w8.drew.cell? ⟨gA, 0, none⟩ = some (.int .i64 a) := s0
        have es1 : w8.drew.cell? ⟨gA, 1, none⟩ = some (.int .i64 0) := s1
        have et0 : w8.drew.cell? ⟨g5, a.toNat * 2, none⟩ = some (.int .i64 x) := t0
        have et1 : w8.drew.cell? ⟨g5, a.toNat * 2 + 1, none⟩ = some (.int .i64 y) := t1
        go_region
        all_goals go_wp2
        all_goals go_meet
        all_goals exact ⟨w8.heap.size, rfl, rfl, rfl, ⟨blk_drew (heap_alloc_new _ _)⟩, ⟨blk_drew (blk_alloc H2.out _)⟩, ⟨below_drew1 (below_alloc HB.out _)⟩, ⟨HB.out.size, Nat.ne_of_lt (blk_lt H2.out)⟩⟩
      clear s0 s1 t0 t1 HB H2 p1 p2
      obtain ⟨g8, rfl, rfl, rfl, H8, H2, HB, HG8⟩ := hcut
      rename World => w9
      simp only [misF] at hres
      have r0 : w9.cell? ⟨g8, 0, none⟩ = some (.int .i64 x) := blk_cell H8.out 0
      have r1 : w9.cell? ⟨g8, 1, none⟩ = some (.int .i64 y) := blk_cell H8.out 1
      by_cases m3 : y < 0
      case pos =>
        have m3b : decide (y < 0) = true := decide_eq_true m3
        rw [if_pos m3] at hres
        simp only at hres
        have n3 : IntKind.i64.wrap (-x) = -x := by rw [i64_w]; exact w64_ (by have := HBX.out; omega) (by have := HBX.out; omega)
        have n4 : IntKind.i64.wrap (-y) = -y := by rw [i64_w]; exact w64_ (by have := HBX.out; omega) (by have := HBX.out; omega)
        have hy0 : ¬ -y = 0 := by omega
        have rf0 := blk_frozen H8.out 0
        have rf1 := blk_frozen H8.out 1
        clear m3
        go_upto_region 15 with (fail)
        go_cut [6, 7] (fun v6 v7 w2 => v6 = .int .i64 0 ∧ v7 = .int .i64 a ∧ Aside0 (w2.heap[g8]? = some (.cells #[.int .i64 (-x), .int .i64 (-y)] 53 (0, 0))) ∧ Aside0 (w2.heap[g2]? = some (.cells #[.int .i64 0, .int .i64 0, .int .i64 0, .int .i64 0] 28 (0, 0))) ∧ Aside0 (Below w.heap.size w w2))
        case first =>
          go_region
          all_goals go_wp2
          all_goals go_meet
          all_goals exact ⟨rfl, rfl, ⟨blk_drew (blk_put (blk_put H8.out 0 _ rfl) 1 _ rfl)⟩, ⟨blk_drew (blk_far (blk_far H2.out HG8.out.2 _) HG8.out.2 _)⟩, ⟨below_drew1 (below_set (below_set HB.out HG8.out.1) HG8.out.1)⟩⟩
        clear r0 r1 rf0 rf1 H8 H2 HB n3 n4 m3b
        obtain ⟨rfl, rfl, H8, H2, HB⟩ := hcut
        rename World => w10
        have r0 : w10.cell? ⟨g8, 0, none⟩ = some (.int .i64 (-x)) := blk_cell H8.out 0
        have r1 : w10.cell? ⟨g8, 1, none⟩ = some (.int .i64 (-y)) := blk_cell H8.out 1
        generalize -x = x' at *
        generalize -y = y' at *
        have m4b : (y' == 0) = false := beq_eq_false_iff_ne.mpr hy0
        by_cases m5 : x' < 0
        case pos =>
          rw [if_pos (.inr m5)] at hres
          have m5b : decide (x' < 0) = true := decide_eq_true m5
          clear m5 hy0
          injection hres with e1 e2
          injection e1 with e1 e3 e4 e5
          subst e1 e3 e4 e5 e2
          go_wp2_with (first | (refine wpList_store_row rfl 28 (.tmp 2) (.tmp 93) rfl g2 #[.int .i64 0, .int .i64 0, .int .i64 0, .int .i64 0] rfl rfl 28 _ H2.out (by rw [i28]; rfl) rfl (one4 _ _ _ _) ?_))
          refine bodyPost_ret (results_ct rfl _ _ g2 28 #[.int .i64 0, .int .i64 0, .int .i64 0, .int .i64 0] (0, 0) _ rfl (setRow_heap _ g2 _ _ _ _ H2.out) Try.underlying28 rfl (by rw [i28]; rfl)) rfl ?_
          exact ⟨rfl, below_setRow HB.out HG2.out _⟩
        have m5b : decide (x' < 0) = false := decide_eq_false m5
        rw [if_neg (by omega)] at hres
        by_cases m6 : 10737418240000 < x'
        case pos =>
          rw [if_pos (.inl m6)] at hres
          have m6b : decide (10737418240000 < x') = true := decide_eq_true m6
          clear m5 m6 hy0
          injection hres with e1 e2
          injection e1 with e1 e3 e4 e5
          subst e1 e3 e4 e5 e2
          go_wp2_with (first | (refine wpList_store_row rfl 28 (.tmp 2) (.tmp 103) rfl g2 #[.int .i64 0, .int .i64 0, .int .i64 0, .int .i64 0] rfl rfl 28 _ H2.out (by rw [i28]; rfl) rfl (one4 _ _ _ _) ?_))
          refine bodyPost_ret (results_ct rfl _ _ g2 28 #[.int .i64 0, .int .i64 0, .int .i64 0, .int .i64 0] (0, 0) _ rfl (setRow_heap _ g2 _ _ _ _ H2.out) Try.underlying28 rfl (by rw [i28]; rfl)) rfl ?_
          exact ⟨rfl, below_setRow HB.out HG2.out _⟩
        have m6b : decide (10737418240000 < x') = false := decide_eq_false m6
        by_cases m7 : 128849018880000 < y'
        case pos =>
          rw [if_pos (.inr m7)] at hres
          have m7b : decide (128849018880000 < y') = true := decide_eq_true m7
          clear m5 m6 m7 hy0
          injection hres with e1 e2
          injection e1 with e1 e3 e4 e5
          subst e1 e3 e4 e5 e2
          go_wp2_with (first | (refine wpList_store_row rfl 28 (.tmp 2) (.tmp 103) rfl g2 #[.int .i64 0, .int .i64 0, .int .i64 0, .int .i64 0] rfl rfl 28 _ H2.out (by rw [i28]; rfl) rfl (one4 _ _ _ _) ?_))
          refine bodyPost_ret (results_ct rfl _ _ g2 28 #[.int .i64 0, .int .i64 0, .int .i64 0, .int .i64 0] (0, 0) _ rfl (setRow_heap _ g2 _ _ _ _ H2.out) Try.underlying28 rfl (by rw [i28]; rfl)) rfl ?_
          exact ⟨rfl, below_setRow HB.out HG2.out _⟩
        have m7b : decide (128849018880000 < y') = false := decide_eq_false m7
        rw [if_neg (by omega)] at hres
        injection hres with e1 e2
        injection e1 with e1 e3 e4 e5
        subst e1 e3 e4 e5 e2
        clear m5 m6 m7 hy0
        go_wp2_with (first | (refine wpList_store_row rfl 28 (.tmp 2) (.tmp 110) rfl g2 #[.int .i64 0, .int .i64 a, .int .i64 x', .int .i64 y'] rfl rfl 28 _ H2.out (by rw [i28]; rfl) rfl (one4 _ _ _ _) ?_))
        refine bodyPost_ret (results_ct rfl _ _ g2 28 #[.int .i64 0, .int .i64 a, .int .i64 x', .int .i64 y'] (0, 0) _ rfl (setRow_heap _ g2 _ _ _ _ H2.out) Try.underlying28 rfl (by rw [i28]; rfl)) rfl ?_
        exact ⟨rfl, below_setRow HB.out HG2.out _⟩
      have m3b : decide (y < 0) = false := decide_eq_false m3
      rw [if_neg m3] at hres
      simp only at hres
      by_cases hy0 : y = 0
      case pos =>
        rw [if_pos (.inl hy0)] at hres
        have m4b : (y == 0) = true := beq_iff_eq.mpr hy0
        clear hy0 m3
        injection hres with e1 e2
        injection e1 with e1 e3 e4 e5
        subst e1 e3 e4 e5 e2
        go_wp2_with (first | (refine wpList_store_row rfl 28 (.tmp 2) (.tmp 93) rfl g2 #[.int .i64 0, .int .i64 0, .int .i64 0, .int .i64 0] rfl rfl 28 _ H2.out (by rw [i28]; rfl) rfl (one4 _ _ _ _) ?_))
        refine bodyPost_ret (results_ct rfl _ _ g2 28 #[.int .i64 0, .int .i64 0, .int .i64 0, .int .i64 0] (0, 0) _ rfl (setRow_heap _ g2 _ _ _ _ H2.out) Try.underlying28 rfl (by rw [i28]; rfl)) rfl ?_
        exact ⟨rfl, below_setRow HB.out HG2.out _⟩
      have m4b : (y == 0) = false := beq_eq_false_iff_ne.mpr hy0
      clear m3
      by_cases m5 : x < 0
      case pos =>
        rw [if_pos (.inr m5)] at hres
        have m5b : decide (x < 0) = true := decide_eq_true m5
        clear m5 hy0
        injection hres with e1 e2
        injection e1 with e1 e3 e4 e5
        subst e1 e3 e4 e5 e2
        go_wp2_with (first | (refine wpList_store_row rfl 28 (.tmp 2) (.tmp 93) rfl g2 #[.int .i64 0, .int .i64 0, .int .i64 0, .int .i64 0] rfl rfl 28 _ H2.out (by rw [i28]; rfl) rfl (one4 _ _ _ _) ?_))
        refine bodyPost_ret (results_ct rfl _ _ g2 28 #[.int .i64 0, .int .i64 0, .int .i64 0, .int .i64 0] (0, 0) _ rfl (setRow_heap _ g2 _ _ _ _ H2.out) Try.underlying28 rfl (by rw [i28]; rfl)) rfl ?_
        exact ⟨rfl, below_setRow HB.out HG2.out _⟩
      have m5b : decide (x < 0) = false := decide_eq_false m5
      rw [if_neg (by omega)] at hres
      by_cases m6 : 10737418240000 < x
      case pos =>
        rw [if_pos (.inl m6)] at hres
        have m6b : decide (10737418240000 < x) = true := decide_eq_true m6
        clear m5 m6 hy0
        injection hres with e1 e2
        injection e1 with e1 e3 e4 e5
        subst e1 e3 e4 e5 e2
        go_wp2_with (first | (refine wpList_store_row rfl 28 (.tmp 2) (.tmp 103) rfl g2 #[.int .i64 0, .int .i64 0, .int .i64 0, .int .i64 0] rfl rfl 28 _ H2.out (by rw [i28]; rfl) rfl (one4 _ _ _ _) ?_))
        refine bodyPost_ret (results_ct rfl _ _ g2 28 #[.int .i64 0, .int .i64 0, .int .i64 0, .int .i64 0] (0, 0) _ rfl (setRow_heap _ g2 _ _ _ _ H2.out) Try.underlying28 rfl (by rw [i28]; rfl)) rfl ?_
        exact ⟨rfl, below_setRow HB.out HG2.out _⟩
      have m6b : decide (10737418240000 < x) = false := decide_eq_false m6
      by_cases m7 : 128849018880000 < y
      case pos =>
        rw [if_pos (.inr m7)] at hres
        have m7b : decide (128849018880000 < y) = true := decide_eq_true m7
        clear m5 m6 m7 hy0
        injection hres with e1 e2
        injection e1 with e1 e3 e4 e5
        subst e1 e3 e4 e5 e2
        go_wp2_with (first | (refine wpList_store_row rfl 28 (.tmp 2) (.tmp 103) rfl g2 #[.int .i64 0, .int .i64 0, .int .i64 0, .int .i64 0] rfl rfl 28 _ H2.out (by rw [i28]; rfl) rfl (one4 _ _ _ _) ?_))
        refine bodyPost_ret (results_ct rfl _ _ g2 28 #[.int .i64 0, .int .i64 0, .int .i64 0, .int .i64 0] (0, 0) _ rfl (setRow_heap _ g2 _ _ _ _ H2.out) Try.underlying28 rfl (by rw [i28]; rfl)) rfl ?_
        exact ⟨rfl, below_setRow HB.out HG2.out _⟩
      have m7b : decide (128849018880000 < y) = false := decide_eq_false m7
      rw [if_neg (by omega)] at hres
      injection hres with e1 e2
      injection e1 with e1 e3 e4 e5
      subst e1 e3 e4 e5 e2
      clear m5 m6 m7 hy0
      go_wp2_with (first | (refine wpList_store_row rfl 28 (.tmp 2) (.tmp 110) rfl g2 #[.int .i64 a, .int .i64 0, .int .i64 x, .int .i64 y] rfl rfl 28 _ H2.out (by rw [i28]; rfl) rfl (one4 _ _ _ _) ?_))
      refine bodyPost_ret (results_ct rfl _ _ g2 28 #[.int .i64 a, .int .i64 0, .int .i64 x, .int .i64 y] (0, 0) _ rfl (setRow_heap _ g2 _ _ _ _ H2.out) Try.underlying28 rfl (by rw [i28]; rfl)) rfl ?_
      exact ⟨rfl, below_setRow HB.out HG2.out _⟩
    · have ha := HMEM.out a (by simp)
      have hb := HMEM.out b (by simp)
      obtain ⟨⟨x, y⟩, hxy⟩ : ∃ q, B a.toNat = q := ⟨_, rfl⟩
      obtain ⟨⟨z, u⟩, hzu⟩ : ∃ q, B b.toNat = q := ⟨_, rfl⟩
      have hres := HRES.out
      simp only [misO] at hres
      rw [hxy, hzu] at hres
      simp only at hres
      have hbx := HBN.out a.toNat
      have hbz := HBN.out b.toNat
      rw [hxy] at hbx
      rw [hzu] at hbz
      simp only at hbx hbz
      obtain ⟨gA, cap, hv, -, -, -⟩ := Kd.R_form HU.out (by simp)
      injection hv with hv hv1 hv2
      subst hv
      subst hv2
      clear hv1
      have hC := (Kd.R_reads' HU.out).2.2
      obtain ⟨ad, e1, s0⟩ := Kd.at_int hC 0 (by omega) (by simp)
      cases e1
      obtain ⟨ad', e1, s1⟩ := Kd.at_int hC 1 (by omega) (by simp)
      cases e1
      rw [add_plain] at s0 s1
      replace s0 : w7.cell? ⟨gA, 0, none⟩ = some (.int .i64 a) := s0
      replace s1 : w7.cell? ⟨gA, 1, none⟩ = some (.int .i64 b) := s1
      have t0 : w7.cell? ⟨g5, a.toNat * 2, none⟩ = some (.int .i64 x) := by rw [blk_cell H5.out, arrB_get _ (by omega), cellB_even, hxy]
      have t1 : w7.cell? ⟨g5, a.toNat * 2 + 1, none⟩ = some (.int .i64 y) := by rw [blk_cell H5.out, arrB_get _ (by omega), cellB_odd, hxy]
      have t2 : w7.cell? ⟨g5, b.toNat * 2, none⟩ = some (.int .i64 z) := by rw [blk_cell H5.out, arrB_get _ (by omega), cellB_even, hzu]
      have t3 : w7.cell? ⟨g5, b.toNat * 2 + 1, none⟩ = some (.int .i64 u) := by rw [blk_cell H5.out, arrB_get _ (by omega), cellB_odd, hzu]
      have n1 : IntKind.i64.wrap (-z) = -z := by rw [i64_w]; exact w64_ (by omega) (by omega)
      have n2 : IntKind.i64.wrap (-u) = -u := by rw [i64_w]; exact w64_ (by omega) (by omega)
      have p1 : (0 ≤ a) = True := eq_true (by omega)
      have p2 : (a < 17) = True := eq_true (by omega)
      have p3 : (0 ≤ b) = True := eq_true (by omega)
      have p4 : (b < 17) = True := eq_true (by omega)
      have HAB := Aside0.mk (show 1 ≤ a ∧ a ≤ 16 ∧ 1 ≤ b ∧ b ≤ 16 by omega)
      have HBX := Aside0.mk hbx
      clear ha hb hbx hbz hC hxy hzu HU
      simp only [List.length_cons, List.length_nil]
      by_cases m1 : x = -z
      case neg =>
        have m1b : (x != -z) = true := bne_iff_ne.mpr m1
        rw [if_pos (.inl m1)] at hres
        clear m1
        injection hres with e1 e2
        injection e1 with e1 e3 e4 e5
        subst e1 e3 e4 e5 e2
        clear HRES
        go_upto_region 11 with (fail)
        go_cut [59] (fun v59 w2 => v59 = .bool true ∧ Aside0 (w2 = w7.drew))
        case first =>
          go_region
          all_goals go_wp2
          all_goals go_meet
          all_goals exact ⟨rfl, ⟨rfl⟩⟩
        obtain ⟨rfl, HW⟩ := hcut
        have hW := HW.out
        subst hW
        replace HB := Aside0.mk (below_drew1 HB.out)
        replace H2 := Aside0.mk (blk_drew H2.out)
        go_wp2_with (first | (refine wpList_store_row rfl 28 (.tmp 2) (.tmp 60) rfl g2 #[.int .i64 0, .int .i64 0, .int .i64 0, .int .i64 0] rfl rfl 28 _ H2.out (by rw [i28]; rfl) rfl (one4 _ _ _ _) ?_))
        refine bodyPost_ret (results_ct rfl _ _ g2 28 #[.int .i64 0, .int .i64 0, .int .i64 0, .int .i64 0] (0, 0) _ rfl (setRow_heap _ g2 _ _ _ _ H2.out) Try.underlying28 rfl (by rw [i28]; rfl)) rfl ?_
        exact ⟨rfl, below_setRow HB.out HG2.out _⟩
      have m1b : (x != -z) = false := by rw [m1]; exact bne_self_eq_false _
      by_cases m2 : y = -u
      case neg =>
        have m2b : (y != -u) = true := bne_iff_ne.mpr m2
        rw [if_pos (.inr m2)] at hres
        clear m1 m2
        injection hres with e1 e2
        injection e1 with e1 e3 e4 e5
        subst e1 e3 e4 e5 e2
        clear HRES
        go_upto_region 11 with (fail)
        go_cut [59] (fun v59 w2 => v59 = .bool true ∧ Aside0 (w2 = w7.drew))
        case first =>
          go_region
          all_goals go_wp2
          all_goals go_meet
          all_goals exact ⟨rfl, ⟨rfl⟩⟩
        obtain ⟨rfl, HW⟩ := hcut
        have hW := HW.out
        subst hW
        replace HB := Aside0.mk (below_drew1 HB.out)
        replace H2 := Aside0.mk (blk_drew H2.out)
        go_wp2_with (first | (refine wpList_store_row rfl 28 (.tmp 2) (.tmp 60) rfl g2 #[.int .i64 0, .int .i64 0, .int .i64 0, .int .i64 0] rfl rfl 28 _ H2.out (by rw [i28]; rfl) rfl (one4 _ _ _ _) ?_))
        refine bodyPost_ret (results_ct rfl _ _ g2 28 #[.int .i64 0, .int .i64 0, .int .i64 0, .int .i64 0] (0, 0) _ rfl (setRow_heap _ g2 _ _ _ _ H2.out) Try.underlying28 rfl (by rw [i28]; rfl)) rfl ?_
        exact ⟨rfl, below_setRow HB.out HG2.out _⟩
      have m2b : (y != -u) = false := by rw [m2]; exact bne_self_eq_false _
      rw [if_neg (by omega)] at hres
      clear m1 m2
      go_upto_region 11 with (fail)
      go_cut [59] (fun v59 w2 => v59 = .bool false ∧ Aside0 (w2 = w7.drew))
      case first =>
        go_region
        all_goals go_wp2
        all_goals go_meet
        all_goals exact ⟨rfl, ⟨rfl⟩⟩
      obtain ⟨rfl, HW⟩ := hcut
      have hW := HW.out
      subst hW
      clear HW t2 t3 n1 n2 m1b m2b p3 p4 HBN HMEM HRES
      replace s0 : w7.drew.cell? ⟨gA, 0, none⟩ = some (.int .i64 a) := s0
      replace s1 : w7.drew.cell? ⟨gA, 1, none⟩ = some (.int .i64 b) := s1
      replace t0 : w7.drew.cell? ⟨g5, a.toNat * 2, none⟩ = some (.int .i64 x) := t0
      replace t1 : w7.drew.cell? ⟨g5, a.toNat * 2 + 1, none⟩ = some (.int .i64 y) := t1
      replace HB := Aside0.mk (below_drew1 HB.out)
      replace H2 := Aside0.mk (blk_drew H2.out)
      clear H5
      generalize w7.drew = w8 at *
      go_upto_region 13 with (fail)
      go_cut [6, 7, 8] (fun v6 v7 v8 w2 => ∃ g8 : Nat, v6 = .int .i64 a ∧ v7 = .int .i64 b ∧ v8 = .pointer (some ⟨g8, 0, none⟩) ∧ Aside0 (w2.heap[g8]? = some (.cells #[.int .i64 x, .int .i64 y] 53 (0, 0))) ∧ Aside0 (w2.heap[g2]? = some (.cells #[.int .i64 0, .int .i64 0, .int .i64 0, .int .i64 0] 28 (0, 0))) ∧ Aside0 (Below w.heap.size w w2) ∧ Aside0 (w.heap.size ≤ g8 ∧ g2 ≠ g8))
      case first =>
        have cs0 : ∀ o, (w8.alloc o).drew.cell? ⟨gA, 0, none⟩ = some (.int .i64 a) := fun o => pw_cell_alloc o s0
        have cs1 : ∀ o, (w8.alloc o).drew.cell? ⟨gA, 1, none⟩ = some (.int .i64 b) := fun o => pw_cell_alloc o s1
        have ct0 : ∀ o, (w8.alloc o).drew.cell? ⟨g5, a.toNat * 2, none⟩ = some (.int .i64 x) := fun o => pw_cell_alloc o t0
        have ct1 : ∀ o, (w8.alloc o).drew.cell? ⟨g5, a.toNat * 2 + 1, none⟩ = some (.int .i64 y) := fun o => pw_cell_alloc o t1
        have ds0 : ∀ o, (w8.alloc o).cell? ⟨gA, 0, none⟩ = some (.int .i64 a) := fun o => pw_cell_alloc o s0
        have ds1 : ∀ o, (w8.alloc o).cell? ⟨gA, 1, none⟩ = some (.int .i64 b) := fun o => pw_cell_alloc o s1
        have dt0 : ∀ o, (w8.alloc o).cell? ⟨g5, a.toNat * 2, none⟩ = some (.int .i64 x) := fun o => pw_cell_alloc o t0
        have dt1 : ∀ o, (w8.alloc o).cell? ⟨g5, a.toNat * 2 + 1, none⟩ = some (.int .i64 y) := fun o => pw_cell_alloc o t1
        have es0 : w8.drew.cell? ⟨gA, 0, none⟩ = some (.int .i64 a) := s0
        have es1 : w8.drew.cell? ⟨gA, 1, none⟩ = some (.int .i64 b) := s1
        have et0 : w8.drew.cell? ⟨g5, a.toNat * 2, none⟩ = some (.int .i64 x) := t0
        have et1 : w8.drew.cell? ⟨g5, a.toNat * 2 + 1, none⟩ = some (.int .i64 y) := t1
        go_region
        all_goals go_wp2
        all_goals go_meet
        all_goals exact ⟨w8.heap.size, rfl, rfl, rfl, ⟨blk_drew (heap_alloc_new _ _)⟩, ⟨blk_drew (blk_alloc H2.out _)⟩, ⟨below_drew1 (below_alloc HB.out _)⟩, ⟨HB.out.size, Nat.ne_of_lt (blk_lt H2.out)⟩⟩
      clear s0 s1 t0 t1 HB H2 p1 p2
      obtain ⟨g8, rfl, rfl, rfl, H8, H2, HB, HG8⟩ := hcut
      rename World => w9
      simp only [misF] at hres
      have r0 : w9.cell? ⟨g8, 0, none⟩ = some (.int .i64 x) := blk_cell H8.out 0
      have r1 : w9.cell? ⟨g8, 1, none⟩ = some (.int .i64 y) := blk_cell H8.out 1
      by_cases m3 : y < 0
      case pos =>
        have m3b : decide (y < 0) = true := decide_eq_true m3
        rw [if_pos m3] at hres
        simp only at hres
        have n3 : IntKind.i64.wrap (-x) = -x := by rw [i64_w]; exact w64_ (by have := HBX.out; omega) (by have := HBX.out; omega)
        have n4 : IntKind.i64.wrap (-y) = -y := by rw [i64_w]; exact w64_ (by have := HBX.out; omega) (by have := HBX.out; omega)
        have hy0 : ¬ -y = 0 := by omega
        have rf0 := blk_frozen H8.out 0
        have rf1 := blk_frozen H8.out 1
        clear m3
        go_upto_region 15 with (fail)
        go_cut [6, 7] (fun v6 v7 w2 => v6 = .int .i64 b ∧ v7 = .int .i64 a ∧ Aside0 (w2.heap[g8]? = some (.cells #[.int .i64 (-x), .int .i64 (-y)] 53 (0, 0))) ∧ Aside0 (w2.heap[g2]? = some (.cells #[.int .i64 0, .int .i64 0, .int .i64 0, .int .i64 0] 28 (0, 0))) ∧ Aside0 (Below w.heap.size w w2))
        case first =>
          go_region
          all_goals go_wp2
          all_goals go_meet
          all_goals exact ⟨rfl, rfl, ⟨blk_drew (blk_put (blk_put H8.out 0 _ rfl) 1 _ rfl)⟩, ⟨blk_drew (blk_far (blk_far H2.out HG8.out.2 _) HG8.out.2 _)⟩, ⟨below_drew1 (below_set (below_set HB.out HG8.out.1) HG8.out.1)⟩⟩
        clear r0 r1 rf0 rf1 H8 H2 HB n3 n4 m3b
        obtain ⟨rfl, rfl, H8, H2, HB⟩ := hcut
        rename World => w10
        have r0 : w10.cell? ⟨g8, 0, none⟩ = some (.int .i64 (-x)) := blk_cell H8.out 0
        have r1 : w10.cell? ⟨g8, 1, none⟩ = some (.int .i64 (-y)) := blk_cell H8.out 1
        generalize -x = x' at *
        generalize -y = y' at *
        have m4b : (y' == 0) = false := beq_eq_false_iff_ne.mpr hy0
        by_cases m5 : x' < 0
        case pos =>
          rw [if_pos (.inr m5)] at hres
          have m5b : decide (x' < 0) = true := decide_eq_true m5
          clear m5 hy0
          injection hres with e1 e2
          injection e1 with e1 e3 e4 e5
          subst e1 e3 e4 e5 e2
          go_wp2_with (first | (refine wpList_store_row rfl 28 (.tmp 2) (.tmp 93) rfl g2 #[.int .i64 0, .int .i64 0, .int .i64 0, .int .i64 0] rfl rfl 28 _ H2.out (by rw [i28]; rfl) rfl (one4 _ _ _ _) ?_))
          refine bodyPost_ret (results_ct rfl _ _ g2 28 #[.int .i64 0, .int .i64 0, .int .i64 0, .int .i64 0] (0, 0) _ rfl (setRow_heap _ g2 _ _ _ _ H2.out) Try.underlying28 rfl (by rw [i28]; rfl)) rfl ?_
          exact ⟨rfl, below_setRow HB.out HG2.out _⟩
        have m5b : decide (x' < 0) = false := decide_eq_false m5
        rw [if_neg (by omega)] at hres
        by_cases m6 : 10737418240000 < x'
        case pos =>
          rw [if_pos (.inl m6)] at hres
          have m6b : decide (10737418240000 < x') = true := decide_eq_true m6
          clear m5 m6 hy0
          injection hres with e1 e2
          injection e1 with e1 e3 e4 e5
          subst e1 e3 e4 e5 e2
          go_wp2_with (first | (refine wpList_store_row rfl 28 (.tmp 2) (.tmp 103) rfl g2 #[.int .i64 0, .int .i64 0, .int .i64 0, .int .i64 0] rfl rfl 28 _ H2.out (by rw [i28]; rfl) rfl (one4 _ _ _ _) ?_))
          refine bodyPost_ret (results_ct rfl _ _ g2 28 #[.int .i64 0, .int .i64 0, .int .i64 0, .int .i64 0] (0, 0) _ rfl (setRow_heap _ g2 _ _ _ _ H2.out) Try.underlying28 rfl (by rw [i28]; rfl)) rfl ?_
          exact ⟨rfl, below_setRow HB.out HG2.out _⟩
        have m6b : decide (10737418240000 < x') = false := decide_eq_false m6
        by_cases m7 : 128849018880000 < y'
        case pos =>
          rw [if_pos (.inr m7)] at hres
          have m7b : decide (128849018880000 < y') = true := decide_eq_true m7
          clear m5 m6 m7 hy0
          injection hres with e1 e2
          injection e1 with e1 e3 e4 e5
          subst e1 e3 e4 e5 e2
          go_wp2_with (first | (refine wpList_store_row rfl 28 (.tmp 2) (.tmp 103) rfl g2 #[.int .i64 0, .int .i64 0, .int .i64 0, .int .i64 0] rfl rfl 28 _ H2.out (by rw [i28]; rfl) rfl (one4 _ _ _ _) ?_))
          refine bodyPost_ret (results_ct rfl _ _ g2 28 #[.int .i64 0, .int .i64 0, .int .i64 0, .int .i64 0] (0, 0) _ rfl (setRow_heap _ g2 _ _ _ _ H2.out) Try.underlying28 rfl (by rw [i28]; rfl)) rfl ?_
          exact ⟨rfl, below_setRow HB.out HG2.out _⟩
        have m7b : decide (128849018880000 < y') = false := decide_eq_false m7
        rw [if_neg (by omega)] at hres
        injection hres with e1 e2
        injection e1 with e1 e3 e4 e5
        subst e1 e3 e4 e5 e2
        clear m5 m6 m7 hy0
        go_wp2_with (first | (refine wpList_store_row rfl 28 (.tmp 2) (.tmp 110) rfl g2 #[.int .i64 b, .int .i64 a, .int .i64 x', .int .i64 y'] rfl rfl 28 _ H2.out (by rw [i28]; rfl) rfl (one4 _ _ _ _) ?_))
        refine bodyPost_ret (results_ct rfl _ _ g2 28 #[.int .i64 b, .int .i64 a, .int .i64 x', .int .i64 y'] (0, 0) _ rfl (setRow_heap _ g2 _ _ _ _ H2.out) Try.underlying28 rfl (by rw [i28]; rfl)) rfl ?_
        exact ⟨rfl, below_setRow HB.out HG2.out _⟩
      have m3b : decide (y < 0) = false := decide_eq_false m3
      rw [if_neg m3] at hres
      simp only at hres
      by_cases hy0 : y = 0
      case pos =>
        rw [if_pos (.inl hy0)] at hres
        have m4b : (y == 0) = true := beq_iff_eq.mpr hy0
        clear hy0 m3
        injection hres with e1 e2
        injection e1 with e1 e3 e4 e5
        subst e1 e3 e4 e5 e2
        go_wp2_with (first | (refine wpList_store_row rfl 28 (.tmp 2) (.tmp 93) rfl g2 #[.int .i64 0, .int .i64 0, .int .i64 0, .int .i64 0] rfl rfl 28 _ H2.out (by rw [i28]; rfl) rfl (one4 _ _ _ _) ?_))
        refine bodyPost_ret (results_ct rfl _ _ g2 28 #[.int .i64 0, .int .i64 0, .int .i64 0, .int .i64 0] (0, 0) _ rfl (setRow_heap _ g2 _ _ _ _ H2.out) Try.underlying28 rfl (by rw [i28]; rfl)) rfl ?_
        exact ⟨rfl, below_setRow HB.out HG2.out _⟩
      have m4b : (y == 0) = false := beq_eq_false_iff_ne.mpr hy0
      clear m3
      by_cases m5 : x < 0
      case pos =>
        rw [if_pos (.inr m5)] at hres
        have m5b : decide (x < 0) = true := decide_eq_true m5
        clear m5 hy0
        injection hres with e1 e2
        injection e1 with e1 e3 e4 e5
        subst e1 e3 e4 e5 e2
        go_wp2_with (first | (refine wpList_store_row rfl 28 (.tmp 2) (.tmp 93) rfl g2 #[.int .i64 0, .int .i64 0, .int .i64 0, .int .i64 0] rfl rfl 28 _ H2.out (by rw [i28]; rfl) rfl (one4 _ _ _ _) ?_))
        refine bodyPost_ret (results_ct rfl _ _ g2 28 #[.int .i64 0, .int .i64 0, .int .i64 0, .int .i64 0] (0, 0) _ rfl (setRow_heap _ g2 _ _ _ _ H2.out) Try.underlying28 rfl (by rw [i28]; rfl)) rfl ?_
        exact ⟨rfl, below_setRow HB.out HG2.out _⟩
      have m5b : decide (x < 0) = false := decide_eq_false m5
      rw [if_neg (by omega)] at hres
      by_cases m6 : 10737418240000 < x
      case pos =>
        rw [if_pos (.inl m6)] at hres
        have m6b : decide (10737418240000 < x) = true := decide_eq_true m6
        clear m5 m6 hy0
        injection hres with e1 e2
        injection e1 with e1 e3 e4 e5
        subst e1 e3 e4 e5 e2
        go_wp2_with (first | (refine wpList_store_row rfl 28 (.tmp 2) (.tmp 103) rfl g2 #[.int .i64 0, .int .i64 0, .int .i64 0, .int .i64 0] rfl rfl 28 _ H2.out (by rw [i28]; rfl) rfl (one4 _ _ _ _) ?_))
        refine bodyPost_ret (results_ct rfl _ _ g2 28 #[.int .i64 0, .int .i64 0, .int .i64 0, .int .i64 0] (0, 0) _ rfl (setRow_heap _ g2 _ _ _ _ H2.out) Try.underlying28 rfl (by rw [i28]; rfl)) rfl ?_
        exact ⟨rfl, below_setRow HB.out HG2.out _⟩
      have m6b : decide (10737418240000 < x) = false := decide_eq_false m6
      by_cases m7 : 128849018880000 < y
      case pos =>
        rw [if_pos (.inr m7)] at hres
        have m7b : decide (128849018880000 < y) = true := decide_eq_true m7
        clear m5 m6 m7 hy0
        injection hres with e1 e2
        injection e1 with e1 e3 e4 e5
        subst e1 e3 e4 e5 e2
        go_wp2_with (first | (refine wpList_store_row rfl 28 (.tmp 2) (.tmp 103) rfl g2 #[.int .i64 0, .int .i64 0, .int .i64 0, .int .i64 0] rfl rfl 28 _ H2.out (by rw [i28]; rfl) rfl (one4 _ _ _ _) ?_))
        refine bodyPost_ret (results_ct rfl _ _ g2 28 #[.int .i64 0, .int .i64 0, .int .i64 0, .int .i64 0] (0, 0) _ rfl (setRow_heap _ g2 _ _ _ _ H2.out) Try.underlying28 rfl (by rw [i28]; rfl)) rfl ?_
        exact ⟨rfl, below_setRow HB.out HG2.out _⟩
      have m7b : decide (128849018880000 < y) = false := decide_eq_false m7
      rw [if_neg (by omega)] at hres
      injection hres with e1 e2
      injection e1 with e1 e3 e4 e5
      subst e1 e3 e4 e5 e2
      clear m5 m6 m7 hy0
      go_wp2_with (first | (refine wpList_store_row rfl 28 (.tmp 2) (.tmp 110) rfl g2 #[.int .i64 a, .int .i64 b, .int .i64 x, .int .i64 y] rfl rfl 28 _ H2.out (by rw [i28]; rfl) rfl (one4 _ _ _ _) ?_))
      refine bodyPost_ret (results_ct rfl _ _ g2 28 #[.int .i64 a, .int .i64 b, .int .i64 x, .int .i64 y] (0, 0) _ rfl (setRow_heap _ g2 _ _ _ _ H2.out) Try.underlying28 rfl (by rw [i28]; rfl)) rfl ?_
      exact ⟨rfl, below_setRow HB.out HG2.out _⟩
    · have hres := HRES.out
      unfold misO at hres
      injection hres with e1 e2
      injection e1 with e1 e3 e4 e5
      subst e1 e3 e4 e5 e2
      obtain ⟨N, hN⟩ : ∃ N, N = (a :: b :: d :: r).length := ⟨_, rfl⟩
      have hN3 : 3 ≤ N := by rw [hN]; simp
      rw [← hN]
      have l0 : ((N : Int) == 0) = false := beq_eq_false_iff_ne.mpr (by omega)
      have l1 : ((N : Int) == 1) = false := beq_eq_false_iff_ne.mpr (by omega)
      have l2 : ((N : Int) == 2) = false := beq_eq_false_iff_ne.mpr (by omega)
      have l3 : (N == 0) = false := beq_eq_false_iff_ne.mpr (by omega)
      have l4 : (N == 1) = false := beq_eq_false_iff_ne.mpr (by omega)
      have l5 : (N == 2) = false := beq_eq_false_iff_ne.mpr (by omega)
      have l6 : ¬ N = 0 := by omega
      have l7 : ¬ N = 1 := by omega
      have l8 : ¬ N = 2 := by omega
      clear hN hN3 HRES HU
      go_wp2_with (first | (refine wpList_store_row rfl 28 (.tmp 2) (.tmp 19) rfl g2 #[.int .i64 0, .int .i64 0, .int .i64 0, .int .i64 0] rfl rfl 28 _ H2.out (by rw [i28]; rfl) rfl (one4 _ _ _ _) ?_))
      refine bodyPost_ret (results_ct rfl _ _ g2 28 #[.int .i64 0, .int .i64 0, .int .i64 0, .int .i64 0] (0, 0) _ rfl (setRow_heap _ g2 _ _ _ _ H2.out) Try.underlying28 rfl (by rw [i28]; rfl)) rfl ?_
      exact ⟨rfl, below_setRow HB.out HG2.out _⟩
set_option maxHeartbeats 8000000 in
set_option maxRecDepth 100000 in
theorem column_Missing.known (p : Int) (A : Option Addr) (c : Nat) (l : List S28) (w : World) (hr : Kd.C k28 w A l.length l) (hc : l.length ≤ c) {f : S28} {e : Int} (h : misR p l = (f, e)) :
    Calls Try.prog 12 #[.agg #[.int .i64 p, .slice A l.length c]] w fun x w' => x = .returned (.tuple #[.agg #[.int .i64 f.f0, .int .i64 f.f1, .int .i64 f.f2, .int .i64 f.f3], .int .i64 e]) ∧ Below w.heap.size w w' := by
  unfold misR at h
  cases hb : rt36 p l
  case true =>
    rw [hb, if_pos rfl] at h
    exact column_Missing.good p A c l w hr hc hb h
  rw [hb, if_neg (by decide)] at h
  injection h with e1 e2
  subst e1
  subst e2
  have hu1 := Try.underlying24
  have HR := Aside0.mk (fun W (hb : Below w.heap.size w W) => column_right.known p A c l W (Kd.C_below hr hb) hc (b := rt36 p l) rfl)
  rw [hb] at HR
  have i28 : (Try.prog.info? 28).map (·.size) = some 4 := by kernel_rfl
  clear hr hc hb
  unfold fl0
  go_enter Try.func12, Try.ntmps12
  go_wp2_with (first | ((with_reducible refine gate_dst (N := 1) rfl ?_); refine box_event ?hg (N := 1) ?hd (cs := #[.int .i64 p, .slice A l.length c]) (t := 24) ?hr ?_; (case hd => rfl); (case hg => rfl); (case hr => first | (go_simp; done) | (go_simp; rfl)); intro gb hg w3 hbox hb; have c0 : w3.cell? ⟨gb, 0, none⟩ = some (.int .i64 p) := blk_cell hbox 0; have c1 : w3.cell? ⟨gb, 1, none⟩ = some (.slice A l.length c) := blk_cell hbox 1; have HB := Aside0.mk hb; clear hbox hb hg) | ((with_reducible refine gate_dst (N := 2) rfl ?_); refine box_event ?hg (N := 2) ?hd (cs := #[.int .i64 0, .int .i64 0, .int .i64 0, .int .i64 0]) (t := 28) ?hr ?_; (case hd => rfl); (case hg => rfl); (case hr => first | (go_simp; done) | (go_simp; rfl)); intro g2 hg w4 hbox hb; replace c0 := pw_cell_below hb c0; replace c1 := pw_cell_below hb c1; have H2 := Aside0.mk hbox; have HG2 := Aside0.mk (show w.heap.size ≤ g2 by rw [hg]; exact HB.out.size); replace HB := Aside0.mk (below_step HB.out hb); clear hbox hb hg))
  refine (HR.out _ HB.out).mono ?_
  rintro e w4 ⟨rfl, hb⟩
  replace HB := Aside0.mk (below_step HB.out hb)
  replace H2 := Aside0.mk (blk_below H2.out hb)
  clear hb HR c0 c1
  go_wp2_with (first | (refine wpList_store_row rfl 28 (.tmp 2) (.tmp 12) rfl g2 #[.int .i64 0, .int .i64 0, .int .i64 0, .int .i64 0] rfl rfl 28 _ H2.out (by rw [i28]; rfl) rfl (one4 _ _ _ _) ?_))
  refine bodyPost_ret (results_ct rfl _ _ g2 28 #[.int .i64 0, .int .i64 0, .int .i64 0, .int .i64 0] (0, 0) _ rfl (setRow_heap _ g2 _ _ _ _ H2.out) Try.underlying28 rfl (by rw [i28]; rfl)) rfl ?_
  exact ⟨rfl, below_setRow HB.out HG2.out _⟩

end Go.Proofs.Ytodfjkdgfjkifaa.PF
