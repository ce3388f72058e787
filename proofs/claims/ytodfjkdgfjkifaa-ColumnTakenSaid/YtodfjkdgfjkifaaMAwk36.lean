/- The example of layer 36's laws: awake returns true. -/
import Derived.Test.YtodfjkdgfjkifaaMChk36
import Derived.Test.YtodfjkdgfjkifaaMCol36
import Derived.Test.YtodfjkdgfjkifaaMMis36
import Derived.Test.YtodfjkdgfjkifaaMMrg36
import Derived.Test.YtodfjkdgfjkifaaMOpn36
import Derived.Test.YtodfjkdgfjkifaaPF0
import Derived.Test.YtodfjkdgfjkifaaPF3
import Derived.Carry
namespace Go.Proofs.Ytodfjkdgfjkifaa.PF
open Go.RowKit Go.Proofs.YtodfjkdgfjkifaaW.PrintWords Go.Proofs.YtodfjkdgfjkifaaW.PrintLast Go.Proofs.YtodfjkdgfjkifaaW.PrintMore
set_option linter.unusedVariables false
set_option linter.unusedSimpArgs false
def exL : List S28 := [(⟨0, 1, 100, 1000⟩ : S28), (⟨1, 2, 90, 400⟩ : S28), (⟨2, 1, 20, 200⟩ : S28), (⟨2, 0, 70, 200⟩ : S28)]
def mgL : List S28 := [(⟨0, 1, 100, 1000⟩ : S28), (⟨1, 0, 70, 200⟩ : S28)]
theorem ex_balance : blR 2 exL 1 = (30, 800, 0) := by kernel_rfl
theorem ex_open : opR 2 exL = ([1], 0) := by kernel_rfl
theorem ex_missing : misR 2 exL = (⟨1, 0, 30, 800⟩, 0) := by kernel_rfl
theorem ex_merge : mgR 2 exL 1 = (1, mgL, 0) := by kernel_rfl
theorem R_of_alloc {α : Type} (d : Kd α) (W : World) (e : Nat) {xs : List α} {inner : List Value} (hrep : Reps (d.M W W.heap.size (fun _ => True)) d.sz xs inner) (hm : xs.length ≤ 1000) :
    d.R e (W.alloc (.cells inner.toArray e)) W.heap.size (fun _ => True) (.slice (some ⟨W.heap.size, 0, none⟩) xs.length xs.length) xs := by
  refine ⟨fun _ _ => trivial, inner, ?_, ?_⟩
  · have h2 := World.ownsRow_lit (base := W.heap.size) (e := e) (size := d.sz) W inner.toArray xs.length (Nat.le_refl _) (by simp [maxLen]; omega) (by simpa using hrep.1)
    simpa using h2
  · refine hrep.imp_ (fun p c hp => d.M_mono (fun k hk => ⟨trivial, fun he => ?_⟩) (Kd.M_below (d.M_bound hp) (below_alloc (Below.refl _ _) _)))
    have h3 : k = W.heap.size := by simpa [Value.ownBlock] using he
    have := hk.2.2.1
    omega
theorem C_one (W : World) : Kd.C (Kd.int .i64) (W.alloc (.cells #[.int .i64 1] 3)) (some ⟨W.heap.size, 0, none⟩) 1 [1] :=
  (Kd.R_reads' (R_of_alloc (Kd.int .i64) W 3 (xs := [1]) (inner := [.int .i64 1]) (Reps.front (p := (1 : Int)) (c := [.int .i64 1]) rfl rfl (Reps.none _ _) rfl) (by decide))).2.2
theorem C_mgL (W : World) : Kd.C k28 (W.alloc (.cells #[.int .i64 0, .int .i64 1, .int .i64 100, .int .i64 1000, .int .i64 1, .int .i64 0, .int .i64 70, .int .i64 200] 28)) (some ⟨W.heap.size, 0, none⟩) 2 mgL :=
  (Kd.R_reads' (R_of_alloc k28 W 28 (xs := mgL) (inner := [.int .i64 0, .int .i64 1, .int .i64 100, .int .i64 1000, .int .i64 1, .int .i64 0, .int .i64 70, .int .i64 200]) (Reps.c4 (show Kd.M k28 _ _ _ (⟨0, 1, 100, 1000⟩ : S28) [.int .i64 0, .int .i64 1, .int .i64 100, .int .i64 1000] from k28_mkM _ _ _ _) (Reps.c4 (show Kd.M k28 _ _ _ (⟨1, 0, 70, 200⟩ : S28) [.int .i64 1, .int .i64 0, .int .i64 70, .int .i64 200] from k28_mkM _ _ _ _) (Reps.none _ _))) (by decide))).2.2
theorem example36.known (w : World) : Calls Try.prog 29 #[] w fun e w' => ∃ A c, e = .returned (.agg #[.int .i64 2, .slice A exL.length c]) ∧ exL.length ≤ c ∧ Kd.C k28 w' A exL.length exL ∧ Below w.heap.size w w' := by
  refine (spilelaw36_example.calls 2 exL w rfl).mono ?_
  rintro e w' ⟨v, rfl, hR, hb⟩
  obtain ⟨A, c, rfl⟩ := Kd.R_slice hR
  exact ⟨A, c, rfl, (Kd.R_reads' hR).2.1, (Kd.R_reads' hR).2.2, hb⟩
set_option maxHeartbeats 8000000 in
set_option maxRecDepth 100000 in
theorem awake36.known (w : World) : Calls Try.prog 10 #[] w fun e w' => e = .returned (.bool true) ∧ Below w.heap.size w w' := by
  have hu1 := Try.underlying24
  have hu2 := Try.underlying28
  have HX := Aside0.mk (fun W => example36.known W)
  have HBa := Aside0.mk (fun (W : World) (A : Option Addr) (c : Nat) (hr : Kd.C k28 W A exL.length exL) (hc : exL.length ≤ c) => column_Balance.known 2 A c exL 1 W hr hc ex_balance)
  have HOp := Aside0.mk (fun (W : World) (A : Option Addr) (c : Nat) (hr : Kd.C k28 W A exL.length exL) (hc : exL.length ≤ c) => column_Open.known 2 A c exL W hr hc ex_open)
  have HMi := Aside0.mk (fun (W : World) (A : Option Addr) (c : Nat) (hr : Kd.C k28 W A exL.length exL) (hc : exL.length ≤ c) => column_Missing.known 2 A c exL W hr hc ex_missing)
  have HMe := Aside0.mk (fun (W : World) (A : Option Addr) (c : Nat) (hr : Kd.C k28 W A exL.length exL) (hc : exL.length ≤ c) => column_Merge.known 2 A c exL 1 W hr hc ex_merge)
  have hml : mgL.length = 2 := rfl
  generalize hexl : exL.length = nx at *
  go_enter Try.func10, Try.ntmps10
  go_wp2_with fail
  refine (HX.out _).mono ?_
  rintro e w1 ⟨A1, c1, rfl, hc1, hr1, hb⟩
  have HB := Aside0.mk hb
  have HC1 := Aside0.mk (⟨hr1, hc1⟩ : _ ∧ _)
  clear hb hr1 hc1
  go_wp2_with fail
  refine (HBa.out _ _ _ HC1.out.1 HC1.out.2).mono ?_
  rintro e w2 ⟨rfl, hb⟩
  replace HB := Aside0.mk (below_step HB.out hb)
  clear hb HBa HC1
  go_wp2_with fail
  refine (HX.out _).mono ?_
  rintro e w3 ⟨A1, c1, rfl, hc1, hr1, hb⟩
  replace HB := Aside0.mk (below_step HB.out hb)
  have HC1 := Aside0.mk (⟨hr1, hc1⟩ : _ ∧ _)
  clear hb hr1 hc1
  go_wp2_with fail
  refine (HOp.out _ _ _ HC1.out.1 HC1.out.2).mono ?_
  rintro e w4 ⟨AO, cO, rfl, hcO, hrO, hb⟩
  replace HB := Aside0.mk (below_step HB.out hb)
  have HO := Aside0.mk hrO
  have HOL := Aside0.mk hcO
  clear hb HOp HC1 hrO hcO
  go_wp2_with fail
  refine (HX.out _).mono ?_
  rintro e w5 ⟨A1, c1, rfl, hc1, hr1, hb⟩
  replace HB := Aside0.mk (below_step HB.out hb)
  replace HO := Aside0.mk (Kd.C_below HO.out hb)
  have HC1 := Aside0.mk (⟨hr1, hc1⟩ : _ ∧ _)
  clear hb hr1 hc1
  go_wp2_with fail
  refine (HMi.out _ _ _ HC1.out.1 HC1.out.2).mono ?_
  rintro e w6 ⟨rfl, hb⟩
  replace HB := Aside0.mk (below_step HB.out hb)
  replace HO := Aside0.mk (Kd.C_below HO.out hb)
  clear hb HMi HC1
  go_wp2_with (first | ((with_reducible refine gate_dst (N := 6) rfl ?_); refine box_event ?hg (N := 6) ?hd (cs := #[.int .i64 0, .int .i64 0, .int .i64 0, .int .i64 0]) (t := 28) ?hr ?_; (case hd => rfl); (case hg => rfl); (case hr => first | (go_simp; done) | (go_simp; rfl)); intro g6 hg w7 hbox hb5; have hc0 : w7.cell? ⟨g6, 0, none⟩ = some (.int .i64 0) := blk_cell hbox 0; have hf0 := blk_frozen hbox 0; have hc1 : w7.cell? ⟨g6, 1, none⟩ = some (.int .i64 0) := blk_cell hbox 1; have hf1 := blk_frozen hbox 1; have hc2 : w7.cell? ⟨g6, 2, none⟩ = some (.int .i64 0) := blk_cell hbox 2; have hf2 := blk_frozen hbox 2; have hc3 : w7.cell? ⟨g6, 3, none⟩ = some (.int .i64 0) := blk_cell hbox 3; have hf3 := blk_frozen hbox 3; replace hbox := Aside0.mk hbox; replace hb5 := Aside0.mk hb5; replace hg := Aside0.mk hg) | ((with_reducible refine gate_store (t := 28) (p := 6) rfl ?_); refine store_event (t := 28) (p := 6) (v := .tmp 24) (w1 := ((((w7.setCell ⟨g6, 0, none⟩ (.int .i64 1)).setCell ⟨g6, 1, none⟩ (.int .i64 0)).setCell ⟨g6, 2, none⟩ (.int .i64 30)).setCell ⟨g6, 3, none⟩ (.int .i64 800))) ?hg ?ho ?hn ?hr ?_; (case ho => rfl); (case hg => rfl); (case hn => rfl); (case hr => first | (go_simp; done) | (go_simp; rfl)); intro w8 hw6; clear hc0 hf0 hc1 hf1 hc2 hf2 hc3 hf3; have hbx := box4_ (x := .int .i64 1) (y := .int .i64 0) (z := .int .i64 30) (u := .int .i64 800) hb5.out hg.out hbox.out; rw [← hw6] at hbx; clear hw6 hb5 hg hbox; obtain ⟨hb6, hk6⟩ := hbx; have K6 := Aside0.mk hk6; replace HO := Aside0.mk (Kd.C_below HO.out hb6); replace HB := Aside0.mk (below_step HB.out hb6); clear hb6 hk6))
  refine (HX.out _).mono ?_
  rintro e w9 ⟨A1, c1, rfl, hc1, hr1, hb⟩
  replace HB := Aside0.mk (below_step HB.out hb)
  replace HO := Aside0.mk (Kd.C_below HO.out hb)
  replace K6 := Aside0.mk (blk_below K6.out hb)
  have HC1 := Aside0.mk (⟨hr1, hc1⟩ : _ ∧ _)
  clear hb hr1 hc1 HX
  go_wp2_with fail
  refine (HMe.out _ _ _ HC1.out.1 HC1.out.2).mono ?_
  rintro e w10 ⟨AM, cM, rfl, hcM, hrM, hb⟩
  replace HB := Aside0.mk (below_step HB.out hb)
  replace HO := Aside0.mk (Kd.C_below HO.out hb)
  replace K6 := Aside0.mk (blk_below K6.out hb)
  have HM := Aside0.mk hrM
  have HML := Aside0.mk hcM
  clear hb HMe HC1 hrM hcM hexl
  rw [hml]
  go_wp2_with (first
    | ((with_reducible refine gate_dst (N := 8) rfl ?_); refine box_event ?hg (N := 8) ?hd (cs := #[.int .i64 0, .slice none 0 0]) (t := 24) ?hr ?_; (case hd => rfl); (case hg => rfl); (case hr => first | (go_simp; done) | (go_simp; rfl)); intro g8 hg w11 hbox hb5; have hc0 : w11.cell? ⟨g8, 0, none⟩ = some (.int .i64 0) := blk_cell hbox 0; have hf0 := blk_frozen hbox 0; have hc1 : w11.cell? ⟨g8, 1, none⟩ = some (.slice none 0 0) := blk_cell hbox 1; have hf1 := blk_frozen hbox 1; replace hbox := Aside0.mk hbox; replace hb5 := Aside0.mk hb5; replace hg := Aside0.mk hg) | ((with_reducible refine gate_store (t := 24) (p := 8) rfl ?_); refine store_event (t := 24) (p := 8) (v := .tmp 29) (w1 := ((w11.setCell ⟨g8, 0, none⟩ (.int .i64 1)).setCell ⟨g8, 1, none⟩ (.slice AM 2 cM))) ?hg ?ho ?hn ?hr ?_; (case ho => rfl); (case hg => rfl); (case hn => rfl); (case hr => first | (go_simp; done) | (go_simp; rfl)); intro w12 hw6; clear hc0 hf0 hc1 hf1; have hbx := box2h_ (x := .int .i64 1) (y := .slice AM 2 cM) hb5.out hg.out hbox.out; rw [← hw6] at hbx; clear hw6 hb5 hg hbox; obtain ⟨hb6, hk6⟩ := hbx; have K8 := Aside0.mk hk6; replace HO := Aside0.mk (Kd.C_below HO.out hb6); replace HM := Aside0.mk (Kd.C_below HM.out hb6); replace K6 := Aside0.mk (blk_below K6.out hb6); replace HB := Aside0.mk (below_step HB.out hb6); clear hb6 hk6)
    | (go_at_call 30; refine (slices_Equal_int_int.calls 10 _ _ [1] _ _ [1] true _ ?h1 ?k1 ?h2 ?k2 (by kernel_rfl)).mono ?_; (case h1 => exact Kd.C_alloc HO.out _); (case k1 => exact HOL.out); (case h2 => exact C_one _); (case k2 => exact Nat.le_refl _); rintro e w13 ⟨rfl, hd⟩; have hb := below_step (below_alloc (Below.refl _ _) _) hd.below; replace K6 := Aside0.mk (blk_below K6.out hb); replace K8 := Aside0.mk (blk_below K8.out hb); replace HM := Aside0.mk (Kd.C_below HM.out hb); replace HB := Aside0.mk (below_step HB.out hb); clear hb hd HO HOL; have x0 : w13.cell? ⟨g6, 0, none⟩ = some (.int .i64 1) := blk_cell K6.out 0; have x1 : w13.cell? ⟨g6, 1, none⟩ = some (.int .i64 0) := blk_cell K6.out 1; have x2 : w13.cell? ⟨g6, 2, none⟩ = some (.int .i64 30) := blk_cell K6.out 2; have x3 : w13.cell? ⟨g6, 3, none⟩ = some (.int .i64 800) := blk_cell K6.out 3; have y0 : w13.cell? ⟨g8, 0, none⟩ = some (.int .i64 1) := blk_cell K8.out 0; have y1 : w13.cell? ⟨g8, 1, none⟩ = some (.slice AM 2 cM) := blk_cell K8.out 1)
    | (go_at_call 31; refine (api_Flow_31.calls 10 _ _ mgL _ _ mgL true _ ?h1 ?k1 ?h2 ?k2 (by kernel_rfl)).mono ?_; (case h1 => exact Kd.C_alloc HM.out _); (case k1 => exact HML.out); (case h2 => exact C_mgL _); (case k2 => exact Nat.le_refl _); rintro e w14 ⟨rfl, hd⟩; have hb := below_step (below_alloc (Below.refl _ _) _) hd.below; replace HB := Aside0.mk (below_step HB.out hb); clear hb hd HM HML x0 x1 x2 x3 y0 y1))
  go_ret
  exact ⟨rfl, HB.out⟩

end Go.Proofs.Ytodfjkdgfjkifaa.PF
