/- Layer 52: words for the walks through its laws. -/
import Derived.Test.YtdolabpkgienkaaMBnd52b
import Derived.Test.YtdolabpkgienkaaPF0
import Derived.Test.YtdolabpkgienkaaPF10
import Derived.Test.YtdolabpkgienkaaPF5
namespace Go.Proofs.Ytdolabpkgienkaa.PF
open Go.RowKit Go.Proofs.YtdolabpkgienkaaW.PrintWords Go.Proofs.YtdolabpkgienkaaW.PrintLast Go.Proofs.YtdolabpkgienkaaW.PrintMore
set_option linter.unusedVariables false
set_option linter.unusedSimpArgs false
theorem R_rowsE {f : Nat} {args : Array Value} {w : World} {r1 : List S35} {r2 : Int} (h : Calls Try.prog f args w fun e w' => ∃ v0_ : Value, e = .returned (.tuple #[v0_, .int .i64 r2]) ∧ Kd.R k35 35 w' w.heap.size (fun _ => True) v0_ r1 ∧ Below w.heap.size w w') :
    Calls Try.prog f args w fun e w' => ∃ A c, e = .returned (.tuple #[.slice A r1.length c, .int .i64 r2]) ∧ Aside0 (r1.length ≤ c ∧ Kd.C k35 w' A r1.length r1) ∧ Below w.heap.size w w' := by
  refine h.mono ?_
  rintro e w' ⟨v, rfl, hR, hb⟩
  obtain ⟨A, c, rfl⟩ := Kd.R_slice hR
  exact ⟨A, c, rfl, ⟨(Kd.R_reads' hR).2.1, (Kd.R_reads' hR).2.2⟩, hb⟩
theorem cloneB {l : List S31} (hl : l.length ≤ 1000) (A : Option Addr) (c : Nat) (hc : l.length ≤ c) (w : World) (hr : Kd.C k31 w A l.length l) : Calls Try.prog 13 #[.slice A l.length c] w fun e w' => ∃ A c, e = .returned (.slice A l.length c) ∧ Aside0 (l.length ≤ c ∧ Kd.C k31 w' A l.length l) ∧ Below w.heap.size w w' := by
  refine (api_Bond_13.calls A c l l w hr hc (clB hl)).mono ?_
  rintro e w' ⟨v, rfl, hR, hb⟩
  obtain ⟨A, c, rfl⟩ := Kd.R_slice hR
  exact ⟨A, c, rfl, ⟨(Kd.R_reads' hR).2.1, (Kd.R_reads' hR).2.2⟩, hb⟩
theorem cloneH {l : List S35} (hl : l.length ≤ 1000) (A : Option Addr) (c : Nat) (hc : l.length ≤ c) (w : World) (hr : Kd.C k35 w A l.length l) : Calls Try.prog 16 #[.slice A l.length c] w fun e w' => ∃ A c, e = .returned (.slice A l.length c) ∧ Aside0 (l.length ≤ c ∧ Kd.C k35 w' A l.length l) ∧ Below w.heap.size w w' := by
  refine (api_Hold_16.calls A c l l w hr hc (clH hl)).mono ?_
  rintro e w' ⟨v, rfl, hR, hb⟩
  obtain ⟨A, c, rfl⟩ := Kd.R_slice hR
  exact ⟨A, c, rfl, ⟨(Kd.R_reads' hR).2.1, (Kd.R_reads' hR).2.2⟩, hb⟩

end Go.Proofs.Ytdolabpkgienkaa.PF
