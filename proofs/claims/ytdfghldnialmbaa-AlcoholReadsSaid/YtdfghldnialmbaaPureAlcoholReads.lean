/- The law AlcoholReads of package spilelaw20 returns true for every input and leaves its arguments as they were; there is no condition. -/
import Derived.Test.YtdfghldnialmbaaLawAlcoholReads
import Derived.Test.YtdfghldnialmbaaMAlc
import Derived.Test.YtdfghldnialmbaaMAlcAwake
import Derived.Test.YtdfghldnialmbaaPF0
import Derived.Test.YtdfghldnialmbaaPF13
import Derived.Test.YtdfghldnialmbaaPF14
import Derived.Test.YtdfghldnialmbaaPF3
import Derived.Test.YtdfghldnialmbaaPF5
import Derived.Test.YtdfghldnialmbaaPF8
import Derived.Test.YtdfghldnialmbaaPF9
namespace Go.Proofs.Ytdfghldnialmbaa.PF
open Go.RowKit Go.Proofs.YtdfghldnialmbaaW.PrintWords Go.Proofs.YtdfghldnialmbaaW.PrintLast Go.Proofs.YtdfghldnialmbaaW.PrintMore
set_option linter.unusedVariables false
set_option linter.unusedSimpArgs false
theorem RStr.yes {l : List S42} {a m : Int} (h : LiqOK l a m) : spileref20_Strength.f l a m = some (gradeS l a m, 0) := by
  have e := (lchk_iff l a m).2 h
  unfold spileref20_Strength.f spileref20_Check_s.f spileref20_Grade_s.f
  simp only [Option.bind_some, e, if_true]
theorem RStr.no {l : List S42} {a m : Int} (h : ¬ LiqOK l a m) : spileref20_Strength.f l a m = some (0, 1) := by
  unfold spileref20_Strength.f spileref20_Check_s.f
  simp only [Option.bind_some]
  rw [if_neg (fun e => h ((lchk_iff l a m).1 e))]
theorem RSize {l : List S42} {a m : Int} (h : LiqOK l a m) : spileref20_Size.f l a m = some (volS l a m) := by
  have hd := h.dg
  have hv := h.vol
  have e := (lchk_iff l a m).2 h
  obtain ⟨g0, g1, _⟩ := h.grade
  unfold spileref20_Size.f spileref20_Grade_s.f
  simp only [e, if_true, Option.bind_some]
  rw [h.right.at18s g0 g1]
  simp only [Option.bind_some]
  rw [if_neg (by omega), Int.tdiv_eq_ediv_of_nonneg h.m0]
  unfold volS at hv ⊢
  rw [w64_ (by omega) (by omega)]
theorem RGrade {l : List S42} {a m : Int} (h : LiqOK l a m) : spileref20_Grade_s.f l a m = some (gradeS l a m) := by
  unfold spileref20_Grade_s.f
  rw [if_pos ((lchk_iff l a m).2 h)]
theorem RVol.yes {l : List S42} {a m : Int} (h : LiqOK l a m) : spileref20_Volume.f l a m = some (volS l a m, 0) := by
  unfold spileref20_Volume.f spileref20_Check_s.f
  simp only [Option.bind_some, (lchk_iff l a m).2 h, if_true, RSize h]
theorem RVol.no {l : List S42} {a m : Int} (h : ¬ LiqOK l a m) : spileref20_Volume.f l a m = some (0, 1) := by
  unfold spileref20_Volume.f spileref20_Check_s.f
  simp only [Option.bind_some]
  rw [if_neg (fun e => h ((lchk_iff l a m).1 e))]
theorem RLost.yes {l : List S42} {a m : Int} (h : LiqOK l a m) : spileref20_Lost.f l a m = some (a - volS l a m * gradeS l a m, 0) := by
  have hs := h.shown
  have h0 := h.a0
  have h1 := h.a1
  unfold spileref20_Lost.f spileref20_Check_s.f
  simp only [Option.bind_some, (lchk_iff l a m).2 h, if_true, RSize h, RGrade h]
  rw [w64_ (show -9223372036854775808 ≤ volS l a m * gradeS l a m by omega) (by omega), w64_ (by omega) (by omega)]
theorem RLost.no {l : List S42} {a m : Int} (h : ¬ LiqOK l a m) : spileref20_Lost.f l a m = some (0, 1) := by
  unfold spileref20_Lost.f spileref20_Check_s.f
  simp only [Option.bind_some]
  rw [if_neg (fun e => h ((lchk_iff l a m).1 e))]
theorem Masses (l : List S42) (a m v : Int) : ∃ r, alcohol_Mass.f 1 l a m v = some r ∧ spileref20_Mass.f 1 l a m v = some r := by
  unfold alcohol_Mass.f spileref20_Mass.f spileref20_Check_s.f
  by_cases h : LiqOK l a m
  · have hd := h.dg
    obtain ⟨g0, g1, _⟩ := h.grade
    rw [Vol.yes h, (lchk_iff l a m).2 h]
    simp only [Option.bind_some, if_true, alcohol_Mass.j0, spileref20_Mass.j0]
    by_cases c1 : v < 0
    · rw [if_pos c1, if_pos c1]; exact ⟨_, rfl, rfl⟩
    rw [if_neg c1, if_neg c1]
    by_cases c2 : v > 1073741824
    · rw [decide_eq_true c2]; exact ⟨_, rfl, rfl⟩
    rw [decide_eq_false c2]
    simp only [Bool.false_eq_true, if_false, RSize h, RGrade h, Option.bind_some, Str.yes h]
    by_cases c3 : v > volS l a m
    · rw [if_pos c3, if_pos c3]; exact ⟨_, rfl, rfl⟩
    rw [if_neg c3, if_neg c3, h.right.of_ g0 g1, h.right.at18s g0 g1]
    exact ⟨_, rfl, rfl⟩
  · have e : lchk l a m ≠ 0 := fun e => h ((lchk_iff l a m).1 e)
    rw [Vol.no h]
    simp only [Option.bind_some]
    rw [if_neg e]
    exact ⟨_, rfl, rfl⟩
theorem AlcoholReads_pure : Go.Proofs.Ytdfghldnialmbaa.alcoholReads.Pure := by
  intro l s v _ _ _
  obtain ⟨a, m⟩ := s
  refine ⟨1, ?_⟩
  unfold spilelaw20_AlcoholReads.f
  rw [awake20]
  simp only [Option.bind_some, if_true]
  obtain ⟨b, hb⟩ := few_some l
  rw [hb]
  cases b
  · rfl
  simp only [Option.bind_some, if_true]
  obtain ⟨r, h1, h2⟩ := Masses l a m v
  rw [h1, h2]
  by_cases h : LiqOK l a m
  · rw [Str.yes h, RStr.yes h, Vol.yes h, RVol.yes h, Lost.yes h, RLost.yes h]
    simp
  · rw [Str.no h, RStr.no h, Vol.no h, RVol.no h, Lost.no h, RLost.no h]
    simp

end Go.Proofs.Ytdfghldnialmbaa.PF
namespace Go.Proofs.Ytdfghldnialmbaa
/-- The given statement. -/
theorem alcoholReads_holds : Rows.AlcoholReadsSaid := alcoholReads.over PF.AlcoholReads_pure
#print axioms alcoholReads_holds
end Go.Proofs.Ytdfghldnialmbaa
