/-
  DERIVED. GIVEN WITH THE SEED: THE CARDS: each row of YtcdkbciagchlgaaDoorRows.lean that lists a variable, with what it lists TIED to the program's text (the seventh form; the later family's looks); each row that meets fmt, with fmt's text TOLD by the authors' own Lean function (tested against real Go, not proved from fmt's source: count such statements apart). THE CARD IS WHAT COUNTS. Prove the row's statement (the work); the ties are given (YtcdkbciagchlgaaDoorTie.lean); close each card by the builder's one call (the guide's Derived/Test/ToyasCard.lean, 'card_holds'). Laid BY PROGRAM, IN A SANDBOX (cutbox-door.mjs). By AI agents, Wed Nov 11 2026. No macro, syntax, notation, axiom, sorry.
-/
import Derived.Test.YtcdkbciagchlgaaDoorRows
import GoSem.ClaimSeven
namespace Go.Proofs.YtcdkbciagchlgaaDoor
namespace Rows

/-- THE TIED CARD OF 'spilelaw30.RefusalFinds'. -/
def refusalFindsCard : Claim7 := { stood := { row := refusalFindsRow, standIns := [], harness := (true, "8d92ca6ae631da24e96e37eaebbcaf2cf504b60d10ec30e0cfe7e33ac0278a52"), looks := false }, kinds := [], alts := [], laidByText := true, laidKinds := [.data, .data, .data], laidTests := true, laidLooks := .later }
def RefusalFindsCardSaid : Prop := Claim7.holds Tryd.pinned (.plain (OpenSpec.ofChange refusalFindsSpec)) refusalFindsCard

/-- THE TIED CARD OF 'spilelaw30.RefusalChecks'. -/
def refusalChecksCard : Claim7 := { stood := { row := refusalChecksRow, standIns := [], harness := (true, "8d92ca6ae631da24e96e37eaebbcaf2cf504b60d10ec30e0cfe7e33ac0278a52"), looks := false }, kinds := [], alts := [], laidByText := true, laidKinds := [.data, .data, .data], laidTests := true, laidLooks := .later }
def RefusalChecksCardSaid : Prop := Claim7.holds Tryd.pinned (.plain (OpenSpec.ofChange refusalChecksSpec)) refusalChecksCard

/-- THE TIED CARD OF 'spilelaw30.RefusalMore'. -/
def refusalMoreCard : Claim7 := { stood := { row := refusalMoreRow, standIns := [], harness := (true, "8d92ca6ae631da24e96e37eaebbcaf2cf504b60d10ec30e0cfe7e33ac0278a52"), looks := false }, kinds := [], alts := [], laidByText := true, laidKinds := [.data, .data, .data], laidTests := true, laidLooks := .later }
def RefusalMoreCardSaid : Prop := Claim7.holds Tryd.pinned (.plain (OpenSpec.ofChange refusalMoreSpec)) refusalMoreCard

/-- THE TIED CARD OF 'spilelaw30.RefusalFew'. -/
def refusalFewCard : Claim7 := { stood := { row := refusalFewRow, standIns := [], harness := (true, "8d92ca6ae631da24e96e37eaebbcaf2cf504b60d10ec30e0cfe7e33ac0278a52"), looks := false }, kinds := [], alts := [], laidByText := true, laidKinds := [.data, .data, .data], laidTests := true, laidLooks := .later }
def RefusalFewCardSaid : Prop := Claim7.holds Tryd.pinned (.plain (OpenSpec.ofChange refusalFewSpec)) refusalFewCard

/-- THE TIED CARD OF 'spilelaw30.RefusalSigns'. -/
def refusalSignsCard : Claim7 := { stood := { row := refusalSignsRow, standIns := [], harness := (true, "8d92ca6ae631da24e96e37eaebbcaf2cf504b60d10ec30e0cfe7e33ac0278a52"), looks := false }, kinds := [], alts := [], laidByText := true, laidKinds := [.data, .data, .data], laidTests := true, laidLooks := .later }
def RefusalSignsCardSaid : Prop := Claim7.holds Tryd.pinned (.plain (OpenSpec.ofChange refusalSignsSpec)) refusalSignsCard

/-- THE TIED CARD OF 'spilelaw30.RefusalTrue'. -/
def refusalTrueCard : Claim7 := { stood := { row := refusalTrueRow, standIns := [], harness := (true, "8d92ca6ae631da24e96e37eaebbcaf2cf504b60d10ec30e0cfe7e33ac0278a52"), looks := false }, kinds := [], alts := [], laidByText := true, laidKinds := [.data, .data, .data], laidTests := true, laidLooks := .later }
def RefusalTrueCardSaid : Prop := Claim7.holds Tryd.pinned (.plain (OpenSpec.ofChange refusalTrueSpec)) refusalTrueCard

/-- THE SECOND FORM's CARD OF 'spilelaw30.RefusalFinds'. -/
def refusalFindsUptoCard : Claim7 := { stood := { row := refusalFindsUptoRow, standIns := [], harness := (true, "8d92ca6ae631da24e96e37eaebbcaf2cf504b60d10ec30e0cfe7e33ac0278a52"), looks := false }, kinds := [], alts := [], laidByText := true, laidKinds := [.data, .data, .data], laidTests := true, laidLooks := .later }
def RefusalFindsUptoCardSaid : Prop := Claim7.holds Tryd.pinned (.plain (OpenSpec.upto refusalFindsSpec)) refusalFindsUptoCard

/-- THE SECOND FORM's CARD OF 'spilelaw30.RefusalChecks'. -/
def refusalChecksUptoCard : Claim7 := { stood := { row := refusalChecksUptoRow, standIns := [], harness := (true, "8d92ca6ae631da24e96e37eaebbcaf2cf504b60d10ec30e0cfe7e33ac0278a52"), looks := false }, kinds := [], alts := [], laidByText := true, laidKinds := [.data, .data, .data], laidTests := true, laidLooks := .later }
def RefusalChecksUptoCardSaid : Prop := Claim7.holds Tryd.pinned (.plain (OpenSpec.upto refusalChecksSpec)) refusalChecksUptoCard

/-- THE SECOND FORM's CARD OF 'spilelaw30.RefusalMore'. -/
def refusalMoreUptoCard : Claim7 := { stood := { row := refusalMoreUptoRow, standIns := [], harness := (true, "8d92ca6ae631da24e96e37eaebbcaf2cf504b60d10ec30e0cfe7e33ac0278a52"), looks := false }, kinds := [], alts := [], laidByText := true, laidKinds := [.data, .data, .data], laidTests := true, laidLooks := .later }
def RefusalMoreUptoCardSaid : Prop := Claim7.holds Tryd.pinned (.plain (OpenSpec.upto refusalMoreSpec)) refusalMoreUptoCard

/-- THE SECOND FORM's CARD OF 'spilelaw30.RefusalFew'. -/
def refusalFewUptoCard : Claim7 := { stood := { row := refusalFewUptoRow, standIns := [], harness := (true, "8d92ca6ae631da24e96e37eaebbcaf2cf504b60d10ec30e0cfe7e33ac0278a52"), looks := false }, kinds := [], alts := [], laidByText := true, laidKinds := [.data, .data, .data], laidTests := true, laidLooks := .later }
def RefusalFewUptoCardSaid : Prop := Claim7.holds Tryd.pinned (.plain (OpenSpec.upto refusalFewSpec)) refusalFewUptoCard

/-- THE SECOND FORM's CARD OF 'spilelaw30.RefusalSigns'. -/
def refusalSignsUptoCard : Claim7 := { stood := { row := refusalSignsUptoRow, standIns := [], harness := (true, "8d92ca6ae631da24e96e37eaebbcaf2cf504b60d10ec30e0cfe7e33ac0278a52"), looks := false }, kinds := [], alts := [], laidByText := true, laidKinds := [.data, .data, .data], laidTests := true, laidLooks := .later }
def RefusalSignsUptoCardSaid : Prop := Claim7.holds Tryd.pinned (.plain (OpenSpec.upto refusalSignsSpec)) refusalSignsUptoCard

/-- THE SECOND FORM's CARD OF 'spilelaw30.RefusalTrue'. -/
def refusalTrueUptoCard : Claim7 := { stood := { row := refusalTrueUptoRow, standIns := [], harness := (true, "8d92ca6ae631da24e96e37eaebbcaf2cf504b60d10ec30e0cfe7e33ac0278a52"), looks := false }, kinds := [], alts := [], laidByText := true, laidKinds := [.data, .data, .data], laidTests := true, laidLooks := .later }
def RefusalTrueUptoCardSaid : Prop := Claim7.holds Tryd.pinned (.plain (OpenSpec.upto refusalTrueSpec)) refusalTrueUptoCard
end Rows
end Go.Proofs.YtcdkbciagchlgaaDoor
