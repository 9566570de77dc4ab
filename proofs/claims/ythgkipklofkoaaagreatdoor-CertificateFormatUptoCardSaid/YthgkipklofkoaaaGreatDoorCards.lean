/-
  DERIVED. GIVEN WITH THE SEED: THE CARDS: each row of YthgkipklofkoaaaGreatDoorRows.lean that lists a variable, with what it lists TIED to the program's text (the seventh form; the later family's looks); each row that meets fmt, with fmt's text TOLD by the authors' own Lean function (tested against real Go, not proved from fmt's source: count such statements apart). THE CARD IS WHAT COUNTS. Prove the row's statement (the work); the ties are given (YthgkipklofkoaaaGreatDoorTie.lean); close each card by the builder's one call (the guide's Derived/Test/ToyasCard.lean, 'card_holds'). Laid BY PROGRAM, IN A SANDBOX (cutbox-door.mjs). By AI agents, Wed Nov 11 2026. No macro, syntax, notation, axiom, sorry.
-/
import Derived.Test.YthgkipklofkoaaaGreatDoorRows
import GoSem.ClaimSeven
namespace Go.Proofs.YthgkipklofkoaaaGreatDoor
namespace Rows

/-- THE TIED CARD OF 'drosslaw46.CertificateParse'. -/
def certificateParseCard : Claim7 := { stood := { row := certificateParseRow, standIns := [], harness := (true, "2b849bb2a134088278568699888270b58be634758d4009199e2d906ebd7f6161"), looks := true }, kinds := [], alts := [], laidByText := true, laidKinds := [.data, .data, .data, .data, .sentinel, .sentinel, .pinned], laidTests := true, laidLooks := .later }
def CertificateParseCardSaid : Prop := Claim7.holds Tryz.pinned (.plain (OpenSpec.ofChange certificateParseSpec)) certificateParseCard

/-- THE TIED CARD OF 'drosslaw46.CertificateRestored'. -/
def certificateRestoredCard : Claim7 := { stood := { row := certificateRestoredRow, standIns := [], harness := (true, "2b849bb2a134088278568699888270b58be634758d4009199e2d906ebd7f6161"), looks := true }, kinds := [], alts := [], laidByText := true, laidKinds := [.data, .data, .data, .data, .sentinel, .sentinel, .pinned], laidTests := true, laidLooks := .later }
def CertificateRestoredCardSaid : Prop := Claim7.holds Tryz.pinned (.plain (OpenSpec.ofChange certificateRestoredSpec)) certificateRestoredCard

/-- THE TIED CARD OF 'drosslaw46.CertificateFormat'. -/
def certificateFormatCard : Claim7 := { stood := { row := certificateFormatRow, standIns := [], harness := (true, "2b849bb2a134088278568699888270b58be634758d4009199e2d906ebd7f6161"), looks := true }, kinds := [], alts := [], laidByText := true, laidKinds := [.data, .data, .data, .data, .sentinel, .sentinel, .pinned], laidTests := true, laidLooks := .later }
def CertificateFormatCardSaid : Prop := Claim7.holds Tryz.pinned (.plain (OpenSpec.ofChange certificateFormatSpec)) certificateFormatCard

/-- THE SECOND FORM's CARD OF 'drosslaw46.CertificateParse'. -/
def certificateParseUptoCard : Claim7 := { stood := { row := certificateParseUptoRow, standIns := [], harness := (true, "2b849bb2a134088278568699888270b58be634758d4009199e2d906ebd7f6161"), looks := true }, kinds := [], alts := [], laidByText := true, laidKinds := [.data, .data, .data, .data, .sentinel, .sentinel, .pinned], laidTests := true, laidLooks := .later }
def CertificateParseUptoCardSaid : Prop := Claim7.holds Tryz.pinned (.plain (OpenSpec.upto certificateParseSpec)) certificateParseUptoCard

/-- THE SECOND FORM's CARD OF 'drosslaw46.CertificateRestored'. -/
def certificateRestoredUptoCard : Claim7 := { stood := { row := certificateRestoredUptoRow, standIns := [], harness := (true, "2b849bb2a134088278568699888270b58be634758d4009199e2d906ebd7f6161"), looks := true }, kinds := [], alts := [], laidByText := true, laidKinds := [.data, .data, .data, .data, .sentinel, .sentinel, .pinned], laidTests := true, laidLooks := .later }
def CertificateRestoredUptoCardSaid : Prop := Claim7.holds Tryz.pinned (.plain (OpenSpec.upto certificateRestoredSpec)) certificateRestoredUptoCard

/-- THE SECOND FORM's CARD OF 'drosslaw46.CertificateFormat'. -/
def certificateFormatUptoCard : Claim7 := { stood := { row := certificateFormatUptoRow, standIns := [], harness := (true, "2b849bb2a134088278568699888270b58be634758d4009199e2d906ebd7f6161"), looks := true }, kinds := [], alts := [], laidByText := true, laidKinds := [.data, .data, .data, .data, .sentinel, .sentinel, .pinned], laidTests := true, laidLooks := .later }
def CertificateFormatUptoCardSaid : Prop := Claim7.holds Tryz.pinned (.plain (OpenSpec.upto certificateFormatSpec)) certificateFormatUptoCard
end Rows
end Go.Proofs.YthgkipklofkoaaaGreatDoor
