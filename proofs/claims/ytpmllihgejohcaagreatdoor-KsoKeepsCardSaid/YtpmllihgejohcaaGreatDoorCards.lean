/-
  DERIVED. GIVEN WITH THE SEED: THE CARDS: each row of YtpmllihgejohcaaGreatDoorRows.lean that lists a variable, with what it lists TIED to the program's text (the seventh form; the later family's looks); each row that meets fmt, with fmt's text TOLD by the authors' own Lean function (tested against real Go, not proved from fmt's source: count such statements apart). THE CARD IS WHAT COUNTS. Prove the row's statement (the work); the ties are given (YtpmllihgejohcaaGreatDoorTie.lean); close each card by the builder's one call (the guide's Derived/Test/ToyasCard.lean, 'card_holds'). Laid BY PROGRAM, IN A SANDBOX (cutbox-door.mjs). By AI agents, Wed Nov 11 2026. No macro, syntax, notation, axiom, sorry.
-/
import Derived.Test.YtpmllihgejohcaaGreatDoorRows
import GoSem.ClaimSeven
namespace Go.Proofs.YtpmllihgejohcaaGreatDoor
namespace Rows

/-- THE TIED CARD OF 'chamberlainlaw13.KsnGrants'. -/
def ksnGrantsCard : Claim7 := { stood := { row := ksnGrantsRow, standIns := [], harness := (true, "2c169fe02a417f052846550212db5acc71d55a257612ffeca32fe0eeba821458"), looks := false }, kinds := [], alts := [], laidByText := true, laidKinds := [.data], laidTests := true, laidLooks := .later }
def KsnGrantsCardSaid : Prop := Claim7.holds Tryz.pinned (.plain (OpenSpec.ofChange ksnGrantsSpec)) ksnGrantsCard

/-- THE TIED CARD OF 'chamberlainlaw13.KsnKeeps'. -/
def ksnKeepsCard : Claim7 := { stood := { row := ksnKeepsRow, standIns := [], harness := (true, "2c169fe02a417f052846550212db5acc71d55a257612ffeca32fe0eeba821458"), looks := false }, kinds := [], alts := [], laidByText := true, laidKinds := [.data], laidTests := true, laidLooks := .later }
def KsnKeepsCardSaid : Prop := Claim7.holds Tryz.pinned (.plain (OpenSpec.ofChange ksnKeepsSpec)) ksnKeepsCard

/-- THE TIED CARD OF 'chamberlainlaw14.KsoDoes'. -/
def ksoDoesCard : Claim7 := { stood := { row := ksoDoesRow, standIns := [], harness := (true, "2c169fe02a417f052846550212db5acc71d55a257612ffeca32fe0eeba821458"), looks := false }, kinds := [], alts := [], laidByText := true, laidKinds := [.data], laidTests := true, laidLooks := .later }
def KsoDoesCardSaid : Prop := Claim7.holds Tryz.pinned (.plain (OpenSpec.ofChange ksoDoesSpec)) ksoDoesCard

/-- THE TIED CARD OF 'chamberlainlaw14.KsoKeeps'. -/
def ksoKeepsCard : Claim7 := { stood := { row := ksoKeepsRow, standIns := [], harness := (true, "2c169fe02a417f052846550212db5acc71d55a257612ffeca32fe0eeba821458"), looks := false }, kinds := [], alts := [], laidByText := true, laidKinds := [.data], laidTests := true, laidLooks := .later }
def KsoKeepsCardSaid : Prop := Claim7.holds Tryz.pinned (.plain (OpenSpec.ofChange ksoKeepsSpec)) ksoKeepsCard

/-- THE TIED CARD OF 'chamberlainlaw12.DeskSeals'. -/
def deskSealsCard : Claim7 := { stood := { row := deskSealsRow, standIns := [], harness := (true, "2c169fe02a417f052846550212db5acc71d55a257612ffeca32fe0eeba821458"), looks := false }, kinds := [], alts := [], laidByText := true, laidKinds := [.data], laidTests := true, laidLooks := .later }
def DeskSealsCardSaid : Prop := Claim7.holds Tryz.pinned (.plain (OpenSpec.ofChange deskSealsSpec)) deskSealsCard

/-- THE TIED CARD OF 'chamberlainlaw12.DeskSends'. -/
def deskSendsCard : Claim7 := { stood := { row := deskSendsRow, standIns := [], harness := (true, "2c169fe02a417f052846550212db5acc71d55a257612ffeca32fe0eeba821458"), looks := false }, kinds := [], alts := [], laidByText := true, laidKinds := [.data], laidTests := true, laidLooks := .later }
def DeskSendsCardSaid : Prop := Claim7.holds Tryz.pinned (.plain (OpenSpec.ofChange deskSendsSpec)) deskSendsCard

/-- THE TIED CARD OF 'chamberlainlaw12.DeskOpens'. -/
def deskOpensCard : Claim7 := { stood := { row := deskOpensRow, standIns := [], harness := (true, "2c169fe02a417f052846550212db5acc71d55a257612ffeca32fe0eeba821458"), looks := false }, kinds := [], alts := [], laidByText := true, laidKinds := [.data], laidTests := true, laidLooks := .later }
def DeskOpensCardSaid : Prop := Claim7.holds Tryz.pinned (.plain (OpenSpec.ofChange deskOpensSpec)) deskOpensCard

/-- THE TIED CARD OF 'chamberlainlaw12.DeskSent'. -/
def deskSentCard : Claim7 := { stood := { row := deskSentRow, standIns := [], harness := (true, "2c169fe02a417f052846550212db5acc71d55a257612ffeca32fe0eeba821458"), looks := false }, kinds := [], alts := [], laidByText := true, laidKinds := [.data], laidTests := true, laidLooks := .later }
def DeskSentCardSaid : Prop := Claim7.holds Tryz.pinned (.plain (OpenSpec.ofChange deskSentSpec)) deskSentCard

/-- THE TIED CARD OF 'chamberlainlaw12.DeskKeeps'. -/
def deskKeepsCard : Claim7 := { stood := { row := deskKeepsRow, standIns := [], harness := (true, "2c169fe02a417f052846550212db5acc71d55a257612ffeca32fe0eeba821458"), looks := false }, kinds := [], alts := [], laidByText := true, laidKinds := [.data], laidTests := true, laidLooks := .later }
def DeskKeepsCardSaid : Prop := Claim7.holds Tryz.pinned (.plain (OpenSpec.ofChange deskKeepsSpec)) deskKeepsCard

/-- THE SECOND FORM's CARD OF 'chamberlainlaw13.KsnGrants'. -/
def ksnGrantsUptoCard : Claim7 := { stood := { row := ksnGrantsUptoRow, standIns := [], harness := (true, "2c169fe02a417f052846550212db5acc71d55a257612ffeca32fe0eeba821458"), looks := false }, kinds := [], alts := [], laidByText := true, laidKinds := [.data], laidTests := true, laidLooks := .later }
def KsnGrantsUptoCardSaid : Prop := Claim7.holds Tryz.pinned (.plain (OpenSpec.upto ksnGrantsSpec)) ksnGrantsUptoCard

/-- THE SECOND FORM's CARD OF 'chamberlainlaw13.KsnKeeps'. -/
def ksnKeepsUptoCard : Claim7 := { stood := { row := ksnKeepsUptoRow, standIns := [], harness := (true, "2c169fe02a417f052846550212db5acc71d55a257612ffeca32fe0eeba821458"), looks := false }, kinds := [], alts := [], laidByText := true, laidKinds := [.data], laidTests := true, laidLooks := .later }
def KsnKeepsUptoCardSaid : Prop := Claim7.holds Tryz.pinned (.plain (OpenSpec.upto ksnKeepsSpec)) ksnKeepsUptoCard

/-- THE SECOND FORM's CARD OF 'chamberlainlaw14.KsoDoes'. -/
def ksoDoesUptoCard : Claim7 := { stood := { row := ksoDoesUptoRow, standIns := [], harness := (true, "2c169fe02a417f052846550212db5acc71d55a257612ffeca32fe0eeba821458"), looks := false }, kinds := [], alts := [], laidByText := true, laidKinds := [.data], laidTests := true, laidLooks := .later }
def KsoDoesUptoCardSaid : Prop := Claim7.holds Tryz.pinned (.plain (OpenSpec.upto ksoDoesSpec)) ksoDoesUptoCard

/-- THE SECOND FORM's CARD OF 'chamberlainlaw14.KsoKeeps'. -/
def ksoKeepsUptoCard : Claim7 := { stood := { row := ksoKeepsUptoRow, standIns := [], harness := (true, "2c169fe02a417f052846550212db5acc71d55a257612ffeca32fe0eeba821458"), looks := false }, kinds := [], alts := [], laidByText := true, laidKinds := [.data], laidTests := true, laidLooks := .later }
def KsoKeepsUptoCardSaid : Prop := Claim7.holds Tryz.pinned (.plain (OpenSpec.upto ksoKeepsSpec)) ksoKeepsUptoCard

/-- THE SECOND FORM's CARD OF 'chamberlainlaw12.DeskSeals'. -/
def deskSealsUptoCard : Claim7 := { stood := { row := deskSealsUptoRow, standIns := [], harness := (true, "2c169fe02a417f052846550212db5acc71d55a257612ffeca32fe0eeba821458"), looks := false }, kinds := [], alts := [], laidByText := true, laidKinds := [.data], laidTests := true, laidLooks := .later }
def DeskSealsUptoCardSaid : Prop := Claim7.holds Tryz.pinned (.plain (OpenSpec.upto deskSealsSpec)) deskSealsUptoCard

/-- THE SECOND FORM's CARD OF 'chamberlainlaw12.DeskSends'. -/
def deskSendsUptoCard : Claim7 := { stood := { row := deskSendsUptoRow, standIns := [], harness := (true, "2c169fe02a417f052846550212db5acc71d55a257612ffeca32fe0eeba821458"), looks := false }, kinds := [], alts := [], laidByText := true, laidKinds := [.data], laidTests := true, laidLooks := .later }
def DeskSendsUptoCardSaid : Prop := Claim7.holds Tryz.pinned (.plain (OpenSpec.upto deskSendsSpec)) deskSendsUptoCard

/-- THE SECOND FORM's CARD OF 'chamberlainlaw12.DeskOpens'. -/
def deskOpensUptoCard : Claim7 := { stood := { row := deskOpensUptoRow, standIns := [], harness := (true, "2c169fe02a417f052846550212db5acc71d55a257612ffeca32fe0eeba821458"), looks := false }, kinds := [], alts := [], laidByText := true, laidKinds := [.data], laidTests := true, laidLooks := .later }
def DeskOpensUptoCardSaid : Prop := Claim7.holds Tryz.pinned (.plain (OpenSpec.upto deskOpensSpec)) deskOpensUptoCard

/-- THE SECOND FORM's CARD OF 'chamberlainlaw12.DeskSent'. -/
def deskSentUptoCard : Claim7 := { stood := { row := deskSentUptoRow, standIns := [], harness := (true, "2c169fe02a417f052846550212db5acc71d55a257612ffeca32fe0eeba821458"), looks := false }, kinds := [], alts := [], laidByText := true, laidKinds := [.data], laidTests := true, laidLooks := .later }
def DeskSentUptoCardSaid : Prop := Claim7.holds Tryz.pinned (.plain (OpenSpec.upto deskSentSpec)) deskSentUptoCard

/-- THE SECOND FORM's CARD OF 'chamberlainlaw12.DeskKeeps'. -/
def deskKeepsUptoCard : Claim7 := { stood := { row := deskKeepsUptoRow, standIns := [], harness := (true, "2c169fe02a417f052846550212db5acc71d55a257612ffeca32fe0eeba821458"), looks := false }, kinds := [], alts := [], laidByText := true, laidKinds := [.data], laidTests := true, laidLooks := .later }
def DeskKeepsUptoCardSaid : Prop := Claim7.holds Tryz.pinned (.plain (OpenSpec.upto deskKeepsSpec)) deskKeepsUptoCard
end Rows
end Go.Proofs.YtpmllihgejohcaaGreatDoor
