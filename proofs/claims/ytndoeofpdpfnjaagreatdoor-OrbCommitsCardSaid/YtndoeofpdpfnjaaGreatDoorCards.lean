/-
  DERIVED. GIVEN WITH THE SEED: THE CARDS: each row of YtndoeofpdpfnjaaGreatDoorRows.lean that lists a variable, with what it lists TIED to the program's text (the seventh form; the later family's looks); each row that meets fmt, with fmt's text TOLD by the authors' own Lean function (tested against real Go, not proved from fmt's source: count such statements apart). THE CARD IS WHAT COUNTS. Prove the row's statement (the work); the ties are given (YtndoeofpdpfnjaaGreatDoorTie.lean); close each card by the builder's one call (the guide's Derived/Test/ToyasCard.lean, 'card_holds'). Laid BY PROGRAM, IN A SANDBOX (cutbox-door.mjs). By AI agents, Wed Nov 11 2026. No macro, syntax, notation, axiom, sorry.
-/
import Derived.Test.YtndoeofpdpfnjaaGreatDoorRows
import GoSem.ClaimSeven
namespace Go.Proofs.YtndoeofpdpfnjaaGreatDoor
namespace Rows

/-- THE TIED CARD OF 'chamberlainlaw17.OraDoes'. -/
def oraDoesCard : Claim7 := { stood := { row := oraDoesRow, standIns := [], harness := (true, "95de31cd7cfcc4fee753b3aca9919af8ce3cab7d9eba6ab0bad14df3c1c41c02"), looks := false }, kinds := [], alts := [], laidByText := true, laidKinds := [.data], laidTests := true, laidLooks := .later }
def OraDoesCardSaid : Prop := Claim7.holds Tryz.pinned (.plain (OpenSpec.ofChange oraDoesSpec)) oraDoesCard

/-- THE TIED CARD OF 'chamberlainlaw17.OraStarts'. -/
def oraStartsCard : Claim7 := { stood := { row := oraStartsRow, standIns := [], harness := (true, "95de31cd7cfcc4fee753b3aca9919af8ce3cab7d9eba6ab0bad14df3c1c41c02"), looks := false }, kinds := [], alts := [], laidByText := true, laidKinds := [.data], laidTests := true, laidLooks := .later }
def OraStartsCardSaid : Prop := Claim7.holds Tryz.pinned (.plain (OpenSpec.ofChange oraStartsSpec)) oraStartsCard

/-- THE TIED CARD OF 'chamberlainlaw17.OraCommits'. -/
def oraCommitsCard : Claim7 := { stood := { row := oraCommitsRow, standIns := [], harness := (true, "95de31cd7cfcc4fee753b3aca9919af8ce3cab7d9eba6ab0bad14df3c1c41c02"), looks := false }, kinds := [], alts := [], laidByText := true, laidKinds := [.data], laidTests := true, laidLooks := .later }
def OraCommitsCardSaid : Prop := Claim7.holds Tryz.pinned (.plain (OpenSpec.ofChange oraCommitsSpec)) oraCommitsCard

/-- THE TIED CARD OF 'chamberlainlaw17.OraKeeps'. -/
def oraKeepsCard : Claim7 := { stood := { row := oraKeepsRow, standIns := [], harness := (true, "95de31cd7cfcc4fee753b3aca9919af8ce3cab7d9eba6ab0bad14df3c1c41c02"), looks := false }, kinds := [], alts := [], laidByText := true, laidKinds := [.data], laidTests := true, laidLooks := .later }
def OraKeepsCardSaid : Prop := Claim7.holds Tryz.pinned (.plain (OpenSpec.ofChange oraKeepsSpec)) oraKeepsCard

/-- THE TIED CARD OF 'chamberlainlaw12.DeskSeals'. -/
def deskSealsCard : Claim7 := { stood := { row := deskSealsRow, standIns := [], harness := (true, "95de31cd7cfcc4fee753b3aca9919af8ce3cab7d9eba6ab0bad14df3c1c41c02"), looks := false }, kinds := [], alts := [], laidByText := true, laidKinds := [.data], laidTests := true, laidLooks := .later }
def DeskSealsCardSaid : Prop := Claim7.holds Tryz.pinned (.plain (OpenSpec.ofChange deskSealsSpec)) deskSealsCard

/-- THE TIED CARD OF 'chamberlainlaw12.DeskSends'. -/
def deskSendsCard : Claim7 := { stood := { row := deskSendsRow, standIns := [], harness := (true, "95de31cd7cfcc4fee753b3aca9919af8ce3cab7d9eba6ab0bad14df3c1c41c02"), looks := false }, kinds := [], alts := [], laidByText := true, laidKinds := [.data], laidTests := true, laidLooks := .later }
def DeskSendsCardSaid : Prop := Claim7.holds Tryz.pinned (.plain (OpenSpec.ofChange deskSendsSpec)) deskSendsCard

/-- THE TIED CARD OF 'chamberlainlaw12.DeskOpens'. -/
def deskOpensCard : Claim7 := { stood := { row := deskOpensRow, standIns := [], harness := (true, "95de31cd7cfcc4fee753b3aca9919af8ce3cab7d9eba6ab0bad14df3c1c41c02"), looks := false }, kinds := [], alts := [], laidByText := true, laidKinds := [.data], laidTests := true, laidLooks := .later }
def DeskOpensCardSaid : Prop := Claim7.holds Tryz.pinned (.plain (OpenSpec.ofChange deskOpensSpec)) deskOpensCard

/-- THE TIED CARD OF 'chamberlainlaw12.DeskSent'. -/
def deskSentCard : Claim7 := { stood := { row := deskSentRow, standIns := [], harness := (true, "95de31cd7cfcc4fee753b3aca9919af8ce3cab7d9eba6ab0bad14df3c1c41c02"), looks := false }, kinds := [], alts := [], laidByText := true, laidKinds := [.data], laidTests := true, laidLooks := .later }
def DeskSentCardSaid : Prop := Claim7.holds Tryz.pinned (.plain (OpenSpec.ofChange deskSentSpec)) deskSentCard

/-- THE TIED CARD OF 'chamberlainlaw12.DeskKeeps'. -/
def deskKeepsCard : Claim7 := { stood := { row := deskKeepsRow, standIns := [], harness := (true, "95de31cd7cfcc4fee753b3aca9919af8ce3cab7d9eba6ab0bad14df3c1c41c02"), looks := false }, kinds := [], alts := [], laidByText := true, laidKinds := [.data], laidTests := true, laidLooks := .later }
def DeskKeepsCardSaid : Prop := Claim7.holds Tryz.pinned (.plain (OpenSpec.ofChange deskKeepsSpec)) deskKeepsCard

/-- THE TIED CARD OF 'chamberlainlaw18.OrbFirsts'. -/
def orbFirstsCard : Claim7 := { stood := { row := orbFirstsRow, standIns := [], harness := (true, "95de31cd7cfcc4fee753b3aca9919af8ce3cab7d9eba6ab0bad14df3c1c41c02"), looks := false }, kinds := [], alts := [], laidByText := true, laidKinds := [.data], laidTests := true, laidLooks := .later }
def OrbFirstsCardSaid : Prop := Claim7.holds Tryz.pinned (.plain (OpenSpec.ofChange orbFirstsSpec)) orbFirstsCard

/-- THE TIED CARD OF 'chamberlainlaw18.OrbShares'. -/
def orbSharesCard : Claim7 := { stood := { row := orbSharesRow, standIns := [], harness := (true, "95de31cd7cfcc4fee753b3aca9919af8ce3cab7d9eba6ab0bad14df3c1c41c02"), looks := false }, kinds := [], alts := [], laidByText := true, laidKinds := [.data], laidTests := true, laidLooks := .later }
def OrbSharesCardSaid : Prop := Claim7.holds Tryz.pinned (.plain (OpenSpec.ofChange orbSharesSpec)) orbSharesCard

/-- THE TIED CARD OF 'chamberlainlaw18.OrbCommits'. -/
def orbCommitsCard : Claim7 := { stood := { row := orbCommitsRow, standIns := [], harness := (true, "95de31cd7cfcc4fee753b3aca9919af8ce3cab7d9eba6ab0bad14df3c1c41c02"), looks := false }, kinds := [], alts := [], laidByText := true, laidKinds := [.data], laidTests := true, laidLooks := .later }
def OrbCommitsCardSaid : Prop := Claim7.holds Tryz.pinned (.plain (OpenSpec.ofChange orbCommitsSpec)) orbCommitsCard

/-- THE TIED CARD OF 'chamberlainlaw18.OrbKeeps'. -/
def orbKeepsCard : Claim7 := { stood := { row := orbKeepsRow, standIns := [], harness := (true, "95de31cd7cfcc4fee753b3aca9919af8ce3cab7d9eba6ab0bad14df3c1c41c02"), looks := false }, kinds := [], alts := [], laidByText := true, laidKinds := [.data], laidTests := true, laidLooks := .later }
def OrbKeepsCardSaid : Prop := Claim7.holds Tryz.pinned (.plain (OpenSpec.ofChange orbKeepsSpec)) orbKeepsCard

/-- THE SECOND FORM's CARD OF 'chamberlainlaw17.OraDoes'. -/
def oraDoesUptoCard : Claim7 := { stood := { row := oraDoesUptoRow, standIns := [], harness := (true, "95de31cd7cfcc4fee753b3aca9919af8ce3cab7d9eba6ab0bad14df3c1c41c02"), looks := false }, kinds := [], alts := [], laidByText := true, laidKinds := [.data], laidTests := true, laidLooks := .later }
def OraDoesUptoCardSaid : Prop := Claim7.holds Tryz.pinned (.plain (OpenSpec.upto oraDoesSpec)) oraDoesUptoCard

/-- THE SECOND FORM's CARD OF 'chamberlainlaw17.OraStarts'. -/
def oraStartsUptoCard : Claim7 := { stood := { row := oraStartsUptoRow, standIns := [], harness := (true, "95de31cd7cfcc4fee753b3aca9919af8ce3cab7d9eba6ab0bad14df3c1c41c02"), looks := false }, kinds := [], alts := [], laidByText := true, laidKinds := [.data], laidTests := true, laidLooks := .later }
def OraStartsUptoCardSaid : Prop := Claim7.holds Tryz.pinned (.plain (OpenSpec.upto oraStartsSpec)) oraStartsUptoCard

/-- THE SECOND FORM's CARD OF 'chamberlainlaw17.OraCommits'. -/
def oraCommitsUptoCard : Claim7 := { stood := { row := oraCommitsUptoRow, standIns := [], harness := (true, "95de31cd7cfcc4fee753b3aca9919af8ce3cab7d9eba6ab0bad14df3c1c41c02"), looks := false }, kinds := [], alts := [], laidByText := true, laidKinds := [.data], laidTests := true, laidLooks := .later }
def OraCommitsUptoCardSaid : Prop := Claim7.holds Tryz.pinned (.plain (OpenSpec.upto oraCommitsSpec)) oraCommitsUptoCard

/-- THE SECOND FORM's CARD OF 'chamberlainlaw17.OraKeeps'. -/
def oraKeepsUptoCard : Claim7 := { stood := { row := oraKeepsUptoRow, standIns := [], harness := (true, "95de31cd7cfcc4fee753b3aca9919af8ce3cab7d9eba6ab0bad14df3c1c41c02"), looks := false }, kinds := [], alts := [], laidByText := true, laidKinds := [.data], laidTests := true, laidLooks := .later }
def OraKeepsUptoCardSaid : Prop := Claim7.holds Tryz.pinned (.plain (OpenSpec.upto oraKeepsSpec)) oraKeepsUptoCard

/-- THE SECOND FORM's CARD OF 'chamberlainlaw12.DeskSeals'. -/
def deskSealsUptoCard : Claim7 := { stood := { row := deskSealsUptoRow, standIns := [], harness := (true, "95de31cd7cfcc4fee753b3aca9919af8ce3cab7d9eba6ab0bad14df3c1c41c02"), looks := false }, kinds := [], alts := [], laidByText := true, laidKinds := [.data], laidTests := true, laidLooks := .later }
def DeskSealsUptoCardSaid : Prop := Claim7.holds Tryz.pinned (.plain (OpenSpec.upto deskSealsSpec)) deskSealsUptoCard

/-- THE SECOND FORM's CARD OF 'chamberlainlaw12.DeskSends'. -/
def deskSendsUptoCard : Claim7 := { stood := { row := deskSendsUptoRow, standIns := [], harness := (true, "95de31cd7cfcc4fee753b3aca9919af8ce3cab7d9eba6ab0bad14df3c1c41c02"), looks := false }, kinds := [], alts := [], laidByText := true, laidKinds := [.data], laidTests := true, laidLooks := .later }
def DeskSendsUptoCardSaid : Prop := Claim7.holds Tryz.pinned (.plain (OpenSpec.upto deskSendsSpec)) deskSendsUptoCard

/-- THE SECOND FORM's CARD OF 'chamberlainlaw12.DeskOpens'. -/
def deskOpensUptoCard : Claim7 := { stood := { row := deskOpensUptoRow, standIns := [], harness := (true, "95de31cd7cfcc4fee753b3aca9919af8ce3cab7d9eba6ab0bad14df3c1c41c02"), looks := false }, kinds := [], alts := [], laidByText := true, laidKinds := [.data], laidTests := true, laidLooks := .later }
def DeskOpensUptoCardSaid : Prop := Claim7.holds Tryz.pinned (.plain (OpenSpec.upto deskOpensSpec)) deskOpensUptoCard

/-- THE SECOND FORM's CARD OF 'chamberlainlaw12.DeskSent'. -/
def deskSentUptoCard : Claim7 := { stood := { row := deskSentUptoRow, standIns := [], harness := (true, "95de31cd7cfcc4fee753b3aca9919af8ce3cab7d9eba6ab0bad14df3c1c41c02"), looks := false }, kinds := [], alts := [], laidByText := true, laidKinds := [.data], laidTests := true, laidLooks := .later }
def DeskSentUptoCardSaid : Prop := Claim7.holds Tryz.pinned (.plain (OpenSpec.upto deskSentSpec)) deskSentUptoCard

/-- THE SECOND FORM's CARD OF 'chamberlainlaw12.DeskKeeps'. -/
def deskKeepsUptoCard : Claim7 := { stood := { row := deskKeepsUptoRow, standIns := [], harness := (true, "95de31cd7cfcc4fee753b3aca9919af8ce3cab7d9eba6ab0bad14df3c1c41c02"), looks := false }, kinds := [], alts := [], laidByText := true, laidKinds := [.data], laidTests := true, laidLooks := .later }
def DeskKeepsUptoCardSaid : Prop := Claim7.holds Tryz.pinned (.plain (OpenSpec.upto deskKeepsSpec)) deskKeepsUptoCard

/-- THE SECOND FORM's CARD OF 'chamberlainlaw18.OrbFirsts'. -/
def orbFirstsUptoCard : Claim7 := { stood := { row := orbFirstsUptoRow, standIns := [], harness := (true, "95de31cd7cfcc4fee753b3aca9919af8ce3cab7d9eba6ab0bad14df3c1c41c02"), looks := false }, kinds := [], alts := [], laidByText := true, laidKinds := [.data], laidTests := true, laidLooks := .later }
def OrbFirstsUptoCardSaid : Prop := Claim7.holds Tryz.pinned (.plain (OpenSpec.upto orbFirstsSpec)) orbFirstsUptoCard

/-- THE SECOND FORM's CARD OF 'chamberlainlaw18.OrbShares'. -/
def orbSharesUptoCard : Claim7 := { stood := { row := orbSharesUptoRow, standIns := [], harness := (true, "95de31cd7cfcc4fee753b3aca9919af8ce3cab7d9eba6ab0bad14df3c1c41c02"), looks := false }, kinds := [], alts := [], laidByText := true, laidKinds := [.data], laidTests := true, laidLooks := .later }
def OrbSharesUptoCardSaid : Prop := Claim7.holds Tryz.pinned (.plain (OpenSpec.upto orbSharesSpec)) orbSharesUptoCard

/-- THE SECOND FORM's CARD OF 'chamberlainlaw18.OrbCommits'. -/
def orbCommitsUptoCard : Claim7 := { stood := { row := orbCommitsUptoRow, standIns := [], harness := (true, "95de31cd7cfcc4fee753b3aca9919af8ce3cab7d9eba6ab0bad14df3c1c41c02"), looks := false }, kinds := [], alts := [], laidByText := true, laidKinds := [.data], laidTests := true, laidLooks := .later }
def OrbCommitsUptoCardSaid : Prop := Claim7.holds Tryz.pinned (.plain (OpenSpec.upto orbCommitsSpec)) orbCommitsUptoCard

/-- THE SECOND FORM's CARD OF 'chamberlainlaw18.OrbKeeps'. -/
def orbKeepsUptoCard : Claim7 := { stood := { row := orbKeepsUptoRow, standIns := [], harness := (true, "95de31cd7cfcc4fee753b3aca9919af8ce3cab7d9eba6ab0bad14df3c1c41c02"), looks := false }, kinds := [], alts := [], laidByText := true, laidKinds := [.data], laidTests := true, laidLooks := .later }
def OrbKeepsUptoCardSaid : Prop := Claim7.holds Tryz.pinned (.plain (OpenSpec.upto orbKeepsSpec)) orbKeepsUptoCard
end Rows
end Go.Proofs.YtndoeofpdpfnjaaGreatDoor
