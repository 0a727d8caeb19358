/-
  DERIVED. GIVEN WITH THE SEED: THE CARDS: each row of YtmgphjfpccddiaaGreatDoorRows.lean that lists a variable, with what it lists TIED to the program's text (the seventh form; the later family's looks); each row that meets fmt, with fmt's text TOLD by the authors' own Lean function (tested against real Go, not proved from fmt's source: count such statements apart). THE CARD IS WHAT COUNTS. Prove the row's statement (the work); the ties are given (YtmgphjfpccddiaaGreatDoorTie.lean); close each card by the builder's one call (the guide's Derived/Test/ToyasCard.lean, 'card_holds'). Laid BY PROGRAM, IN A SANDBOX (cutbox-door.mjs). By AI agents, Wed Nov 11 2026. No macro, syntax, notation, axiom, sorry.
-/
import Derived.Test.YtmgphjfpccddiaaGreatDoorRows
import GoSem.ClaimSeven
namespace Go.Proofs.YtmgphjfpccddiaaGreatDoor
namespace Rows

/-- THE TIED CARD OF 'chamberlainlaw16.NsbTickets'. -/
def nsbTicketsCard : Claim7 := { stood := { row := nsbTicketsRow, standIns := [], harness := (true, "cef08e53c16fc0a613853c9c24f118cb2b2f8c0a19678e62ee7d360d66d4dfad"), looks := false }, kinds := [], alts := [], laidByText := true, laidKinds := [.data], laidTests := true, laidLooks := .later }
def NsbTicketsCardSaid : Prop := Claim7.holds Tryz.pinned (.plain (OpenSpec.ofChange nsbTicketsSpec)) nsbTicketsCard

/-- THE TIED CARD OF 'chamberlainlaw16.NsbBacks'. -/
def nsbBacksCard : Claim7 := { stood := { row := nsbBacksRow, standIns := [], harness := (true, "cef08e53c16fc0a613853c9c24f118cb2b2f8c0a19678e62ee7d360d66d4dfad"), looks := false }, kinds := [], alts := [], laidByText := true, laidKinds := [.data], laidTests := true, laidLooks := .later }
def NsbBacksCardSaid : Prop := Claim7.holds Tryz.pinned (.plain (OpenSpec.ofChange nsbBacksSpec)) nsbBacksCard

/-- THE TIED CARD OF 'chamberlainlaw16.NsbCommits'. -/
def nsbCommitsCard : Claim7 := { stood := { row := nsbCommitsRow, standIns := [], harness := (true, "cef08e53c16fc0a613853c9c24f118cb2b2f8c0a19678e62ee7d360d66d4dfad"), looks := false }, kinds := [], alts := [], laidByText := true, laidKinds := [.data], laidTests := true, laidLooks := .later }
def NsbCommitsCardSaid : Prop := Claim7.holds Tryz.pinned (.plain (OpenSpec.ofChange nsbCommitsSpec)) nsbCommitsCard

/-- THE TIED CARD OF 'chamberlainlaw16.NsbKeeps'. -/
def nsbKeepsCard : Claim7 := { stood := { row := nsbKeepsRow, standIns := [], harness := (true, "cef08e53c16fc0a613853c9c24f118cb2b2f8c0a19678e62ee7d360d66d4dfad"), looks := false }, kinds := [], alts := [], laidByText := true, laidKinds := [.data], laidTests := true, laidLooks := .later }
def NsbKeepsCardSaid : Prop := Claim7.holds Tryz.pinned (.plain (OpenSpec.ofChange nsbKeepsSpec)) nsbKeepsCard

/-- THE TIED CARD OF 'chamberlainlaw15.NsaStarts'. -/
def nsaStartsCard : Claim7 := { stood := { row := nsaStartsRow, standIns := [], harness := (true, "cef08e53c16fc0a613853c9c24f118cb2b2f8c0a19678e62ee7d360d66d4dfad"), looks := false }, kinds := [], alts := [], laidByText := true, laidKinds := [.data], laidTests := true, laidLooks := .later }
def NsaStartsCardSaid : Prop := Claim7.holds Tryz.pinned (.plain (OpenSpec.ofChange nsaStartsSpec)) nsaStartsCard

/-- THE TIED CARD OF 'chamberlainlaw15.NsaGrants'. -/
def nsaGrantsCard : Claim7 := { stood := { row := nsaGrantsRow, standIns := [], harness := (true, "cef08e53c16fc0a613853c9c24f118cb2b2f8c0a19678e62ee7d360d66d4dfad"), looks := false }, kinds := [], alts := [], laidByText := true, laidKinds := [.data], laidTests := true, laidLooks := .later }
def NsaGrantsCardSaid : Prop := Claim7.holds Tryz.pinned (.plain (OpenSpec.ofChange nsaGrantsSpec)) nsaGrantsCard

/-- THE TIED CARD OF 'chamberlainlaw15.NsaEchoes'. -/
def nsaEchoesCard : Claim7 := { stood := { row := nsaEchoesRow, standIns := [], harness := (true, "cef08e53c16fc0a613853c9c24f118cb2b2f8c0a19678e62ee7d360d66d4dfad"), looks := false }, kinds := [], alts := [], laidByText := true, laidKinds := [.data], laidTests := true, laidLooks := .later }
def NsaEchoesCardSaid : Prop := Claim7.holds Tryz.pinned (.plain (OpenSpec.ofChange nsaEchoesSpec)) nsaEchoesCard

/-- THE TIED CARD OF 'chamberlainlaw15.NsaWaits'. -/
def nsaWaitsCard : Claim7 := { stood := { row := nsaWaitsRow, standIns := [], harness := (true, "cef08e53c16fc0a613853c9c24f118cb2b2f8c0a19678e62ee7d360d66d4dfad"), looks := false }, kinds := [], alts := [], laidByText := true, laidKinds := [.data], laidTests := true, laidLooks := .later }
def NsaWaitsCardSaid : Prop := Claim7.holds Tryz.pinned (.plain (OpenSpec.ofChange nsaWaitsSpec)) nsaWaitsCard

/-- THE TIED CARD OF 'chamberlainlaw15.NsaKeeps'. -/
def nsaKeepsCard : Claim7 := { stood := { row := nsaKeepsRow, standIns := [], harness := (true, "cef08e53c16fc0a613853c9c24f118cb2b2f8c0a19678e62ee7d360d66d4dfad"), looks := false }, kinds := [], alts := [], laidByText := true, laidKinds := [.data], laidTests := true, laidLooks := .later }
def NsaKeepsCardSaid : Prop := Claim7.holds Tryz.pinned (.plain (OpenSpec.ofChange nsaKeepsSpec)) nsaKeepsCard

/-- THE TIED CARD OF 'chamberlainlaw20.PostDelivers'. -/
def postDeliversCard : Claim7 := { stood := { row := postDeliversRow, standIns := [], harness := (true, "cef08e53c16fc0a613853c9c24f118cb2b2f8c0a19678e62ee7d360d66d4dfad"), looks := false }, kinds := [], alts := [], laidByText := true, laidKinds := [.data], laidTests := true, laidLooks := .later }
def PostDeliversCardSaid : Prop := Claim7.holds Tryz.pinned (.plain (OpenSpec.ofChange postDeliversSpec)) postDeliversCard

/-- THE TIED CARD OF 'chamberlainlaw20.PostRefuses'. -/
def postRefusesCard : Claim7 := { stood := { row := postRefusesRow, standIns := [], harness := (true, "cef08e53c16fc0a613853c9c24f118cb2b2f8c0a19678e62ee7d360d66d4dfad"), looks := false }, kinds := [], alts := [], laidByText := true, laidKinds := [.data], laidTests := true, laidLooks := .later }
def PostRefusesCardSaid : Prop := Claim7.holds Tryz.pinned (.plain (OpenSpec.ofChange postRefusesSpec)) postRefusesCard

/-- THE TIED CARD OF 'chamberlainlaw20.PostTags'. -/
def postTagsCard : Claim7 := { stood := { row := postTagsRow, standIns := [], harness := (true, "cef08e53c16fc0a613853c9c24f118cb2b2f8c0a19678e62ee7d360d66d4dfad"), looks := false }, kinds := [], alts := [], laidByText := true, laidKinds := [.data], laidTests := true, laidLooks := .later }
def PostTagsCardSaid : Prop := Claim7.holds Tryz.pinned (.plain (OpenSpec.ofChange postTagsSpec)) postTagsCard

/-- THE TIED CARD OF 'chamberlainlaw20.PostKeeps'. -/
def postKeepsCard : Claim7 := { stood := { row := postKeepsRow, standIns := [], harness := (true, "cef08e53c16fc0a613853c9c24f118cb2b2f8c0a19678e62ee7d360d66d4dfad"), looks := false }, kinds := [], alts := [], laidByText := true, laidKinds := [.data], laidTests := true, laidLooks := .later }
def PostKeepsCardSaid : Prop := Claim7.holds Tryz.pinned (.plain (OpenSpec.ofChange postKeepsSpec)) postKeepsCard

/-- THE SECOND FORM's CARD OF 'chamberlainlaw16.NsbTickets'. -/
def nsbTicketsUptoCard : Claim7 := { stood := { row := nsbTicketsUptoRow, standIns := [], harness := (true, "cef08e53c16fc0a613853c9c24f118cb2b2f8c0a19678e62ee7d360d66d4dfad"), looks := false }, kinds := [], alts := [], laidByText := true, laidKinds := [.data], laidTests := true, laidLooks := .later }
def NsbTicketsUptoCardSaid : Prop := Claim7.holds Tryz.pinned (.plain (OpenSpec.upto nsbTicketsSpec)) nsbTicketsUptoCard

/-- THE SECOND FORM's CARD OF 'chamberlainlaw16.NsbBacks'. -/
def nsbBacksUptoCard : Claim7 := { stood := { row := nsbBacksUptoRow, standIns := [], harness := (true, "cef08e53c16fc0a613853c9c24f118cb2b2f8c0a19678e62ee7d360d66d4dfad"), looks := false }, kinds := [], alts := [], laidByText := true, laidKinds := [.data], laidTests := true, laidLooks := .later }
def NsbBacksUptoCardSaid : Prop := Claim7.holds Tryz.pinned (.plain (OpenSpec.upto nsbBacksSpec)) nsbBacksUptoCard

/-- THE SECOND FORM's CARD OF 'chamberlainlaw16.NsbCommits'. -/
def nsbCommitsUptoCard : Claim7 := { stood := { row := nsbCommitsUptoRow, standIns := [], harness := (true, "cef08e53c16fc0a613853c9c24f118cb2b2f8c0a19678e62ee7d360d66d4dfad"), looks := false }, kinds := [], alts := [], laidByText := true, laidKinds := [.data], laidTests := true, laidLooks := .later }
def NsbCommitsUptoCardSaid : Prop := Claim7.holds Tryz.pinned (.plain (OpenSpec.upto nsbCommitsSpec)) nsbCommitsUptoCard

/-- THE SECOND FORM's CARD OF 'chamberlainlaw16.NsbKeeps'. -/
def nsbKeepsUptoCard : Claim7 := { stood := { row := nsbKeepsUptoRow, standIns := [], harness := (true, "cef08e53c16fc0a613853c9c24f118cb2b2f8c0a19678e62ee7d360d66d4dfad"), looks := false }, kinds := [], alts := [], laidByText := true, laidKinds := [.data], laidTests := true, laidLooks := .later }
def NsbKeepsUptoCardSaid : Prop := Claim7.holds Tryz.pinned (.plain (OpenSpec.upto nsbKeepsSpec)) nsbKeepsUptoCard

/-- THE SECOND FORM's CARD OF 'chamberlainlaw15.NsaStarts'. -/
def nsaStartsUptoCard : Claim7 := { stood := { row := nsaStartsUptoRow, standIns := [], harness := (true, "cef08e53c16fc0a613853c9c24f118cb2b2f8c0a19678e62ee7d360d66d4dfad"), looks := false }, kinds := [], alts := [], laidByText := true, laidKinds := [.data], laidTests := true, laidLooks := .later }
def NsaStartsUptoCardSaid : Prop := Claim7.holds Tryz.pinned (.plain (OpenSpec.upto nsaStartsSpec)) nsaStartsUptoCard

/-- THE SECOND FORM's CARD OF 'chamberlainlaw15.NsaGrants'. -/
def nsaGrantsUptoCard : Claim7 := { stood := { row := nsaGrantsUptoRow, standIns := [], harness := (true, "cef08e53c16fc0a613853c9c24f118cb2b2f8c0a19678e62ee7d360d66d4dfad"), looks := false }, kinds := [], alts := [], laidByText := true, laidKinds := [.data], laidTests := true, laidLooks := .later }
def NsaGrantsUptoCardSaid : Prop := Claim7.holds Tryz.pinned (.plain (OpenSpec.upto nsaGrantsSpec)) nsaGrantsUptoCard

/-- THE SECOND FORM's CARD OF 'chamberlainlaw15.NsaEchoes'. -/
def nsaEchoesUptoCard : Claim7 := { stood := { row := nsaEchoesUptoRow, standIns := [], harness := (true, "cef08e53c16fc0a613853c9c24f118cb2b2f8c0a19678e62ee7d360d66d4dfad"), looks := false }, kinds := [], alts := [], laidByText := true, laidKinds := [.data], laidTests := true, laidLooks := .later }
def NsaEchoesUptoCardSaid : Prop := Claim7.holds Tryz.pinned (.plain (OpenSpec.upto nsaEchoesSpec)) nsaEchoesUptoCard

/-- THE SECOND FORM's CARD OF 'chamberlainlaw15.NsaWaits'. -/
def nsaWaitsUptoCard : Claim7 := { stood := { row := nsaWaitsUptoRow, standIns := [], harness := (true, "cef08e53c16fc0a613853c9c24f118cb2b2f8c0a19678e62ee7d360d66d4dfad"), looks := false }, kinds := [], alts := [], laidByText := true, laidKinds := [.data], laidTests := true, laidLooks := .later }
def NsaWaitsUptoCardSaid : Prop := Claim7.holds Tryz.pinned (.plain (OpenSpec.upto nsaWaitsSpec)) nsaWaitsUptoCard

/-- THE SECOND FORM's CARD OF 'chamberlainlaw15.NsaKeeps'. -/
def nsaKeepsUptoCard : Claim7 := { stood := { row := nsaKeepsUptoRow, standIns := [], harness := (true, "cef08e53c16fc0a613853c9c24f118cb2b2f8c0a19678e62ee7d360d66d4dfad"), looks := false }, kinds := [], alts := [], laidByText := true, laidKinds := [.data], laidTests := true, laidLooks := .later }
def NsaKeepsUptoCardSaid : Prop := Claim7.holds Tryz.pinned (.plain (OpenSpec.upto nsaKeepsSpec)) nsaKeepsUptoCard

/-- THE SECOND FORM's CARD OF 'chamberlainlaw20.PostDelivers'. -/
def postDeliversUptoCard : Claim7 := { stood := { row := postDeliversUptoRow, standIns := [], harness := (true, "cef08e53c16fc0a613853c9c24f118cb2b2f8c0a19678e62ee7d360d66d4dfad"), looks := false }, kinds := [], alts := [], laidByText := true, laidKinds := [.data], laidTests := true, laidLooks := .later }
def PostDeliversUptoCardSaid : Prop := Claim7.holds Tryz.pinned (.plain (OpenSpec.upto postDeliversSpec)) postDeliversUptoCard

/-- THE SECOND FORM's CARD OF 'chamberlainlaw20.PostRefuses'. -/
def postRefusesUptoCard : Claim7 := { stood := { row := postRefusesUptoRow, standIns := [], harness := (true, "cef08e53c16fc0a613853c9c24f118cb2b2f8c0a19678e62ee7d360d66d4dfad"), looks := false }, kinds := [], alts := [], laidByText := true, laidKinds := [.data], laidTests := true, laidLooks := .later }
def PostRefusesUptoCardSaid : Prop := Claim7.holds Tryz.pinned (.plain (OpenSpec.upto postRefusesSpec)) postRefusesUptoCard

/-- THE SECOND FORM's CARD OF 'chamberlainlaw20.PostTags'. -/
def postTagsUptoCard : Claim7 := { stood := { row := postTagsUptoRow, standIns := [], harness := (true, "cef08e53c16fc0a613853c9c24f118cb2b2f8c0a19678e62ee7d360d66d4dfad"), looks := false }, kinds := [], alts := [], laidByText := true, laidKinds := [.data], laidTests := true, laidLooks := .later }
def PostTagsUptoCardSaid : Prop := Claim7.holds Tryz.pinned (.plain (OpenSpec.upto postTagsSpec)) postTagsUptoCard

/-- THE SECOND FORM's CARD OF 'chamberlainlaw20.PostKeeps'. -/
def postKeepsUptoCard : Claim7 := { stood := { row := postKeepsUptoRow, standIns := [], harness := (true, "cef08e53c16fc0a613853c9c24f118cb2b2f8c0a19678e62ee7d360d66d4dfad"), looks := false }, kinds := [], alts := [], laidByText := true, laidKinds := [.data], laidTests := true, laidLooks := .later }
def PostKeepsUptoCardSaid : Prop := Claim7.holds Tryz.pinned (.plain (OpenSpec.upto postKeepsSpec)) postKeepsUptoCard
end Rows
end Go.Proofs.YtmgphjfpccddiaaGreatDoor
