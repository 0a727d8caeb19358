/-
  DERIVED. GIVEN WITH THE SEED: THE CARDS: each row of YtaebkmmjjabnaaaGreatDoorRows.lean that lists a variable, with what it lists TIED to the program's text (the seventh form; the later family's looks); each row that meets fmt, with fmt's text TOLD by the authors' own Lean function (tested against real Go, not proved from fmt's source: count such statements apart). THE CARD IS WHAT COUNTS. Prove the row's statement (the work); the ties are given (YtaebkmmjjabnaaaGreatDoorTie.lean); close each card by the builder's one call (the guide's Derived/Test/ToyasCard.lean, 'card_holds'). Laid BY PROGRAM, IN A SANDBOX (cutbox-door.mjs). By AI agents, Wed Nov 11 2026. No macro, syntax, notation, axiom, sorry.
-/
import Derived.Test.YtaebkmmjjabnaaaGreatDoorRows
import GoSem.ClaimSeven
namespace Go.Proofs.YtaebkmmjjabnaaaGreatDoor
namespace Rows

/-- THE TIED CARD OF 'chamberlainlaw22.WorldNews'. -/
def worldNewsCard : Claim7 := { stood := { row := worldNewsRow, standIns := [], harness := (true, "998dc358089894bdb2db845c1f4d6ea50335dfc132a51f4567dd4db854c707f8"), looks := false }, kinds := [], alts := [], laidByText := true, laidKinds := [.data], laidTests := true, laidLooks := .later }
def WorldNewsCardSaid : Prop := Claim7.holds Tryz.pinned (.plain (OpenSpec.ofChange worldNewsSpec)) worldNewsCard

/-- THE TIED CARD OF 'chamberlainlaw22.WorldSteps'. -/
def worldStepsCard : Claim7 := { stood := { row := worldStepsRow, standIns := [], harness := (true, "998dc358089894bdb2db845c1f4d6ea50335dfc132a51f4567dd4db854c707f8"), looks := false }, kinds := [], alts := [], laidByText := true, laidKinds := [.data], laidTests := true, laidLooks := .later }
def WorldStepsCardSaid : Prop := Claim7.holds Tryz.pinned (.plain (OpenSpec.ofChange worldStepsSpec)) worldStepsCard

/-- THE TIED CARD OF 'chamberlainlaw22.WorldRuns'. -/
def worldRunsCard : Claim7 := { stood := { row := worldRunsRow, standIns := [], harness := (true, "998dc358089894bdb2db845c1f4d6ea50335dfc132a51f4567dd4db854c707f8"), looks := false }, kinds := [], alts := [], laidByText := true, laidKinds := [.data], laidTests := true, laidLooks := .later }
def WorldRunsCardSaid : Prop := Claim7.holds Tryz.pinned (.plain (OpenSpec.ofChange worldRunsSpec)) worldRunsCard

/-- THE TIED CARD OF 'chamberlainlaw22.WorldKeeps'. -/
def worldKeepsCard : Claim7 := { stood := { row := worldKeepsRow, standIns := [], harness := (true, "998dc358089894bdb2db845c1f4d6ea50335dfc132a51f4567dd4db854c707f8"), looks := false }, kinds := [], alts := [], laidByText := true, laidKinds := [.data], laidTests := true, laidLooks := .later }
def WorldKeepsCardSaid : Prop := Claim7.holds Tryz.pinned (.plain (OpenSpec.ofChange worldKeepsSpec)) worldKeepsCard

/-- THE TIED CARD OF 'chamberlainlaw22.WorldParts'. -/
def worldPartsCard : Claim7 := { stood := { row := worldPartsRow, standIns := [], harness := (true, "998dc358089894bdb2db845c1f4d6ea50335dfc132a51f4567dd4db854c707f8"), looks := false }, kinds := [], alts := [], laidByText := true, laidKinds := [.data], laidTests := true, laidLooks := .later }
def WorldPartsCardSaid : Prop := Claim7.holds Tryz.pinned (.plain (OpenSpec.ofChange worldPartsSpec)) worldPartsCard

/-- THE TIED CARD OF 'chamberlainlaw22.WorldOthers'. -/
def worldOthersCard : Claim7 := { stood := { row := worldOthersRow, standIns := [], harness := (true, "998dc358089894bdb2db845c1f4d6ea50335dfc132a51f4567dd4db854c707f8"), looks := false }, kinds := [], alts := [], laidByText := true, laidKinds := [.data], laidTests := true, laidLooks := .later }
def WorldOthersCardSaid : Prop := Claim7.holds Tryz.pinned (.plain (OpenSpec.ofChange worldOthersSpec)) worldOthersCard

/-- THE TIED CARD OF 'chamberlainlaw27.HonestExtends'. -/
def honestExtendsCard : Claim7 := { stood := { row := honestExtendsRow, standIns := [], harness := (true, "998dc358089894bdb2db845c1f4d6ea50335dfc132a51f4567dd4db854c707f8"), looks := false }, kinds := [], alts := [], laidByText := true, laidKinds := [.data], laidTests := true, laidLooks := .later }
def HonestExtendsCardSaid : Prop := Claim7.holds Tryz.pinned (.plain (OpenSpec.ofChange honestExtendsSpec)) honestExtendsCard

/-- THE TIED CARD OF 'chamberlainlaw27.HonestEnds'. -/
def honestEndsCard : Claim7 := { stood := { row := honestEndsRow, standIns := [], harness := (true, "998dc358089894bdb2db845c1f4d6ea50335dfc132a51f4567dd4db854c707f8"), looks := false }, kinds := [], alts := [], laidByText := true, laidKinds := [.data], laidTests := true, laidLooks := .later }
def HonestEndsCardSaid : Prop := Claim7.holds Tryz.pinned (.plain (OpenSpec.ofChange honestEndsSpec)) honestEndsCard

/-- THE TIED CARD OF 'chamberlainlaw27.HonestKeeps'. -/
def honestKeepsCard : Claim7 := { stood := { row := honestKeepsRow, standIns := [], harness := (true, "998dc358089894bdb2db845c1f4d6ea50335dfc132a51f4567dd4db854c707f8"), looks := false }, kinds := [], alts := [], laidByText := true, laidKinds := [.data], laidTests := true, laidLooks := .later }
def HonestKeepsCardSaid : Prop := Claim7.holds Tryz.pinned (.plain (OpenSpec.ofChange honestKeepsSpec)) honestKeepsCard

/-- THE TIED CARD OF 'chamberlainlaw27.HonestTwice'. -/
def honestTwiceCard : Claim7 := { stood := { row := honestTwiceRow, standIns := [], harness := (true, "998dc358089894bdb2db845c1f4d6ea50335dfc132a51f4567dd4db854c707f8"), looks := false }, kinds := [], alts := [], laidByText := true, laidKinds := [.data], laidTests := true, laidLooks := .later }
def HonestTwiceCardSaid : Prop := Claim7.holds Tryz.pinned (.plain (OpenSpec.ofChange honestTwiceSpec)) honestTwiceCard

/-- THE TIED CARD OF 'chamberlainlaw27.HonestSecret'. -/
def honestSecretCard : Claim7 := { stood := { row := honestSecretRow, standIns := [], harness := (true, "998dc358089894bdb2db845c1f4d6ea50335dfc132a51f4567dd4db854c707f8"), looks := false }, kinds := [], alts := [], laidByText := true, laidKinds := [.data], laidTests := true, laidLooks := .later }
def HonestSecretCardSaid : Prop := Claim7.holds Tryz.pinned (.plain (OpenSpec.ofChange honestSecretSpec)) honestSecretCard

/-- THE TIED CARD OF 'chamberlainlaw23.KnowSecret'. -/
def knowSecretCard : Claim7 := { stood := { row := knowSecretRow, standIns := [], harness := (true, "998dc358089894bdb2db845c1f4d6ea50335dfc132a51f4567dd4db854c707f8"), looks := false }, kinds := [], alts := [], laidByText := true, laidKinds := [.data], laidTests := true, laidLooks := .later }
def KnowSecretCardSaid : Prop := Claim7.holds Tryz.pinned (.plain (OpenSpec.ofChange knowSecretSpec)) knowSecretCard

/-- THE TIED CARD OF 'chamberlainlaw23.KnowKeys'. -/
def knowKeysCard : Claim7 := { stood := { row := knowKeysRow, standIns := [], harness := (true, "998dc358089894bdb2db845c1f4d6ea50335dfc132a51f4567dd4db854c707f8"), looks := false }, kinds := [], alts := [], laidByText := true, laidKinds := [.data], laidTests := true, laidLooks := .later }
def KnowKeysCardSaid : Prop := Claim7.holds Tryz.pinned (.plain (OpenSpec.ofChange knowKeysSpec)) knowKeysCard

/-- THE TIED CARD OF 'chamberlainlaw25.TraceHolds'. -/
def traceHoldsCard : Claim7 := { stood := { row := traceHoldsRow, standIns := [], harness := (true, "998dc358089894bdb2db845c1f4d6ea50335dfc132a51f4567dd4db854c707f8"), looks := false }, kinds := [], alts := [], laidByText := true, laidKinds := [.data], laidTests := true, laidLooks := .later }
def TraceHoldsCardSaid : Prop := Claim7.holds Tryz.pinned (.plain (OpenSpec.ofChange traceHoldsSpec)) traceHoldsCard

/-- THE TIED CARD OF 'chamberlainlaw25.TraceCommits'. -/
def traceCommitsCard : Claim7 := { stood := { row := traceCommitsRow, standIns := [], harness := (true, "998dc358089894bdb2db845c1f4d6ea50335dfc132a51f4567dd4db854c707f8"), looks := false }, kinds := [], alts := [], laidByText := true, laidKinds := [.data], laidTests := true, laidLooks := .later }
def TraceCommitsCardSaid : Prop := Claim7.holds Tryz.pinned (.plain (OpenSpec.ofChange traceCommitsSpec)) traceCommitsCard

/-- THE SECOND FORM's CARD OF 'chamberlainlaw22.WorldNews'. -/
def worldNewsUptoCard : Claim7 := { stood := { row := worldNewsUptoRow, standIns := [], harness := (true, "998dc358089894bdb2db845c1f4d6ea50335dfc132a51f4567dd4db854c707f8"), looks := false }, kinds := [], alts := [], laidByText := true, laidKinds := [.data], laidTests := true, laidLooks := .later }
def WorldNewsUptoCardSaid : Prop := Claim7.holds Tryz.pinned (.plain (OpenSpec.upto worldNewsSpec)) worldNewsUptoCard

/-- THE SECOND FORM's CARD OF 'chamberlainlaw22.WorldSteps'. -/
def worldStepsUptoCard : Claim7 := { stood := { row := worldStepsUptoRow, standIns := [], harness := (true, "998dc358089894bdb2db845c1f4d6ea50335dfc132a51f4567dd4db854c707f8"), looks := false }, kinds := [], alts := [], laidByText := true, laidKinds := [.data], laidTests := true, laidLooks := .later }
def WorldStepsUptoCardSaid : Prop := Claim7.holds Tryz.pinned (.plain (OpenSpec.upto worldStepsSpec)) worldStepsUptoCard

/-- THE SECOND FORM's CARD OF 'chamberlainlaw22.WorldRuns'. -/
def worldRunsUptoCard : Claim7 := { stood := { row := worldRunsUptoRow, standIns := [], harness := (true, "998dc358089894bdb2db845c1f4d6ea50335dfc132a51f4567dd4db854c707f8"), looks := false }, kinds := [], alts := [], laidByText := true, laidKinds := [.data], laidTests := true, laidLooks := .later }
def WorldRunsUptoCardSaid : Prop := Claim7.holds Tryz.pinned (.plain (OpenSpec.upto worldRunsSpec)) worldRunsUptoCard

/-- THE SECOND FORM's CARD OF 'chamberlainlaw22.WorldKeeps'. -/
def worldKeepsUptoCard : Claim7 := { stood := { row := worldKeepsUptoRow, standIns := [], harness := (true, "998dc358089894bdb2db845c1f4d6ea50335dfc132a51f4567dd4db854c707f8"), looks := false }, kinds := [], alts := [], laidByText := true, laidKinds := [.data], laidTests := true, laidLooks := .later }
def WorldKeepsUptoCardSaid : Prop := Claim7.holds Tryz.pinned (.plain (OpenSpec.upto worldKeepsSpec)) worldKeepsUptoCard

/-- THE SECOND FORM's CARD OF 'chamberlainlaw22.WorldParts'. -/
def worldPartsUptoCard : Claim7 := { stood := { row := worldPartsUptoRow, standIns := [], harness := (true, "998dc358089894bdb2db845c1f4d6ea50335dfc132a51f4567dd4db854c707f8"), looks := false }, kinds := [], alts := [], laidByText := true, laidKinds := [.data], laidTests := true, laidLooks := .later }
def WorldPartsUptoCardSaid : Prop := Claim7.holds Tryz.pinned (.plain (OpenSpec.upto worldPartsSpec)) worldPartsUptoCard

/-- THE SECOND FORM's CARD OF 'chamberlainlaw22.WorldOthers'. -/
def worldOthersUptoCard : Claim7 := { stood := { row := worldOthersUptoRow, standIns := [], harness := (true, "998dc358089894bdb2db845c1f4d6ea50335dfc132a51f4567dd4db854c707f8"), looks := false }, kinds := [], alts := [], laidByText := true, laidKinds := [.data], laidTests := true, laidLooks := .later }
def WorldOthersUptoCardSaid : Prop := Claim7.holds Tryz.pinned (.plain (OpenSpec.upto worldOthersSpec)) worldOthersUptoCard

/-- THE SECOND FORM's CARD OF 'chamberlainlaw27.HonestExtends'. -/
def honestExtendsUptoCard : Claim7 := { stood := { row := honestExtendsUptoRow, standIns := [], harness := (true, "998dc358089894bdb2db845c1f4d6ea50335dfc132a51f4567dd4db854c707f8"), looks := false }, kinds := [], alts := [], laidByText := true, laidKinds := [.data], laidTests := true, laidLooks := .later }
def HonestExtendsUptoCardSaid : Prop := Claim7.holds Tryz.pinned (.plain (OpenSpec.upto honestExtendsSpec)) honestExtendsUptoCard

/-- THE SECOND FORM's CARD OF 'chamberlainlaw27.HonestEnds'. -/
def honestEndsUptoCard : Claim7 := { stood := { row := honestEndsUptoRow, standIns := [], harness := (true, "998dc358089894bdb2db845c1f4d6ea50335dfc132a51f4567dd4db854c707f8"), looks := false }, kinds := [], alts := [], laidByText := true, laidKinds := [.data], laidTests := true, laidLooks := .later }
def HonestEndsUptoCardSaid : Prop := Claim7.holds Tryz.pinned (.plain (OpenSpec.upto honestEndsSpec)) honestEndsUptoCard

/-- THE SECOND FORM's CARD OF 'chamberlainlaw27.HonestKeeps'. -/
def honestKeepsUptoCard : Claim7 := { stood := { row := honestKeepsUptoRow, standIns := [], harness := (true, "998dc358089894bdb2db845c1f4d6ea50335dfc132a51f4567dd4db854c707f8"), looks := false }, kinds := [], alts := [], laidByText := true, laidKinds := [.data], laidTests := true, laidLooks := .later }
def HonestKeepsUptoCardSaid : Prop := Claim7.holds Tryz.pinned (.plain (OpenSpec.upto honestKeepsSpec)) honestKeepsUptoCard

/-- THE SECOND FORM's CARD OF 'chamberlainlaw27.HonestTwice'. -/
def honestTwiceUptoCard : Claim7 := { stood := { row := honestTwiceUptoRow, standIns := [], harness := (true, "998dc358089894bdb2db845c1f4d6ea50335dfc132a51f4567dd4db854c707f8"), looks := false }, kinds := [], alts := [], laidByText := true, laidKinds := [.data], laidTests := true, laidLooks := .later }
def HonestTwiceUptoCardSaid : Prop := Claim7.holds Tryz.pinned (.plain (OpenSpec.upto honestTwiceSpec)) honestTwiceUptoCard

/-- THE SECOND FORM's CARD OF 'chamberlainlaw27.HonestSecret'. -/
def honestSecretUptoCard : Claim7 := { stood := { row := honestSecretUptoRow, standIns := [], harness := (true, "998dc358089894bdb2db845c1f4d6ea50335dfc132a51f4567dd4db854c707f8"), looks := false }, kinds := [], alts := [], laidByText := true, laidKinds := [.data], laidTests := true, laidLooks := .later }
def HonestSecretUptoCardSaid : Prop := Claim7.holds Tryz.pinned (.plain (OpenSpec.upto honestSecretSpec)) honestSecretUptoCard

/-- THE SECOND FORM's CARD OF 'chamberlainlaw23.KnowSecret'. -/
def knowSecretUptoCard : Claim7 := { stood := { row := knowSecretUptoRow, standIns := [], harness := (true, "998dc358089894bdb2db845c1f4d6ea50335dfc132a51f4567dd4db854c707f8"), looks := false }, kinds := [], alts := [], laidByText := true, laidKinds := [.data], laidTests := true, laidLooks := .later }
def KnowSecretUptoCardSaid : Prop := Claim7.holds Tryz.pinned (.plain (OpenSpec.upto knowSecretSpec)) knowSecretUptoCard

/-- THE SECOND FORM's CARD OF 'chamberlainlaw23.KnowKeys'. -/
def knowKeysUptoCard : Claim7 := { stood := { row := knowKeysUptoRow, standIns := [], harness := (true, "998dc358089894bdb2db845c1f4d6ea50335dfc132a51f4567dd4db854c707f8"), looks := false }, kinds := [], alts := [], laidByText := true, laidKinds := [.data], laidTests := true, laidLooks := .later }
def KnowKeysUptoCardSaid : Prop := Claim7.holds Tryz.pinned (.plain (OpenSpec.upto knowKeysSpec)) knowKeysUptoCard

/-- THE SECOND FORM's CARD OF 'chamberlainlaw25.TraceHolds'. -/
def traceHoldsUptoCard : Claim7 := { stood := { row := traceHoldsUptoRow, standIns := [], harness := (true, "998dc358089894bdb2db845c1f4d6ea50335dfc132a51f4567dd4db854c707f8"), looks := false }, kinds := [], alts := [], laidByText := true, laidKinds := [.data], laidTests := true, laidLooks := .later }
def TraceHoldsUptoCardSaid : Prop := Claim7.holds Tryz.pinned (.plain (OpenSpec.upto traceHoldsSpec)) traceHoldsUptoCard

/-- THE SECOND FORM's CARD OF 'chamberlainlaw25.TraceCommits'. -/
def traceCommitsUptoCard : Claim7 := { stood := { row := traceCommitsUptoRow, standIns := [], harness := (true, "998dc358089894bdb2db845c1f4d6ea50335dfc132a51f4567dd4db854c707f8"), looks := false }, kinds := [], alts := [], laidByText := true, laidKinds := [.data], laidTests := true, laidLooks := .later }
def TraceCommitsUptoCardSaid : Prop := Claim7.holds Tryz.pinned (.plain (OpenSpec.upto traceCommitsSpec)) traceCommitsUptoCard
end Rows
end Go.Proofs.YtaebkmmjjabnaaaGreatDoor
