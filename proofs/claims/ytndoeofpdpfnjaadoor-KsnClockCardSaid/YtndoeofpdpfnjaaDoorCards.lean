/-
  DERIVED. GIVEN WITH THE SEED: THE CARDS: each row of YtndoeofpdpfnjaaDoorRows.lean that lists a variable, with what it lists TIED to the program's text (the seventh form; the later family's looks); each row that meets fmt, with fmt's text TOLD by the authors' own Lean function (tested against real Go, not proved from fmt's source: count such statements apart). THE CARD IS WHAT COUNTS. Prove the row's statement (the work); the ties are given (YtndoeofpdpfnjaaDoorTie.lean); close each card by the builder's one call (the guide's Derived/Test/ToyasCard.lean, 'card_holds'). Laid BY PROGRAM, IN A SANDBOX (cutbox-door.mjs). By AI agents, Wed Nov 11 2026. No macro, syntax, notation, axiom, sorry.
-/
import Derived.Test.YtndoeofpdpfnjaaDoorRows
import GoSem.ClaimSeven
namespace Go.Proofs.YtndoeofpdpfnjaaDoor
namespace Rows

/-- THE TIED CARD OF 'chamberlainlaw24.AgreeLess'. -/
def agreeLessCard : Claim7 := { stood := { row := agreeLessRow, standIns := [], harness := (true, "e9d920111eec183fbf5e52073e6a651e68a07c6979fe2aab3b74163d9eaefc68"), looks := false }, kinds := [], alts := [], laidByText := true, laidKinds := [.data], laidTests := true, laidLooks := .later }
def AgreeLessCardSaid : Prop := Claim7.holds Tryd.pinned (.plain (OpenSpec.ofChange agreeLessSpec)) agreeLessCard

/-- THE TIED CARD OF 'chamberlainlaw13.KsnClock'. -/
def ksnClockCard : Claim7 := { stood := { row := ksnClockRow, standIns := [], harness := (true, "e9d920111eec183fbf5e52073e6a651e68a07c6979fe2aab3b74163d9eaefc68"), looks := false }, kinds := [], alts := [], laidByText := true, laidKinds := [.data], laidTests := true, laidLooks := .later }
def KsnClockCardSaid : Prop := Claim7.holds Tryd.pinned (.plain (OpenSpec.ofChange ksnClockSpec)) ksnClockCard

/-- THE TIED CARD OF 'chamberlainlaw17.OraTwice'. -/
def oraTwiceCard : Claim7 := { stood := { row := oraTwiceRow, standIns := [], harness := (true, "e9d920111eec183fbf5e52073e6a651e68a07c6979fe2aab3b74163d9eaefc68"), looks := false }, kinds := [], alts := [], laidByText := true, laidKinds := [.data], laidTests := true, laidLooks := .later }
def OraTwiceCardSaid : Prop := Claim7.holds Tryd.pinned (.plain (OpenSpec.ofChange oraTwiceSpec)) oraTwiceCard

/-- THE TIED CARD OF 'chamberlainlaw12.DeskForms'. -/
def deskFormsCard : Claim7 := { stood := { row := deskFormsRow, standIns := [], harness := (true, "e9d920111eec183fbf5e52073e6a651e68a07c6979fe2aab3b74163d9eaefc68"), looks := false }, kinds := [], alts := [], laidByText := true, laidKinds := [.data], laidTests := true, laidLooks := .later }
def DeskFormsCardSaid : Prop := Claim7.holds Tryd.pinned (.plain (OpenSpec.ofChange deskFormsSpec)) deskFormsCard

/-- THE SECOND FORM's CARD OF 'chamberlainlaw24.AgreeLess'. -/
def agreeLessUptoCard : Claim7 := { stood := { row := agreeLessUptoRow, standIns := [], harness := (true, "e9d920111eec183fbf5e52073e6a651e68a07c6979fe2aab3b74163d9eaefc68"), looks := false }, kinds := [], alts := [], laidByText := true, laidKinds := [.data], laidTests := true, laidLooks := .later }
def AgreeLessUptoCardSaid : Prop := Claim7.holds Tryd.pinned (.plain (OpenSpec.upto agreeLessSpec)) agreeLessUptoCard

/-- THE SECOND FORM's CARD OF 'chamberlainlaw13.KsnClock'. -/
def ksnClockUptoCard : Claim7 := { stood := { row := ksnClockUptoRow, standIns := [], harness := (true, "e9d920111eec183fbf5e52073e6a651e68a07c6979fe2aab3b74163d9eaefc68"), looks := false }, kinds := [], alts := [], laidByText := true, laidKinds := [.data], laidTests := true, laidLooks := .later }
def KsnClockUptoCardSaid : Prop := Claim7.holds Tryd.pinned (.plain (OpenSpec.upto ksnClockSpec)) ksnClockUptoCard

/-- THE SECOND FORM's CARD OF 'chamberlainlaw17.OraTwice'. -/
def oraTwiceUptoCard : Claim7 := { stood := { row := oraTwiceUptoRow, standIns := [], harness := (true, "e9d920111eec183fbf5e52073e6a651e68a07c6979fe2aab3b74163d9eaefc68"), looks := false }, kinds := [], alts := [], laidByText := true, laidKinds := [.data], laidTests := true, laidLooks := .later }
def OraTwiceUptoCardSaid : Prop := Claim7.holds Tryd.pinned (.plain (OpenSpec.upto oraTwiceSpec)) oraTwiceUptoCard

/-- THE SECOND FORM's CARD OF 'chamberlainlaw12.DeskForms'. -/
def deskFormsUptoCard : Claim7 := { stood := { row := deskFormsUptoRow, standIns := [], harness := (true, "e9d920111eec183fbf5e52073e6a651e68a07c6979fe2aab3b74163d9eaefc68"), looks := false }, kinds := [], alts := [], laidByText := true, laidKinds := [.data], laidTests := true, laidLooks := .later }
def DeskFormsUptoCardSaid : Prop := Claim7.holds Tryd.pinned (.plain (OpenSpec.upto deskFormsSpec)) deskFormsUptoCard
end Rows
end Go.Proofs.YtndoeofpdpfnjaaDoor
