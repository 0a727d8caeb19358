/-
  NARROWER THAN 'FOR EVERY INPUT', by the rows' own cells (each row's printed sentence says how): KsnGrants: laid · KsnKeeps: laid · KsoDoes: laid · KsoKeeps: laid · DeskSeals: laid · DeskSends: laid · DeskOpens: laid · DeskSent: laid · DeskKeeps: laid.
  DERIVED. THE GIVEN ROWS OF THIS SEAT. 9 by the template 'for every input the law returns true; each argument reads behind the call as it read before'; 0 by the template 'total and deterministic' (their statements: YtpmllihgejohcaaGreatDoorTotals.lean).
  GIVEN WITH THE SEED: the statements are not yours to turn. If you find one false, say at which input.
  Laid BY PROGRAM, IN A SANDBOX (cutbox-rows.mjs): the forced cells as the released guide's own fill.sh prints them over the translation aa125966a1ba318c… (all of the seat's roots in one cut). By AI agents, Wed Nov 11 2026. No macro, syntax, notation, axiom, sorry.
-/
import Derived.Test.YtpmllihgejohcaaGreatDoorChecked
import GoSem.Claim
import GoSem.ClaimJoined
import GoSem.ClaimMapViews
import Derived.JoinedTies
import Derived.KernelRfl
namespace Go.Proofs.YtpmllihgejohcaaGreatDoor
/- THE CELL 'sum', in the pinned program and in every row, IS THE sha256 OF THE DUMP (.gsa) THAT YtpmllihgejohcaaGreatDoorProg.lean LOADS. Nothing in Lean hashes anything: it is a label: what it is worth is what the hold of that sum in a sandbox is worth. -/
noncomputable def Tryz.pinned : Pinned := { name := "ytpmllihgejohcaagreatdoor", sum := "aa125966a1ba318cb76eaa0c3abe12db09bbba1e996f199d41e203f466ea19a5", checked := Tryz.checked }
namespace Rows
def none {H : Type} : Left H := { results := [], args := [] }

/- WHAT THE LISTED PACKAGE-LEVEL VARIABLES READ AS WHEN THE CALL BEGINS. Each datum BY PROGRAM (the guide's laid-datum.mjs) off the statement by which the dump's own 'gosem.cut.vars' lays the variable. In a bare row this is a premise. The card (YtpmllihgejohcaaGreatDoorCards.lean) ties it to the program's text. -/
def laid_chamberlain_msg_has {H : Type} : DataW H := .agg [.lit (.int .u32 0), .lit (.int .u32 56), .lit (.int .u32 64), .lit (.int .u32 64), .lit (.int .u32 64), .lit (.int .u32 64), .lit (.int .u32 92), .lit (.int .u32 220), .lit (.int .u32 196), .lit (.int .u32 68)]

/-- 'chamberlainlaw13.KsnGrants': WHATEVER THE INPUT: true; the input reads as it did. -/
def ksnGrantsSpec : ChangeSpec := { name := "ksnGrants", fn := fun _ => fun
  | [d1, d2] => { results := [.lit (.bool true)], args := [d1, d2] }
  | _ => none }
def ksnGrantsRow : OpenClaim := { program := "ytpmllihgejohcaagreatdoor", sum := "aa125966a1ba318cb76eaa0c3abe12db09bbba1e996f199d41e203f466ea19a5", func := "chamberlain/chamberlainlaw13.KsnGrants", spec := "ksnGrants", unfollowed := true, recurses := true, named := ["chamberlain/msg.has"], apart := false, laid := [("chamberlain/msg.has", laid_chamberlain_msg_has)] }
def KsnGrantsSaid : Prop := ksnGrantsRow.holds Tryz.pinned (OpenSpec.ofChange ksnGrantsSpec)

/-- ITS FALSE NEIGHBOUR: 'it returns false'. Refute it at one input. -/
def ksnGrantsWrong : ChangeSpec := { name := "ksnGrants", fn := fun _ => fun
  | [d1, d2] => { results := [.lit (.bool false)], args := [d1, d2] }
  | _ => none }
def KsnGrantsWrongFalsely : Prop := ksnGrantsRow.holds Tryz.pinned (OpenSpec.ofChange ksnGrantsWrong)

/-- 'chamberlainlaw13.KsnKeeps': WHATEVER THE INPUT: true; the input reads as it did. -/
def ksnKeepsSpec : ChangeSpec := { name := "ksnKeeps", fn := fun _ => fun
  | [d1, d2] => { results := [.lit (.bool true)], args := [d1, d2] }
  | _ => none }
def ksnKeepsRow : OpenClaim := { program := "ytpmllihgejohcaagreatdoor", sum := "aa125966a1ba318cb76eaa0c3abe12db09bbba1e996f199d41e203f466ea19a5", func := "chamberlain/chamberlainlaw13.KsnKeeps", spec := "ksnKeeps", unfollowed := true, recurses := true, named := ["chamberlain/msg.has"], apart := false, laid := [("chamberlain/msg.has", laid_chamberlain_msg_has)] }
def KsnKeepsSaid : Prop := ksnKeepsRow.holds Tryz.pinned (OpenSpec.ofChange ksnKeepsSpec)

/-- ITS FALSE NEIGHBOUR: 'it returns false'. Refute it at one input. -/
def ksnKeepsWrong : ChangeSpec := { name := "ksnKeeps", fn := fun _ => fun
  | [d1, d2] => { results := [.lit (.bool false)], args := [d1, d2] }
  | _ => none }
def KsnKeepsWrongFalsely : Prop := ksnKeepsRow.holds Tryz.pinned (OpenSpec.ofChange ksnKeepsWrong)

/-- 'chamberlainlaw14.KsoDoes': WHATEVER THE INPUT: true; the input reads as it did. -/
def ksoDoesSpec : ChangeSpec := { name := "ksoDoes", fn := fun _ => fun
  | [d1, d2] => { results := [.lit (.bool true)], args := [d1, d2] }
  | _ => none }
def ksoDoesRow : OpenClaim := { program := "ytpmllihgejohcaagreatdoor", sum := "aa125966a1ba318cb76eaa0c3abe12db09bbba1e996f199d41e203f466ea19a5", func := "chamberlain/chamberlainlaw14.KsoDoes", spec := "ksoDoes", unfollowed := true, recurses := true, named := ["chamberlain/msg.has"], apart := false, laid := [("chamberlain/msg.has", laid_chamberlain_msg_has)] }
def KsoDoesSaid : Prop := ksoDoesRow.holds Tryz.pinned (OpenSpec.ofChange ksoDoesSpec)

/-- ITS FALSE NEIGHBOUR: 'it returns false'. Refute it at one input. -/
def ksoDoesWrong : ChangeSpec := { name := "ksoDoes", fn := fun _ => fun
  | [d1, d2] => { results := [.lit (.bool false)], args := [d1, d2] }
  | _ => none }
def KsoDoesWrongFalsely : Prop := ksoDoesRow.holds Tryz.pinned (OpenSpec.ofChange ksoDoesWrong)

/-- 'chamberlainlaw14.KsoKeeps': WHATEVER THE INPUT: true; the input reads as it did. -/
def ksoKeepsSpec : ChangeSpec := { name := "ksoKeeps", fn := fun _ => fun
  | [d1, d2] => { results := [.lit (.bool true)], args := [d1, d2] }
  | _ => none }
def ksoKeepsRow : OpenClaim := { program := "ytpmllihgejohcaagreatdoor", sum := "aa125966a1ba318cb76eaa0c3abe12db09bbba1e996f199d41e203f466ea19a5", func := "chamberlain/chamberlainlaw14.KsoKeeps", spec := "ksoKeeps", unfollowed := true, recurses := true, named := ["chamberlain/msg.has"], apart := false, laid := [("chamberlain/msg.has", laid_chamberlain_msg_has)] }
def KsoKeepsSaid : Prop := ksoKeepsRow.holds Tryz.pinned (OpenSpec.ofChange ksoKeepsSpec)

/-- ITS FALSE NEIGHBOUR: 'it returns false'. Refute it at one input. -/
def ksoKeepsWrong : ChangeSpec := { name := "ksoKeeps", fn := fun _ => fun
  | [d1, d2] => { results := [.lit (.bool false)], args := [d1, d2] }
  | _ => none }
def KsoKeepsWrongFalsely : Prop := ksoKeepsRow.holds Tryz.pinned (OpenSpec.ofChange ksoKeepsWrong)

/-- 'chamberlainlaw12.DeskSeals': WHATEVER THE INPUT: true; the input reads as it did. -/
def deskSealsSpec : ChangeSpec := { name := "deskSeals", fn := fun _ => fun
  | [d1, d2, d3, d4, d5] => { results := [.lit (.bool true)], args := [d1, d2, d3, d4, d5] }
  | _ => none }
def deskSealsRow : OpenClaim := { program := "ytpmllihgejohcaagreatdoor", sum := "aa125966a1ba318cb76eaa0c3abe12db09bbba1e996f199d41e203f466ea19a5", func := "chamberlain/chamberlainlaw12.DeskSeals", spec := "deskSeals", unfollowed := true, recurses := true, named := ["chamberlain/msg.has"], apart := false, laid := [("chamberlain/msg.has", laid_chamberlain_msg_has)] }
def DeskSealsSaid : Prop := deskSealsRow.holds Tryz.pinned (OpenSpec.ofChange deskSealsSpec)

/-- ITS FALSE NEIGHBOUR: 'it returns false'. Refute it at one input. -/
def deskSealsWrong : ChangeSpec := { name := "deskSeals", fn := fun _ => fun
  | [d1, d2, d3, d4, d5] => { results := [.lit (.bool false)], args := [d1, d2, d3, d4, d5] }
  | _ => none }
def DeskSealsWrongFalsely : Prop := deskSealsRow.holds Tryz.pinned (OpenSpec.ofChange deskSealsWrong)

/-- 'chamberlainlaw12.DeskSends': WHATEVER THE INPUT: true; the input reads as it did. -/
def deskSendsSpec : ChangeSpec := { name := "deskSends", fn := fun _ => fun
  | [d1, d2, d3, d4, d5] => { results := [.lit (.bool true)], args := [d1, d2, d3, d4, d5] }
  | _ => none }
def deskSendsRow : OpenClaim := { program := "ytpmllihgejohcaagreatdoor", sum := "aa125966a1ba318cb76eaa0c3abe12db09bbba1e996f199d41e203f466ea19a5", func := "chamberlain/chamberlainlaw12.DeskSends", spec := "deskSends", unfollowed := true, recurses := true, named := ["chamberlain/msg.has"], apart := false, laid := [("chamberlain/msg.has", laid_chamberlain_msg_has)] }
def DeskSendsSaid : Prop := deskSendsRow.holds Tryz.pinned (OpenSpec.ofChange deskSendsSpec)

/-- ITS FALSE NEIGHBOUR: 'it returns false'. Refute it at one input. -/
def deskSendsWrong : ChangeSpec := { name := "deskSends", fn := fun _ => fun
  | [d1, d2, d3, d4, d5] => { results := [.lit (.bool false)], args := [d1, d2, d3, d4, d5] }
  | _ => none }
def DeskSendsWrongFalsely : Prop := deskSendsRow.holds Tryz.pinned (OpenSpec.ofChange deskSendsWrong)

/-- 'chamberlainlaw12.DeskOpens': WHATEVER THE INPUT: true; the input reads as it did. -/
def deskOpensSpec : ChangeSpec := { name := "deskOpens", fn := fun _ => fun
  | [d1, d2, d3, d4, d5, d6, d7] => { results := [.lit (.bool true)], args := [d1, d2, d3, d4, d5, d6, d7] }
  | _ => none }
def deskOpensRow : OpenClaim := { program := "ytpmllihgejohcaagreatdoor", sum := "aa125966a1ba318cb76eaa0c3abe12db09bbba1e996f199d41e203f466ea19a5", func := "chamberlain/chamberlainlaw12.DeskOpens", spec := "deskOpens", unfollowed := true, recurses := true, named := ["chamberlain/msg.has"], apart := false, laid := [("chamberlain/msg.has", laid_chamberlain_msg_has)] }
def DeskOpensSaid : Prop := deskOpensRow.holds Tryz.pinned (OpenSpec.ofChange deskOpensSpec)

/-- ITS FALSE NEIGHBOUR: 'it returns false'. Refute it at one input. -/
def deskOpensWrong : ChangeSpec := { name := "deskOpens", fn := fun _ => fun
  | [d1, d2, d3, d4, d5, d6, d7] => { results := [.lit (.bool false)], args := [d1, d2, d3, d4, d5, d6, d7] }
  | _ => none }
def DeskOpensWrongFalsely : Prop := deskOpensRow.holds Tryz.pinned (OpenSpec.ofChange deskOpensWrong)

/-- 'chamberlainlaw12.DeskSent': WHATEVER THE INPUT: true; the input reads as it did. -/
def deskSentSpec : ChangeSpec := { name := "deskSent", fn := fun _ => fun
  | [d1, d2, d3] => { results := [.lit (.bool true)], args := [d1, d2, d3] }
  | _ => none }
def deskSentRow : OpenClaim := { program := "ytpmllihgejohcaagreatdoor", sum := "aa125966a1ba318cb76eaa0c3abe12db09bbba1e996f199d41e203f466ea19a5", func := "chamberlain/chamberlainlaw12.DeskSent", spec := "deskSent", unfollowed := true, recurses := true, named := ["chamberlain/msg.has"], apart := false, laid := [("chamberlain/msg.has", laid_chamberlain_msg_has)] }
def DeskSentSaid : Prop := deskSentRow.holds Tryz.pinned (OpenSpec.ofChange deskSentSpec)

/-- ITS FALSE NEIGHBOUR: 'it returns false'. Refute it at one input. -/
def deskSentWrong : ChangeSpec := { name := "deskSent", fn := fun _ => fun
  | [d1, d2, d3] => { results := [.lit (.bool false)], args := [d1, d2, d3] }
  | _ => none }
def DeskSentWrongFalsely : Prop := deskSentRow.holds Tryz.pinned (OpenSpec.ofChange deskSentWrong)

/-- 'chamberlainlaw12.DeskKeeps': WHATEVER THE INPUT: true; the input reads as it did. -/
def deskKeepsSpec : ChangeSpec := { name := "deskKeeps", fn := fun _ => fun
  | [d1, d2, d3, d4, d5, d6] => { results := [.lit (.bool true)], args := [d1, d2, d3, d4, d5, d6] }
  | _ => none }
def deskKeepsRow : OpenClaim := { program := "ytpmllihgejohcaagreatdoor", sum := "aa125966a1ba318cb76eaa0c3abe12db09bbba1e996f199d41e203f466ea19a5", func := "chamberlain/chamberlainlaw12.DeskKeeps", spec := "deskKeeps", unfollowed := true, recurses := true, named := ["chamberlain/msg.has"], apart := false, laid := [("chamberlain/msg.has", laid_chamberlain_msg_has)] }
def DeskKeepsSaid : Prop := deskKeepsRow.holds Tryz.pinned (OpenSpec.ofChange deskKeepsSpec)

/-- ITS FALSE NEIGHBOUR: 'it returns false'. Refute it at one input. -/
def deskKeepsWrong : ChangeSpec := { name := "deskKeeps", fn := fun _ => fun
  | [d1, d2, d3, d4, d5, d6] => { results := [.lit (.bool false)], args := [d1, d2, d3, d4, d5, d6] }
  | _ => none }
def DeskKeepsWrongFalsely : Prop := deskKeepsRow.holds Tryz.pinned (OpenSpec.ofChange deskKeepsWrong)

/- THE SECOND FORM. 'bulk': how many values and letters a reading holds, each counted each time it is reached (what is shared counts as often as it is met; a slice's spare places count too). A statement '..UptoSaid' is the law's where the arguments, and the package variables that the reading takes, are together of bulk at most 1048576: NARROWER than '..Said'. Prove '..Said' where nothing that the law and all that it calls make is longer than what came in: it says more and counts as full. Else prove '..UptoSaid'. A law counts once. -/
mutual
def uptoBulk {H : Type} : DataW H → Nat
  | .lit (.string bytes) => bytes.length + 1
  | .lit _ => 1
  | .nil => 1
  | .ptr d => uptoBulk d + 1
  | .slice elems spare => uptoBulkAll elems + uptoBulkAll spare + 1
  | .agg parts => uptoBulkAll parts + 1
  | .iface _ d => uptoBulk d + 1
  | .map entries => uptoBulkEntries entries + 1
  | .held _ => 1
def uptoBulkAll {H : Type} : List (DataW H) → Nat
  | [] => 0
  | d :: r => uptoBulk d + uptoBulkAll r
def uptoBulkEntries {H : Type} : List (Lit × DataW H) → Nat
  | [] => 0
  | x :: r => uptoBulkEntry x + uptoBulkEntries r
def uptoBulkEntry {H : Type} : Lit × DataW H → Nat
  | (.string bytes, d) => bytes.length + uptoBulk d + 1
  | (_, d) => uptoBulk d + 1
 end
def uptoSmall : (H : Type) → List (DataW H) → Bool := fun _ ds => decide (uptoBulkAll ds ≤ 1048576)
def OpenSpec.upto (s : _root_.Go.ChangeSpec) : _root_.Go.OpenSpec := { _root_.Go.OpenSpec.ofChange s with cond := some uptoSmall }

/-- 'chamberlainlaw13.KsnGrants', WHERE WHAT IT READS IS OF BULK AT MOST 1048576: true; the input reads as it did. -/
def ksnGrantsUptoRow : OpenClaim := { program := "ytpmllihgejohcaagreatdoor", sum := "aa125966a1ba318cb76eaa0c3abe12db09bbba1e996f199d41e203f466ea19a5", func := "chamberlain/chamberlainlaw13.KsnGrants", spec := "ksnGrants", unfollowed := true, recurses := true, named := ["chamberlain/msg.has"], apart := false, laid := [("chamberlain/msg.has", laid_chamberlain_msg_has)], narrowed := true }
def KsnGrantsUptoSaid : Prop := ksnGrantsUptoRow.holds Tryz.pinned (OpenSpec.upto ksnGrantsSpec)

/-- 'chamberlainlaw13.KsnKeeps', WHERE WHAT IT READS IS OF BULK AT MOST 1048576: true; the input reads as it did. -/
def ksnKeepsUptoRow : OpenClaim := { program := "ytpmllihgejohcaagreatdoor", sum := "aa125966a1ba318cb76eaa0c3abe12db09bbba1e996f199d41e203f466ea19a5", func := "chamberlain/chamberlainlaw13.KsnKeeps", spec := "ksnKeeps", unfollowed := true, recurses := true, named := ["chamberlain/msg.has"], apart := false, laid := [("chamberlain/msg.has", laid_chamberlain_msg_has)], narrowed := true }
def KsnKeepsUptoSaid : Prop := ksnKeepsUptoRow.holds Tryz.pinned (OpenSpec.upto ksnKeepsSpec)

/-- 'chamberlainlaw14.KsoDoes', WHERE WHAT IT READS IS OF BULK AT MOST 1048576: true; the input reads as it did. -/
def ksoDoesUptoRow : OpenClaim := { program := "ytpmllihgejohcaagreatdoor", sum := "aa125966a1ba318cb76eaa0c3abe12db09bbba1e996f199d41e203f466ea19a5", func := "chamberlain/chamberlainlaw14.KsoDoes", spec := "ksoDoes", unfollowed := true, recurses := true, named := ["chamberlain/msg.has"], apart := false, laid := [("chamberlain/msg.has", laid_chamberlain_msg_has)], narrowed := true }
def KsoDoesUptoSaid : Prop := ksoDoesUptoRow.holds Tryz.pinned (OpenSpec.upto ksoDoesSpec)

/-- 'chamberlainlaw14.KsoKeeps', WHERE WHAT IT READS IS OF BULK AT MOST 1048576: true; the input reads as it did. -/
def ksoKeepsUptoRow : OpenClaim := { program := "ytpmllihgejohcaagreatdoor", sum := "aa125966a1ba318cb76eaa0c3abe12db09bbba1e996f199d41e203f466ea19a5", func := "chamberlain/chamberlainlaw14.KsoKeeps", spec := "ksoKeeps", unfollowed := true, recurses := true, named := ["chamberlain/msg.has"], apart := false, laid := [("chamberlain/msg.has", laid_chamberlain_msg_has)], narrowed := true }
def KsoKeepsUptoSaid : Prop := ksoKeepsUptoRow.holds Tryz.pinned (OpenSpec.upto ksoKeepsSpec)

/-- 'chamberlainlaw12.DeskSeals', WHERE WHAT IT READS IS OF BULK AT MOST 1048576: true; the input reads as it did. -/
def deskSealsUptoRow : OpenClaim := { program := "ytpmllihgejohcaagreatdoor", sum := "aa125966a1ba318cb76eaa0c3abe12db09bbba1e996f199d41e203f466ea19a5", func := "chamberlain/chamberlainlaw12.DeskSeals", spec := "deskSeals", unfollowed := true, recurses := true, named := ["chamberlain/msg.has"], apart := false, laid := [("chamberlain/msg.has", laid_chamberlain_msg_has)], narrowed := true }
def DeskSealsUptoSaid : Prop := deskSealsUptoRow.holds Tryz.pinned (OpenSpec.upto deskSealsSpec)

/-- 'chamberlainlaw12.DeskSends', WHERE WHAT IT READS IS OF BULK AT MOST 1048576: true; the input reads as it did. -/
def deskSendsUptoRow : OpenClaim := { program := "ytpmllihgejohcaagreatdoor", sum := "aa125966a1ba318cb76eaa0c3abe12db09bbba1e996f199d41e203f466ea19a5", func := "chamberlain/chamberlainlaw12.DeskSends", spec := "deskSends", unfollowed := true, recurses := true, named := ["chamberlain/msg.has"], apart := false, laid := [("chamberlain/msg.has", laid_chamberlain_msg_has)], narrowed := true }
def DeskSendsUptoSaid : Prop := deskSendsUptoRow.holds Tryz.pinned (OpenSpec.upto deskSendsSpec)

/-- 'chamberlainlaw12.DeskOpens', WHERE WHAT IT READS IS OF BULK AT MOST 1048576: true; the input reads as it did. -/
def deskOpensUptoRow : OpenClaim := { program := "ytpmllihgejohcaagreatdoor", sum := "aa125966a1ba318cb76eaa0c3abe12db09bbba1e996f199d41e203f466ea19a5", func := "chamberlain/chamberlainlaw12.DeskOpens", spec := "deskOpens", unfollowed := true, recurses := true, named := ["chamberlain/msg.has"], apart := false, laid := [("chamberlain/msg.has", laid_chamberlain_msg_has)], narrowed := true }
def DeskOpensUptoSaid : Prop := deskOpensUptoRow.holds Tryz.pinned (OpenSpec.upto deskOpensSpec)

/-- 'chamberlainlaw12.DeskSent', WHERE WHAT IT READS IS OF BULK AT MOST 1048576: true; the input reads as it did. -/
def deskSentUptoRow : OpenClaim := { program := "ytpmllihgejohcaagreatdoor", sum := "aa125966a1ba318cb76eaa0c3abe12db09bbba1e996f199d41e203f466ea19a5", func := "chamberlain/chamberlainlaw12.DeskSent", spec := "deskSent", unfollowed := true, recurses := true, named := ["chamberlain/msg.has"], apart := false, laid := [("chamberlain/msg.has", laid_chamberlain_msg_has)], narrowed := true }
def DeskSentUptoSaid : Prop := deskSentUptoRow.holds Tryz.pinned (OpenSpec.upto deskSentSpec)

/-- 'chamberlainlaw12.DeskKeeps', WHERE WHAT IT READS IS OF BULK AT MOST 1048576: true; the input reads as it did. -/
def deskKeepsUptoRow : OpenClaim := { program := "ytpmllihgejohcaagreatdoor", sum := "aa125966a1ba318cb76eaa0c3abe12db09bbba1e996f199d41e203f466ea19a5", func := "chamberlain/chamberlainlaw12.DeskKeeps", spec := "deskKeeps", unfollowed := true, recurses := true, named := ["chamberlain/msg.has"], apart := false, laid := [("chamberlain/msg.has", laid_chamberlain_msg_has)], narrowed := true }
def DeskKeepsUptoSaid : Prop := deskKeepsUptoRow.holds Tryz.pinned (OpenSpec.upto deskKeepsSpec)

end Rows
end Go.Proofs.YtpmllihgejohcaaGreatDoor
