/-
  NARROWER THAN 'FOR EVERY INPUT', by the rows' own cells (each row's printed sentence says how): NsbTickets: laid · NsbBacks: laid · NsbCommits: laid · NsbKeeps: laid · NsaStarts: laid · NsaGrants: laid · NsaEchoes: laid · NsaWaits: laid · NsaKeeps: laid · PostDelivers: laid · PostRefuses: laid · PostTags: laid · PostKeeps: laid.
  DERIVED. THE GIVEN ROWS OF THIS SEAT. 13 by the template 'for every input the law returns true; each argument reads behind the call as it read before'; 0 by the template 'total and deterministic' (their statements: YtmgphjfpccddiaaGreatDoorTotals.lean).
  GIVEN WITH THE SEED: the statements are not yours to turn. If you find one false, say at which input.
  Laid BY PROGRAM, IN A SANDBOX (cutbox-rows.mjs): the forced cells as the released guide's own fill.sh prints them over the translation e6afca544a5ac235… (all of the seat's roots in one cut). By AI agents, Wed Nov 11 2026. No macro, syntax, notation, axiom, sorry.
-/
import Derived.Test.YtmgphjfpccddiaaGreatDoorChecked
import GoSem.Claim
import GoSem.ClaimJoined
import GoSem.ClaimMapViews
import Derived.JoinedTies
import Derived.KernelRfl
namespace Go.Proofs.YtmgphjfpccddiaaGreatDoor
/- THE CELL 'sum', in the pinned program and in every row, IS THE sha256 OF THE DUMP (.gsa) THAT YtmgphjfpccddiaaGreatDoorProg.lean LOADS. Nothing in Lean hashes anything: it is a label: what it is worth is what the hold of that sum in a sandbox is worth. -/
noncomputable def Tryz.pinned : Pinned := { name := "ytmgphjfpccddiaagreatdoor", sum := "e6afca544a5ac23502fcb1be9d5959fed3d279d6f9dd70db96746b6801f6268d", checked := Tryz.checked }
namespace Rows
def none {H : Type} : Left H := { results := [], args := [] }

/- WHAT THE LISTED PACKAGE-LEVEL VARIABLES READ AS WHEN THE CALL BEGINS. Each datum BY PROGRAM (the guide's laid-datum.mjs) off the statement by which the dump's own 'gosem.cut.vars' lays the variable. In a bare row this is a premise. The card (YtmgphjfpccddiaaGreatDoorCards.lean) ties it to the program's text. -/
def laid_chamberlain_msg_has {H : Type} : DataW H := .agg [.lit (.int .u32 0), .lit (.int .u32 56), .lit (.int .u32 64), .lit (.int .u32 64), .lit (.int .u32 64), .lit (.int .u32 64), .lit (.int .u32 92), .lit (.int .u32 220), .lit (.int .u32 196), .lit (.int .u32 68)]

/-- 'chamberlainlaw16.NsbTickets': WHATEVER THE INPUT: true; the input reads as it did. -/
def nsbTicketsSpec : ChangeSpec := { name := "nsbTickets", fn := fun _ => fun
  | [d1, d2, d3] => { results := [.lit (.bool true)], args := [d1, d2, d3] }
  | _ => none }
def nsbTicketsRow : OpenClaim := { program := "ytmgphjfpccddiaagreatdoor", sum := "e6afca544a5ac23502fcb1be9d5959fed3d279d6f9dd70db96746b6801f6268d", func := "chamberlain/chamberlainlaw16.NsbTickets", spec := "nsbTickets", unfollowed := true, recurses := true, named := ["chamberlain/msg.has"], apart := false, laid := [("chamberlain/msg.has", laid_chamberlain_msg_has)] }
def NsbTicketsSaid : Prop := nsbTicketsRow.holds Tryz.pinned (OpenSpec.ofChange nsbTicketsSpec)

/-- ITS FALSE NEIGHBOUR: 'it returns false'. Refute it at one input. -/
def nsbTicketsWrong : ChangeSpec := { name := "nsbTickets", fn := fun _ => fun
  | [d1, d2, d3] => { results := [.lit (.bool false)], args := [d1, d2, d3] }
  | _ => none }
def NsbTicketsWrongFalsely : Prop := nsbTicketsRow.holds Tryz.pinned (OpenSpec.ofChange nsbTicketsWrong)

/-- 'chamberlainlaw16.NsbBacks': WHATEVER THE INPUT: true; the input reads as it did. -/
def nsbBacksSpec : ChangeSpec := { name := "nsbBacks", fn := fun _ => fun
  | [d1, d2, d3] => { results := [.lit (.bool true)], args := [d1, d2, d3] }
  | _ => none }
def nsbBacksRow : OpenClaim := { program := "ytmgphjfpccddiaagreatdoor", sum := "e6afca544a5ac23502fcb1be9d5959fed3d279d6f9dd70db96746b6801f6268d", func := "chamberlain/chamberlainlaw16.NsbBacks", spec := "nsbBacks", unfollowed := true, recurses := true, named := ["chamberlain/msg.has"], apart := false, laid := [("chamberlain/msg.has", laid_chamberlain_msg_has)] }
def NsbBacksSaid : Prop := nsbBacksRow.holds Tryz.pinned (OpenSpec.ofChange nsbBacksSpec)

/-- ITS FALSE NEIGHBOUR: 'it returns false'. Refute it at one input. -/
def nsbBacksWrong : ChangeSpec := { name := "nsbBacks", fn := fun _ => fun
  | [d1, d2, d3] => { results := [.lit (.bool false)], args := [d1, d2, d3] }
  | _ => none }
def NsbBacksWrongFalsely : Prop := nsbBacksRow.holds Tryz.pinned (OpenSpec.ofChange nsbBacksWrong)

/-- 'chamberlainlaw16.NsbCommits': WHATEVER THE INPUT: true; the input reads as it did. -/
def nsbCommitsSpec : ChangeSpec := { name := "nsbCommits", fn := fun _ => fun
  | [d1, d2, d3] => { results := [.lit (.bool true)], args := [d1, d2, d3] }
  | _ => none }
def nsbCommitsRow : OpenClaim := { program := "ytmgphjfpccddiaagreatdoor", sum := "e6afca544a5ac23502fcb1be9d5959fed3d279d6f9dd70db96746b6801f6268d", func := "chamberlain/chamberlainlaw16.NsbCommits", spec := "nsbCommits", unfollowed := true, recurses := true, named := ["chamberlain/msg.has"], apart := false, laid := [("chamberlain/msg.has", laid_chamberlain_msg_has)] }
def NsbCommitsSaid : Prop := nsbCommitsRow.holds Tryz.pinned (OpenSpec.ofChange nsbCommitsSpec)

/-- ITS FALSE NEIGHBOUR: 'it returns false'. Refute it at one input. -/
def nsbCommitsWrong : ChangeSpec := { name := "nsbCommits", fn := fun _ => fun
  | [d1, d2, d3] => { results := [.lit (.bool false)], args := [d1, d2, d3] }
  | _ => none }
def NsbCommitsWrongFalsely : Prop := nsbCommitsRow.holds Tryz.pinned (OpenSpec.ofChange nsbCommitsWrong)

/-- 'chamberlainlaw16.NsbKeeps': WHATEVER THE INPUT: true; the input reads as it did. -/
def nsbKeepsSpec : ChangeSpec := { name := "nsbKeeps", fn := fun _ => fun
  | [d1, d2, d3] => { results := [.lit (.bool true)], args := [d1, d2, d3] }
  | _ => none }
def nsbKeepsRow : OpenClaim := { program := "ytmgphjfpccddiaagreatdoor", sum := "e6afca544a5ac23502fcb1be9d5959fed3d279d6f9dd70db96746b6801f6268d", func := "chamberlain/chamberlainlaw16.NsbKeeps", spec := "nsbKeeps", unfollowed := true, recurses := true, named := ["chamberlain/msg.has"], apart := false, laid := [("chamberlain/msg.has", laid_chamberlain_msg_has)] }
def NsbKeepsSaid : Prop := nsbKeepsRow.holds Tryz.pinned (OpenSpec.ofChange nsbKeepsSpec)

/-- ITS FALSE NEIGHBOUR: 'it returns false'. Refute it at one input. -/
def nsbKeepsWrong : ChangeSpec := { name := "nsbKeeps", fn := fun _ => fun
  | [d1, d2, d3] => { results := [.lit (.bool false)], args := [d1, d2, d3] }
  | _ => none }
def NsbKeepsWrongFalsely : Prop := nsbKeepsRow.holds Tryz.pinned (OpenSpec.ofChange nsbKeepsWrong)

/-- 'chamberlainlaw15.NsaStarts': WHATEVER THE INPUT: true; the input reads as it did. -/
def nsaStartsSpec : ChangeSpec := { name := "nsaStarts", fn := fun _ => fun
  | [d1, d2, d3] => { results := [.lit (.bool true)], args := [d1, d2, d3] }
  | _ => none }
def nsaStartsRow : OpenClaim := { program := "ytmgphjfpccddiaagreatdoor", sum := "e6afca544a5ac23502fcb1be9d5959fed3d279d6f9dd70db96746b6801f6268d", func := "chamberlain/chamberlainlaw15.NsaStarts", spec := "nsaStarts", unfollowed := true, recurses := true, named := ["chamberlain/msg.has"], apart := false, laid := [("chamberlain/msg.has", laid_chamberlain_msg_has)] }
def NsaStartsSaid : Prop := nsaStartsRow.holds Tryz.pinned (OpenSpec.ofChange nsaStartsSpec)

/-- ITS FALSE NEIGHBOUR: 'it returns false'. Refute it at one input. -/
def nsaStartsWrong : ChangeSpec := { name := "nsaStarts", fn := fun _ => fun
  | [d1, d2, d3] => { results := [.lit (.bool false)], args := [d1, d2, d3] }
  | _ => none }
def NsaStartsWrongFalsely : Prop := nsaStartsRow.holds Tryz.pinned (OpenSpec.ofChange nsaStartsWrong)

/-- 'chamberlainlaw15.NsaGrants': WHATEVER THE INPUT: true; the input reads as it did. -/
def nsaGrantsSpec : ChangeSpec := { name := "nsaGrants", fn := fun _ => fun
  | [d1, d2, d3] => { results := [.lit (.bool true)], args := [d1, d2, d3] }
  | _ => none }
def nsaGrantsRow : OpenClaim := { program := "ytmgphjfpccddiaagreatdoor", sum := "e6afca544a5ac23502fcb1be9d5959fed3d279d6f9dd70db96746b6801f6268d", func := "chamberlain/chamberlainlaw15.NsaGrants", spec := "nsaGrants", unfollowed := true, recurses := true, named := ["chamberlain/msg.has"], apart := false, laid := [("chamberlain/msg.has", laid_chamberlain_msg_has)] }
def NsaGrantsSaid : Prop := nsaGrantsRow.holds Tryz.pinned (OpenSpec.ofChange nsaGrantsSpec)

/-- ITS FALSE NEIGHBOUR: 'it returns false'. Refute it at one input. -/
def nsaGrantsWrong : ChangeSpec := { name := "nsaGrants", fn := fun _ => fun
  | [d1, d2, d3] => { results := [.lit (.bool false)], args := [d1, d2, d3] }
  | _ => none }
def NsaGrantsWrongFalsely : Prop := nsaGrantsRow.holds Tryz.pinned (OpenSpec.ofChange nsaGrantsWrong)

/-- 'chamberlainlaw15.NsaEchoes': WHATEVER THE INPUT: true; the input reads as it did. -/
def nsaEchoesSpec : ChangeSpec := { name := "nsaEchoes", fn := fun _ => fun
  | [d1, d2, d3] => { results := [.lit (.bool true)], args := [d1, d2, d3] }
  | _ => none }
def nsaEchoesRow : OpenClaim := { program := "ytmgphjfpccddiaagreatdoor", sum := "e6afca544a5ac23502fcb1be9d5959fed3d279d6f9dd70db96746b6801f6268d", func := "chamberlain/chamberlainlaw15.NsaEchoes", spec := "nsaEchoes", unfollowed := true, recurses := true, named := ["chamberlain/msg.has"], apart := false, laid := [("chamberlain/msg.has", laid_chamberlain_msg_has)] }
def NsaEchoesSaid : Prop := nsaEchoesRow.holds Tryz.pinned (OpenSpec.ofChange nsaEchoesSpec)

/-- ITS FALSE NEIGHBOUR: 'it returns false'. Refute it at one input. -/
def nsaEchoesWrong : ChangeSpec := { name := "nsaEchoes", fn := fun _ => fun
  | [d1, d2, d3] => { results := [.lit (.bool false)], args := [d1, d2, d3] }
  | _ => none }
def NsaEchoesWrongFalsely : Prop := nsaEchoesRow.holds Tryz.pinned (OpenSpec.ofChange nsaEchoesWrong)

/-- 'chamberlainlaw15.NsaWaits': WHATEVER THE INPUT: true; the input reads as it did. -/
def nsaWaitsSpec : ChangeSpec := { name := "nsaWaits", fn := fun _ => fun
  | [d1, d2, d3, d4, d5] => { results := [.lit (.bool true)], args := [d1, d2, d3, d4, d5] }
  | _ => none }
def nsaWaitsRow : OpenClaim := { program := "ytmgphjfpccddiaagreatdoor", sum := "e6afca544a5ac23502fcb1be9d5959fed3d279d6f9dd70db96746b6801f6268d", func := "chamberlain/chamberlainlaw15.NsaWaits", spec := "nsaWaits", unfollowed := true, recurses := true, named := ["chamberlain/msg.has"], apart := false, laid := [("chamberlain/msg.has", laid_chamberlain_msg_has)] }
def NsaWaitsSaid : Prop := nsaWaitsRow.holds Tryz.pinned (OpenSpec.ofChange nsaWaitsSpec)

/-- ITS FALSE NEIGHBOUR: 'it returns false'. Refute it at one input. -/
def nsaWaitsWrong : ChangeSpec := { name := "nsaWaits", fn := fun _ => fun
  | [d1, d2, d3, d4, d5] => { results := [.lit (.bool false)], args := [d1, d2, d3, d4, d5] }
  | _ => none }
def NsaWaitsWrongFalsely : Prop := nsaWaitsRow.holds Tryz.pinned (OpenSpec.ofChange nsaWaitsWrong)

/-- 'chamberlainlaw15.NsaKeeps': WHATEVER THE INPUT: true; the input reads as it did. -/
def nsaKeepsSpec : ChangeSpec := { name := "nsaKeeps", fn := fun _ => fun
  | [d1, d2, d3, d4, d5] => { results := [.lit (.bool true)], args := [d1, d2, d3, d4, d5] }
  | _ => none }
def nsaKeepsRow : OpenClaim := { program := "ytmgphjfpccddiaagreatdoor", sum := "e6afca544a5ac23502fcb1be9d5959fed3d279d6f9dd70db96746b6801f6268d", func := "chamberlain/chamberlainlaw15.NsaKeeps", spec := "nsaKeeps", unfollowed := true, recurses := true, named := ["chamberlain/msg.has"], apart := false, laid := [("chamberlain/msg.has", laid_chamberlain_msg_has)] }
def NsaKeepsSaid : Prop := nsaKeepsRow.holds Tryz.pinned (OpenSpec.ofChange nsaKeepsSpec)

/-- ITS FALSE NEIGHBOUR: 'it returns false'. Refute it at one input. -/
def nsaKeepsWrong : ChangeSpec := { name := "nsaKeeps", fn := fun _ => fun
  | [d1, d2, d3, d4, d5] => { results := [.lit (.bool false)], args := [d1, d2, d3, d4, d5] }
  | _ => none }
def NsaKeepsWrongFalsely : Prop := nsaKeepsRow.holds Tryz.pinned (OpenSpec.ofChange nsaKeepsWrong)

/-- 'chamberlainlaw20.PostDelivers': WHATEVER THE INPUT: true; the input reads as it did. -/
def postDeliversSpec : ChangeSpec := { name := "postDelivers", fn := fun _ => fun
  | [d1, d2, d3] => { results := [.lit (.bool true)], args := [d1, d2, d3] }
  | _ => none }
def postDeliversRow : OpenClaim := { program := "ytmgphjfpccddiaagreatdoor", sum := "e6afca544a5ac23502fcb1be9d5959fed3d279d6f9dd70db96746b6801f6268d", func := "chamberlain/chamberlainlaw20.PostDelivers", spec := "postDelivers", unfollowed := true, recurses := true, named := ["chamberlain/msg.has"], apart := false, laid := [("chamberlain/msg.has", laid_chamberlain_msg_has)] }
def PostDeliversSaid : Prop := postDeliversRow.holds Tryz.pinned (OpenSpec.ofChange postDeliversSpec)

/-- ITS FALSE NEIGHBOUR: 'it returns false'. Refute it at one input. -/
def postDeliversWrong : ChangeSpec := { name := "postDelivers", fn := fun _ => fun
  | [d1, d2, d3] => { results := [.lit (.bool false)], args := [d1, d2, d3] }
  | _ => none }
def PostDeliversWrongFalsely : Prop := postDeliversRow.holds Tryz.pinned (OpenSpec.ofChange postDeliversWrong)

/-- 'chamberlainlaw20.PostRefuses': WHATEVER THE INPUT: true; the input reads as it did. -/
def postRefusesSpec : ChangeSpec := { name := "postRefuses", fn := fun _ => fun
  | [d1, d2, d3] => { results := [.lit (.bool true)], args := [d1, d2, d3] }
  | _ => none }
def postRefusesRow : OpenClaim := { program := "ytmgphjfpccddiaagreatdoor", sum := "e6afca544a5ac23502fcb1be9d5959fed3d279d6f9dd70db96746b6801f6268d", func := "chamberlain/chamberlainlaw20.PostRefuses", spec := "postRefuses", unfollowed := true, recurses := true, named := ["chamberlain/msg.has"], apart := false, laid := [("chamberlain/msg.has", laid_chamberlain_msg_has)] }
def PostRefusesSaid : Prop := postRefusesRow.holds Tryz.pinned (OpenSpec.ofChange postRefusesSpec)

/-- ITS FALSE NEIGHBOUR: 'it returns false'. Refute it at one input. -/
def postRefusesWrong : ChangeSpec := { name := "postRefuses", fn := fun _ => fun
  | [d1, d2, d3] => { results := [.lit (.bool false)], args := [d1, d2, d3] }
  | _ => none }
def PostRefusesWrongFalsely : Prop := postRefusesRow.holds Tryz.pinned (OpenSpec.ofChange postRefusesWrong)

/-- 'chamberlainlaw20.PostTags': WHATEVER THE INPUT: true; the input reads as it did. -/
def postTagsSpec : ChangeSpec := { name := "postTags", fn := fun _ => fun
  | [d1, d2, d3] => { results := [.lit (.bool true)], args := [d1, d2, d3] }
  | _ => none }
def postTagsRow : OpenClaim := { program := "ytmgphjfpccddiaagreatdoor", sum := "e6afca544a5ac23502fcb1be9d5959fed3d279d6f9dd70db96746b6801f6268d", func := "chamberlain/chamberlainlaw20.PostTags", spec := "postTags", unfollowed := true, recurses := true, named := ["chamberlain/msg.has"], apart := false, laid := [("chamberlain/msg.has", laid_chamberlain_msg_has)] }
def PostTagsSaid : Prop := postTagsRow.holds Tryz.pinned (OpenSpec.ofChange postTagsSpec)

/-- ITS FALSE NEIGHBOUR: 'it returns false'. Refute it at one input. -/
def postTagsWrong : ChangeSpec := { name := "postTags", fn := fun _ => fun
  | [d1, d2, d3] => { results := [.lit (.bool false)], args := [d1, d2, d3] }
  | _ => none }
def PostTagsWrongFalsely : Prop := postTagsRow.holds Tryz.pinned (OpenSpec.ofChange postTagsWrong)

/-- 'chamberlainlaw20.PostKeeps': WHATEVER THE INPUT: true; the input reads as it did. -/
def postKeepsSpec : ChangeSpec := { name := "postKeeps", fn := fun _ => fun
  | [d1, d2, d3] => { results := [.lit (.bool true)], args := [d1, d2, d3] }
  | _ => none }
def postKeepsRow : OpenClaim := { program := "ytmgphjfpccddiaagreatdoor", sum := "e6afca544a5ac23502fcb1be9d5959fed3d279d6f9dd70db96746b6801f6268d", func := "chamberlain/chamberlainlaw20.PostKeeps", spec := "postKeeps", unfollowed := true, recurses := true, named := ["chamberlain/msg.has"], apart := false, laid := [("chamberlain/msg.has", laid_chamberlain_msg_has)] }
def PostKeepsSaid : Prop := postKeepsRow.holds Tryz.pinned (OpenSpec.ofChange postKeepsSpec)

/-- ITS FALSE NEIGHBOUR: 'it returns false'. Refute it at one input. -/
def postKeepsWrong : ChangeSpec := { name := "postKeeps", fn := fun _ => fun
  | [d1, d2, d3] => { results := [.lit (.bool false)], args := [d1, d2, d3] }
  | _ => none }
def PostKeepsWrongFalsely : Prop := postKeepsRow.holds Tryz.pinned (OpenSpec.ofChange postKeepsWrong)

/- THE SECOND FORM. 'bulk': how many values and letters a reading holds, each counted each time it is reached (what is shared counts as often as it is met; a slice's spare places count too). A statement '..UptoSaid' is the law's where the arguments, and the package variables that the reading takes, are together of bulk at most 1048576: NARROWER than '..Said'. Prove '..Said' where nothing that the law and all that it calls make is longer than what came in: it says more and counts as full. Else prove '..UptoSaid'. A law counts once. -/
mutual
def uptoBulk {H : Type} : DataW H → Nat
  | .lit (.string bytes) => bytes.length + 1
  | .lit _ => 1
  | .nil => 1
  | .ptr d => uptoBulk d + 1
  | .slice elems spare => uptoBulkAll elems + uptoBulkAll spare + 1
  | .agg parts => uptoBulkAll parts + 1
  | .iface _ d => uptoBulk d + 1
  | .map entries => uptoBulkEntries entries + 1
  | .held _ => 1
def uptoBulkAll {H : Type} : List (DataW H) → Nat
  | [] => 0
  | d :: r => uptoBulk d + uptoBulkAll r
def uptoBulkEntries {H : Type} : List (Lit × DataW H) → Nat
  | [] => 0
  | x :: r => uptoBulkEntry x + uptoBulkEntries r
def uptoBulkEntry {H : Type} : Lit × DataW H → Nat
  | (.string bytes, d) => bytes.length + uptoBulk d + 1
  | (_, d) => uptoBulk d + 1
 end
def uptoSmall : (H : Type) → List (DataW H) → Bool := fun _ ds => decide (uptoBulkAll ds ≤ 1048576)
def OpenSpec.upto (s : _root_.Go.ChangeSpec) : _root_.Go.OpenSpec := { _root_.Go.OpenSpec.ofChange s with cond := some uptoSmall }

/-- 'chamberlainlaw16.NsbTickets', WHERE WHAT IT READS IS OF BULK AT MOST 1048576: true; the input reads as it did. -/
def nsbTicketsUptoRow : OpenClaim := { program := "ytmgphjfpccddiaagreatdoor", sum := "e6afca544a5ac23502fcb1be9d5959fed3d279d6f9dd70db96746b6801f6268d", func := "chamberlain/chamberlainlaw16.NsbTickets", spec := "nsbTickets", unfollowed := true, recurses := true, named := ["chamberlain/msg.has"], apart := false, laid := [("chamberlain/msg.has", laid_chamberlain_msg_has)], narrowed := true }
def NsbTicketsUptoSaid : Prop := nsbTicketsUptoRow.holds Tryz.pinned (OpenSpec.upto nsbTicketsSpec)

/-- 'chamberlainlaw16.NsbBacks', WHERE WHAT IT READS IS OF BULK AT MOST 1048576: true; the input reads as it did. -/
def nsbBacksUptoRow : OpenClaim := { program := "ytmgphjfpccddiaagreatdoor", sum := "e6afca544a5ac23502fcb1be9d5959fed3d279d6f9dd70db96746b6801f6268d", func := "chamberlain/chamberlainlaw16.NsbBacks", spec := "nsbBacks", unfollowed := true, recurses := true, named := ["chamberlain/msg.has"], apart := false, laid := [("chamberlain/msg.has", laid_chamberlain_msg_has)], narrowed := true }
def NsbBacksUptoSaid : Prop := nsbBacksUptoRow.holds Tryz.pinned (OpenSpec.upto nsbBacksSpec)

/-- 'chamberlainlaw16.NsbCommits', WHERE WHAT IT READS IS OF BULK AT MOST 1048576: true; the input reads as it did. -/
def nsbCommitsUptoRow : OpenClaim := { program := "ytmgphjfpccddiaagreatdoor", sum := "e6afca544a5ac23502fcb1be9d5959fed3d279d6f9dd70db96746b6801f6268d", func := "chamberlain/chamberlainlaw16.NsbCommits", spec := "nsbCommits", unfollowed := true, recurses := true, named := ["chamberlain/msg.has"], apart := false, laid := [("chamberlain/msg.has", laid_chamberlain_msg_has)], narrowed := true }
def NsbCommitsUptoSaid : Prop := nsbCommitsUptoRow.holds Tryz.pinned (OpenSpec.upto nsbCommitsSpec)

/-- 'chamberlainlaw16.NsbKeeps', WHERE WHAT IT READS IS OF BULK AT MOST 1048576: true; the input reads as it did. -/
def nsbKeepsUptoRow : OpenClaim := { program := "ytmgphjfpccddiaagreatdoor", sum := "e6afca544a5ac23502fcb1be9d5959fed3d279d6f9dd70db96746b6801f6268d", func := "chamberlain/chamberlainlaw16.NsbKeeps", spec := "nsbKeeps", unfollowed := true, recurses := true, named := ["chamberlain/msg.has"], apart := false, laid := [("chamberlain/msg.has", laid_chamberlain_msg_has)], narrowed := true }
def NsbKeepsUptoSaid : Prop := nsbKeepsUptoRow.holds Tryz.pinned (OpenSpec.upto nsbKeepsSpec)

/-- 'chamberlainlaw15.NsaStarts', WHERE WHAT IT READS IS OF BULK AT MOST 1048576: true; the input reads as it did. -/
def nsaStartsUptoRow : OpenClaim := { program := "ytmgphjfpccddiaagreatdoor", sum := "e6afca544a5ac23502fcb1be9d5959fed3d279d6f9dd70db96746b6801f6268d", func := "chamberlain/chamberlainlaw15.NsaStarts", spec := "nsaStarts", unfollowed := true, recurses := true, named := ["chamberlain/msg.has"], apart := false, laid := [("chamberlain/msg.has", laid_chamberlain_msg_has)], narrowed := true }
def NsaStartsUptoSaid : Prop := nsaStartsUptoRow.holds Tryz.pinned (OpenSpec.upto nsaStartsSpec)

/-- 'chamberlainlaw15.NsaGrants', WHERE WHAT IT READS IS OF BULK AT MOST 1048576: true; the input reads as it did. -/
def nsaGrantsUptoRow : OpenClaim := { program := "ytmgphjfpccddiaagreatdoor", sum := "e6afca544a5ac23502fcb1be9d5959fed3d279d6f9dd70db96746b6801f6268d", func := "chamberlain/chamberlainlaw15.NsaGrants", spec := "nsaGrants", unfollowed := true, recurses := true, named := ["chamberlain/msg.has"], apart := false, laid := [("chamberlain/msg.has", laid_chamberlain_msg_has)], narrowed := true }
def NsaGrantsUptoSaid : Prop := nsaGrantsUptoRow.holds Tryz.pinned (OpenSpec.upto nsaGrantsSpec)

/-- 'chamberlainlaw15.NsaEchoes', WHERE WHAT IT READS IS OF BULK AT MOST 1048576: true; the input reads as it did. -/
def nsaEchoesUptoRow : OpenClaim := { program := "ytmgphjfpccddiaagreatdoor", sum := "e6afca544a5ac23502fcb1be9d5959fed3d279d6f9dd70db96746b6801f6268d", func := "chamberlain/chamberlainlaw15.NsaEchoes", spec := "nsaEchoes", unfollowed := true, recurses := true, named := ["chamberlain/msg.has"], apart := false, laid := [("chamberlain/msg.has", laid_chamberlain_msg_has)], narrowed := true }
def NsaEchoesUptoSaid : Prop := nsaEchoesUptoRow.holds Tryz.pinned (OpenSpec.upto nsaEchoesSpec)

/-- 'chamberlainlaw15.NsaWaits', WHERE WHAT IT READS IS OF BULK AT MOST 1048576: true; the input reads as it did. -/
def nsaWaitsUptoRow : OpenClaim := { program := "ytmgphjfpccddiaagreatdoor", sum := "e6afca544a5ac23502fcb1be9d5959fed3d279d6f9dd70db96746b6801f6268d", func := "chamberlain/chamberlainlaw15.NsaWaits", spec := "nsaWaits", unfollowed := true, recurses := true, named := ["chamberlain/msg.has"], apart := false, laid := [("chamberlain/msg.has", laid_chamberlain_msg_has)], narrowed := true }
def NsaWaitsUptoSaid : Prop := nsaWaitsUptoRow.holds Tryz.pinned (OpenSpec.upto nsaWaitsSpec)

/-- 'chamberlainlaw15.NsaKeeps', WHERE WHAT IT READS IS OF BULK AT MOST 1048576: true; the input reads as it did. -/
def nsaKeepsUptoRow : OpenClaim := { program := "ytmgphjfpccddiaagreatdoor", sum := "e6afca544a5ac23502fcb1be9d5959fed3d279d6f9dd70db96746b6801f6268d", func := "chamberlain/chamberlainlaw15.NsaKeeps", spec := "nsaKeeps", unfollowed := true, recurses := true, named := ["chamberlain/msg.has"], apart := false, laid := [("chamberlain/msg.has", laid_chamberlain_msg_has)], narrowed := true }
def NsaKeepsUptoSaid : Prop := nsaKeepsUptoRow.holds Tryz.pinned (OpenSpec.upto nsaKeepsSpec)

/-- 'chamberlainlaw20.PostDelivers', WHERE WHAT IT READS IS OF BULK AT MOST 1048576: true; the input reads as it did. -/
def postDeliversUptoRow : OpenClaim := { program := "ytmgphjfpccddiaagreatdoor", sum := "e6afca544a5ac23502fcb1be9d5959fed3d279d6f9dd70db96746b6801f6268d", func := "chamberlain/chamberlainlaw20.PostDelivers", spec := "postDelivers", unfollowed := true, recurses := true, named := ["chamberlain/msg.has"], apart := false, laid := [("chamberlain/msg.has", laid_chamberlain_msg_has)], narrowed := true }
def PostDeliversUptoSaid : Prop := postDeliversUptoRow.holds Tryz.pinned (OpenSpec.upto postDeliversSpec)

/-- 'chamberlainlaw20.PostRefuses', WHERE WHAT IT READS IS OF BULK AT MOST 1048576: true; the input reads as it did. -/
def postRefusesUptoRow : OpenClaim := { program := "ytmgphjfpccddiaagreatdoor", sum := "e6afca544a5ac23502fcb1be9d5959fed3d279d6f9dd70db96746b6801f6268d", func := "chamberlain/chamberlainlaw20.PostRefuses", spec := "postRefuses", unfollowed := true, recurses := true, named := ["chamberlain/msg.has"], apart := false, laid := [("chamberlain/msg.has", laid_chamberlain_msg_has)], narrowed := true }
def PostRefusesUptoSaid : Prop := postRefusesUptoRow.holds Tryz.pinned (OpenSpec.upto postRefusesSpec)

/-- 'chamberlainlaw20.PostTags', WHERE WHAT IT READS IS OF BULK AT MOST 1048576: true; the input reads as it did. -/
def postTagsUptoRow : OpenClaim := { program := "ytmgphjfpccddiaagreatdoor", sum := "e6afca544a5ac23502fcb1be9d5959fed3d279d6f9dd70db96746b6801f6268d", func := "chamberlain/chamberlainlaw20.PostTags", spec := "postTags", unfollowed := true, recurses := true, named := ["chamberlain/msg.has"], apart := false, laid := [("chamberlain/msg.has", laid_chamberlain_msg_has)], narrowed := true }
def PostTagsUptoSaid : Prop := postTagsUptoRow.holds Tryz.pinned (OpenSpec.upto postTagsSpec)

/-- 'chamberlainlaw20.PostKeeps', WHERE WHAT IT READS IS OF BULK AT MOST 1048576: true; the input reads as it did. -/
def postKeepsUptoRow : OpenClaim := { program := "ytmgphjfpccddiaagreatdoor", sum := "e6afca544a5ac23502fcb1be9d5959fed3d279d6f9dd70db96746b6801f6268d", func := "chamberlain/chamberlainlaw20.PostKeeps", spec := "postKeeps", unfollowed := true, recurses := true, named := ["chamberlain/msg.has"], apart := false, laid := [("chamberlain/msg.has", laid_chamberlain_msg_has)], narrowed := true }
def PostKeepsUptoSaid : Prop := postKeepsUptoRow.holds Tryz.pinned (OpenSpec.upto postKeepsSpec)

end Rows
end Go.Proofs.YtmgphjfpccddiaaGreatDoor
