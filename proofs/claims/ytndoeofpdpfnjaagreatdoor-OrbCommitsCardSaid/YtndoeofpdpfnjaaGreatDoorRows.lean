/-
  NARROWER THAN 'FOR EVERY INPUT', by the rows' own cells (each row's printed sentence says how): OraDoes: laid · OraStarts: laid · OraCommits: laid · OraKeeps: laid · DeskSeals: laid · DeskSends: laid · DeskOpens: laid · DeskSent: laid · DeskKeeps: laid · OrbFirsts: laid · OrbShares: laid · OrbCommits: laid · OrbKeeps: laid.
  DERIVED. THE GIVEN ROWS OF THIS SEAT. 13 by the template 'for every input the law returns true; each argument reads behind the call as it read before'; 0 by the template 'total and deterministic' (their statements: YtndoeofpdpfnjaaGreatDoorTotals.lean).
  GIVEN WITH THE SEED: the statements are not yours to turn. If you find one false, say at which input.
  Laid BY PROGRAM, IN A SANDBOX (cutbox-rows.mjs): the forced cells as the released guide's own fill.sh prints them over the translation f5b7dabab526979e… (all of the seat's roots in one cut). By AI agents, Wed Nov 11 2026. No macro, syntax, notation, axiom, sorry.
-/
import Derived.Test.YtndoeofpdpfnjaaGreatDoorChecked
import GoSem.Claim
import GoSem.ClaimJoined
import GoSem.ClaimMapViews
import Derived.JoinedTies
import Derived.KernelRfl
namespace Go.Proofs.YtndoeofpdpfnjaaGreatDoor
/- THE CELL 'sum', in the pinned program and in every row, IS THE sha256 OF THE DUMP (.gsa) THAT YtndoeofpdpfnjaaGreatDoorProg.lean LOADS. Nothing in Lean hashes anything: it is a label: what it is worth is what the hold of that sum in a sandbox is worth. -/
noncomputable def Tryz.pinned : Pinned := { name := "ytndoeofpdpfnjaagreatdoor", sum := "f5b7dabab526979e30698e4e33c2017104ea92e6f17a56d3faa71e9fab0c4db4", checked := Tryz.checked }
namespace Rows
def none {H : Type} : Left H := { results := [], args := [] }

/- WHAT THE LISTED PACKAGE-LEVEL VARIABLES READ AS WHEN THE CALL BEGINS. Each datum BY PROGRAM (the guide's laid-datum.mjs) off the statement by which the dump's own 'gosem.cut.vars' lays the variable. In a bare row this is a premise. The card (YtndoeofpdpfnjaaGreatDoorCards.lean) ties it to the program's text. -/
def laid_chamberlain_msg_has {H : Type} : DataW H := .agg [.lit (.int .u32 0), .lit (.int .u32 56), .lit (.int .u32 64), .lit (.int .u32 64), .lit (.int .u32 64), .lit (.int .u32 64), .lit (.int .u32 92), .lit (.int .u32 220), .lit (.int .u32 196), .lit (.int .u32 68)]

/-- 'chamberlainlaw17.OraDoes': WHATEVER THE INPUT: true; the input reads as it did. -/
def oraDoesSpec : ChangeSpec := { name := "oraDoes", fn := fun _ => fun
  | [d1, d2, d3, d4, d5] => { results := [.lit (.bool true)], args := [d1, d2, d3, d4, d5] }
  | _ => none }
def oraDoesRow : OpenClaim := { program := "ytndoeofpdpfnjaagreatdoor", sum := "f5b7dabab526979e30698e4e33c2017104ea92e6f17a56d3faa71e9fab0c4db4", func := "chamberlain/chamberlainlaw17.OraDoes", spec := "oraDoes", unfollowed := true, recurses := true, named := ["chamberlain/msg.has"], apart := false, laid := [("chamberlain/msg.has", laid_chamberlain_msg_has)] }
def OraDoesSaid : Prop := oraDoesRow.holds Tryz.pinned (OpenSpec.ofChange oraDoesSpec)

/-- ITS FALSE NEIGHBOUR: 'it returns false'. Refute it at one input. -/
def oraDoesWrong : ChangeSpec := { name := "oraDoes", fn := fun _ => fun
  | [d1, d2, d3, d4, d5] => { results := [.lit (.bool false)], args := [d1, d2, d3, d4, d5] }
  | _ => none }
def OraDoesWrongFalsely : Prop := oraDoesRow.holds Tryz.pinned (OpenSpec.ofChange oraDoesWrong)

/-- 'chamberlainlaw17.OraStarts': WHATEVER THE INPUT: true; the input reads as it did. -/
def oraStartsSpec : ChangeSpec := { name := "oraStarts", fn := fun _ => fun
  | [d1, d2, d3, d4] => { results := [.lit (.bool true)], args := [d1, d2, d3, d4] }
  | _ => none }
def oraStartsRow : OpenClaim := { program := "ytndoeofpdpfnjaagreatdoor", sum := "f5b7dabab526979e30698e4e33c2017104ea92e6f17a56d3faa71e9fab0c4db4", func := "chamberlain/chamberlainlaw17.OraStarts", spec := "oraStarts", unfollowed := true, recurses := true, named := ["chamberlain/msg.has"], apart := false, laid := [("chamberlain/msg.has", laid_chamberlain_msg_has)] }
def OraStartsSaid : Prop := oraStartsRow.holds Tryz.pinned (OpenSpec.ofChange oraStartsSpec)

/-- ITS FALSE NEIGHBOUR: 'it returns false'. Refute it at one input. -/
def oraStartsWrong : ChangeSpec := { name := "oraStarts", fn := fun _ => fun
  | [d1, d2, d3, d4] => { results := [.lit (.bool false)], args := [d1, d2, d3, d4] }
  | _ => none }
def OraStartsWrongFalsely : Prop := oraStartsRow.holds Tryz.pinned (OpenSpec.ofChange oraStartsWrong)

/-- 'chamberlainlaw17.OraCommits': WHATEVER THE INPUT: true; the input reads as it did. -/
def oraCommitsSpec : ChangeSpec := { name := "oraCommits", fn := fun _ => fun
  | [d1, d2, d3] => { results := [.lit (.bool true)], args := [d1, d2, d3] }
  | _ => none }
def oraCommitsRow : OpenClaim := { program := "ytndoeofpdpfnjaagreatdoor", sum := "f5b7dabab526979e30698e4e33c2017104ea92e6f17a56d3faa71e9fab0c4db4", func := "chamberlain/chamberlainlaw17.OraCommits", spec := "oraCommits", unfollowed := true, recurses := true, named := ["chamberlain/msg.has"], apart := false, laid := [("chamberlain/msg.has", laid_chamberlain_msg_has)] }
def OraCommitsSaid : Prop := oraCommitsRow.holds Tryz.pinned (OpenSpec.ofChange oraCommitsSpec)

/-- ITS FALSE NEIGHBOUR: 'it returns false'. Refute it at one input. -/
def oraCommitsWrong : ChangeSpec := { name := "oraCommits", fn := fun _ => fun
  | [d1, d2, d3] => { results := [.lit (.bool false)], args := [d1, d2, d3] }
  | _ => none }
def OraCommitsWrongFalsely : Prop := oraCommitsRow.holds Tryz.pinned (OpenSpec.ofChange oraCommitsWrong)

/-- 'chamberlainlaw17.OraKeeps': WHATEVER THE INPUT: true; the input reads as it did. -/
def oraKeepsSpec : ChangeSpec := { name := "oraKeeps", fn := fun _ => fun
  | [d1, d2, d3, d4, d5] => { results := [.lit (.bool true)], args := [d1, d2, d3, d4, d5] }
  | _ => none }
def oraKeepsRow : OpenClaim := { program := "ytndoeofpdpfnjaagreatdoor", sum := "f5b7dabab526979e30698e4e33c2017104ea92e6f17a56d3faa71e9fab0c4db4", func := "chamberlain/chamberlainlaw17.OraKeeps", spec := "oraKeeps", unfollowed := true, recurses := true, named := ["chamberlain/msg.has"], apart := false, laid := [("chamberlain/msg.has", laid_chamberlain_msg_has)] }
def OraKeepsSaid : Prop := oraKeepsRow.holds Tryz.pinned (OpenSpec.ofChange oraKeepsSpec)

/-- ITS FALSE NEIGHBOUR: 'it returns false'. Refute it at one input. -/
def oraKeepsWrong : ChangeSpec := { name := "oraKeeps", fn := fun _ => fun
  | [d1, d2, d3, d4, d5] => { results := [.lit (.bool false)], args := [d1, d2, d3, d4, d5] }
  | _ => none }
def OraKeepsWrongFalsely : Prop := oraKeepsRow.holds Tryz.pinned (OpenSpec.ofChange oraKeepsWrong)

/-- 'chamberlainlaw12.DeskSeals': WHATEVER THE INPUT: true; the input reads as it did. -/
def deskSealsSpec : ChangeSpec := { name := "deskSeals", fn := fun _ => fun
  | [d1, d2, d3, d4, d5] => { results := [.lit (.bool true)], args := [d1, d2, d3, d4, d5] }
  | _ => none }
def deskSealsRow : OpenClaim := { program := "ytndoeofpdpfnjaagreatdoor", sum := "f5b7dabab526979e30698e4e33c2017104ea92e6f17a56d3faa71e9fab0c4db4", func := "chamberlain/chamberlainlaw12.DeskSeals", spec := "deskSeals", unfollowed := true, recurses := true, named := ["chamberlain/msg.has"], apart := false, laid := [("chamberlain/msg.has", laid_chamberlain_msg_has)] }
def DeskSealsSaid : Prop := deskSealsRow.holds Tryz.pinned (OpenSpec.ofChange deskSealsSpec)

/-- ITS FALSE NEIGHBOUR: 'it returns false'. Refute it at one input. -/
def deskSealsWrong : ChangeSpec := { name := "deskSeals", fn := fun _ => fun
  | [d1, d2, d3, d4, d5] => { results := [.lit (.bool false)], args := [d1, d2, d3, d4, d5] }
  | _ => none }
def DeskSealsWrongFalsely : Prop := deskSealsRow.holds Tryz.pinned (OpenSpec.ofChange deskSealsWrong)

/-- 'chamberlainlaw12.DeskSends': WHATEVER THE INPUT: true; the input reads as it did. -/
def deskSendsSpec : ChangeSpec := { name := "deskSends", fn := fun _ => fun
  | [d1, d2, d3, d4, d5] => { results := [.lit (.bool true)], args := [d1, d2, d3, d4, d5] }
  | _ => none }
def deskSendsRow : OpenClaim := { program := "ytndoeofpdpfnjaagreatdoor", sum := "f5b7dabab526979e30698e4e33c2017104ea92e6f17a56d3faa71e9fab0c4db4", func := "chamberlain/chamberlainlaw12.DeskSends", spec := "deskSends", unfollowed := true, recurses := true, named := ["chamberlain/msg.has"], apart := false, laid := [("chamberlain/msg.has", laid_chamberlain_msg_has)] }
def DeskSendsSaid : Prop := deskSendsRow.holds Tryz.pinned (OpenSpec.ofChange deskSendsSpec)

/-- ITS FALSE NEIGHBOUR: 'it returns false'. Refute it at one input. -/
def deskSendsWrong : ChangeSpec := { name := "deskSends", fn := fun _ => fun
  | [d1, d2, d3, d4, d5] => { results := [.lit (.bool false)], args := [d1, d2, d3, d4, d5] }
  | _ => none }
def DeskSendsWrongFalsely : Prop := deskSendsRow.holds Tryz.pinned (OpenSpec.ofChange deskSendsWrong)

/-- 'chamberlainlaw12.DeskOpens': WHATEVER THE INPUT: true; the input reads as it did. -/
def deskOpensSpec : ChangeSpec := { name := "deskOpens", fn := fun _ => fun
  | [d1, d2, d3, d4, d5, d6, d7] => { results := [.lit (.bool true)], args := [d1, d2, d3, d4, d5, d6, d7] }
  | _ => none }
def deskOpensRow : OpenClaim := { program := "ytndoeofpdpfnjaagreatdoor", sum := "f5b7dabab526979e30698e4e33c2017104ea92e6f17a56d3faa71e9fab0c4db4", func := "chamberlain/chamberlainlaw12.DeskOpens", spec := "deskOpens", unfollowed := true, recurses := true, named := ["chamberlain/msg.has"], apart := false, laid := [("chamberlain/msg.has", laid_chamberlain_msg_has)] }
def DeskOpensSaid : Prop := deskOpensRow.holds Tryz.pinned (OpenSpec.ofChange deskOpensSpec)

/-- ITS FALSE NEIGHBOUR: 'it returns false'. Refute it at one input. -/
def deskOpensWrong : ChangeSpec := { name := "deskOpens", fn := fun _ => fun
  | [d1, d2, d3, d4, d5, d6, d7] => { results := [.lit (.bool false)], args := [d1, d2, d3, d4, d5, d6, d7] }
  | _ => none }
def DeskOpensWrongFalsely : Prop := deskOpensRow.holds Tryz.pinned (OpenSpec.ofChange deskOpensWrong)

/-- 'chamberlainlaw12.DeskSent': WHATEVER THE INPUT: true; the input reads as it did. -/
def deskSentSpec : ChangeSpec := { name := "deskSent", fn := fun _ => fun
  | [d1, d2, d3] => { results := [.lit (.bool true)], args := [d1, d2, d3] }
  | _ => none }
def deskSentRow : OpenClaim := { program := "ytndoeofpdpfnjaagreatdoor", sum := "f5b7dabab526979e30698e4e33c2017104ea92e6f17a56d3faa71e9fab0c4db4", func := "chamberlain/chamberlainlaw12.DeskSent", spec := "deskSent", unfollowed := true, recurses := true, named := ["chamberlain/msg.has"], apart := false, laid := [("chamberlain/msg.has", laid_chamberlain_msg_has)] }
def DeskSentSaid : Prop := deskSentRow.holds Tryz.pinned (OpenSpec.ofChange deskSentSpec)

/-- ITS FALSE NEIGHBOUR: 'it returns false'. Refute it at one input. -/
def deskSentWrong : ChangeSpec := { name := "deskSent", fn := fun _ => fun
  | [d1, d2, d3] => { results := [.lit (.bool false)], args := [d1, d2, d3] }
  | _ => none }
def DeskSentWrongFalsely : Prop := deskSentRow.holds Tryz.pinned (OpenSpec.ofChange deskSentWrong)

/-- 'chamberlainlaw12.DeskKeeps': WHATEVER THE INPUT: true; the input reads as it did. -/
def deskKeepsSpec : ChangeSpec := { name := "deskKeeps", fn := fun _ => fun
  | [d1, d2, d3, d4, d5, d6] => { results := [.lit (.bool true)], args := [d1, d2, d3, d4, d5, d6] }
  | _ => none }
def deskKeepsRow : OpenClaim := { program := "ytndoeofpdpfnjaagreatdoor", sum := "f5b7dabab526979e30698e4e33c2017104ea92e6f17a56d3faa71e9fab0c4db4", func := "chamberlain/chamberlainlaw12.DeskKeeps", spec := "deskKeeps", unfollowed := true, recurses := true, named := ["chamberlain/msg.has"], apart := false, laid := [("chamberlain/msg.has", laid_chamberlain_msg_has)] }
def DeskKeepsSaid : Prop := deskKeepsRow.holds Tryz.pinned (OpenSpec.ofChange deskKeepsSpec)

/-- ITS FALSE NEIGHBOUR: 'it returns false'. Refute it at one input. -/
def deskKeepsWrong : ChangeSpec := { name := "deskKeeps", fn := fun _ => fun
  | [d1, d2, d3, d4, d5, d6] => { results := [.lit (.bool false)], args := [d1, d2, d3, d4, d5, d6] }
  | _ => none }
def DeskKeepsWrongFalsely : Prop := deskKeepsRow.holds Tryz.pinned (OpenSpec.ofChange deskKeepsWrong)

/-- 'chamberlainlaw18.OrbFirsts': WHATEVER THE INPUT: true; the input reads as it did. -/
def orbFirstsSpec : ChangeSpec := { name := "orbFirsts", fn := fun _ => fun
  | [d1, d2, d3] => { results := [.lit (.bool true)], args := [d1, d2, d3] }
  | _ => none }
def orbFirstsRow : OpenClaim := { program := "ytndoeofpdpfnjaagreatdoor", sum := "f5b7dabab526979e30698e4e33c2017104ea92e6f17a56d3faa71e9fab0c4db4", func := "chamberlain/chamberlainlaw18.OrbFirsts", spec := "orbFirsts", unfollowed := true, recurses := true, named := ["chamberlain/msg.has"], apart := false, laid := [("chamberlain/msg.has", laid_chamberlain_msg_has)] }
def OrbFirstsSaid : Prop := orbFirstsRow.holds Tryz.pinned (OpenSpec.ofChange orbFirstsSpec)

/-- ITS FALSE NEIGHBOUR: 'it returns false'. Refute it at one input. -/
def orbFirstsWrong : ChangeSpec := { name := "orbFirsts", fn := fun _ => fun
  | [d1, d2, d3] => { results := [.lit (.bool false)], args := [d1, d2, d3] }
  | _ => none }
def OrbFirstsWrongFalsely : Prop := orbFirstsRow.holds Tryz.pinned (OpenSpec.ofChange orbFirstsWrong)

/-- 'chamberlainlaw18.OrbShares': WHATEVER THE INPUT: true; the input reads as it did. -/
def orbSharesSpec : ChangeSpec := { name := "orbShares", fn := fun _ => fun
  | [d1, d2, d3] => { results := [.lit (.bool true)], args := [d1, d2, d3] }
  | _ => none }
def orbSharesRow : OpenClaim := { program := "ytndoeofpdpfnjaagreatdoor", sum := "f5b7dabab526979e30698e4e33c2017104ea92e6f17a56d3faa71e9fab0c4db4", func := "chamberlain/chamberlainlaw18.OrbShares", spec := "orbShares", unfollowed := true, recurses := true, named := ["chamberlain/msg.has"], apart := false, laid := [("chamberlain/msg.has", laid_chamberlain_msg_has)] }
def OrbSharesSaid : Prop := orbSharesRow.holds Tryz.pinned (OpenSpec.ofChange orbSharesSpec)

/-- ITS FALSE NEIGHBOUR: 'it returns false'. Refute it at one input. -/
def orbSharesWrong : ChangeSpec := { name := "orbShares", fn := fun _ => fun
  | [d1, d2, d3] => { results := [.lit (.bool false)], args := [d1, d2, d3] }
  | _ => none }
def OrbSharesWrongFalsely : Prop := orbSharesRow.holds Tryz.pinned (OpenSpec.ofChange orbSharesWrong)

/-- 'chamberlainlaw18.OrbCommits': WHATEVER THE INPUT: true; the input reads as it did. -/
def orbCommitsSpec : ChangeSpec := { name := "orbCommits", fn := fun _ => fun
  | [d1, d2, d3] => { results := [.lit (.bool true)], args := [d1, d2, d3] }
  | _ => none }
def orbCommitsRow : OpenClaim := { program := "ytndoeofpdpfnjaagreatdoor", sum := "f5b7dabab526979e30698e4e33c2017104ea92e6f17a56d3faa71e9fab0c4db4", func := "chamberlain/chamberlainlaw18.OrbCommits", spec := "orbCommits", unfollowed := true, recurses := true, named := ["chamberlain/msg.has"], apart := false, laid := [("chamberlain/msg.has", laid_chamberlain_msg_has)] }
def OrbCommitsSaid : Prop := orbCommitsRow.holds Tryz.pinned (OpenSpec.ofChange orbCommitsSpec)

/-- ITS FALSE NEIGHBOUR: 'it returns false'. Refute it at one input. -/
def orbCommitsWrong : ChangeSpec := { name := "orbCommits", fn := fun _ => fun
  | [d1, d2, d3] => { results := [.lit (.bool false)], args := [d1, d2, d3] }
  | _ => none }
def OrbCommitsWrongFalsely : Prop := orbCommitsRow.holds Tryz.pinned (OpenSpec.ofChange orbCommitsWrong)

/-- 'chamberlainlaw18.OrbKeeps': WHATEVER THE INPUT: true; the input reads as it did. -/
def orbKeepsSpec : ChangeSpec := { name := "orbKeeps", fn := fun _ => fun
  | [d1, d2, d3] => { results := [.lit (.bool true)], args := [d1, d2, d3] }
  | _ => none }
def orbKeepsRow : OpenClaim := { program := "ytndoeofpdpfnjaagreatdoor", sum := "f5b7dabab526979e30698e4e33c2017104ea92e6f17a56d3faa71e9fab0c4db4", func := "chamberlain/chamberlainlaw18.OrbKeeps", spec := "orbKeeps", unfollowed := true, recurses := true, named := ["chamberlain/msg.has"], apart := false, laid := [("chamberlain/msg.has", laid_chamberlain_msg_has)] }
def OrbKeepsSaid : Prop := orbKeepsRow.holds Tryz.pinned (OpenSpec.ofChange orbKeepsSpec)

/-- ITS FALSE NEIGHBOUR: 'it returns false'. Refute it at one input. -/
def orbKeepsWrong : ChangeSpec := { name := "orbKeeps", fn := fun _ => fun
  | [d1, d2, d3] => { results := [.lit (.bool false)], args := [d1, d2, d3] }
  | _ => none }
def OrbKeepsWrongFalsely : Prop := orbKeepsRow.holds Tryz.pinned (OpenSpec.ofChange orbKeepsWrong)

/- THE SECOND FORM. 'bulk': how many values and letters a reading holds, each counted each time it is reached (what is shared counts as often as it is met; a slice's spare places count too). A statement '..UptoSaid' is the law's where the arguments, and the package variables that the reading takes, are together of bulk at most 1048576: NARROWER than '..Said'. Prove '..Said' where nothing that the law and all that it calls make is longer than what came in: it says more and counts as full. Else prove '..UptoSaid'. A law counts once. -/
mutual
def uptoBulk {H : Type} : DataW H → Nat
  | .lit (.string bytes) => bytes.length + 1
  | .lit _ => 1
  | .nil => 1
  | .ptr d => uptoBulk d + 1
  | .slice elems spare => uptoBulkAll elems + uptoBulkAll spare + 1
  | .agg parts => uptoBulkAll parts + 1
  | .iface _ d => uptoBulk d + 1
  | .map entries => uptoBulkEntries entries + 1
  | .held _ => 1
def uptoBulkAll {H : Type} : List (DataW H) → Nat
  | [] => 0
  | d :: r => uptoBulk d + uptoBulkAll r
def uptoBulkEntries {H : Type} : List (Lit × DataW H) → Nat
  | [] => 0
  | x :: r => uptoBulkEntry x + uptoBulkEntries r
def uptoBulkEntry {H : Type} : Lit × DataW H → Nat
  | (.string bytes, d) => bytes.length + uptoBulk d + 1
  | (_, d) => uptoBulk d + 1
 end
def uptoSmall : (H : Type) → List (DataW H) → Bool := fun _ ds => decide (uptoBulkAll ds ≤ 1048576)
def OpenSpec.upto (s : _root_.Go.ChangeSpec) : _root_.Go.OpenSpec := { _root_.Go.OpenSpec.ofChange s with cond := some uptoSmall }

/-- 'chamberlainlaw17.OraDoes', WHERE WHAT IT READS IS OF BULK AT MOST 1048576: true; the input reads as it did. -/
def oraDoesUptoRow : OpenClaim := { program := "ytndoeofpdpfnjaagreatdoor", sum := "f5b7dabab526979e30698e4e33c2017104ea92e6f17a56d3faa71e9fab0c4db4", func := "chamberlain/chamberlainlaw17.OraDoes", spec := "oraDoes", unfollowed := true, recurses := true, named := ["chamberlain/msg.has"], apart := false, laid := [("chamberlain/msg.has", laid_chamberlain_msg_has)], narrowed := true }
def OraDoesUptoSaid : Prop := oraDoesUptoRow.holds Tryz.pinned (OpenSpec.upto oraDoesSpec)

/-- 'chamberlainlaw17.OraStarts', WHERE WHAT IT READS IS OF BULK AT MOST 1048576: true; the input reads as it did. -/
def oraStartsUptoRow : OpenClaim := { program := "ytndoeofpdpfnjaagreatdoor", sum := "f5b7dabab526979e30698e4e33c2017104ea92e6f17a56d3faa71e9fab0c4db4", func := "chamberlain/chamberlainlaw17.OraStarts", spec := "oraStarts", unfollowed := true, recurses := true, named := ["chamberlain/msg.has"], apart := false, laid := [("chamberlain/msg.has", laid_chamberlain_msg_has)], narrowed := true }
def OraStartsUptoSaid : Prop := oraStartsUptoRow.holds Tryz.pinned (OpenSpec.upto oraStartsSpec)

/-- 'chamberlainlaw17.OraCommits', WHERE WHAT IT READS IS OF BULK AT MOST 1048576: true; the input reads as it did. -/
def oraCommitsUptoRow : OpenClaim := { program := "ytndoeofpdpfnjaagreatdoor", sum := "f5b7dabab526979e30698e4e33c2017104ea92e6f17a56d3faa71e9fab0c4db4", func := "chamberlain/chamberlainlaw17.OraCommits", spec := "oraCommits", unfollowed := true, recurses := true, named := ["chamberlain/msg.has"], apart := false, laid := [("chamberlain/msg.has", laid_chamberlain_msg_has)], narrowed := true }
def OraCommitsUptoSaid : Prop := oraCommitsUptoRow.holds Tryz.pinned (OpenSpec.upto oraCommitsSpec)

/-- 'chamberlainlaw17.OraKeeps', WHERE WHAT IT READS IS OF BULK AT MOST 1048576: true; the input reads as it did. -/
def oraKeepsUptoRow : OpenClaim := { program := "ytndoeofpdpfnjaagreatdoor", sum := "f5b7dabab526979e30698e4e33c2017104ea92e6f17a56d3faa71e9fab0c4db4", func := "chamberlain/chamberlainlaw17.OraKeeps", spec := "oraKeeps", unfollowed := true, recurses := true, named := ["chamberlain/msg.has"], apart := false, laid := [("chamberlain/msg.has", laid_chamberlain_msg_has)], narrowed := true }
def OraKeepsUptoSaid : Prop := oraKeepsUptoRow.holds Tryz.pinned (OpenSpec.upto oraKeepsSpec)

/-- 'chamberlainlaw12.DeskSeals', WHERE WHAT IT READS IS OF BULK AT MOST 1048576: true; the input reads as it did. -/
def deskSealsUptoRow : OpenClaim := { program := "ytndoeofpdpfnjaagreatdoor", sum := "f5b7dabab526979e30698e4e33c2017104ea92e6f17a56d3faa71e9fab0c4db4", func := "chamberlain/chamberlainlaw12.DeskSeals", spec := "deskSeals", unfollowed := true, recurses := true, named := ["chamberlain/msg.has"], apart := false, laid := [("chamberlain/msg.has", laid_chamberlain_msg_has)], narrowed := true }
def DeskSealsUptoSaid : Prop := deskSealsUptoRow.holds Tryz.pinned (OpenSpec.upto deskSealsSpec)

/-- 'chamberlainlaw12.DeskSends', WHERE WHAT IT READS IS OF BULK AT MOST 1048576: true; the input reads as it did. -/
def deskSendsUptoRow : OpenClaim := { program := "ytndoeofpdpfnjaagreatdoor", sum := "f5b7dabab526979e30698e4e33c2017104ea92e6f17a56d3faa71e9fab0c4db4", func := "chamberlain/chamberlainlaw12.DeskSends", spec := "deskSends", unfollowed := true, recurses := true, named := ["chamberlain/msg.has"], apart := false, laid := [("chamberlain/msg.has", laid_chamberlain_msg_has)], narrowed := true }
def DeskSendsUptoSaid : Prop := deskSendsUptoRow.holds Tryz.pinned (OpenSpec.upto deskSendsSpec)

/-- 'chamberlainlaw12.DeskOpens', WHERE WHAT IT READS IS OF BULK AT MOST 1048576: true; the input reads as it did. -/
def deskOpensUptoRow : OpenClaim := { program := "ytndoeofpdpfnjaagreatdoor", sum := "f5b7dabab526979e30698e4e33c2017104ea92e6f17a56d3faa71e9fab0c4db4", func := "chamberlain/chamberlainlaw12.DeskOpens", spec := "deskOpens", unfollowed := true, recurses := true, named := ["chamberlain/msg.has"], apart := false, laid := [("chamberlain/msg.has", laid_chamberlain_msg_has)], narrowed := true }
def DeskOpensUptoSaid : Prop := deskOpensUptoRow.holds Tryz.pinned (OpenSpec.upto deskOpensSpec)

/-- 'chamberlainlaw12.DeskSent', WHERE WHAT IT READS IS OF BULK AT MOST 1048576: true; the input reads as it did. -/
def deskSentUptoRow : OpenClaim := { program := "ytndoeofpdpfnjaagreatdoor", sum := "f5b7dabab526979e30698e4e33c2017104ea92e6f17a56d3faa71e9fab0c4db4", func := "chamberlain/chamberlainlaw12.DeskSent", spec := "deskSent", unfollowed := true, recurses := true, named := ["chamberlain/msg.has"], apart := false, laid := [("chamberlain/msg.has", laid_chamberlain_msg_has)], narrowed := true }
def DeskSentUptoSaid : Prop := deskSentUptoRow.holds Tryz.pinned (OpenSpec.upto deskSentSpec)

/-- 'chamberlainlaw12.DeskKeeps', WHERE WHAT IT READS IS OF BULK AT MOST 1048576: true; the input reads as it did. -/
def deskKeepsUptoRow : OpenClaim := { program := "ytndoeofpdpfnjaagreatdoor", sum := "f5b7dabab526979e30698e4e33c2017104ea92e6f17a56d3faa71e9fab0c4db4", func := "chamberlain/chamberlainlaw12.DeskKeeps", spec := "deskKeeps", unfollowed := true, recurses := true, named := ["chamberlain/msg.has"], apart := false, laid := [("chamberlain/msg.has", laid_chamberlain_msg_has)], narrowed := true }
def DeskKeepsUptoSaid : Prop := deskKeepsUptoRow.holds Tryz.pinned (OpenSpec.upto deskKeepsSpec)

/-- 'chamberlainlaw18.OrbFirsts', WHERE WHAT IT READS IS OF BULK AT MOST 1048576: true; the input reads as it did. -/
def orbFirstsUptoRow : OpenClaim := { program := "ytndoeofpdpfnjaagreatdoor", sum := "f5b7dabab526979e30698e4e33c2017104ea92e6f17a56d3faa71e9fab0c4db4", func := "chamberlain/chamberlainlaw18.OrbFirsts", spec := "orbFirsts", unfollowed := true, recurses := true, named := ["chamberlain/msg.has"], apart := false, laid := [("chamberlain/msg.has", laid_chamberlain_msg_has)], narrowed := true }
def OrbFirstsUptoSaid : Prop := orbFirstsUptoRow.holds Tryz.pinned (OpenSpec.upto orbFirstsSpec)

/-- 'chamberlainlaw18.OrbShares', WHERE WHAT IT READS IS OF BULK AT MOST 1048576: true; the input reads as it did. -/
def orbSharesUptoRow : OpenClaim := { program := "ytndoeofpdpfnjaagreatdoor", sum := "f5b7dabab526979e30698e4e33c2017104ea92e6f17a56d3faa71e9fab0c4db4", func := "chamberlain/chamberlainlaw18.OrbShares", spec := "orbShares", unfollowed := true, recurses := true, named := ["chamberlain/msg.has"], apart := false, laid := [("chamberlain/msg.has", laid_chamberlain_msg_has)], narrowed := true }
def OrbSharesUptoSaid : Prop := orbSharesUptoRow.holds Tryz.pinned (OpenSpec.upto orbSharesSpec)

/-- 'chamberlainlaw18.OrbCommits', WHERE WHAT IT READS IS OF BULK AT MOST 1048576: true; the input reads as it did. -/
def orbCommitsUptoRow : OpenClaim := { program := "ytndoeofpdpfnjaagreatdoor", sum := "f5b7dabab526979e30698e4e33c2017104ea92e6f17a56d3faa71e9fab0c4db4", func := "chamberlain/chamberlainlaw18.OrbCommits", spec := "orbCommits", unfollowed := true, recurses := true, named := ["chamberlain/msg.has"], apart := false, laid := [("chamberlain/msg.has", laid_chamberlain_msg_has)], narrowed := true }
def OrbCommitsUptoSaid : Prop := orbCommitsUptoRow.holds Tryz.pinned (OpenSpec.upto orbCommitsSpec)

/-- 'chamberlainlaw18.OrbKeeps', WHERE WHAT IT READS IS OF BULK AT MOST 1048576: true; the input reads as it did. -/
def orbKeepsUptoRow : OpenClaim := { program := "ytndoeofpdpfnjaagreatdoor", sum := "f5b7dabab526979e30698e4e33c2017104ea92e6f17a56d3faa71e9fab0c4db4", func := "chamberlain/chamberlainlaw18.OrbKeeps", spec := "orbKeeps", unfollowed := true, recurses := true, named := ["chamberlain/msg.has"], apart := false, laid := [("chamberlain/msg.has", laid_chamberlain_msg_has)], narrowed := true }
def OrbKeepsUptoSaid : Prop := orbKeepsUptoRow.holds Tryz.pinned (OpenSpec.upto orbKeepsSpec)

end Rows
end Go.Proofs.YtndoeofpdpfnjaaGreatDoor
