/-
  NARROWER THAN 'FOR EVERY INPUT', by the rows' own cells (each row's printed sentence says how): WorldNews: laid · WorldSteps: laid · WorldRuns: laid · WorldKeeps: laid · WorldParts: laid · WorldOthers: laid · HonestExtends: laid · HonestEnds: laid · HonestKeeps: laid · HonestTwice: laid · HonestSecret: laid · KnowSecret: laid · KnowKeys: laid · TraceHolds: laid · TraceCommits: laid.
  DERIVED. THE GIVEN ROWS OF THIS SEAT. 15 by the template 'for every input the law returns true; each argument reads behind the call as it read before'; 0 by the template 'total and deterministic' (their statements: YtaebkmmjjabnaaaGreatDoorTotals.lean).
  GIVEN WITH THE SEED: the statements are not yours to turn. If you find one false, say at which input.
  Laid BY PROGRAM, IN A SANDBOX (cutbox-rows.mjs): the forced cells as the released guide's own fill.sh prints them over the translation 7de739d0b323d3eb… (all of the seat's roots in one cut). By AI agents, Wed Nov 11 2026. No macro, syntax, notation, axiom, sorry.
-/
import Derived.Test.YtaebkmmjjabnaaaGreatDoorChecked
import GoSem.Claim
import GoSem.ClaimJoined
import GoSem.ClaimMapViews
import Derived.JoinedTies
import Derived.KernelRfl
namespace Go.Proofs.YtaebkmmjjabnaaaGreatDoor
/- THE CELL 'sum', in the pinned program and in every row, IS THE sha256 OF THE DUMP (.gsa) THAT YtaebkmmjjabnaaaGreatDoorProg.lean LOADS. Nothing in Lean hashes anything: it is a label: what it is worth is what the hold of that sum in a sandbox is worth. -/
noncomputable def Tryz.pinned : Pinned := { name := "ytaebkmmjjabnaaagreatdoor", sum := "7de739d0b323d3eb2b5ee624baa8bccfdc67eb83312b127ed63959badab76adb", checked := Tryz.checked }
namespace Rows
def none {H : Type} : Left H := { results := [], args := [] }

/- WHAT THE LISTED PACKAGE-LEVEL VARIABLES READ AS WHEN THE CALL BEGINS. Each datum BY PROGRAM (the guide's laid-datum.mjs) off the statement by which the dump's own 'gosem.cut.vars' lays the variable. In a bare row this is a premise. The card (YtaebkmmjjabnaaaGreatDoorCards.lean) ties it to the program's text. -/
def laid_chamberlain_msg_has {H : Type} : DataW H := .agg [.lit (.int .u32 0), .lit (.int .u32 56), .lit (.int .u32 64), .lit (.int .u32 64), .lit (.int .u32 64), .lit (.int .u32 64), .lit (.int .u32 92), .lit (.int .u32 220), .lit (.int .u32 196), .lit (.int .u32 68)]

/-- 'chamberlainlaw22.WorldNews': WHATEVER THE INPUT: true; the input reads as it did. -/
def worldNewsSpec : ChangeSpec := { name := "worldNews", fn := fun _ => fun
  | [d1, d2] => { results := [.lit (.bool true)], args := [d1, d2] }
  | _ => none }
def worldNewsRow : OpenClaim := { program := "ytaebkmmjjabnaaagreatdoor", sum := "7de739d0b323d3eb2b5ee624baa8bccfdc67eb83312b127ed63959badab76adb", func := "chamberlain/chamberlainlaw22.WorldNews", spec := "worldNews", unfollowed := true, recurses := true, named := ["chamberlain/msg.has"], plainKeys := false, apart := false, laid := [("chamberlain/msg.has", laid_chamberlain_msg_has)] }
def WorldNewsSaid : Prop := worldNewsRow.holds Tryz.pinned (OpenSpec.ofChange worldNewsSpec)

/-- ITS FALSE NEIGHBOUR: 'it returns false'. Refute it at one input. -/
def worldNewsWrong : ChangeSpec := { name := "worldNews", fn := fun _ => fun
  | [d1, d2] => { results := [.lit (.bool false)], args := [d1, d2] }
  | _ => none }
def WorldNewsWrongFalsely : Prop := worldNewsRow.holds Tryz.pinned (OpenSpec.ofChange worldNewsWrong)

/-- 'chamberlainlaw22.WorldSteps': WHATEVER THE INPUT: true; the input reads as it did. -/
def worldStepsSpec : ChangeSpec := { name := "worldSteps", fn := fun _ => fun
  | [d1, d2] => { results := [.lit (.bool true)], args := [d1, d2] }
  | _ => none }
def worldStepsRow : OpenClaim := { program := "ytaebkmmjjabnaaagreatdoor", sum := "7de739d0b323d3eb2b5ee624baa8bccfdc67eb83312b127ed63959badab76adb", func := "chamberlain/chamberlainlaw22.WorldSteps", spec := "worldSteps", unfollowed := true, recurses := true, named := ["chamberlain/msg.has"], plainKeys := false, apart := false, laid := [("chamberlain/msg.has", laid_chamberlain_msg_has)] }
def WorldStepsSaid : Prop := worldStepsRow.holds Tryz.pinned (OpenSpec.ofChange worldStepsSpec)

/-- ITS FALSE NEIGHBOUR: 'it returns false'. Refute it at one input. -/
def worldStepsWrong : ChangeSpec := { name := "worldSteps", fn := fun _ => fun
  | [d1, d2] => { results := [.lit (.bool false)], args := [d1, d2] }
  | _ => none }
def WorldStepsWrongFalsely : Prop := worldStepsRow.holds Tryz.pinned (OpenSpec.ofChange worldStepsWrong)

/-- 'chamberlainlaw22.WorldRuns': WHATEVER THE INPUT: true; the input reads as it did. -/
def worldRunsSpec : ChangeSpec := { name := "worldRuns", fn := fun _ => fun
  | [d1, d2, d3] => { results := [.lit (.bool true)], args := [d1, d2, d3] }
  | _ => none }
def worldRunsRow : OpenClaim := { program := "ytaebkmmjjabnaaagreatdoor", sum := "7de739d0b323d3eb2b5ee624baa8bccfdc67eb83312b127ed63959badab76adb", func := "chamberlain/chamberlainlaw22.WorldRuns", spec := "worldRuns", unfollowed := true, recurses := true, named := ["chamberlain/msg.has"], plainKeys := false, apart := false, laid := [("chamberlain/msg.has", laid_chamberlain_msg_has)] }
def WorldRunsSaid : Prop := worldRunsRow.holds Tryz.pinned (OpenSpec.ofChange worldRunsSpec)

/-- ITS FALSE NEIGHBOUR: 'it returns false'. Refute it at one input. -/
def worldRunsWrong : ChangeSpec := { name := "worldRuns", fn := fun _ => fun
  | [d1, d2, d3] => { results := [.lit (.bool false)], args := [d1, d2, d3] }
  | _ => none }
def WorldRunsWrongFalsely : Prop := worldRunsRow.holds Tryz.pinned (OpenSpec.ofChange worldRunsWrong)

/-- 'chamberlainlaw22.WorldKeeps': WHATEVER THE INPUT: true; the input reads as it did. -/
def worldKeepsSpec : ChangeSpec := { name := "worldKeeps", fn := fun _ => fun
  | [d1, d2, d3] => { results := [.lit (.bool true)], args := [d1, d2, d3] }
  | _ => none }
def worldKeepsRow : OpenClaim := { program := "ytaebkmmjjabnaaagreatdoor", sum := "7de739d0b323d3eb2b5ee624baa8bccfdc67eb83312b127ed63959badab76adb", func := "chamberlain/chamberlainlaw22.WorldKeeps", spec := "worldKeeps", unfollowed := true, recurses := true, named := ["chamberlain/msg.has"], plainKeys := false, apart := false, laid := [("chamberlain/msg.has", laid_chamberlain_msg_has)] }
def WorldKeepsSaid : Prop := worldKeepsRow.holds Tryz.pinned (OpenSpec.ofChange worldKeepsSpec)

/-- ITS FALSE NEIGHBOUR: 'it returns false'. Refute it at one input. -/
def worldKeepsWrong : ChangeSpec := { name := "worldKeeps", fn := fun _ => fun
  | [d1, d2, d3] => { results := [.lit (.bool false)], args := [d1, d2, d3] }
  | _ => none }
def WorldKeepsWrongFalsely : Prop := worldKeepsRow.holds Tryz.pinned (OpenSpec.ofChange worldKeepsWrong)

/-- 'chamberlainlaw22.WorldParts': WHATEVER THE INPUT: true; the input reads as it did. -/
def worldPartsSpec : ChangeSpec := { name := "worldParts", fn := fun _ => fun
  | [d1, d2, d3, d4] => { results := [.lit (.bool true)], args := [d1, d2, d3, d4] }
  | _ => none }
def worldPartsRow : OpenClaim := { program := "ytaebkmmjjabnaaagreatdoor", sum := "7de739d0b323d3eb2b5ee624baa8bccfdc67eb83312b127ed63959badab76adb", func := "chamberlain/chamberlainlaw22.WorldParts", spec := "worldParts", unfollowed := true, recurses := true, named := ["chamberlain/msg.has"], plainKeys := false, apart := false, laid := [("chamberlain/msg.has", laid_chamberlain_msg_has)] }
def WorldPartsSaid : Prop := worldPartsRow.holds Tryz.pinned (OpenSpec.ofChange worldPartsSpec)

/-- ITS FALSE NEIGHBOUR: 'it returns false'. Refute it at one input. -/
def worldPartsWrong : ChangeSpec := { name := "worldParts", fn := fun _ => fun
  | [d1, d2, d3, d4] => { results := [.lit (.bool false)], args := [d1, d2, d3, d4] }
  | _ => none }
def WorldPartsWrongFalsely : Prop := worldPartsRow.holds Tryz.pinned (OpenSpec.ofChange worldPartsWrong)

/-- 'chamberlainlaw22.WorldOthers': WHATEVER THE INPUT: true; the input reads as it did. -/
def worldOthersSpec : ChangeSpec := { name := "worldOthers", fn := fun _ => fun
  | [d1, d2, d3] => { results := [.lit (.bool true)], args := [d1, d2, d3] }
  | _ => none }
def worldOthersRow : OpenClaim := { program := "ytaebkmmjjabnaaagreatdoor", sum := "7de739d0b323d3eb2b5ee624baa8bccfdc67eb83312b127ed63959badab76adb", func := "chamberlain/chamberlainlaw22.WorldOthers", spec := "worldOthers", unfollowed := true, recurses := true, named := ["chamberlain/msg.has"], plainKeys := false, apart := false, laid := [("chamberlain/msg.has", laid_chamberlain_msg_has)] }
def WorldOthersSaid : Prop := worldOthersRow.holds Tryz.pinned (OpenSpec.ofChange worldOthersSpec)

/-- ITS FALSE NEIGHBOUR: 'it returns false'. Refute it at one input. -/
def worldOthersWrong : ChangeSpec := { name := "worldOthers", fn := fun _ => fun
  | [d1, d2, d3] => { results := [.lit (.bool false)], args := [d1, d2, d3] }
  | _ => none }
def WorldOthersWrongFalsely : Prop := worldOthersRow.holds Tryz.pinned (OpenSpec.ofChange worldOthersWrong)

/-- 'chamberlainlaw27.HonestExtends': WHATEVER THE INPUT: true; the input reads as it did. -/
def honestExtendsSpec : ChangeSpec := { name := "honestExtends", fn := fun _ => fun
  | [d1, d2, d3, d4] => { results := [.lit (.bool true)], args := [d1, d2, d3, d4] }
  | _ => none }
def honestExtendsRow : OpenClaim := { program := "ytaebkmmjjabnaaagreatdoor", sum := "7de739d0b323d3eb2b5ee624baa8bccfdc67eb83312b127ed63959badab76adb", func := "chamberlain/chamberlainlaw27.HonestExtends", spec := "honestExtends", unfollowed := true, recurses := true, named := ["chamberlain/msg.has"], plainKeys := false, apart := false, laid := [("chamberlain/msg.has", laid_chamberlain_msg_has)] }
def HonestExtendsSaid : Prop := honestExtendsRow.holds Tryz.pinned (OpenSpec.ofChange honestExtendsSpec)

/-- ITS FALSE NEIGHBOUR: 'it returns false'. Refute it at one input. -/
def honestExtendsWrong : ChangeSpec := { name := "honestExtends", fn := fun _ => fun
  | [d1, d2, d3, d4] => { results := [.lit (.bool false)], args := [d1, d2, d3, d4] }
  | _ => none }
def HonestExtendsWrongFalsely : Prop := honestExtendsRow.holds Tryz.pinned (OpenSpec.ofChange honestExtendsWrong)

/-- 'chamberlainlaw27.HonestEnds': WHATEVER THE INPUT: true; the input reads as it did. -/
def honestEndsSpec : ChangeSpec := { name := "honestEnds", fn := fun _ => fun
  | [d1, d2, d3, d4] => { results := [.lit (.bool true)], args := [d1, d2, d3, d4] }
  | _ => none }
def honestEndsRow : OpenClaim := { program := "ytaebkmmjjabnaaagreatdoor", sum := "7de739d0b323d3eb2b5ee624baa8bccfdc67eb83312b127ed63959badab76adb", func := "chamberlain/chamberlainlaw27.HonestEnds", spec := "honestEnds", unfollowed := true, recurses := true, named := ["chamberlain/msg.has"], plainKeys := false, apart := false, laid := [("chamberlain/msg.has", laid_chamberlain_msg_has)] }
def HonestEndsSaid : Prop := honestEndsRow.holds Tryz.pinned (OpenSpec.ofChange honestEndsSpec)

/-- ITS FALSE NEIGHBOUR: 'it returns false'. Refute it at one input. -/
def honestEndsWrong : ChangeSpec := { name := "honestEnds", fn := fun _ => fun
  | [d1, d2, d3, d4] => { results := [.lit (.bool false)], args := [d1, d2, d3, d4] }
  | _ => none }
def HonestEndsWrongFalsely : Prop := honestEndsRow.holds Tryz.pinned (OpenSpec.ofChange honestEndsWrong)

/-- 'chamberlainlaw27.HonestKeeps': WHATEVER THE INPUT: true; the input reads as it did. -/
def honestKeepsSpec : ChangeSpec := { name := "honestKeeps", fn := fun _ => fun
  | [d1, d2, d3, d4] => { results := [.lit (.bool true)], args := [d1, d2, d3, d4] }
  | _ => none }
def honestKeepsRow : OpenClaim := { program := "ytaebkmmjjabnaaagreatdoor", sum := "7de739d0b323d3eb2b5ee624baa8bccfdc67eb83312b127ed63959badab76adb", func := "chamberlain/chamberlainlaw27.HonestKeeps", spec := "honestKeeps", unfollowed := true, recurses := true, named := ["chamberlain/msg.has"], plainKeys := false, apart := false, laid := [("chamberlain/msg.has", laid_chamberlain_msg_has)] }
def HonestKeepsSaid : Prop := honestKeepsRow.holds Tryz.pinned (OpenSpec.ofChange honestKeepsSpec)

/-- ITS FALSE NEIGHBOUR: 'it returns false'. Refute it at one input. -/
def honestKeepsWrong : ChangeSpec := { name := "honestKeeps", fn := fun _ => fun
  | [d1, d2, d3, d4] => { results := [.lit (.bool false)], args := [d1, d2, d3, d4] }
  | _ => none }
def HonestKeepsWrongFalsely : Prop := honestKeepsRow.holds Tryz.pinned (OpenSpec.ofChange honestKeepsWrong)

/-- 'chamberlainlaw27.HonestTwice': WHATEVER THE INPUT: true; the input reads as it did. -/
def honestTwiceSpec : ChangeSpec := { name := "honestTwice", fn := fun _ => fun
  | [d1, d2, d3, d4, d5] => { results := [.lit (.bool true)], args := [d1, d2, d3, d4, d5] }
  | _ => none }
def honestTwiceRow : OpenClaim := { program := "ytaebkmmjjabnaaagreatdoor", sum := "7de739d0b323d3eb2b5ee624baa8bccfdc67eb83312b127ed63959badab76adb", func := "chamberlain/chamberlainlaw27.HonestTwice", spec := "honestTwice", unfollowed := true, recurses := true, named := ["chamberlain/msg.has"], plainKeys := false, apart := false, laid := [("chamberlain/msg.has", laid_chamberlain_msg_has)] }
def HonestTwiceSaid : Prop := honestTwiceRow.holds Tryz.pinned (OpenSpec.ofChange honestTwiceSpec)

/-- ITS FALSE NEIGHBOUR: 'it returns false'. Refute it at one input. -/
def honestTwiceWrong : ChangeSpec := { name := "honestTwice", fn := fun _ => fun
  | [d1, d2, d3, d4, d5] => { results := [.lit (.bool false)], args := [d1, d2, d3, d4, d5] }
  | _ => none }
def HonestTwiceWrongFalsely : Prop := honestTwiceRow.holds Tryz.pinned (OpenSpec.ofChange honestTwiceWrong)

/-- 'chamberlainlaw27.HonestSecret': WHATEVER THE INPUT: true; the input reads as it did. -/
def honestSecretSpec : ChangeSpec := { name := "honestSecret", fn := fun _ => fun
  | [d1, d2, d3, d4, d5, d6] => { results := [.lit (.bool true)], args := [d1, d2, d3, d4, d5, d6] }
  | _ => none }
def honestSecretRow : OpenClaim := { program := "ytaebkmmjjabnaaagreatdoor", sum := "7de739d0b323d3eb2b5ee624baa8bccfdc67eb83312b127ed63959badab76adb", func := "chamberlain/chamberlainlaw27.HonestSecret", spec := "honestSecret", unfollowed := true, recurses := true, named := ["chamberlain/msg.has"], plainKeys := false, apart := false, laid := [("chamberlain/msg.has", laid_chamberlain_msg_has)] }
def HonestSecretSaid : Prop := honestSecretRow.holds Tryz.pinned (OpenSpec.ofChange honestSecretSpec)

/-- ITS FALSE NEIGHBOUR: 'it returns false'. Refute it at one input. -/
def honestSecretWrong : ChangeSpec := { name := "honestSecret", fn := fun _ => fun
  | [d1, d2, d3, d4, d5, d6] => { results := [.lit (.bool false)], args := [d1, d2, d3, d4, d5, d6] }
  | _ => none }
def HonestSecretWrongFalsely : Prop := honestSecretRow.holds Tryz.pinned (OpenSpec.ofChange honestSecretWrong)

/-- 'chamberlainlaw23.KnowSecret': WHATEVER THE INPUT: true; the input reads as it did. -/
def knowSecretSpec : ChangeSpec := { name := "knowSecret", fn := fun _ => fun
  | [d1, d2, d3] => { results := [.lit (.bool true)], args := [d1, d2, d3] }
  | _ => none }
def knowSecretRow : OpenClaim := { program := "ytaebkmmjjabnaaagreatdoor", sum := "7de739d0b323d3eb2b5ee624baa8bccfdc67eb83312b127ed63959badab76adb", func := "chamberlain/chamberlainlaw23.KnowSecret", spec := "knowSecret", unfollowed := true, recurses := true, named := ["chamberlain/msg.has"], plainKeys := false, apart := false, laid := [("chamberlain/msg.has", laid_chamberlain_msg_has)] }
def KnowSecretSaid : Prop := knowSecretRow.holds Tryz.pinned (OpenSpec.ofChange knowSecretSpec)

/-- ITS FALSE NEIGHBOUR: 'it returns false'. Refute it at one input. -/
def knowSecretWrong : ChangeSpec := { name := "knowSecret", fn := fun _ => fun
  | [d1, d2, d3] => { results := [.lit (.bool false)], args := [d1, d2, d3] }
  | _ => none }
def KnowSecretWrongFalsely : Prop := knowSecretRow.holds Tryz.pinned (OpenSpec.ofChange knowSecretWrong)

/-- 'chamberlainlaw23.KnowKeys': WHATEVER THE INPUT: true; the input reads as it did. -/
def knowKeysSpec : ChangeSpec := { name := "knowKeys", fn := fun _ => fun
  | [d1, d2, d3] => { results := [.lit (.bool true)], args := [d1, d2, d3] }
  | _ => none }
def knowKeysRow : OpenClaim := { program := "ytaebkmmjjabnaaagreatdoor", sum := "7de739d0b323d3eb2b5ee624baa8bccfdc67eb83312b127ed63959badab76adb", func := "chamberlain/chamberlainlaw23.KnowKeys", spec := "knowKeys", unfollowed := true, recurses := true, named := ["chamberlain/msg.has"], plainKeys := false, apart := false, laid := [("chamberlain/msg.has", laid_chamberlain_msg_has)] }
def KnowKeysSaid : Prop := knowKeysRow.holds Tryz.pinned (OpenSpec.ofChange knowKeysSpec)

/-- ITS FALSE NEIGHBOUR: 'it returns false'. Refute it at one input. -/
def knowKeysWrong : ChangeSpec := { name := "knowKeys", fn := fun _ => fun
  | [d1, d2, d3] => { results := [.lit (.bool false)], args := [d1, d2, d3] }
  | _ => none }
def KnowKeysWrongFalsely : Prop := knowKeysRow.holds Tryz.pinned (OpenSpec.ofChange knowKeysWrong)

/-- 'chamberlainlaw25.TraceHolds': WHATEVER THE INPUT: true; the input reads as it did. -/
def traceHoldsSpec : ChangeSpec := { name := "traceHolds", fn := fun _ => fun
  | [d1, d2, d3] => { results := [.lit (.bool true)], args := [d1, d2, d3] }
  | _ => none }
def traceHoldsRow : OpenClaim := { program := "ytaebkmmjjabnaaagreatdoor", sum := "7de739d0b323d3eb2b5ee624baa8bccfdc67eb83312b127ed63959badab76adb", func := "chamberlain/chamberlainlaw25.TraceHolds", spec := "traceHolds", unfollowed := true, recurses := true, named := ["chamberlain/msg.has"], plainKeys := false, apart := false, laid := [("chamberlain/msg.has", laid_chamberlain_msg_has)] }
def TraceHoldsSaid : Prop := traceHoldsRow.holds Tryz.pinned (OpenSpec.ofChange traceHoldsSpec)

/-- ITS FALSE NEIGHBOUR: 'it returns false'. Refute it at one input. -/
def traceHoldsWrong : ChangeSpec := { name := "traceHolds", fn := fun _ => fun
  | [d1, d2, d3] => { results := [.lit (.bool false)], args := [d1, d2, d3] }
  | _ => none }
def TraceHoldsWrongFalsely : Prop := traceHoldsRow.holds Tryz.pinned (OpenSpec.ofChange traceHoldsWrong)

/-- 'chamberlainlaw25.TraceCommits': WHATEVER THE INPUT: true; the input reads as it did. -/
def traceCommitsSpec : ChangeSpec := { name := "traceCommits", fn := fun _ => fun
  | [d1, d2, d3] => { results := [.lit (.bool true)], args := [d1, d2, d3] }
  | _ => none }
def traceCommitsRow : OpenClaim := { program := "ytaebkmmjjabnaaagreatdoor", sum := "7de739d0b323d3eb2b5ee624baa8bccfdc67eb83312b127ed63959badab76adb", func := "chamberlain/chamberlainlaw25.TraceCommits", spec := "traceCommits", unfollowed := true, recurses := true, named := ["chamberlain/msg.has"], plainKeys := false, apart := false, laid := [("chamberlain/msg.has", laid_chamberlain_msg_has)] }
def TraceCommitsSaid : Prop := traceCommitsRow.holds Tryz.pinned (OpenSpec.ofChange traceCommitsSpec)

/-- ITS FALSE NEIGHBOUR: 'it returns false'. Refute it at one input. -/
def traceCommitsWrong : ChangeSpec := { name := "traceCommits", fn := fun _ => fun
  | [d1, d2, d3] => { results := [.lit (.bool false)], args := [d1, d2, d3] }
  | _ => none }
def TraceCommitsWrongFalsely : Prop := traceCommitsRow.holds Tryz.pinned (OpenSpec.ofChange traceCommitsWrong)

/- THE SECOND FORM. 'bulk': how many values and letters a reading holds, each counted each time it is reached (what is shared counts as often as it is met; a slice's spare places count too). A statement '..UptoSaid' is the law's where the arguments, and the package variables that the reading takes, are together of bulk at most 1048576: NARROWER than '..Said'. Prove '..Said' where nothing that the law and all that it calls make is longer than what came in: it says more and counts as full. Else prove '..UptoSaid'. A law counts once. -/
mutual
def uptoBulk {H : Type} : DataW H → Nat
  | .lit (.string bytes) => bytes.length + 1
  | .lit _ => 1
  | .nil => 1
  | .ptr d => uptoBulk d + 1
  | .slice elems spare => uptoBulkAll elems + uptoBulkAll spare + 1
  | .agg parts => uptoBulkAll parts + 1
  | .iface _ d => uptoBulk d + 1
  | .map entries => uptoBulkEntries entries + 1
  | .held _ => 1
def uptoBulkAll {H : Type} : List (DataW H) → Nat
  | [] => 0
  | d :: r => uptoBulk d + uptoBulkAll r
def uptoBulkEntries {H : Type} : List (Lit × DataW H) → Nat
  | [] => 0
  | x :: r => uptoBulkEntry x + uptoBulkEntries r
def uptoBulkEntry {H : Type} : Lit × DataW H → Nat
  | (.string bytes, d) => bytes.length + uptoBulk d + 1
  | (_, d) => uptoBulk d + 1
 end
def uptoSmall : (H : Type) → List (DataW H) → Bool := fun _ ds => decide (uptoBulkAll ds ≤ 1048576)
def OpenSpec.upto (s : _root_.Go.ChangeSpec) : _root_.Go.OpenSpec := { _root_.Go.OpenSpec.ofChange s with cond := some uptoSmall }

/-- 'chamberlainlaw22.WorldNews', WHERE WHAT IT READS IS OF BULK AT MOST 1048576: true; the input reads as it did. -/
def worldNewsUptoRow : OpenClaim := { program := "ytaebkmmjjabnaaagreatdoor", sum := "7de739d0b323d3eb2b5ee624baa8bccfdc67eb83312b127ed63959badab76adb", func := "chamberlain/chamberlainlaw22.WorldNews", spec := "worldNews", unfollowed := true, recurses := true, named := ["chamberlain/msg.has"], plainKeys := false, apart := false, laid := [("chamberlain/msg.has", laid_chamberlain_msg_has)], narrowed := true }
def WorldNewsUptoSaid : Prop := worldNewsUptoRow.holds Tryz.pinned (OpenSpec.upto worldNewsSpec)

/-- 'chamberlainlaw22.WorldSteps', WHERE WHAT IT READS IS OF BULK AT MOST 1048576: true; the input reads as it did. -/
def worldStepsUptoRow : OpenClaim := { program := "ytaebkmmjjabnaaagreatdoor", sum := "7de739d0b323d3eb2b5ee624baa8bccfdc67eb83312b127ed63959badab76adb", func := "chamberlain/chamberlainlaw22.WorldSteps", spec := "worldSteps", unfollowed := true, recurses := true, named := ["chamberlain/msg.has"], plainKeys := false, apart := false, laid := [("chamberlain/msg.has", laid_chamberlain_msg_has)], narrowed := true }
def WorldStepsUptoSaid : Prop := worldStepsUptoRow.holds Tryz.pinned (OpenSpec.upto worldStepsSpec)

/-- 'chamberlainlaw22.WorldRuns', WHERE WHAT IT READS IS OF BULK AT MOST 1048576: true; the input reads as it did. -/
def worldRunsUptoRow : OpenClaim := { program := "ytaebkmmjjabnaaagreatdoor", sum := "7de739d0b323d3eb2b5ee624baa8bccfdc67eb83312b127ed63959badab76adb", func := "chamberlain/chamberlainlaw22.WorldRuns", spec := "worldRuns", unfollowed := true, recurses := true, named := ["chamberlain/msg.has"], plainKeys := false, apart := false, laid := [("chamberlain/msg.has", laid_chamberlain_msg_has)], narrowed := true }
def WorldRunsUptoSaid : Prop := worldRunsUptoRow.holds Tryz.pinned (OpenSpec.upto worldRunsSpec)

/-- 'chamberlainlaw22.WorldKeeps', WHERE WHAT IT READS IS OF BULK AT MOST 1048576: true; the input reads as it did. -/
def worldKeepsUptoRow : OpenClaim := { program := "ytaebkmmjjabnaaagreatdoor", sum := "7de739d0b323d3eb2b5ee624baa8bccfdc67eb83312b127ed63959badab76adb", func := "chamberlain/chamberlainlaw22.WorldKeeps", spec := "worldKeeps", unfollowed := true, recurses := true, named := ["chamberlain/msg.has"], plainKeys := false, apart := false, laid := [("chamberlain/msg.has", laid_chamberlain_msg_has)], narrowed := true }
def WorldKeepsUptoSaid : Prop := worldKeepsUptoRow.holds Tryz.pinned (OpenSpec.upto worldKeepsSpec)

/-- 'chamberlainlaw22.WorldParts', WHERE WHAT IT READS IS OF BULK AT MOST 1048576: true; the input reads as it did. -/
def worldPartsUptoRow : OpenClaim := { program := "ytaebkmmjjabnaaagreatdoor", sum := "7de739d0b323d3eb2b5ee624baa8bccfdc67eb83312b127ed63959badab76adb", func := "chamberlain/chamberlainlaw22.WorldParts", spec := "worldParts", unfollowed := true, recurses := true, named := ["chamberlain/msg.has"], plainKeys := false, apart := false, laid := [("chamberlain/msg.has", laid_chamberlain_msg_has)], narrowed := true }
def WorldPartsUptoSaid : Prop := worldPartsUptoRow.holds Tryz.pinned (OpenSpec.upto worldPartsSpec)

/-- 'chamberlainlaw22.WorldOthers', WHERE WHAT IT READS IS OF BULK AT MOST 1048576: true; the input reads as it did. -/
def worldOthersUptoRow : OpenClaim := { program := "ytaebkmmjjabnaaagreatdoor", sum := "7de739d0b323d3eb2b5ee624baa8bccfdc67eb83312b127ed63959badab76adb", func := "chamberlain/chamberlainlaw22.WorldOthers", spec := "worldOthers", unfollowed := true, recurses := true, named := ["chamberlain/msg.has"], plainKeys := false, apart := false, laid := [("chamberlain/msg.has", laid_chamberlain_msg_has)], narrowed := true }
def WorldOthersUptoSaid : Prop := worldOthersUptoRow.holds Tryz.pinned (OpenSpec.upto worldOthersSpec)

/-- 'chamberlainlaw27.HonestExtends', WHERE WHAT IT READS IS OF BULK AT MOST 1048576: true; the input reads as it did. -/
def honestExtendsUptoRow : OpenClaim := { program := "ytaebkmmjjabnaaagreatdoor", sum := "7de739d0b323d3eb2b5ee624baa8bccfdc67eb83312b127ed63959badab76adb", func := "chamberlain/chamberlainlaw27.HonestExtends", spec := "honestExtends", unfollowed := true, recurses := true, named := ["chamberlain/msg.has"], plainKeys := false, apart := false, laid := [("chamberlain/msg.has", laid_chamberlain_msg_has)], narrowed := true }
def HonestExtendsUptoSaid : Prop := honestExtendsUptoRow.holds Tryz.pinned (OpenSpec.upto honestExtendsSpec)

/-- 'chamberlainlaw27.HonestEnds', WHERE WHAT IT READS IS OF BULK AT MOST 1048576: true; the input reads as it did. -/
def honestEndsUptoRow : OpenClaim := { program := "ytaebkmmjjabnaaagreatdoor", sum := "7de739d0b323d3eb2b5ee624baa8bccfdc67eb83312b127ed63959badab76adb", func := "chamberlain/chamberlainlaw27.HonestEnds", spec := "honestEnds", unfollowed := true, recurses := true, named := ["chamberlain/msg.has"], plainKeys := false, apart := false, laid := [("chamberlain/msg.has", laid_chamberlain_msg_has)], narrowed := true }
def HonestEndsUptoSaid : Prop := honestEndsUptoRow.holds Tryz.pinned (OpenSpec.upto honestEndsSpec)

/-- 'chamberlainlaw27.HonestKeeps', WHERE WHAT IT READS IS OF BULK AT MOST 1048576: true; the input reads as it did. -/
def honestKeepsUptoRow : OpenClaim := { program := "ytaebkmmjjabnaaagreatdoor", sum := "7de739d0b323d3eb2b5ee624baa8bccfdc67eb83312b127ed63959badab76adb", func := "chamberlain/chamberlainlaw27.HonestKeeps", spec := "honestKeeps", unfollowed := true, recurses := true, named := ["chamberlain/msg.has"], plainKeys := false, apart := false, laid := [("chamberlain/msg.has", laid_chamberlain_msg_has)], narrowed := true }
def HonestKeepsUptoSaid : Prop := honestKeepsUptoRow.holds Tryz.pinned (OpenSpec.upto honestKeepsSpec)

/-- 'chamberlainlaw27.HonestTwice', WHERE WHAT IT READS IS OF BULK AT MOST 1048576: true; the input reads as it did. -/
def honestTwiceUptoRow : OpenClaim := { program := "ytaebkmmjjabnaaagreatdoor", sum := "7de739d0b323d3eb2b5ee624baa8bccfdc67eb83312b127ed63959badab76adb", func := "chamberlain/chamberlainlaw27.HonestTwice", spec := "honestTwice", unfollowed := true, recurses := true, named := ["chamberlain/msg.has"], plainKeys := false, apart := false, laid := [("chamberlain/msg.has", laid_chamberlain_msg_has)], narrowed := true }
def HonestTwiceUptoSaid : Prop := honestTwiceUptoRow.holds Tryz.pinned (OpenSpec.upto honestTwiceSpec)

/-- 'chamberlainlaw27.HonestSecret', WHERE WHAT IT READS IS OF BULK AT MOST 1048576: true; the input reads as it did. -/
def honestSecretUptoRow : OpenClaim := { program := "ytaebkmmjjabnaaagreatdoor", sum := "7de739d0b323d3eb2b5ee624baa8bccfdc67eb83312b127ed63959badab76adb", func := "chamberlain/chamberlainlaw27.HonestSecret", spec := "honestSecret", unfollowed := true, recurses := true, named := ["chamberlain/msg.has"], plainKeys := false, apart := false, laid := [("chamberlain/msg.has", laid_chamberlain_msg_has)], narrowed := true }
def HonestSecretUptoSaid : Prop := honestSecretUptoRow.holds Tryz.pinned (OpenSpec.upto honestSecretSpec)

/-- 'chamberlainlaw23.KnowSecret', WHERE WHAT IT READS IS OF BULK AT MOST 1048576: true; the input reads as it did. -/
def knowSecretUptoRow : OpenClaim := { program := "ytaebkmmjjabnaaagreatdoor", sum := "7de739d0b323d3eb2b5ee624baa8bccfdc67eb83312b127ed63959badab76adb", func := "chamberlain/chamberlainlaw23.KnowSecret", spec := "knowSecret", unfollowed := true, recurses := true, named := ["chamberlain/msg.has"], plainKeys := false, apart := false, laid := [("chamberlain/msg.has", laid_chamberlain_msg_has)], narrowed := true }
def KnowSecretUptoSaid : Prop := knowSecretUptoRow.holds Tryz.pinned (OpenSpec.upto knowSecretSpec)

/-- 'chamberlainlaw23.KnowKeys', WHERE WHAT IT READS IS OF BULK AT MOST 1048576: true; the input reads as it did. -/
def knowKeysUptoRow : OpenClaim := { program := "ytaebkmmjjabnaaagreatdoor", sum := "7de739d0b323d3eb2b5ee624baa8bccfdc67eb83312b127ed63959badab76adb", func := "chamberlain/chamberlainlaw23.KnowKeys", spec := "knowKeys", unfollowed := true, recurses := true, named := ["chamberlain/msg.has"], plainKeys := false, apart := false, laid := [("chamberlain/msg.has", laid_chamberlain_msg_has)], narrowed := true }
def KnowKeysUptoSaid : Prop := knowKeysUptoRow.holds Tryz.pinned (OpenSpec.upto knowKeysSpec)

/-- 'chamberlainlaw25.TraceHolds', WHERE WHAT IT READS IS OF BULK AT MOST 1048576: true; the input reads as it did. -/
def traceHoldsUptoRow : OpenClaim := { program := "ytaebkmmjjabnaaagreatdoor", sum := "7de739d0b323d3eb2b5ee624baa8bccfdc67eb83312b127ed63959badab76adb", func := "chamberlain/chamberlainlaw25.TraceHolds", spec := "traceHolds", unfollowed := true, recurses := true, named := ["chamberlain/msg.has"], plainKeys := false, apart := false, laid := [("chamberlain/msg.has", laid_chamberlain_msg_has)], narrowed := true }
def TraceHoldsUptoSaid : Prop := traceHoldsUptoRow.holds Tryz.pinned (OpenSpec.upto traceHoldsSpec)

/-- 'chamberlainlaw25.TraceCommits', WHERE WHAT IT READS IS OF BULK AT MOST 1048576: true; the input reads as it did. -/
def traceCommitsUptoRow : OpenClaim := { program := "ytaebkmmjjabnaaagreatdoor", sum := "7de739d0b323d3eb2b5ee624baa8bccfdc67eb83312b127ed63959badab76adb", func := "chamberlain/chamberlainlaw25.TraceCommits", spec := "traceCommits", unfollowed := true, recurses := true, named := ["chamberlain/msg.has"], plainKeys := false, apart := false, laid := [("chamberlain/msg.has", laid_chamberlain_msg_has)], narrowed := true }
def TraceCommitsUptoSaid : Prop := traceCommitsUptoRow.holds Tryz.pinned (OpenSpec.upto traceCommitsSpec)

end Rows
end Go.Proofs.YtaebkmmjjabnaaaGreatDoor
