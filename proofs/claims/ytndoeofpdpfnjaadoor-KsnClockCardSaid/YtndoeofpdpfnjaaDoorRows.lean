/-
  NARROWER THAN 'FOR EVERY INPUT', by the rows' own cells (each row's printed sentence says how): AgreeLess: laid · KsnClock: laid · OraTwice: laid · DeskForms: laid.
  DERIVED. THE GIVEN ROWS OF THIS SEAT. 4 by the template 'for every input the law returns true; each argument reads behind the call as it read before'; 0 by the template 'total and deterministic' (their statements: YtndoeofpdpfnjaaDoorTotals.lean).
  GIVEN WITH THE SEED: the statements are not yours to turn. If you find one false, say at which input.
  Laid BY PROGRAM, IN A SANDBOX (cutbox-rows.mjs): the forced cells as the released guide's own fill.sh prints them over the translation 85906276a83a5b3c… (all of the seat's roots in one cut). By AI agents, Wed Nov 11 2026. No macro, syntax, notation, axiom, sorry.
-/
import Derived.Test.YtndoeofpdpfnjaaDoorChecked
import GoSem.Claim
import GoSem.ClaimJoined
import GoSem.ClaimMapViews
import Derived.JoinedTies
import Derived.KernelRfl
namespace Go.Proofs.YtndoeofpdpfnjaaDoor
/- THE CELL 'sum', in the pinned program and in every row, IS THE sha256 OF THE DUMP (.gsa) THAT YtndoeofpdpfnjaaDoorProg.lean LOADS. Nothing in Lean hashes anything: it is a label: what it is worth is what the hold of that sum in a sandbox is worth. -/
noncomputable def Tryd.pinned : Pinned := { name := "ytndoeofpdpfnjaadoor", sum := "85906276a83a5b3c5a99853ad78ed4dd0b98bc8822ed4f9e71b2f08e48dbf134", checked := Tryd.checked }
namespace Rows
def none {H : Type} : Left H := { results := [], args := [] }

/- WHAT THE LISTED PACKAGE-LEVEL VARIABLES READ AS WHEN THE CALL BEGINS. Each datum BY PROGRAM (the guide's laid-datum.mjs) off the statement by which the dump's own 'gosem.cut.vars' lays the variable. In a bare row this is a premise. The card (YtndoeofpdpfnjaaDoorCards.lean) ties it to the program's text. -/
def laid_chamberlain_agree_rules {H : Type} : DataW H := .agg [.agg [.lit (.int .i64 1), .lit (.int .i64 2), .agg [.agg [.lit (.int .i64 4), .lit (.int .i64 1), .lit (.int .i64 376)], .agg [.lit (.int .i64 0), .lit (.int .i64 0), .lit (.int .i64 0)]], .lit (.bool false), .lit (.bool true)], .agg [.lit (.int .i64 1), .lit (.int .i64 1), .agg [.agg [.lit (.int .i64 3), .lit (.int .i64 2), .lit (.int .i64 376)], .agg [.lit (.int .i64 0), .lit (.int .i64 0), .lit (.int .i64 0)]], .lit (.bool true), .lit (.bool false)], .agg [.lit (.int .i64 2), .lit (.int .i64 2), .agg [.agg [.lit (.int .i64 1), .lit (.int .i64 1), .lit (.int .i64 152)], .agg [.lit (.int .i64 2), .lit (.int .i64 0), .lit (.int .i64 184)]], .lit (.bool false), .lit (.bool false)], .agg [.lit (.int .i64 2), .lit (.int .i64 1), .agg [.agg [.lit (.int .i64 3), .lit (.int .i64 2), .lit (.int .i64 152)], .agg [.lit (.int .i64 2), .lit (.int .i64 0), .lit (.int .i64 184)]], .lit (.bool false), .lit (.bool false)]]
def laid_chamberlain_msg_has {H : Type} : DataW H := .agg [.lit (.int .u32 0), .lit (.int .u32 56), .lit (.int .u32 64), .lit (.int .u32 64), .lit (.int .u32 64), .lit (.int .u32 64), .lit (.int .u32 92), .lit (.int .u32 220), .lit (.int .u32 196), .lit (.int .u32 68)]

/-- 'chamberlainlaw24.AgreeLess': WHATEVER THE INPUT: true; the input reads as it did. -/
def agreeLessSpec : ChangeSpec := { name := "agreeLess", fn := fun _ => fun
  | [d1, d2] => { results := [.lit (.bool true)], args := [d1, d2] }
  | _ => none }
def agreeLessRow : OpenClaim := { program := "ytndoeofpdpfnjaadoor", sum := "85906276a83a5b3c5a99853ad78ed4dd0b98bc8822ed4f9e71b2f08e48dbf134", func := "chamberlain/chamberlainlaw24.AgreeLess", spec := "agreeLess", unfollowed := true, recurses := true, named := ["chamberlain/agree.rules"], plainKeys := false, apart := false, laid := [("chamberlain/agree.rules", laid_chamberlain_agree_rules)] }
def AgreeLessSaid : Prop := agreeLessRow.holds Tryd.pinned (OpenSpec.ofChange agreeLessSpec)

/-- ITS FALSE NEIGHBOUR: 'it returns false'. Refute it at one input. -/
def agreeLessWrong : ChangeSpec := { name := "agreeLess", fn := fun _ => fun
  | [d1, d2] => { results := [.lit (.bool false)], args := [d1, d2] }
  | _ => none }
def AgreeLessWrongFalsely : Prop := agreeLessRow.holds Tryd.pinned (OpenSpec.ofChange agreeLessWrong)

/-- 'chamberlainlaw13.KsnClock': WHATEVER THE INPUT: true; the input reads as it did. -/
def ksnClockSpec : ChangeSpec := { name := "ksnClock", fn := fun _ => fun
  | [d1, d2, d3] => { results := [.lit (.bool true)], args := [d1, d2, d3] }
  | _ => none }
def ksnClockRow : OpenClaim := { program := "ytndoeofpdpfnjaadoor", sum := "85906276a83a5b3c5a99853ad78ed4dd0b98bc8822ed4f9e71b2f08e48dbf134", func := "chamberlain/chamberlainlaw13.KsnClock", spec := "ksnClock", unfollowed := true, recurses := true, named := ["chamberlain/msg.has"], plainKeys := false, apart := false, laid := [("chamberlain/msg.has", laid_chamberlain_msg_has)] }
def KsnClockSaid : Prop := ksnClockRow.holds Tryd.pinned (OpenSpec.ofChange ksnClockSpec)

/-- ITS FALSE NEIGHBOUR: 'it returns false'. Refute it at one input. -/
def ksnClockWrong : ChangeSpec := { name := "ksnClock", fn := fun _ => fun
  | [d1, d2, d3] => { results := [.lit (.bool false)], args := [d1, d2, d3] }
  | _ => none }
def KsnClockWrongFalsely : Prop := ksnClockRow.holds Tryd.pinned (OpenSpec.ofChange ksnClockWrong)

/-- 'chamberlainlaw17.OraTwice': WHATEVER THE INPUT: true; the input reads as it did. -/
def oraTwiceSpec : ChangeSpec := { name := "oraTwice", fn := fun _ => fun
  | [d1, d2, d3] => { results := [.lit (.bool true)], args := [d1, d2, d3] }
  | _ => none }
def oraTwiceRow : OpenClaim := { program := "ytndoeofpdpfnjaadoor", sum := "85906276a83a5b3c5a99853ad78ed4dd0b98bc8822ed4f9e71b2f08e48dbf134", func := "chamberlain/chamberlainlaw17.OraTwice", spec := "oraTwice", unfollowed := true, recurses := true, named := ["chamberlain/msg.has"], plainKeys := false, apart := false, laid := [("chamberlain/msg.has", laid_chamberlain_msg_has)] }
def OraTwiceSaid : Prop := oraTwiceRow.holds Tryd.pinned (OpenSpec.ofChange oraTwiceSpec)

/-- ITS FALSE NEIGHBOUR: 'it returns false'. Refute it at one input. -/
def oraTwiceWrong : ChangeSpec := { name := "oraTwice", fn := fun _ => fun
  | [d1, d2, d3] => { results := [.lit (.bool false)], args := [d1, d2, d3] }
  | _ => none }
def OraTwiceWrongFalsely : Prop := oraTwiceRow.holds Tryd.pinned (OpenSpec.ofChange oraTwiceWrong)

/-- 'chamberlainlaw12.DeskForms': WHATEVER THE INPUT: true; the input reads as it did. -/
def deskFormsSpec : ChangeSpec := { name := "deskForms", fn := fun _ => fun
  | [d1, d2, d3] => { results := [.lit (.bool true)], args := [d1, d2, d3] }
  | _ => none }
def deskFormsRow : OpenClaim := { program := "ytndoeofpdpfnjaadoor", sum := "85906276a83a5b3c5a99853ad78ed4dd0b98bc8822ed4f9e71b2f08e48dbf134", func := "chamberlain/chamberlainlaw12.DeskForms", spec := "deskForms", unfollowed := true, recurses := true, named := ["chamberlain/msg.has"], plainKeys := false, apart := false, laid := [("chamberlain/msg.has", laid_chamberlain_msg_has)] }
def DeskFormsSaid : Prop := deskFormsRow.holds Tryd.pinned (OpenSpec.ofChange deskFormsSpec)

/-- ITS FALSE NEIGHBOUR: 'it returns false'. Refute it at one input. -/
def deskFormsWrong : ChangeSpec := { name := "deskForms", fn := fun _ => fun
  | [d1, d2, d3] => { results := [.lit (.bool false)], args := [d1, d2, d3] }
  | _ => none }
def DeskFormsWrongFalsely : Prop := deskFormsRow.holds Tryd.pinned (OpenSpec.ofChange deskFormsWrong)

/- THE SECOND FORM. 'bulk': how many values and letters a reading holds, each counted each time it is reached (what is shared counts as often as it is met; a slice's spare places count too). A statement '..UptoSaid' is the law's where the arguments, and the package variables that the reading takes, are together of bulk at most 1048576: NARROWER than '..Said'. Prove '..Said' where nothing that the law and all that it calls make is longer than what came in: it says more and counts as full. Else prove '..UptoSaid'. A law counts once. -/
mutual
def uptoBulk {H : Type} : DataW H → Nat
  | .lit (.string bytes) => bytes.length + 1
  | .lit _ => 1
  | .nil => 1
  | .ptr d => uptoBulk d + 1
  | .slice elems spare => uptoBulkAll elems + uptoBulkAll spare + 1
  | .agg parts => uptoBulkAll parts + 1
  | .iface _ d => uptoBulk d + 1
  | .map entries => uptoBulkEntries entries + 1
  | .held _ => 1
def uptoBulkAll {H : Type} : List (DataW H) → Nat
  | [] => 0
  | d :: r => uptoBulk d + uptoBulkAll r
def uptoBulkEntries {H : Type} : List (Lit × DataW H) → Nat
  | [] => 0
  | x :: r => uptoBulkEntry x + uptoBulkEntries r
def uptoBulkEntry {H : Type} : Lit × DataW H → Nat
  | (.string bytes, d) => bytes.length + uptoBulk d + 1
  | (_, d) => uptoBulk d + 1
 end
def uptoSmall : (H : Type) → List (DataW H) → Bool := fun _ ds => decide (uptoBulkAll ds ≤ 1048576)
def OpenSpec.upto (s : _root_.Go.ChangeSpec) : _root_.Go.OpenSpec := { _root_.Go.OpenSpec.ofChange s with cond := some uptoSmall }

/-- 'chamberlainlaw24.AgreeLess', WHERE WHAT IT READS IS OF BULK AT MOST 1048576: true; the input reads as it did. -/
def agreeLessUptoRow : OpenClaim := { program := "ytndoeofpdpfnjaadoor", sum := "85906276a83a5b3c5a99853ad78ed4dd0b98bc8822ed4f9e71b2f08e48dbf134", func := "chamberlain/chamberlainlaw24.AgreeLess", spec := "agreeLess", unfollowed := true, recurses := true, named := ["chamberlain/agree.rules"], plainKeys := false, apart := false, laid := [("chamberlain/agree.rules", laid_chamberlain_agree_rules)], narrowed := true }
def AgreeLessUptoSaid : Prop := agreeLessUptoRow.holds Tryd.pinned (OpenSpec.upto agreeLessSpec)

/-- 'chamberlainlaw13.KsnClock', WHERE WHAT IT READS IS OF BULK AT MOST 1048576: true; the input reads as it did. -/
def ksnClockUptoRow : OpenClaim := { program := "ytndoeofpdpfnjaadoor", sum := "85906276a83a5b3c5a99853ad78ed4dd0b98bc8822ed4f9e71b2f08e48dbf134", func := "chamberlain/chamberlainlaw13.KsnClock", spec := "ksnClock", unfollowed := true, recurses := true, named := ["chamberlain/msg.has"], plainKeys := false, apart := false, laid := [("chamberlain/msg.has", laid_chamberlain_msg_has)], narrowed := true }
def KsnClockUptoSaid : Prop := ksnClockUptoRow.holds Tryd.pinned (OpenSpec.upto ksnClockSpec)

/-- 'chamberlainlaw17.OraTwice', WHERE WHAT IT READS IS OF BULK AT MOST 1048576: true; the input reads as it did. -/
def oraTwiceUptoRow : OpenClaim := { program := "ytndoeofpdpfnjaadoor", sum := "85906276a83a5b3c5a99853ad78ed4dd0b98bc8822ed4f9e71b2f08e48dbf134", func := "chamberlain/chamberlainlaw17.OraTwice", spec := "oraTwice", unfollowed := true, recurses := true, named := ["chamberlain/msg.has"], plainKeys := false, apart := false, laid := [("chamberlain/msg.has", laid_chamberlain_msg_has)], narrowed := true }
def OraTwiceUptoSaid : Prop := oraTwiceUptoRow.holds Tryd.pinned (OpenSpec.upto oraTwiceSpec)

/-- 'chamberlainlaw12.DeskForms', WHERE WHAT IT READS IS OF BULK AT MOST 1048576: true; the input reads as it did. -/
def deskFormsUptoRow : OpenClaim := { program := "ytndoeofpdpfnjaadoor", sum := "85906276a83a5b3c5a99853ad78ed4dd0b98bc8822ed4f9e71b2f08e48dbf134", func := "chamberlain/chamberlainlaw12.DeskForms", spec := "deskForms", unfollowed := true, recurses := true, named := ["chamberlain/msg.has"], plainKeys := false, apart := false, laid := [("chamberlain/msg.has", laid_chamberlain_msg_has)], narrowed := true }
def DeskFormsUptoSaid : Prop := deskFormsUptoRow.holds Tryd.pinned (OpenSpec.upto deskFormsSpec)

end Rows
end Go.Proofs.YtndoeofpdpfnjaaDoor
