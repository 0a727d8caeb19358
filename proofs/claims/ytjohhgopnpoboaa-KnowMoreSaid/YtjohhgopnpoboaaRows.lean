/-
  No cell of these rows narrows 'for every input' (looked for: loops, veiled, ifaces, maps, wideKeys, modest, calm, conditions, laid).
  DERIVED. THE GIVEN ROWS OF THIS SEAT. 3 by the template 'for every input the law returns true; each argument reads behind the call as it read before'; 0 by the template 'total and deterministic' (their statements: YtjohhgopnpoboaaTotals.lean).
  GIVEN WITH THE SEED: the statements are not yours to turn. If you find one false, say at which input.
  Laid BY PROGRAM, IN A SANDBOX (cutbox-rows.mjs): the forced cells as the released guide's own fill.sh prints them over the translation d982f980a1363526… (all of the seat's roots in one cut). By AI agents, Wed Nov 11 2026. No macro, syntax, notation, axiom, sorry.
-/
import Derived.Test.YtjohhgopnpoboaaChecked
import GoSem.Claim
import GoSem.ClaimJoined
import GoSem.ClaimMapViews
import Derived.JoinedTies
import Derived.KernelRfl
namespace Go.Proofs.Ytjohhgopnpoboaa
/- THE CELL 'sum', in the pinned program and in every row, IS THE sha256 OF THE DUMP (.gsa) THAT YtjohhgopnpoboaaProg.lean LOADS. Nothing in Lean hashes anything: it is a label: what it is worth is what the hold of that sum in a sandbox is worth. -/
noncomputable def Try.pinned : Pinned := { name := "ytjohhgopnpoboaa", sum := "d982f980a1363526caedeb73f4df85d3276622015a9c766dd108039bbe4873e3", checked := Try.checked }
namespace Rows
def none {H : Type} : Left H := { results := [], args := [] }

/-- 'chamberlainlaw25.TraceAhead': WHATEVER THE INPUT: true; the input reads as it did. -/
def traceAheadSpec : ChangeSpec := { name := "traceAhead", fn := fun _ => fun
  | [d1, d2] => { results := [.lit (.bool true)], args := [d1, d2] }
  | _ => none }
def traceAheadRow : OpenClaim := { program := "ytjohhgopnpoboaa", sum := "d982f980a1363526caedeb73f4df85d3276622015a9c766dd108039bbe4873e3", func := "chamberlain/chamberlainlaw25.TraceAhead", spec := "traceAhead", unfollowed := true, recurses := true, plainKeys := false, apart := false }
def TraceAheadSaid : Prop := traceAheadRow.holds Try.pinned (OpenSpec.ofChange traceAheadSpec)

/-- ITS FALSE NEIGHBOUR: 'it returns false'. Refute it at one input. -/
def traceAheadWrong : ChangeSpec := { name := "traceAhead", fn := fun _ => fun
  | [d1, d2] => { results := [.lit (.bool false)], args := [d1, d2] }
  | _ => none }
def TraceAheadWrongFalsely : Prop := traceAheadRow.holds Try.pinned (OpenSpec.ofChange traceAheadWrong)

/-- 'chamberlainlaw23.KnowAsks': WHATEVER THE INPUT: true; the input reads as it did. -/
def knowAsksSpec : ChangeSpec := { name := "knowAsks", fn := fun _ => fun
  | [d1, d2, d3, d4] => { results := [.lit (.bool true)], args := [d1, d2, d3, d4] }
  | _ => none }
def knowAsksRow : OpenClaim := { program := "ytjohhgopnpoboaa", sum := "d982f980a1363526caedeb73f4df85d3276622015a9c766dd108039bbe4873e3", func := "chamberlain/chamberlainlaw23.KnowAsks", spec := "knowAsks", unfollowed := true, recurses := true, plainKeys := false, apart := false }
def KnowAsksSaid : Prop := knowAsksRow.holds Try.pinned (OpenSpec.ofChange knowAsksSpec)

/-- ITS FALSE NEIGHBOUR: 'it returns false'. Refute it at one input. -/
def knowAsksWrong : ChangeSpec := { name := "knowAsks", fn := fun _ => fun
  | [d1, d2, d3, d4] => { results := [.lit (.bool false)], args := [d1, d2, d3, d4] }
  | _ => none }
def KnowAsksWrongFalsely : Prop := knowAsksRow.holds Try.pinned (OpenSpec.ofChange knowAsksWrong)

/-- 'chamberlainlaw23.KnowMore': WHATEVER THE INPUT: true; the input reads as it did. -/
def knowMoreSpec : ChangeSpec := { name := "knowMore", fn := fun _ => fun
  | [d1, d2, d3] => { results := [.lit (.bool true)], args := [d1, d2, d3] }
  | _ => none }
def knowMoreRow : OpenClaim := { program := "ytjohhgopnpoboaa", sum := "d982f980a1363526caedeb73f4df85d3276622015a9c766dd108039bbe4873e3", func := "chamberlain/chamberlainlaw23.KnowMore", spec := "knowMore", unfollowed := true, recurses := true, plainKeys := false, apart := false }
def KnowMoreSaid : Prop := knowMoreRow.holds Try.pinned (OpenSpec.ofChange knowMoreSpec)

/-- ITS FALSE NEIGHBOUR: 'it returns false'. Refute it at one input. -/
def knowMoreWrong : ChangeSpec := { name := "knowMore", fn := fun _ => fun
  | [d1, d2, d3] => { results := [.lit (.bool false)], args := [d1, d2, d3] }
  | _ => none }
def KnowMoreWrongFalsely : Prop := knowMoreRow.holds Try.pinned (OpenSpec.ofChange knowMoreWrong)

/- THE SECOND FORM. 'bulk': how many values and letters a reading holds, each counted each time it is reached (what is shared counts as often as it is met; a slice's spare places count too). A statement '..UptoSaid' is the law's where the arguments, and the package variables that the reading takes, are together of bulk at most 1048576: NARROWER than '..Said'. Prove '..Said' where nothing that the law and all that it calls make is longer than what came in: it says more and counts as full. Else prove '..UptoSaid'. A law counts once. -/
mutual
def uptoBulk {H : Type} : DataW H → Nat
  | .lit (.string bytes) => bytes.length + 1
  | .lit _ => 1
  | .nil => 1
  | .ptr d => uptoBulk d + 1
  | .slice elems spare => uptoBulkAll elems + uptoBulkAll spare + 1
  | .agg parts => uptoBulkAll parts + 1
  | .iface _ d => uptoBulk d + 1
  | .map entries => uptoBulkEntries entries + 1
  | .held _ => 1
def uptoBulkAll {H : Type} : List (DataW H) → Nat
  | [] => 0
  | d :: r => uptoBulk d + uptoBulkAll r
def uptoBulkEntries {H : Type} : List (Lit × DataW H) → Nat
  | [] => 0
  | x :: r => uptoBulkEntry x + uptoBulkEntries r
def uptoBulkEntry {H : Type} : Lit × DataW H → Nat
  | (.string bytes, d) => bytes.length + uptoBulk d + 1
  | (_, d) => uptoBulk d + 1
 end
def uptoSmall : (H : Type) → List (DataW H) → Bool := fun _ ds => decide (uptoBulkAll ds ≤ 1048576)
def OpenSpec.upto (s : _root_.Go.ChangeSpec) : _root_.Go.OpenSpec := { _root_.Go.OpenSpec.ofChange s with cond := some uptoSmall }

/-- 'chamberlainlaw25.TraceAhead', WHERE WHAT IT READS IS OF BULK AT MOST 1048576: true; the input reads as it did. -/
def traceAheadUptoRow : OpenClaim := { program := "ytjohhgopnpoboaa", sum := "d982f980a1363526caedeb73f4df85d3276622015a9c766dd108039bbe4873e3", func := "chamberlain/chamberlainlaw25.TraceAhead", spec := "traceAhead", unfollowed := true, recurses := true, plainKeys := false, apart := false, narrowed := true }
def TraceAheadUptoSaid : Prop := traceAheadUptoRow.holds Try.pinned (OpenSpec.upto traceAheadSpec)

/-- 'chamberlainlaw23.KnowAsks', WHERE WHAT IT READS IS OF BULK AT MOST 1048576: true; the input reads as it did. -/
def knowAsksUptoRow : OpenClaim := { program := "ytjohhgopnpoboaa", sum := "d982f980a1363526caedeb73f4df85d3276622015a9c766dd108039bbe4873e3", func := "chamberlain/chamberlainlaw23.KnowAsks", spec := "knowAsks", unfollowed := true, recurses := true, plainKeys := false, apart := false, narrowed := true }
def KnowAsksUptoSaid : Prop := knowAsksUptoRow.holds Try.pinned (OpenSpec.upto knowAsksSpec)

/-- 'chamberlainlaw23.KnowMore', WHERE WHAT IT READS IS OF BULK AT MOST 1048576: true; the input reads as it did. -/
def knowMoreUptoRow : OpenClaim := { program := "ytjohhgopnpoboaa", sum := "d982f980a1363526caedeb73f4df85d3276622015a9c766dd108039bbe4873e3", func := "chamberlain/chamberlainlaw23.KnowMore", spec := "knowMore", unfollowed := true, recurses := true, plainKeys := false, apart := false, narrowed := true }
def KnowMoreUptoSaid : Prop := knowMoreUptoRow.holds Try.pinned (OpenSpec.upto knowMoreSpec)

end Rows
end Go.Proofs.Ytjohhgopnpoboaa
