/- The program's causes. -/
import Derived.Test.YtjohhgopnpoboaaR10
set_option maxRecDepth 100000
set_option maxHeartbeats 4000000
set_option linter.unusedSimpArgs false
set_option linter.unusedVariables false
namespace Ch
open Go Go.Ab
inductive Ask where
  | fresh
  | must (k r m : Int)
  | never (k r m : Int)
def Ask.v : Ask → V
  | .fresh => .iface 108 (.agg [])
  | .must k r m => .iface 111 (.agg [i64 k, i64 r, i64 m])
  | .never k r m => .iface 110 (.agg [i64 k, i64 r, i64 m])
def asksV (l : List Ask) : V := .sl (l.map Ask.v) .plain
structure Causes where
  always : List Ask
  honestA : List Ask
  honestB : List Ask
def Causes.v (c : Causes) : V := .agg [asksV c.always, asksV c.honestA, asksV c.honestB]
def kpr (e : Event) (k p r : Int) : Bool := e.kind == k && (e.proto == p && e.role == r)
def asksM (e : Event) : Option Causes :=
  bif kpr e 4 2 2 then some ⟨[.must 3 2 408], [], [.must 2 0 184]⟩
  else bif kpr e 4 2 1 then some ⟨[.must 1 1 408], [.must 2 0 184], []⟩
  else bif kpr e 4 1 2 then some ⟨[.must 3 2 376], [], []⟩
  else bif kpr e 4 1 1 then some ⟨[.must 3 1 120], [], []⟩
  else bif kpr e 3 2 2 then some ⟨[.never 3 2 144], [], []⟩
  else bif kpr e 3 1 2 then some ⟨[.never 3 2 48], [], [.must 2 0 120]⟩
  else bif kpr e 3 1 1 then some ⟨[.must 1 1 280], [.must 2 0 376], []⟩
  else bif kpr e 2 2 0 then some ⟨[.fresh, .never 2 0 128], [.must 1 1 152], [.must 3 2 152]⟩
  else bif kpr e 2 1 0 then some ⟨[.fresh, .never 2 0 256], [], []⟩
  else bif kpr e 1 2 1 then some ⟨[], [], []⟩
  else bif kpr e 1 1 1 then some ⟨[], [], []⟩
  else none
def noCauses : Causes := ⟨[], [], []⟩
theorem asks_spec (e : Event) : Spec PP [] 34 [e.v] (.tup [((asksM e).getD noCauses).v, .bool (asksM e).isSome]) [] := by
  refine Spec.of_runs Go.Proofs.Try.f34 Go.Proofs.Try.func34 rfl ?_
  intro w0 M0
  simp only [Go.Proofs.Try.f34, List.replicate, List.cons_append, List.nil_append, ab, ab2, tys, mv, Nat.reduceAdd, Nat.reduceSub, Nat.reduceEqDiff, Nat.reduceMul, Nat.reduceLT, reduceCtorEq, Nat.reduceLeDiff, Int.reduceBEq, Nat.reduceBEq]
  (refine RUNs_draw 1 (by kernel_rfl) ?_; simp only [ab, ab2, tys, mv, Nat.reduceAdd, Nat.reduceSub, Nat.reduceEqDiff, Nat.reduceMul, Nat.reduceLT, reduceCtorEq, Nat.reduceLeDiff, Int.reduceBEq, Nat.reduceBEq])
  (refine ⟨by kernel_rfl, ?_⟩)
  rw [lookR_enc (asksM e) Causes.v noCauses ?lh ?lz]
  case lz => rfl
  case lh => simp only [asksM, kpr, bif_map, Option.map_some, Option.map_none]; rfl
  simp only [ab, ab2, tys, mv, Nat.reduceAdd, Nat.reduceSub, Nat.reduceEqDiff, Nat.reduceMul, Nat.reduceLT, reduceCtorEq, Nat.reduceLeDiff, Int.reduceBEq, Nat.reduceBEq, Causes.v, asksV]
  (refine FINS_done ?_; simp only [ab, ab2, tys, mv, Nat.reduceAdd, Nat.reduceSub, Nat.reduceEqDiff, Nat.reduceMul, Nat.reduceLT, reduceCtorEq, Nat.reduceLeDiff, Int.reduceBEq, Nat.reduceBEq])
end Ch
