/- The small readers of the document's answer, go on. -/
import Derived.Test.YtjohhgopnpoboaaR1
set_option maxRecDepth 100000
set_option maxHeartbeats 4000000
set_option linter.unusedSimpArgs false
set_option linter.unusedVariables false
namespace Ch
open Go Go.Ab
def room (n : Int) : Bool := decide (n ≥ 0) && decide (n ≤ 64)
theorem room_spec (n : Int) : Spec PP [] 56 [i64 n] (.bool (room n)) [] := by
  refine Spec.of_runs Go.Proofs.Try.f56 Go.Proofs.Try.func56 rfl ?_
  intro w0 M0
  simp only [Go.Proofs.Try.f56, List.replicate, List.cons_append, List.nil_append, ab, ab2, tys, mv, Nat.reduceAdd, Nat.reduceSub, Nat.reduceEqDiff, Nat.reduceMul, Nat.reduceLT, reduceCtorEq, Nat.reduceLeDiff, Int.reduceBEq, Nat.reduceBEq]
  repeat' ((first | refine CONDS_split (fun h => ?_) (fun h => ?_) | refine GRDN_split (fun h => ?_) (fun h => ?_) | refine GRD_split (fun h => ?_) (fun h => ?_) | refine DGRN_split (fun h => ?_) (fun h => ?_) | refine DGR_split (fun h => ?_) (fun h => ?_)) <;> simp only [ab, ab2, tys, mv, Nat.reduceAdd, Nat.reduceSub, Nat.reduceEqDiff, Nat.reduceMul, Nat.reduceLT, reduceCtorEq, Nat.reduceLeDiff, Int.reduceBEq, Nat.reduceBEq, h])
  all_goals (refine FINS_done ?_; simp only [ab, ab2, tys, mv, Nat.reduceAdd, Nat.reduceSub, Nat.reduceEqDiff, Nat.reduceMul, Nat.reduceLT, reduceCtorEq, Nat.reduceLeDiff, Int.reduceBEq, Nat.reduceBEq])
  all_goals (first | (simp_all [room]; done) | (simp_all [room]; intros; omega))
def May12 (c : Conf) : Bool := decide (c.window ≤ 1048576) && decide (c.people ≥ 1) && decide (c.people ≤ 6) && room c.box && room c.used && room c.runs && room c.net && decide (c.regs ≥ 1) && decide (c.regs ≤ 8)
theorem May12_spec (c : Conf) : Spec PP [] 28 [c.v] (.bool (May12 c)) [] := by
  refine Spec.of_runs Go.Proofs.Try.f28 Go.Proofs.Try.func28 rfl ?_
  intro w0 M0
  simp only [Go.Proofs.Try.f28, List.replicate, List.cons_append, List.nil_append, Conf.v, ab, ab2, tys, mv, Nat.reduceAdd, Nat.reduceSub, Nat.reduceEqDiff, Nat.reduceMul, Nat.reduceLT, reduceCtorEq, Nat.reduceLeDiff, Int.reduceBEq, Nat.reduceBEq]
  repeat' (first | (refine CALLS_spec2 (args' := ?_) (r := ?_) (by kernel_rfl) ?_ ?_ ?_; rotate_left 2; (simp only [ab, ab2, tys, mv, Nat.reduceAdd, Nat.reduceSub, Nat.reduceEqDiff, Nat.reduceMul, Nat.reduceLT, reduceCtorEq, Nat.reduceLeDiff, Int.reduceBEq, Nat.reduceBEq]; exact rfl); exact (room_spec _); simp only [ab, ab2, tys, mv, Nat.reduceAdd, Nat.reduceSub, Nat.reduceEqDiff, Nat.reduceMul, Nat.reduceLT, reduceCtorEq, Nat.reduceLeDiff, Int.reduceBEq, Nat.reduceBEq]) | ((first | refine CONDS_split (fun h => ?_) (fun h => ?_) | refine GRDN_split (fun h => ?_) (fun h => ?_) | refine GRD_split (fun h => ?_) (fun h => ?_) | refine DGRN_split (fun h => ?_) (fun h => ?_) | refine DGR_split (fun h => ?_) (fun h => ?_)) <;> simp only [ab, ab2, tys, mv, Nat.reduceAdd, Nat.reduceSub, Nat.reduceEqDiff, Nat.reduceMul, Nat.reduceLT, reduceCtorEq, Nat.reduceLeDiff, Int.reduceBEq, Nat.reduceBEq, h]))
  all_goals (refine FINS_done ?_; simp only [ab, ab2, tys, mv, Nat.reduceAdd, Nat.reduceSub, Nat.reduceEqDiff, Nat.reduceMul, Nat.reduceLT, reduceCtorEq, Nat.reduceLeDiff, Int.reduceBEq, Nat.reduceBEq])
  all_goals (first | (simp_all [May12]; done) | (simp_all [May12]; intros; omega))
def Right06 (n : Net) : Bool := decide (n.room ≥ 0) && decide (n.room ≤ 64) && decide ((n.grams.length : Int) ≤ n.room)
theorem Right06_spec (n : Net) : Spec PP [] 30 [n.v] (.bool (Right06 n)) [] := by
  refine Spec.of_runs Go.Proofs.Try.f30 Go.Proofs.Try.func30 rfl ?_
  intro w0 M0
  simp only [Go.Proofs.Try.f30, List.replicate, List.cons_append, List.nil_append, Net.v, gramsV, ab, ab2, tys, mv, Nat.reduceAdd, Nat.reduceSub, Nat.reduceEqDiff, Nat.reduceMul, Nat.reduceLT, reduceCtorEq, Nat.reduceLeDiff, Int.reduceBEq, Nat.reduceBEq]
  repeat' ((first | refine CONDS_split (fun h => ?_) (fun h => ?_) | refine GRDN_split (fun h => ?_) (fun h => ?_) | refine GRD_split (fun h => ?_) (fun h => ?_) | refine DGRN_split (fun h => ?_) (fun h => ?_) | refine DGR_split (fun h => ?_) (fun h => ?_)) <;> simp only [ab, ab2, tys, mv, Nat.reduceAdd, Nat.reduceSub, Nat.reduceEqDiff, Nat.reduceMul, Nat.reduceLT, reduceCtorEq, Nat.reduceLeDiff, Int.reduceBEq, Nat.reduceBEq, h])
  all_goals (refine FINS_done ?_; simp only [ab, ab2, tys, mv, Nat.reduceAdd, Nat.reduceSub, Nat.reduceEqDiff, Nat.reduceMul, Nat.reduceLT, reduceCtorEq, Nat.reduceLeDiff, Int.reduceBEq, Nat.reduceBEq])
  all_goals (first | (simp_all [Right06]; done) | (simp_all [Right06]; intros; omega))
end Ch
