/- The small readers of the document's answer. -/
import Derived.Test.YtjohhgopnpoboaaTy1
import Derived.Test.YtjohhgopnpoboaaAbInv
import Derived.Test.YtjohhgopnpoboaaMod
set_option maxRecDepth 100000
set_option maxHeartbeats 4000000
set_option linter.unusedSimpArgs false
set_option linter.unusedVariables false
namespace Ch
open Go Go.Ab
theorem Has_spec (l : List Int) (w : Int) (hl : l.length ≤ 9223372036854775807) : Spec PP [] 23 [wordsV l, u32 w] (.bool (decide (w ∈ l))) [] := by
  refine Spec.of_runs Go.Proofs.Try.f23 Go.Proofs.Try.func23 rfl ?_
  intro w0 M0
  simp only [Go.Proofs.Try.f23, List.replicate, List.cons_append, List.nil_append, wordsV, ab, ab2, tys, mv, Nat.reduceAdd, Nat.reduceSub, Nat.reduceEqDiff, Nat.reduceMul, Nat.reduceLT, reduceCtorEq, Nat.reduceLeDiff, Int.reduceBEq, Nat.reduceBEq]
  refine RUNs_range l.length (fun i (_ : Unit) => w ∉ l.take i) (fun i _ => ([.sl (l.map u32) .plain, u32 w, .any, .any, .bool false, i64 i, .any, .any, .any, .any, .any, .any, .any, .any, .any, .any, .any, .any], [])) () (by simp) ⟨by repeat (first | exact .nil | refine .cons (.refl _) ?_ | refine .cons (.sl _ _) ?_ | refine .cons (.any _) ?_), by repeat (first | exact .nil _ | refine .cons (.refl _) ?_ | refine .cons (.var (by repeat (first | exact .nil | refine .cons (.refl _) ?_ | refine .cons (.sl _ _) ?_ | refine .cons (.any _) ?_))) ?_ | refine .cons (.dead _ (by intro hh; cases hh)) ?_), by rfl, by rfl⟩ rfl ?_
  rintro ⟨i, _, hi, hw⟩
  simp only [ab, ab2, tys, mv, Nat.reduceAdd, Nat.reduceSub, Nat.reduceEqDiff, Nat.reduceMul, Nat.reduceLT, reduceCtorEq, Nat.reduceLeDiff, Int.reduceBEq, Nat.reduceBEq]
  refine CONDS_split (fun h => ?_) (fun h => ?_)
  · have hlt : i < l.length := by simpa using h
    simp only [ab, ab2, tys, mv, Nat.reduceAdd, Nat.reduceSub, Nat.reduceEqDiff, Nat.reduceMul, Nat.reduceLT, reduceCtorEq, Nat.reduceLeDiff, Int.reduceBEq, Nat.reduceBEq, getMap u32 l hlt]
    refine CONDS_split (fun h => ?_) (fun h => ?_)
    · simp only [ab, ab2, tys, mv, Nat.reduceAdd, Nat.reduceSub, Nat.reduceEqDiff, Nat.reduceMul, Nat.reduceLT, reduceCtorEq, Nat.reduceLeDiff, Int.reduceBEq, Nat.reduceBEq]
      (refine FINS_done ?_; simp only [ab, ab2, tys, mv, Nat.reduceAdd, Nat.reduceSub, Nat.reduceEqDiff, Nat.reduceMul, Nat.reduceLT, reduceCtorEq, Nat.reduceLeDiff, Int.reduceBEq, Nat.reduceBEq])
      have : w ∈ l := by have := List.getElem_mem hlt; simp at h; simp_all
      simp [this]
    · simp only [ab, ab2, tys, mv, Nat.reduceAdd, Nat.reduceSub, Nat.reduceEqDiff, Nat.reduceMul, Nat.reduceLT, reduceCtorEq, Nat.reduceLeDiff, Int.reduceBEq, Nat.reduceBEq, w64s (i := i) (by omega)]
      (refine RUNs_next () ?_ ?_ hlt ?_; exact ⟨by repeat (first | exact .nil | refine .cons (.refl _) ?_ | refine .cons (.sl _ _) ?_ | refine .cons (.any _) ?_), by repeat (first | exact .nil _ | refine .cons (.refl _) ?_ | refine .cons (.var (by repeat (first | exact .nil | refine .cons (.refl _) ?_ | refine .cons (.sl _ _) ?_ | refine .cons (.any _) ?_))) ?_ | refine .cons (.dead _ (by intro hh; cases hh)) ?_), by rfl, by rfl⟩; rfl)
      have h' : l[i] ≠ w := by simpa using h
      simp only [List.take_succ_eq_append_getElem hlt, List.mem_append, List.mem_singleton]
      rintro (h1 | h1)
      · exact hw h1
      · exact h' h1.symm
  · simp only [ab, ab2, tys, mv, Nat.reduceAdd, Nat.reduceSub, Nat.reduceEqDiff, Nat.reduceMul, Nat.reduceLT, reduceCtorEq, Nat.reduceLeDiff, Int.reduceBEq, Nat.reduceBEq]
    (refine FINS_done ?_; simp only [ab, ab2, tys, mv, Nat.reduceAdd, Nat.reduceSub, Nat.reduceEqDiff, Nat.reduceMul, Nat.reduceLT, reduceCtorEq, Nat.reduceLeDiff, Int.reduceBEq, Nat.reduceBEq])
    have : i = l.length := by simp at h; omega
    subst this
    simp at hw; simp [hw]
def May09 (r : Run) : Bool := (r.proto == 1 || r.proto == 2) && (r.role == 1 || r.role == 2) && (r.state == 1 || r.state == 2 || r.state == 3)
theorem May09_spec (r : Run) : Spec PP [] 58 [r.v] (.bool (May09 r)) [] := by
  refine Spec.of_runs Go.Proofs.Try.f58 Go.Proofs.Try.func58 rfl ?_
  intro w0 M0
  simp only [Go.Proofs.Try.f58, List.replicate, List.cons_append, List.nil_append, Run.v, ab, ab2, tys, mv, Nat.reduceAdd, Nat.reduceSub, Nat.reduceEqDiff, Nat.reduceMul, Nat.reduceLT, reduceCtorEq, Nat.reduceLeDiff, Int.reduceBEq, Nat.reduceBEq]
  repeat' ((first | refine CONDS_split (fun h => ?_) (fun h => ?_) | refine GRDN_split (fun h => ?_) (fun h => ?_) | refine GRD_split (fun h => ?_) (fun h => ?_) | refine DGRN_split (fun h => ?_) (fun h => ?_) | refine DGR_split (fun h => ?_) (fun h => ?_)) <;> simp only [ab, ab2, tys, mv, Nat.reduceAdd, Nat.reduceSub, Nat.reduceEqDiff, Nat.reduceMul, Nat.reduceLT, reduceCtorEq, Nat.reduceLeDiff, Int.reduceBEq, Nat.reduceBEq, h])
  all_goals (refine FINS_done ?_; simp only [ab, ab2, tys, mv, Nat.reduceAdd, Nat.reduceSub, Nat.reduceEqDiff, Nat.reduceMul, Nat.reduceLT, reduceCtorEq, Nat.reduceLeDiff, Int.reduceBEq, Nat.reduceBEq])
  all_goals simp_all [May09]

def There07 (l : List Sld) (h : Int) : Bool := l.any fun s => s.handle == h
theorem There07_spec (b : Box) (w : Int) (hl : b.rows.length ≤ 9223372036854775807) : Spec PP [] 57 [b.v, u32 w] (.bool (There07 b.rows w)) [] := by
  refine Spec.of_runs Go.Proofs.Try.f57 Go.Proofs.Try.func57 rfl ?_
  intro w0 M0
  simp only [Go.Proofs.Try.f57, List.replicate, List.cons_append, List.nil_append, Box.v, sldsV, ab, ab2, tys, mv, Nat.reduceAdd, Nat.reduceSub, Nat.reduceEqDiff, Nat.reduceMul, Nat.reduceLT, reduceCtorEq, Nat.reduceLeDiff, Int.reduceBEq, Nat.reduceBEq]
  refine RUNs_range b.rows.length (fun i (_ : Unit) => (b.rows.take i).all (fun s => !(s.handle == w)) = true) (fun i _ => ([b.v, u32 w, .ptr 0 0, .any, .bool false, i64 i, .any, .any, .any, .any, .any, .any, .any, .any, .any, .any, .any, .any, .any, .any, .any], [.var [i64 b.room, sldsV b.rows]])) () (by simp) ⟨by repeat (first | exact .nil | refine .cons (.refl _) ?_ | refine .cons (.sl _ _) ?_ | refine .cons (.any _) ?_), by repeat (first | exact .nil _ | refine .cons (.refl _) ?_ | refine .cons (.var (by repeat (first | exact .nil | refine .cons (.refl _) ?_ | refine .cons (.sl _ _) ?_ | refine .cons (.any _) ?_))) ?_ | refine .cons (.dead _ (by intro hh; cases hh)) ?_), by rfl, by rfl⟩ rfl ?_
  rintro ⟨i, _, hi, hw⟩
  simp only [ab, ab2, tys, mv, Nat.reduceAdd, Nat.reduceSub, Nat.reduceEqDiff, Nat.reduceMul, Nat.reduceLT, reduceCtorEq, Nat.reduceLeDiff, Int.reduceBEq, Nat.reduceBEq, sldsV]
  refine CONDS_split (fun h => ?_) (fun h => ?_)
  · have hlt : i < b.rows.length := by simpa using h
    simp only [ab, ab2, tys, mv, Nat.reduceAdd, Nat.reduceSub, Nat.reduceEqDiff, Nat.reduceMul, Nat.reduceLT, reduceCtorEq, Nat.reduceLeDiff, Int.reduceBEq, Nat.reduceBEq, getMap Sld.v b.rows hlt, Sld.v]
    refine CONDS_split (fun h => ?_) (fun h => ?_)
    · simp only [ab, ab2, tys, mv, Nat.reduceAdd, Nat.reduceSub, Nat.reduceEqDiff, Nat.reduceMul, Nat.reduceLT, reduceCtorEq, Nat.reduceLeDiff, Int.reduceBEq, Nat.reduceBEq]
      (refine FINS_done ?_; simp only [ab, ab2, tys, mv, Nat.reduceAdd, Nat.reduceSub, Nat.reduceEqDiff, Nat.reduceMul, Nat.reduceLT, reduceCtorEq, Nat.reduceLeDiff, Int.reduceBEq, Nat.reduceBEq])
      rw [There07, any_true hlt h]
    · simp only [ab, ab2, tys, mv, Nat.reduceAdd, Nat.reduceSub, Nat.reduceEqDiff, Nat.reduceMul, Nat.reduceLT, reduceCtorEq, Nat.reduceLeDiff, Int.reduceBEq, Nat.reduceBEq, w64s (i := i) (by omega)]
      (refine RUNs_next () ?_ ?_ hlt ?_; exact ⟨by repeat (first | exact .nil | refine .cons (.refl _) ?_ | refine .cons (.sl _ _) ?_ | refine .cons (.any _) ?_), by repeat (first | exact .nil _ | refine .cons (.refl _) ?_ | refine .cons (.var (by repeat (first | exact .nil | refine .cons (.refl _) ?_ | refine .cons (.sl _ _) ?_ | refine .cons (.any _) ?_))) ?_ | refine .cons (.dead _ (by intro hh; cases hh)) ?_), by rfl, by rfl⟩; rfl)
      rw [all_succ hlt, hw, h]; rfl
  · simp only [ab, ab2, tys, mv, Nat.reduceAdd, Nat.reduceSub, Nat.reduceEqDiff, Nat.reduceMul, Nat.reduceLT, reduceCtorEq, Nat.reduceLeDiff, Int.reduceBEq, Nat.reduceBEq]
    (refine FINS_done ?_; simp only [ab, ab2, tys, mv, Nat.reduceAdd, Nat.reduceSub, Nat.reduceEqDiff, Nat.reduceMul, Nat.reduceLT, reduceCtorEq, Nat.reduceLeDiff, Int.reduceBEq, Nat.reduceBEq])
    have : i = b.rows.length := by simp at h; omega
    subst this
    rw [List.take_length] at hw
    rw [There07, List.any_eq_not_all_not, hw]; rfl
end Ch
