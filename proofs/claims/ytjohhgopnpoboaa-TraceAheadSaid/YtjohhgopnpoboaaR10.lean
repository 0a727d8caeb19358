/- The document's answer: a new world. -/
import Derived.Test.YtjohhgopnpoboaaR9
set_option maxRecDepth 100000
set_option maxHeartbeats 4000000
set_option linter.unusedSimpArgs false
set_option linter.unusedVariables false
namespace Ch
open Go Go.Ab
def newWorld (c : Conf) (l : List Int) (n m : Nat) : World := ⟨c, ⟨l, n⟩, ⟨c.box, []⟩, ⟨c.net, [], []⟩, newPeople l 0 n, [], List.replicate m [], []⟩
def zeroWorld : List V := [u32 0, i64 0, i64 0, i64 0, i64 0, i64 0, i64 0, .sl [] .nil, i64 0, i64 0, .sl [] .nil, i64 0, .sl [] .nil, .sl [] .nil, .sl [] .nil, .sl [] .nil, .sl [] .nil, .sl [] .nil]
def nwCells (c : Conf) (l : List Int) (n m : Nat) (regs : V) : List V := [u32 c.window, i64 n, i64 c.box, i64 c.used, i64 c.runs, i64 c.net, i64 m, .sl (l.map u32) .plain, i64 n, i64 c.box, .sl [] .nil, i64 c.net, .sl [] .nil, .sl [] .nil, .sl ((newPeople l 0 n).map Person.v) .plain, .sl [] .nil, regs, .sl [] .nil]
def nwConf (c : Conf) (n m : Nat) : List V := [u32 c.window, i64 n, i64 c.box, i64 c.used, i64 c.runs, i64 c.net, i64 m]
def nwI (c : Conf) (l : List Int) (n m : Nat) : Nat → List V × List AB
  | 0 => ([.any, .any, .ptr 0 0, .any, .ptr 1 0, .ptr 2 0, .any, .any, i64 0, .any, .any, .any, .any, .any, .any, .any, .any, .any, .any, .any, .any, .any, .any, .any, .any, .any, .any, .any, .any, .any, .any, .any, .any, .any, .any, .any, .any, .any, .any, .any, .any, .any, .any], [.var (nwConf c n m), .var zeroWorld, .var (nwCells c l n m (.sl [] .nil)), .var [.sl (l.map u32) .plain, i64 n]])
  | j + 1 => ([.any, .any, .ptr 0 0, .any, .ptr 1 0, .ptr 2 0, .any, .any, i64 ((j + 1 : Nat) : Int), .any, .any, .any, .any, .any, .any, .any, .any, .any, .any, .any, .any, .any, .any, .any, .any, .any, .any, .any, .any, .any, .any, .any, .any, .any, .any, .any, .any, .any, .any, .any, .any, .any, .any], [.var (nwConf c n m), .var zeroWorld, .var (nwCells c l n m (.row 4 j)), .var [.sl (l.map u32) .plain, i64 n], .row 1 ((List.replicate (j + 1) []).map wordsV) j false])
theorem New12_spec (c : Conf) (n m : Nat) (hn : n ≤ 100) (hm : m ≤ 100) (h1 : c.people = n) (h2 : c.regs = m) (l : List Int) : Spec PP [] 24 [c.v, wordsV l] ((newWorld c l n m).v) [] := by
  refine Spec.of_runs Go.Proofs.Try.f24 Go.Proofs.Try.func24 rfl ?_
  intro w0 M0
  simp only [Go.Proofs.Try.f24, List.replicate, List.cons_append, List.nil_append, h1, h2, ab, ab2, tys, mv, Nat.reduceAdd, Nat.reduceSub, Nat.reduceEqDiff, Nat.reduceMul, Nat.reduceLT, reduceCtorEq, Nat.reduceLeDiff, Int.reduceBEq, Nat.reduceBEq]
  have e0 : (0 : Int) = ((0 : Nat) : Int) := rfl
  refine CALLS_spec2 (args' := ?_) (r := ?_) (by kernel_rfl) ?_ ?_ ?_
  rotate_left 2
  · simp only [ab, ab2, tys, mv, Nat.reduceAdd, Nat.reduceSub, Nat.reduceEqDiff, Nat.reduceMul, Nat.reduceLT, reduceCtorEq, Nat.reduceLeDiff, Int.reduceBEq, Nat.reduceBEq]; exact rfl
  · exact New10_spec n hn l 0 (by omega)
  simp only [ab, ab2, tys, mv, Nat.reduceAdd, Nat.reduceSub, Nat.reduceEqDiff, Nat.reduceMul, Nat.reduceLT, reduceCtorEq, Nat.reduceLeDiff, Int.reduceBEq, Nat.reduceBEq]
  refine RUNs_range m (fun _ (_ : Unit) => True) (fun i _ => nwI c l n m i) () trivial ?_ rfl ?_
  · exact ⟨by repeat (first | exact .nil | refine .cons (.refl _) ?_ | refine .cons (.sl _ _) ?_ | refine .cons (.any _) ?_), by repeat (first | exact .nil _ | refine .cons (.refl _) ?_ | refine .cons (.var (by repeat (first | exact .nil | refine .cons (.refl _) ?_ | refine .cons (.sl _ _) ?_ | refine .cons (.any _) ?_))) ?_ | refine .cons (.dead _ (by intro hh; cases hh)) ?_), by rfl, by rfl⟩
  rintro ⟨i, _, hi, _⟩
  rcases i with _ | j
  · have w1 : IntKind.i64.wrap (0 + 1) = ((0 + 1 : Nat) : Int) := by rw [w64 (by omega) (by omega)]; rfl
    simp only [nwI, nwConf, nwCells, ab, ab2, tys, mv, Nat.reduceAdd, Nat.reduceSub, Nat.reduceEqDiff, Nat.reduceMul, Nat.reduceLT, reduceCtorEq, Nat.reduceLeDiff, Int.reduceBEq, Nat.reduceBEq]
    first | refine CONDS_split (fun h => ?_) (fun h => ?_) | refine GRDN_split (fun h => ?_) (fun h => ?_) | refine GRD_split (fun h => ?_) (fun h => ?_) | refine DGRN_split (fun h => ?_) (fun h => ?_) | refine DGR_split (fun h => ?_) (fun h => ?_)
    · simp only [ab, ab2, tys, mv, Nat.reduceAdd, Nat.reduceSub, Nat.reduceEqDiff, Nat.reduceMul, Nat.reduceLT, reduceCtorEq, Nat.reduceLeDiff, Int.reduceBEq, Nat.reduceBEq, h, w1]
      have hlt : 0 < m := by have := of_decide_eq_true h; omega
      (refine RUNs_next () ?_ ?_ hlt ?_; exact ⟨by repeat (first | exact .nil | refine .cons (.refl _) ?_ | refine .cons (.sl _ _) ?_ | refine .cons (.any _) ?_), by repeat (first | exact .nil _ | refine .cons (.refl _) ?_ | refine .cons (.var (by repeat (first | exact .nil | refine .cons (.refl _) ?_ | refine .cons (.sl _ _) ?_ | refine .cons (.any _) ?_))) ?_ | refine .cons (.dead _ (by intro hh; cases hh)) ?_), by rfl, by rfl⟩; rfl)
      trivial
    · simp only [ab, ab2, tys, mv, Nat.reduceAdd, Nat.reduceSub, Nat.reduceEqDiff, Nat.reduceMul, Nat.reduceLT, reduceCtorEq, Nat.reduceLeDiff, Int.reduceBEq, Nat.reduceBEq, h, zeroWorld]
      (refine FINS_done ?_; simp only [ab, ab2, tys, mv, Nat.reduceAdd, Nat.reduceSub, Nat.reduceEqDiff, Nat.reduceMul, Nat.reduceLT, reduceCtorEq, Nat.reduceLeDiff, Int.reduceBEq, Nat.reduceBEq])
      have : m = 0 := by have := of_decide_eq_false h; omega
      subst this
      simp only [newWorld, ab, ab2, tys, mv, Nat.reduceAdd, Nat.reduceSub, Nat.reduceEqDiff, Nat.reduceMul, Nat.reduceLT, reduceCtorEq, Nat.reduceLeDiff, Int.reduceBEq, Nat.reduceBEq, h1, h2, List.replicate, List.map_nil, Int.ofNat_zero, Int.natCast_zero, Int.cast_ofNat_Int]
  · have w1 : IntKind.i64.wrap (((j + 1 : Nat) : Int) + 1) = ((j + 1 + 1 : Nat) : Int) := w64s (by omega)
    simp only [nwI, nwConf, nwCells, ab, ab2, tys, mv, Nat.reduceAdd, Nat.reduceSub, Nat.reduceEqDiff, Nat.reduceMul, Nat.reduceLT, reduceCtorEq, Nat.reduceLeDiff, Int.reduceBEq, Nat.reduceBEq]
    first | refine CONDS_split (fun h => ?_) (fun h => ?_) | refine GRDN_split (fun h => ?_) (fun h => ?_) | refine GRD_split (fun h => ?_) (fun h => ?_) | refine DGRN_split (fun h => ?_) (fun h => ?_) | refine DGR_split (fun h => ?_) (fun h => ?_)
    · simp only [ab, ab2, tys, mv, Nat.reduceAdd, Nat.reduceSub, Nat.reduceEqDiff, Nat.reduceMul, Nat.reduceLT, reduceCtorEq, Nat.reduceLeDiff, Int.reduceBEq, Nat.reduceBEq, h, w1]
      refine OPC_ok (by simp; omega) ?_
      have e : (List.replicate (j + 1) []).map wordsV ++ [wordsV []] = (List.replicate (j + 1 + 1) ([] : List Int)).map wordsV := by
        rw [List.replicate_succ' (n := j + 1), List.map_append]; rfl
      simp only [wordsV, List.map_nil] at e
      simp only [ab, ab2, tys, mv, Nat.reduceAdd, Nat.reduceSub, Nat.reduceEqDiff, Nat.reduceMul, Nat.reduceLT, reduceCtorEq, Nat.reduceLeDiff, Int.reduceBEq, Nat.reduceBEq, List.map_nil, e, w1]
      have hlt : j + 1 < m := by have := of_decide_eq_true h; omega
      (refine RUNs_next () ?_ ?_ hlt ?_; exact ⟨by repeat (first | exact .nil | refine .cons (.refl _) ?_ | refine .cons (.sl _ _) ?_ | refine .cons (.any _) ?_), by repeat (first | exact .nil _ | refine .cons (.refl _) ?_ | refine .cons (.var (by repeat (first | exact .nil | refine .cons (.refl _) ?_ | refine .cons (.sl _ _) ?_ | refine .cons (.any _) ?_))) ?_ | refine .cons (.dead _ (by intro hh; cases hh)) ?_), by rfl, by rfl⟩; rfl)
      trivial
    · simp only [ab, ab2, tys, mv, Nat.reduceAdd, Nat.reduceSub, Nat.reduceEqDiff, Nat.reduceMul, Nat.reduceLT, reduceCtorEq, Nat.reduceLeDiff, Int.reduceBEq, Nat.reduceBEq, h, zeroWorld]
      (refine FINS_done ?_; simp only [ab, ab2, tys, mv, Nat.reduceAdd, Nat.reduceSub, Nat.reduceEqDiff, Nat.reduceMul, Nat.reduceLT, reduceCtorEq, Nat.reduceLeDiff, Int.reduceBEq, Nat.reduceBEq])
      have : m = j + 1 := by have := of_decide_eq_false h; omega
      subst this
      simp only [newWorld, ab, ab2, tys, mv, Nat.reduceAdd, Nat.reduceSub, Nat.reduceEqDiff, Nat.reduceMul, Nat.reduceLT, reduceCtorEq, Nat.reduceLeDiff, Int.reduceBEq, Nat.reduceBEq, h1, h2]
      rfl
end Ch
