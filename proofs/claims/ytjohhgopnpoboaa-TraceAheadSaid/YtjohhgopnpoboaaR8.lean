/- The document's answer: draws, a new world. -/
import Derived.Test.YtjohhgopnpoboaaR7
set_option maxRecDepth 100000
set_option maxHeartbeats 4000000
set_option linter.unusedSimpArgs false
set_option linter.unusedVariables false
namespace Ch
open Go Go.Ab
def dflt (i : Nat) : Int := orI .u32 1073741824 (IntKind.u32.wrap i)
def drawAt (l : List Int) (i : Nat) : Int :=
  let w := match l[i]? with
    | some x => x
    | none => dflt i
  if w < 2147483648 then IntKind.u32.wrap (w + 2147483648) else w
theorem At04_spec (d : Draws) (i : Nat) : Spec PP [] 69 [d.v, i64 i] (u32 (drawAt d.list i)) [] := by
  refine Spec.of_runs Go.Proofs.Try.f69 Go.Proofs.Try.func69 rfl ?_
  intro w0 M0
  simp only [Go.Proofs.Try.f69, List.replicate, List.cons_append, List.nil_append, Draws.v, ab, ab2, tys, mv, Nat.reduceAdd, Nat.reduceSub, Nat.reduceEqDiff, Nat.reduceMul, Nat.reduceLT, reduceCtorEq, Nat.reduceLeDiff, Int.reduceBEq, Nat.reduceBEq]
  first | refine CONDS_split (fun h => ?_) (fun h => ?_) | refine GRDN_split (fun h => ?_) (fun h => ?_) | refine GRD_split (fun h => ?_) (fun h => ?_) | refine DGRN_split (fun h => ?_) (fun h => ?_) | refine DGR_split (fun h => ?_) (fun h => ?_)
  · have hlt : i < d.list.length := by simpa using h
    simp only [ab, ab2, tys, mv, Nat.reduceAdd, Nat.reduceSub, Nat.reduceEqDiff, Nat.reduceMul, Nat.reduceLT, reduceCtorEq, Nat.reduceLeDiff, Int.reduceBEq, Nat.reduceBEq, h, getMap u32 d.list hlt]
    first | refine CONDS_split (fun h => ?_) (fun h => ?_) | refine GRDN_split (fun h => ?_) (fun h => ?_) | refine GRD_split (fun h => ?_) (fun h => ?_) | refine DGRN_split (fun h => ?_) (fun h => ?_) | refine DGR_split (fun h => ?_) (fun h => ?_)
    · simp only [ab, ab2, tys, mv, Nat.reduceAdd, Nat.reduceSub, Nat.reduceEqDiff, Nat.reduceMul, Nat.reduceLT, reduceCtorEq, Nat.reduceLeDiff, Int.reduceBEq, Nat.reduceBEq, h]
      (refine FINS_done ?_; simp only [ab, ab2, tys, mv, Nat.reduceAdd, Nat.reduceSub, Nat.reduceEqDiff, Nat.reduceMul, Nat.reduceLT, reduceCtorEq, Nat.reduceLeDiff, Int.reduceBEq, Nat.reduceBEq])
      simp at h; simp [drawAt, hlt, h]
    · simp only [ab, ab2, tys, mv, Nat.reduceAdd, Nat.reduceSub, Nat.reduceEqDiff, Nat.reduceMul, Nat.reduceLT, reduceCtorEq, Nat.reduceLeDiff, Int.reduceBEq, Nat.reduceBEq, h]
      (refine FINS_done ?_; simp only [ab, ab2, tys, mv, Nat.reduceAdd, Nat.reduceSub, Nat.reduceEqDiff, Nat.reduceMul, Nat.reduceLT, reduceCtorEq, Nat.reduceLeDiff, Int.reduceBEq, Nat.reduceBEq])
      simp at h; simp [drawAt, hlt]; omega
  · have hnl : d.list[i]? = none := by simp at h ⊢; omega
    simp only [ab, ab2, tys, mv, Nat.reduceAdd, Nat.reduceSub, Nat.reduceEqDiff, Nat.reduceMul, Nat.reduceLT, reduceCtorEq, Nat.reduceLeDiff, Int.reduceBEq, Nat.reduceBEq, h]
    first | refine CONDS_split (fun h => ?_) (fun h => ?_) | refine GRDN_split (fun h => ?_) (fun h => ?_) | refine GRD_split (fun h => ?_) (fun h => ?_) | refine DGRN_split (fun h => ?_) (fun h => ?_) | refine DGR_split (fun h => ?_) (fun h => ?_)
    · simp only [ab, ab2, tys, mv, Nat.reduceAdd, Nat.reduceSub, Nat.reduceEqDiff, Nat.reduceMul, Nat.reduceLT, reduceCtorEq, Nat.reduceLeDiff, Int.reduceBEq, Nat.reduceBEq, h]
      (refine FINS_done ?_; simp only [ab, ab2, tys, mv, Nat.reduceAdd, Nat.reduceSub, Nat.reduceEqDiff, Nat.reduceMul, Nat.reduceLT, reduceCtorEq, Nat.reduceLeDiff, Int.reduceBEq, Nat.reduceBEq])
      have h' := of_decide_eq_true h
      simp only [drawAt, hnl, dflt, h', if_true]
    · simp only [ab, ab2, tys, mv, Nat.reduceAdd, Nat.reduceSub, Nat.reduceEqDiff, Nat.reduceMul, Nat.reduceLT, reduceCtorEq, Nat.reduceLeDiff, Int.reduceBEq, Nat.reduceBEq, h]
      (refine FINS_done ?_; simp only [ab, ab2, tys, mv, Nat.reduceAdd, Nat.reduceSub, Nat.reduceEqDiff, Nat.reduceMul, Nat.reduceLT, reduceCtorEq, Nat.reduceLeDiff, Int.reduceBEq, Nat.reduceBEq])
      have h' := of_decide_eq_false h
      simp only [drawAt, hnl, dflt, h', if_false]
theorem Take04_spec (d : Draws) (i : Nat) (hi : d.next = i) : Spec PP [] 70 [d.v] (.tup [Draws.v ⟨d.list, IntKind.i64.wrap (d.next + 1)⟩, u32 (drawAt d.list i)]) [] := by
  refine Spec.of_runs Go.Proofs.Try.f70 Go.Proofs.Try.func70 rfl ?_
  intro w0 M0
  simp only [Go.Proofs.Try.f70, List.replicate, List.cons_append, List.nil_append, Draws.v, hi, ab, ab2, tys, mv, Nat.reduceAdd, Nat.reduceSub, Nat.reduceEqDiff, Nat.reduceMul, Nat.reduceLT, reduceCtorEq, Nat.reduceLeDiff, Int.reduceBEq, Nat.reduceBEq]
  (refine CALLS_spec (At04_spec ⟨d.list, i⟩ i) (by kernel_rfl) (by simp only [Draws.v, ab, ab2, tys, mv, Nat.reduceAdd, Nat.reduceSub, Nat.reduceEqDiff, Nat.reduceMul, Nat.reduceLT, reduceCtorEq, Nat.reduceLeDiff, Int.reduceBEq, Nat.reduceBEq]) ?_; simp only [ab, ab2, tys, mv, Nat.reduceAdd, Nat.reduceSub, Nat.reduceEqDiff, Nat.reduceMul, Nat.reduceLT, reduceCtorEq, Nat.reduceLeDiff, Int.reduceBEq, Nat.reduceBEq])
  (refine FINS_done ?_; simp only [ab, ab2, tys, mv, Nat.reduceAdd, Nat.reduceSub, Nat.reduceEqDiff, Nat.reduceMul, Nat.reduceLT, reduceCtorEq, Nat.reduceLeDiff, Int.reduceBEq, Nat.reduceBEq])
theorem i64_lit (n : Int) : V.val (.int .i64 n) = i64 n := rfl
def newPeople (l : List Int) (next : Nat) : Nat → List Person
  | 0 => [⟨0, 0, 0, [], [], false⟩]
  | n + 1 => newPeople l next n ++ [⟨IntKind.u32.wrap ((n + 1 : Nat) : Int), drawAt l (next + n), 0, [], [], false⟩]
theorem newPeople_len (l : List Int) (next : Nat) : ∀ n, (newPeople l next n).length = n + 1
  | 0 => rfl
  | n + 1 => by simp [newPeople, newPeople_len l next n]
abbrev zeroDraws : AB := .var [.sl [] .nil, i64 0]
def newI (l : List Int) (k n : Nat) : Nat → List V × List AB
  | 0 => ([i64 n, .any, .any, .ptr 0 0, .any, .ptr 1 0, .sl [Person.v ⟨0, 0, 0, [], [], false⟩] .tight, i64 1, .any, .any, .any, .any, .any, .any, .any, .any, .any, .any, .any, .any, .any, .any, .any, .any, .any, .any, .any, .any, .any, .any, .any, .any], [.var [wordsV l, i64 k], zeroDraws])
  | j + 1 => ([i64 n, .any, .any, .ptr 0 0, .any, .ptr 1 0, .row 3 j, i64 ((j + 2 : Nat) : Int), .any, .any, .any, .any, .any, .any, .any, .any, .any, .any, .any, .any, .any, .any, .any, .any, .any, .any, .any, .any, .any, .any, .any, .any], [.var [wordsV l, i64 ((k + j + 1 : Nat) : Int)], zeroDraws, .dead, .row 6 ((newPeople l k (j + 1)).map Person.v) j false])
theorem New10_spec (n : Nat) (hn : n ≤ 100) (l : List Int) (k : Nat) (hk : k ≤ 1048576) : Spec PP [] 55 [i64 n, Draws.v ⟨l, k⟩] (.tup [peopleV (newPeople l k n), Draws.v ⟨l, ((k + n : Nat) : Int)⟩]) [] := by
  refine Spec.of_runs Go.Proofs.Try.f55 Go.Proofs.Try.func55 rfl ?_
  intro w0 M0
  simp only [Go.Proofs.Try.f55, List.replicate, List.cons_append, List.nil_append, Draws.v, ab, ab2, tys, mv, Nat.reduceAdd, Nat.reduceSub, Nat.reduceEqDiff, Nat.reduceMul, Nat.reduceLT, reduceCtorEq, Nat.reduceLeDiff, Int.reduceBEq, Nat.reduceBEq]
  refine RUNs_range n (fun _ (_ : Unit) => True) (fun i _ => newI l k n i) () trivial ?_ rfl ?_
  · exact ⟨by repeat (first | exact .nil | refine .cons (.refl _) ?_ | refine .cons (.sl _ _) ?_ | refine .cons (.any _) ?_), by repeat (first | exact .nil _ | refine .cons (.refl _) ?_ | refine .cons (.var (by repeat (first | exact .nil | refine .cons (.refl _) ?_ | refine .cons (.sl _ _) ?_ | refine .cons (.any _) ?_))) ?_ | refine .cons (.dead _ (by intro hh; cases hh)) ?_), by rfl, by rfl⟩
  rintro ⟨i, _, hi, _⟩
  have w1 : IntKind.i64.wrap ((k : Int) + 1) = ((k + 1 : Nat) : Int) := w64s (by omega)
  have w2 : IntKind.i64.wrap (1 + 1) = ((0 + 2 : Nat) : Int) := by rw [w64 (by omega) (by omega)]; rfl
  rcases i with _ | j
  · simp only [newI, ab, ab2, tys, mv, Nat.reduceAdd, Nat.reduceSub, Nat.reduceEqDiff, Nat.reduceMul, Nat.reduceLT, reduceCtorEq, Nat.reduceLeDiff, Int.reduceBEq, Nat.reduceBEq]
    first | refine CONDS_split (fun h => ?_) (fun h => ?_) | refine GRDN_split (fun h => ?_) (fun h => ?_) | refine GRD_split (fun h => ?_) (fun h => ?_) | refine DGRN_split (fun h => ?_) (fun h => ?_) | refine DGR_split (fun h => ?_) (fun h => ?_)
    · simp only [ab, ab2, tys, mv, Nat.reduceAdd, Nat.reduceSub, Nat.reduceEqDiff, Nat.reduceMul, Nat.reduceLT, reduceCtorEq, Nat.reduceLeDiff, Int.reduceBEq, Nat.reduceBEq, h]
      (refine CALLS_spec2 (args' := ?_) (r := ?_) (by kernel_rfl) ?_ ?_ ?_; rotate_left 2; (simp only [ab, ab2, tys, mv, Nat.reduceAdd, Nat.reduceSub, Nat.reduceEqDiff, Nat.reduceMul, Nat.reduceLT, reduceCtorEq, Nat.reduceLeDiff, Int.reduceBEq, Nat.reduceBEq]; exact rfl); exact (Take04_spec ⟨l, k⟩ k rfl); simp only [ab, ab2, tys, mv, Nat.reduceAdd, Nat.reduceSub, Nat.reduceEqDiff, Nat.reduceMul, Nat.reduceLT, reduceCtorEq, Nat.reduceLeDiff, Int.reduceBEq, Nat.reduceBEq])
      simp only [ab, ab2, tys, mv, Nat.reduceAdd, Nat.reduceSub, Nat.reduceEqDiff, Nat.reduceMul, Nat.reduceLT, reduceCtorEq, Nat.reduceLeDiff, Int.reduceBEq, Nat.reduceBEq, w1, w2]
      have hlt : 0 < n := by have := of_decide_eq_true h; omega
      (refine RUNs_next () ?_ ?_ hlt ?_; exact ⟨by repeat (first | exact .nil | refine .cons (.refl _) ?_ | refine .cons (.sl _ _) ?_ | refine .cons (.any _) ?_), by repeat (first | exact .nil _ | refine .cons (.refl _) ?_ | refine .cons (.var (by repeat (first | exact .nil | refine .cons (.refl _) ?_ | refine .cons (.sl _ _) ?_ | refine .cons (.any _) ?_))) ?_ | refine .cons (.dead _ (by intro hh; cases hh)) ?_), by rfl, by rfl⟩; rfl)
      trivial
    · simp only [ab, ab2, tys, mv, Nat.reduceAdd, Nat.reduceSub, Nat.reduceEqDiff, Nat.reduceMul, Nat.reduceLT, reduceCtorEq, Nat.reduceLeDiff, Int.reduceBEq, Nat.reduceBEq, h]
      (refine RUNs_draw 0 (by kernel_rfl) ?_; simp only [ab, ab2, tys, mv, Nat.reduceAdd, Nat.reduceSub, Nat.reduceEqDiff, Nat.reduceMul, Nat.reduceLT, reduceCtorEq, Nat.reduceLeDiff, Int.reduceBEq, Nat.reduceBEq])
      (refine ⟨by kernel_rfl, ?_⟩)
      (refine FINS_done ?_; simp only [ab, ab2, tys, mv, Nat.reduceAdd, Nat.reduceSub, Nat.reduceEqDiff, Nat.reduceMul, Nat.reduceLT, reduceCtorEq, Nat.reduceLeDiff, Int.reduceBEq, Nat.reduceBEq])
      have : n = 0 := by simp at h; omega
      subst this
      rfl
  · have w3 : IntKind.i64.wrap (((k + j + 1 : Nat) : Int) + 1) = ((k + (j + 1) + 1 : Nat) : Int) := by rw [w64s (by omega)]; congr 1
    have w4 : IntKind.i64.wrap (((j + 2 : Nat) : Int) + 1) = ((j + 1 + 2 : Nat) : Int) := by rw [w64s (by omega)]
    simp only [newI, ab, ab2, tys, mv, Nat.reduceAdd, Nat.reduceSub, Nat.reduceEqDiff, Nat.reduceMul, Nat.reduceLT, reduceCtorEq, Nat.reduceLeDiff, Int.reduceBEq, Nat.reduceBEq]
    first | refine CONDS_split (fun h => ?_) (fun h => ?_) | refine GRDN_split (fun h => ?_) (fun h => ?_) | refine GRD_split (fun h => ?_) (fun h => ?_) | refine DGRN_split (fun h => ?_) (fun h => ?_) | refine DGR_split (fun h => ?_) (fun h => ?_)
    · simp only [ab, ab2, tys, mv, Nat.reduceAdd, Nat.reduceSub, Nat.reduceEqDiff, Nat.reduceMul, Nat.reduceLT, reduceCtorEq, Nat.reduceLeDiff, Int.reduceBEq, Nat.reduceBEq, h]
      (refine CALLS_spec2 (args' := ?_) (r := ?_) (by kernel_rfl) ?_ ?_ ?_; rotate_left 2; (simp only [ab, ab2, tys, mv, Nat.reduceAdd, Nat.reduceSub, Nat.reduceEqDiff, Nat.reduceMul, Nat.reduceLT, reduceCtorEq, Nat.reduceLeDiff, Int.reduceBEq, Nat.reduceBEq]; exact rfl); exact (Take04_spec ⟨l, ((k + j + 1 : Nat) : Int)⟩ (k + j + 1) rfl); simp only [ab, ab2, tys, mv, Nat.reduceAdd, Nat.reduceSub, Nat.reduceEqDiff, Nat.reduceMul, Nat.reduceLT, reduceCtorEq, Nat.reduceLeDiff, Int.reduceBEq, Nat.reduceBEq])
      refine OPC_ok ?_ ?_
      · simp [newPeople_len]; omega
      have e : (newPeople l k (j + 1)).map Person.v ++ [Person.v ⟨IntKind.u32.wrap ((j + 2 : Nat) : Int), drawAt l (k + j + 1), 0, [], [], false⟩] = (newPeople l k (j + 1 + 1)).map Person.v := by
        rw [newPeople.eq_2 l k (j + 1), List.map_append]; rfl
      simp only [Person.v, wordsV, runsV, List.map_nil] at e
      simp only [ab, ab2, tys, mv, Nat.reduceAdd, Nat.reduceSub, Nat.reduceEqDiff, Nat.reduceMul, Nat.reduceLT, reduceCtorEq, Nat.reduceLeDiff, Int.reduceBEq, Nat.reduceBEq, w3, w4, e]
      have hlt : j + 1 < n := by have := of_decide_eq_true h; omega
      (refine RUNs_next () ?_ ?_ hlt ?_; exact ⟨by repeat (first | exact .nil | refine .cons (.refl _) ?_ | refine .cons (.sl _ _) ?_ | refine .cons (.any _) ?_), by repeat (first | exact .nil _ | refine .cons (.refl _) ?_ | refine .cons (.var (by repeat (first | exact .nil | refine .cons (.refl _) ?_ | refine .cons (.sl _ _) ?_ | refine .cons (.any _) ?_))) ?_ | refine .cons (.dead _ (by intro hh; cases hh)) ?_), by rfl, by rfl⟩; rfl)
      trivial
    · simp only [ab, ab2, tys, mv, Nat.reduceAdd, Nat.reduceSub, Nat.reduceEqDiff, Nat.reduceMul, Nat.reduceLT, reduceCtorEq, Nat.reduceLeDiff, Int.reduceBEq, Nat.reduceBEq, h]
      (refine RUNs_draw 0 (by kernel_rfl) ?_; simp only [ab, ab2, tys, mv, Nat.reduceAdd, Nat.reduceSub, Nat.reduceEqDiff, Nat.reduceMul, Nat.reduceLT, reduceCtorEq, Nat.reduceLeDiff, Int.reduceBEq, Nat.reduceBEq])
      (refine ⟨by kernel_rfl, ?_⟩)
      (refine FINS_done ?_; simp only [ab, ab2, tys, mv, Nat.reduceAdd, Nat.reduceSub, Nat.reduceEqDiff, Nat.reduceMul, Nat.reduceLT, reduceCtorEq, Nat.reduceLeDiff, Int.reduceBEq, Nat.reduceBEq])
      have : n = j + 1 := by simp at h; omega
      subst this
      rfl
end Ch
