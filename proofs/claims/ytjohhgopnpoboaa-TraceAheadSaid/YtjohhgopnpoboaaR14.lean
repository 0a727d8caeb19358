/- The program's causes of events. -/
import Derived.Test.YtjohhgopnpoboaaR13
set_option maxRecDepth 100000
set_option maxHeartbeats 4000000
set_option linter.unusedSimpArgs false
set_option linter.unusedVariables false
namespace Ch
open Go Go.Ab
theorem wu64 {n : Int} (h0 : 0 ≤ n) (h1 : n < 18446744073709551616) : IntKind.u64.wrap n = n := by
  rw [IntKind.wrap_u64]; omega
theorem in_spec (l : List Person) (n : Nat) (hn : n < 4294967296) (hl : l.length ≤ 1099511627776) : Spec PP [] 71 [peopleV l, u32 n] (.bool (decide (n < l.length))) [] := by
  refine Spec.of_runs Go.Proofs.Try.f71 Go.Proofs.Try.func71 rfl ?_
  intro w0 M0
  simp only [Go.Proofs.Try.f71, List.replicate, List.cons_append, List.nil_append, ab, ab2, tys, mv, Nat.reduceAdd, Nat.reduceSub, Nat.reduceEqDiff, Nat.reduceMul, Nat.reduceLT, reduceCtorEq, Nat.reduceLeDiff, Int.reduceBEq, Nat.reduceBEq]
  simp only [wu64 (n := (n : Int)) (by omega) (by omega), wu64 (n := (l.length : Int)) (by omega) (by omega), ab, ab2, tys, mv, Nat.reduceAdd, Nat.reduceSub, Nat.reduceEqDiff, Nat.reduceMul, Nat.reduceLT, reduceCtorEq, Nat.reduceLeDiff, Int.reduceBEq, Nat.reduceBEq]
  (refine FINS_done ?_; simp only [ab, ab2, tys, mv, Nat.reduceAdd, Nat.reduceSub, Nat.reduceEqDiff, Nat.reduceMul, Nat.reduceLT, reduceCtorEq, Nat.reduceLeDiff, Int.reduceBEq, Nat.reduceBEq])
  simp
def zeroP : Person := ⟨0, 0, 0, [], [], false⟩
def getP (l : List Person) (n : Nat) : Person := (l[n]?).getD zeroP
theorem Get_spec (l : List Person) (n : Nat) (hn : n < 4294967296) (hl : l.length ≤ 1099511627776) : Spec PP [] 59 [peopleV l, u32 n] (.tup [(getP l n).v, .bool (decide (n < l.length))]) [] := by
  refine Spec.of_runs Go.Proofs.Try.f59 Go.Proofs.Try.func59 rfl ?_
  intro w0 M0
  simp only [Go.Proofs.Try.f59, List.replicate, List.cons_append, List.nil_append, ab, ab2, tys, mv, Nat.reduceAdd, Nat.reduceSub, Nat.reduceEqDiff, Nat.reduceMul, Nat.reduceLT, reduceCtorEq, Nat.reduceLeDiff, Int.reduceBEq, Nat.reduceBEq]
  (refine CALLS_spec2 (args' := ?_) (r := ?_) (by kernel_rfl) ?_ ?_ ?_; rotate_left 2; (simp only [ab, ab2, tys, mv, Nat.reduceAdd, Nat.reduceSub, Nat.reduceEqDiff, Nat.reduceMul, Nat.reduceLT, reduceCtorEq, Nat.reduceLeDiff, Int.reduceBEq, Nat.reduceBEq]; exact rfl); exact (in_spec l n hn hl); simp only [ab, ab2, tys, mv, Nat.reduceAdd, Nat.reduceSub, Nat.reduceEqDiff, Nat.reduceMul, Nat.reduceLT, reduceCtorEq, Nat.reduceLeDiff, Int.reduceBEq, Nat.reduceBEq])
  first | refine CONDS_split (fun h => ?_) (fun h => ?_) | refine GRDN_split (fun h => ?_) (fun h => ?_) | refine GRD_split (fun h => ?_) (fun h => ?_) | refine DGRN_split (fun h => ?_) (fun h => ?_) | refine DGR_split (fun h => ?_) (fun h => ?_)
  · have hlt : n < l.length := by simpa using h
    simp only [h, getMap Person.v l hlt, ab, ab2, tys, mv, Nat.reduceAdd, Nat.reduceSub, Nat.reduceEqDiff, Nat.reduceMul, Nat.reduceLT, reduceCtorEq, Nat.reduceLeDiff, Int.reduceBEq, Nat.reduceBEq]
    (refine FINS_done ?_; simp only [ab, ab2, tys, mv, Nat.reduceAdd, Nat.reduceSub, Nat.reduceEqDiff, Nat.reduceMul, Nat.reduceLT, reduceCtorEq, Nat.reduceLeDiff, Int.reduceBEq, Nat.reduceBEq])
    simp [getP, hlt, Person.v, wordsV, runsV]
  · have hlt : ¬ n < l.length := by simpa using h
    simp only [h, ab, ab2, tys, mv, Nat.reduceAdd, Nat.reduceSub, Nat.reduceEqDiff, Nat.reduceMul, Nat.reduceLT, reduceCtorEq, Nat.reduceLeDiff, Int.reduceBEq, Nat.reduceBEq]
    (refine FINS_done ?_; simp only [ab, ab2, tys, mv, Nat.reduceAdd, Nat.reduceSub, Nat.reduceEqDiff, Nat.reduceMul, Nat.reduceLT, reduceCtorEq, Nat.reduceLeDiff, Int.reduceBEq, Nat.reduceBEq])
    simp [getP, hlt, zeroP]
theorem Person_spec (w : World) (n : Nat) (hn : n < 4294967296) (hl : w.people.length ≤ 1099511627776) : Spec PP [] 36 [w.v, u32 n] (getP w.people n).v [] := by
  refine Spec.of_runs Go.Proofs.Try.f36 Go.Proofs.Try.func36 rfl ?_
  intro w0 M0
  simp only [Go.Proofs.Try.f36, List.replicate, List.cons_append, List.nil_append, ab, ab2, tys, mv, Nat.reduceAdd, Nat.reduceSub, Nat.reduceEqDiff, Nat.reduceMul, Nat.reduceLT, reduceCtorEq, Nat.reduceLeDiff, Int.reduceBEq, Nat.reduceBEq]
  (refine CALLS_spec2 (args' := ?_) (r := ?_) (by kernel_rfl) ?_ ?_ ?_; rotate_left 2; (simp only [ab, ab2, tys, mv, Nat.reduceAdd, Nat.reduceSub, Nat.reduceEqDiff, Nat.reduceMul, Nat.reduceLT, reduceCtorEq, Nat.reduceLeDiff, Int.reduceBEq, Nat.reduceBEq]; exact rfl); exact (Get_spec w.people n hn hl); simp only [ab, ab2, tys, mv, Nat.reduceAdd, Nat.reduceSub, Nat.reduceEqDiff, Nat.reduceMul, Nat.reduceLT, reduceCtorEq, Nat.reduceLeDiff, Int.reduceBEq, Nat.reduceBEq])
  (refine FINS_done ?_; simp only [ab, ab2, tys, mv, Nat.reduceAdd, Nat.reduceSub, Nat.reduceEqDiff, Nat.reduceMul, Nat.reduceLT, reduceCtorEq, Nat.reduceLeDiff, Int.reduceBEq, Nat.reduceBEq])
theorem asks_len (e : Event) : ((asksM e).getD noCauses).always.length ≤ 2 ∧ ((asksM e).getD noCauses).honestA.length ≤ 2 ∧ ((asksM e).getD noCauses).honestB.length ≤ 2 := by
  simp only [asksM, cond_eq_ite]
  repeat' split
  all_goals decide
def honest (l : List Person) (n : Int) : Bool := !(getP l n.toNat).corrupt
def causeE (l : List Person) (ahead : List Event) (e : Event) : Bool :=
  (asksM e).isSome && (allM ((asksM e).getD noCauses).always ahead e && ((!honest l e.a || allM ((asksM e).getD noCauses).honestA ahead e) && (!honest l e.b || allM ((asksM e).getD noCauses).honestB ahead e)))
def causeM (w : World) (i : Int) : Bool := if i < 0 then false else match w.log[i.toNat]? with
  | none => false
  | some e => causeE w.people (w.log.take i.toNat) e
theorem Cause_spec (w : World) (i : Int) (hlog : ∀ e ∈ w.log, U e.a ∧ U e.b) (hl : w.people.length ≤ 1099511627776) (hl2 : w.log.length ≤ 1099511627776) : Spec PP [] 11 [w.v, i64 i] (.bool (causeM w i)) [] := by
  refine Spec.of_runs Go.Proofs.Try.f11 Go.Proofs.Try.func11 rfl ?_
  intro w0 M0
  simp only [Go.Proofs.Try.f11, List.replicate, List.cons_append, List.nil_append, ab, ab2, tys, mv, Nat.reduceAdd, Nat.reduceSub, Nat.reduceEqDiff, Nat.reduceMul, Nat.reduceLT, reduceCtorEq, Nat.reduceLeDiff, Int.reduceBEq, Nat.reduceBEq]
  first | refine CONDS_split (fun h => ?_) (fun h => ?_) | refine GRDN_split (fun h => ?_) (fun h => ?_) | refine GRD_split (fun h => ?_) (fun h => ?_) | refine DGRN_split (fun h => ?_) (fun h => ?_) | refine DGR_split (fun h => ?_) (fun h => ?_)
  · obtain ⟨n, rfl⟩ := Int.eq_ofNat_of_zero_le (by simpa using h : 0 ≤ i)
    simp only [h, ab, ab2, tys, mv, Nat.reduceAdd, Nat.reduceSub, Nat.reduceEqDiff, Nat.reduceMul, Nat.reduceLT, reduceCtorEq, Nat.reduceLeDiff, Int.reduceBEq, Nat.reduceBEq]
    first | refine CONDS_split (fun h => ?_) (fun h => ?_) | refine GRDN_split (fun h => ?_) (fun h => ?_) | refine GRD_split (fun h => ?_) (fun h => ?_) | refine DGRN_split (fun h => ?_) (fun h => ?_) | refine DGR_split (fun h => ?_) (fun h => ?_)
    · have hnl : ¬ n < w.log.length := by simp at h; omega
      simp only [h, ab, ab2, tys, mv, Nat.reduceAdd, Nat.reduceSub, Nat.reduceEqDiff, Nat.reduceMul, Nat.reduceLT, reduceCtorEq, Nat.reduceLeDiff, Int.reduceBEq, Nat.reduceBEq]
      (refine FINS_done ?_; simp only [ab, ab2, tys, mv, Nat.reduceAdd, Nat.reduceSub, Nat.reduceEqDiff, Nat.reduceMul, Nat.reduceLT, reduceCtorEq, Nat.reduceLeDiff, Int.reduceBEq, Nat.reduceBEq])
      simp only [causeM, show ¬ ((n : Int) < 0) by omega, if_false, Int.toNat_natCast, List.getElem?_eq_none (Nat.le_of_not_lt hnl)]
    · have hlt : n < w.log.length := by simp at h; omega
      simp only [h, ab, ab2, tys, mv, Nat.reduceAdd, Nat.reduceSub, Nat.reduceEqDiff, Nat.reduceMul, Nat.reduceLT, reduceCtorEq, Nat.reduceLeDiff, Int.reduceBEq, Nat.reduceBEq]
      (refine RUNs_draw 1 (by kernel_rfl) ?_; simp only [ab, ab2, tys, mv, Nat.reduceAdd, Nat.reduceSub, Nat.reduceEqDiff, Nat.reduceMul, Nat.reduceLT, reduceCtorEq, Nat.reduceLeDiff, Int.reduceBEq, Nat.reduceBEq])
      simp only [getMap Event.v w.log hlt, Event.v, ab, ab2, tys, mv, Nat.reduceAdd, Nat.reduceSub, Nat.reduceEqDiff, Nat.reduceMul, Nat.reduceLT, reduceCtorEq, Nat.reduceLeDiff, Int.reduceBEq, Nat.reduceBEq]
      refine DOC_ok (slc_ok (Nat.le_of_lt hlt) (by intro a; rfl)) ?_
      simp only [ab, ab2, tys, mv, Nat.reduceAdd, Nat.reduceSub, Nat.reduceEqDiff, Nat.reduceMul, Nat.reduceLT, reduceCtorEq, Nat.reduceLeDiff, Int.reduceBEq, Nat.reduceBEq]
      (refine ⟨by kernel_rfl, ?_⟩)
      obtain ⟨hua, hub⟩ := hlog _ (List.getElem_mem hlt)
      have hm : causeM w n = causeE w.people (w.log.take n) w.log[n] := by
        simp only [causeM, show ¬ ((n : Int) < 0) by omega, if_false, Int.toNat_natCast, List.getElem?_eq_getElem hlt]
      rw [hm]
      generalize hev : w.log[n] = e at hua hub ⊢
      clear hm hev
      obtain ⟨ek, ep, er, ea, eb, e1, e2, e3, e4, e5⟩ := e
      obtain ⟨na, rfl⟩ := Int.eq_ofNat_of_zero_le hua.1
      obtain ⟨nb, rfl⟩ := Int.eq_ofNat_of_zero_le hub.1
      have hna2 : na < 4294967296 := by have := hua.2; simp only at this; omega
      have hnb2 : nb < 4294967296 := by have := hub.2; simp only at this; omega
      have hlt2 : (w.log.take n).length ≤ 1099511627776 := by simp; omega
      obtain ⟨c1, c2, c3⟩ := asks_len ⟨ek, ep, er, na, nb, e1, e2, e3, e4, e5⟩
      (refine CALLS_spec2 (args' := ?_) (r := ?_) (by kernel_rfl) ?_ ?_ ?_; rotate_left 2; (simp only [ab, ab2, tys, mv, Nat.reduceAdd, Nat.reduceSub, Nat.reduceEqDiff, Nat.reduceMul, Nat.reduceLT, reduceCtorEq, Nat.reduceLeDiff, Int.reduceBEq, Nat.reduceBEq]; exact rfl); exact (asks_spec ⟨ek, ep, er, na, nb, e1, e2, e3, e4, e5⟩); simp only [ab, ab2, tys, mv, Nat.reduceAdd, Nat.reduceSub, Nat.reduceEqDiff, Nat.reduceMul, Nat.reduceLT, reduceCtorEq, Nat.reduceLeDiff, Int.reduceBEq, Nat.reduceBEq])
      simp only [Causes.v, asksV, ab, ab2, tys, mv, Nat.reduceAdd, Nat.reduceSub, Nat.reduceEqDiff, Nat.reduceMul, Nat.reduceLT, reduceCtorEq, Nat.reduceLeDiff, Int.reduceBEq, Nat.reduceBEq]
      generalize hc : (asksM ⟨ek, ep, er, na, nb, e1, e2, e3, e4, e5⟩).getD noCauses = c at c1 c2 c3 ⊢
      repeat' (first
        | (refine CALLS_spec2 (args' := ?_) (r := ?_) (by kernel_rfl) ?_ ?_ ?_; rotate_left 2; (simp only [ab, ab2, tys, mv, Nat.reduceAdd, Nat.reduceSub, Nat.reduceEqDiff, Nat.reduceMul, Nat.reduceLT, reduceCtorEq, Nat.reduceLeDiff, Int.reduceBEq, Nat.reduceBEq]; exact rfl); exact (all_spec c.always _ ⟨ek, ep, er, na, nb, e1, e2, e3, e4, e5⟩ hlt2 (by omega)); simp only [ab, ab2, tys, mv, Nat.reduceAdd, Nat.reduceSub, Nat.reduceEqDiff, Nat.reduceMul, Nat.reduceLT, reduceCtorEq, Nat.reduceLeDiff, Int.reduceBEq, Nat.reduceBEq])
        | (refine CALLS_spec2 (args' := ?_) (r := ?_) (by kernel_rfl) ?_ ?_ ?_; rotate_left 2; (simp only [ab, ab2, tys, mv, Nat.reduceAdd, Nat.reduceSub, Nat.reduceEqDiff, Nat.reduceMul, Nat.reduceLT, reduceCtorEq, Nat.reduceLeDiff, Int.reduceBEq, Nat.reduceBEq]; exact rfl); exact (all_spec c.honestA _ ⟨ek, ep, er, na, nb, e1, e2, e3, e4, e5⟩ hlt2 (by omega)); simp only [ab, ab2, tys, mv, Nat.reduceAdd, Nat.reduceSub, Nat.reduceEqDiff, Nat.reduceMul, Nat.reduceLT, reduceCtorEq, Nat.reduceLeDiff, Int.reduceBEq, Nat.reduceBEq])
        | (refine CALLS_spec2 (args' := ?_) (r := ?_) (by kernel_rfl) ?_ ?_ ?_; rotate_left 2; (simp only [ab, ab2, tys, mv, Nat.reduceAdd, Nat.reduceSub, Nat.reduceEqDiff, Nat.reduceMul, Nat.reduceLT, reduceCtorEq, Nat.reduceLeDiff, Int.reduceBEq, Nat.reduceBEq]; exact rfl); exact (all_spec c.honestB _ ⟨ek, ep, er, na, nb, e1, e2, e3, e4, e5⟩ hlt2 (by omega)); simp only [ab, ab2, tys, mv, Nat.reduceAdd, Nat.reduceSub, Nat.reduceEqDiff, Nat.reduceMul, Nat.reduceLT, reduceCtorEq, Nat.reduceLeDiff, Int.reduceBEq, Nat.reduceBEq])
        | (refine CALLS_in (fn := Go.Proofs.Try.f35) Go.Proofs.Try.func35 rfl (by kernel_rfl) ?_; simp only [Go.Proofs.Try.f35, List.replicate, List.cons_append, List.nil_append, ab, ab2, tys, mv, Nat.reduceAdd, Nat.reduceSub, Nat.reduceEqDiff, Nat.reduceMul, Nat.reduceLT, reduceCtorEq, Nat.reduceLeDiff, Int.reduceBEq, Nat.reduceBEq])
        | (refine CALLS_spec2 (args' := ?_) (r := ?_) (by kernel_rfl) ?_ ?_ ?_; rotate_left 2; (simp only [ab, ab2, tys, mv, Nat.reduceAdd, Nat.reduceSub, Nat.reduceEqDiff, Nat.reduceMul, Nat.reduceLT, reduceCtorEq, Nat.reduceLeDiff, Int.reduceBEq, Nat.reduceBEq]; exact rfl); exact (Person_spec w na hna2 hl); simp only [ab, ab2, tys, mv, Nat.reduceAdd, Nat.reduceSub, Nat.reduceEqDiff, Nat.reduceMul, Nat.reduceLT, reduceCtorEq, Nat.reduceLeDiff, Int.reduceBEq, Nat.reduceBEq])
        | (refine CALLS_spec2 (args' := ?_) (r := ?_) (by kernel_rfl) ?_ ?_ ?_; rotate_left 2; (simp only [ab, ab2, tys, mv, Nat.reduceAdd, Nat.reduceSub, Nat.reduceEqDiff, Nat.reduceMul, Nat.reduceLT, reduceCtorEq, Nat.reduceLeDiff, Int.reduceBEq, Nat.reduceBEq]; exact rfl); exact (Person_spec w nb hnb2 hl); simp only [ab, ab2, tys, mv, Nat.reduceAdd, Nat.reduceSub, Nat.reduceEqDiff, Nat.reduceMul, Nat.reduceLT, reduceCtorEq, Nat.reduceLeDiff, Int.reduceBEq, Nat.reduceBEq])
        | ((first | refine CONDS_split (fun h => ?_) (fun h => ?_) | refine GRDN_split (fun h => ?_) (fun h => ?_) | refine GRD_split (fun h => ?_) (fun h => ?_) | refine DGRN_split (fun h => ?_) (fun h => ?_) | refine DGR_split (fun h => ?_) (fun h => ?_)) <;> simp only [h, ab, ab2, tys, mv, Nat.reduceAdd, Nat.reduceSub, Nat.reduceEqDiff, Nat.reduceMul, Nat.reduceLT, reduceCtorEq, Nat.reduceLeDiff, Int.reduceBEq, Nat.reduceBEq]))
      all_goals (refine FINS_done ?_; simp only [ab, ab2, tys, mv, Nat.reduceAdd, Nat.reduceSub, Nat.reduceEqDiff, Nat.reduceMul, Nat.reduceLT, reduceCtorEq, Nat.reduceLeDiff, Int.reduceBEq, Nat.reduceBEq])
      all_goals (simp_all [causeE, honest]; done)
  · simp only [h, ab, ab2, tys, mv, Nat.reduceAdd, Nat.reduceSub, Nat.reduceEqDiff, Nat.reduceMul, Nat.reduceLT, reduceCtorEq, Nat.reduceLeDiff, Int.reduceBEq, Nat.reduceBEq]
    (refine FINS_done ?_; simp only [ab, ab2, tys, mv, Nat.reduceAdd, Nat.reduceSub, Nat.reduceEqDiff, Nat.reduceMul, Nat.reduceLT, reduceCtorEq, Nat.reduceLeDiff, Int.reduceBEq, Nat.reduceBEq])
    simp at h; simp [causeM, h]
def badAt (w : World) : Option Nat := (List.range w.log.length).find? fun i => !causeM w i
theorem badAt_some {w : World} {i : Nat} (h : i < w.log.length) (h1 : ∀ j, j < i → causeM w (j : Nat) = true) (h2 : causeM w i = false) : badAt w = some i := by
  rw [badAt, List.find?_range_eq_some]
  refine ⟨by simp [h2], List.mem_range.2 h, fun j hj => by simp [h1 j hj]⟩
theorem badAt_none {w : World} (h : ∀ j, j < w.log.length → causeM w (j : Nat) = true) : badAt w = none := by
  rw [badAt, List.find?_eq_none]
  intro j hj
  simp [h j (List.mem_range.1 hj)]
theorem Check_spec (w : World) (hlog : ∀ e ∈ w.log, U e.a ∧ U e.b) (hl : w.people.length ≤ 1099511627776) (hl2 : w.log.length ≤ 1099511627776) : Spec PP [] 10 [w.v] (.tup [i64 (((badAt w).getD 0 : Nat) : Int), .bool (badAt w).isNone]) [] := by
  refine Spec.of_runs Go.Proofs.Try.f10 Go.Proofs.Try.func10 rfl ?_
  intro w0 M0
  simp only [Go.Proofs.Try.f10, List.replicate, List.cons_append, List.nil_append, ab, ab2, tys, mv, Nat.reduceAdd, Nat.reduceSub, Nat.reduceEqDiff, Nat.reduceMul, Nat.reduceLT, reduceCtorEq, Nat.reduceLeDiff, Int.reduceBEq, Nat.reduceBEq]
  refine RUNs_range w.log.length (fun i (_ : Unit) => ∀ j, j < i → causeM w (j : Nat) = true) (fun i _ => ([.any, .ptr 0 0, i64 0, .bool false, .any, .any, .any, i64 w.log.length, i64 i, .any, .any, .any, .any, .any, .any, .any, .any], [.var w.cells])) () (by simp) ⟨by repeat (first | exact .nil | refine .cons (.refl _) ?_ | refine .cons (.sl _ _) ?_ | refine .cons (.any _) ?_), by repeat (first | exact .nil _ | refine .cons (.refl _) ?_ | refine .cons (.var (by repeat (first | exact .nil | refine .cons (.refl _) ?_ | refine .cons (.sl _ _) ?_ | refine .cons (.any _) ?_))) ?_ | refine .cons (.dead _ (by intro hh; cases hh)) ?_), by rfl, by rfl⟩ rfl ?_
  rintro ⟨i, _, hi, hw⟩
  simp only [ab, ab2, tys, mv, Nat.reduceAdd, Nat.reduceSub, Nat.reduceEqDiff, Nat.reduceMul, Nat.reduceLT, reduceCtorEq, Nat.reduceLeDiff, Int.reduceBEq, Nat.reduceBEq]
  first | refine CONDS_split (fun h => ?_) (fun h => ?_) | refine GRDN_split (fun h => ?_) (fun h => ?_) | refine GRD_split (fun h => ?_) (fun h => ?_) | refine DGRN_split (fun h => ?_) (fun h => ?_) | refine DGR_split (fun h => ?_) (fun h => ?_)
  · have hlt : i < w.log.length := by simpa using h
    simp only [h, ab, ab2, tys, mv, Nat.reduceAdd, Nat.reduceSub, Nat.reduceEqDiff, Nat.reduceMul, Nat.reduceLT, reduceCtorEq, Nat.reduceLeDiff, Int.reduceBEq, Nat.reduceBEq]
    (refine CALLS_spec2 (args' := ?_) (r := ?_) (by kernel_rfl) ?_ ?_ ?_; rotate_left 2; (simp only [ab, ab2, tys, mv, Nat.reduceAdd, Nat.reduceSub, Nat.reduceEqDiff, Nat.reduceMul, Nat.reduceLT, reduceCtorEq, Nat.reduceLeDiff, Int.reduceBEq, Nat.reduceBEq]; exact rfl); exact (Cause_spec w i hlog hl hl2); simp only [ab, ab2, tys, mv, Nat.reduceAdd, Nat.reduceSub, Nat.reduceEqDiff, Nat.reduceMul, Nat.reduceLT, reduceCtorEq, Nat.reduceLeDiff, Int.reduceBEq, Nat.reduceBEq])
    first | refine CONDS_split (fun h => ?_) (fun h => ?_) | refine GRDN_split (fun h => ?_) (fun h => ?_) | refine GRD_split (fun h => ?_) (fun h => ?_) | refine DGRN_split (fun h => ?_) (fun h => ?_) | refine DGR_split (fun h => ?_) (fun h => ?_)
    · simp only [h, w64s (i := i) (by omega), ab, ab2, tys, mv, Nat.reduceAdd, Nat.reduceSub, Nat.reduceEqDiff, Nat.reduceMul, Nat.reduceLT, reduceCtorEq, Nat.reduceLeDiff, Int.reduceBEq, Nat.reduceBEq]
      (refine RUNs_next () ?_ ?_ hlt ?_; exact ⟨by repeat (first | exact .nil | refine .cons (.refl _) ?_ | refine .cons (.sl _ _) ?_ | refine .cons (.any _) ?_), by repeat (first | exact .nil _ | refine .cons (.refl _) ?_ | refine .cons (.var (by repeat (first | exact .nil | refine .cons (.refl _) ?_ | refine .cons (.sl _ _) ?_ | refine .cons (.any _) ?_))) ?_ | refine .cons (.dead _ (by intro hh; cases hh)) ?_), by rfl, by rfl⟩; rfl)
      intro j hj
      rcases Nat.lt_or_ge j i with h1 | h1
      · exact hw j h1
      · have : j = i := by have : j < i + 1 := hj; omega
        subst this; exact h
    · simp only [h, ab, ab2, tys, mv, Nat.reduceAdd, Nat.reduceSub, Nat.reduceEqDiff, Nat.reduceMul, Nat.reduceLT, reduceCtorEq, Nat.reduceLeDiff, Int.reduceBEq, Nat.reduceBEq]
      (refine FINS_done ?_; simp only [ab, ab2, tys, mv, Nat.reduceAdd, Nat.reduceSub, Nat.reduceEqDiff, Nat.reduceMul, Nat.reduceLT, reduceCtorEq, Nat.reduceLeDiff, Int.reduceBEq, Nat.reduceBEq])
      rw [badAt_some hlt hw h]; rfl
  · simp only [h, ab, ab2, tys, mv, Nat.reduceAdd, Nat.reduceSub, Nat.reduceEqDiff, Nat.reduceMul, Nat.reduceLT, reduceCtorEq, Nat.reduceLeDiff, Int.reduceBEq, Nat.reduceBEq]
    (refine FINS_done ?_; simp only [ab, ab2, tys, mv, Nat.reduceAdd, Nat.reduceSub, Nat.reduceEqDiff, Nat.reduceMul, Nat.reduceLT, reduceCtorEq, Nat.reduceLeDiff, Int.reduceBEq, Nat.reduceBEq])
    have : i = w.log.length := by simp at h; omega
    subst this
    rw [badAt_none hw]; rfl
end Ch
