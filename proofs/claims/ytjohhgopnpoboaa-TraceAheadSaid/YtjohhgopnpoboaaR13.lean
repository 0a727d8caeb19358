/- The program's log and trace: what is asked of events. -/
import Derived.Test.YtjohhgopnpoboaaR12
set_option maxRecDepth 100000
set_option maxHeartbeats 4000000
set_option linter.unusedSimpArgs false
set_option linter.unusedVariables false
namespace Ch
open Go Go.Ab
def Event.eqb (a b : Event) : Bool := (a.kind == b.kind) && ((a.proto == b.proto) && ((a.role == b.role) && ((a.a == b.a) && ((a.b == b.b) && ((a.k == b.k) && ((a.t == b.t) && ((a.m == b.m) && ((a.n == b.n) && (a.clock == b.clock)))))))))
def bareM (e : Event) (m : Int) : Event := bareTo e m 9
def fits (e like : Event) (m : Int) : Bool := (bareM e m).eqb (bareM like m)
theorem Fits_spec (e f : Event) (m : Int) : Spec PP [] 96 [e.v, f.v, i64 m] (.bool (fits e f m)) [] := by
  refine Spec.of_runs Go.Proofs.Try.f96 Go.Proofs.Try.func96 rfl ?_
  intro w0 M0
  simp only [Go.Proofs.Try.f96, List.replicate, List.cons_append, List.nil_append, ab, ab2, tys, mv, Nat.reduceAdd, Nat.reduceSub, Nat.reduceEqDiff, Nat.reduceMul, Nat.reduceLT, reduceCtorEq, Nat.reduceLeDiff, Int.reduceBEq, Nat.reduceBEq]
  (refine RUNs_draw 0 (by kernel_rfl) ?_; simp only [ab, ab2, tys, mv, Nat.reduceAdd, Nat.reduceSub, Nat.reduceEqDiff, Nat.reduceMul, Nat.reduceLT, reduceCtorEq, Nat.reduceLeDiff, Int.reduceBEq, Nat.reduceBEq])
  (refine DCALLS_spec (args' := ?_) (r := ?_) (by kernel_rfl) ?_ ?_ ?_; rotate_left 2; (simp only [ab, ab2, tys, mv, Nat.reduceAdd, Nat.reduceSub, Nat.reduceEqDiff, Nat.reduceMul, Nat.reduceLT, reduceCtorEq, Nat.reduceLeDiff, Int.reduceBEq, Nat.reduceBEq]; exact rfl); exact (bare_spec e m); simp only [ab, ab2, tys, mv, Nat.reduceAdd, Nat.reduceSub, Nat.reduceEqDiff, Nat.reduceMul, Nat.reduceLT, reduceCtorEq, Nat.reduceLeDiff, Int.reduceBEq, Nat.reduceBEq])
  (refine DCALLS_spec (args' := ?_) (r := ?_) (by kernel_rfl) ?_ ?_ ?_; rotate_left 2; (simp only [ab, ab2, tys, mv, Nat.reduceAdd, Nat.reduceSub, Nat.reduceEqDiff, Nat.reduceMul, Nat.reduceLT, reduceCtorEq, Nat.reduceLeDiff, Int.reduceBEq, Nat.reduceBEq]; exact rfl); exact (bare_spec f m); simp only [ab, ab2, tys, mv, Nat.reduceAdd, Nat.reduceSub, Nat.reduceEqDiff, Nat.reduceMul, Nat.reduceLT, reduceCtorEq, Nat.reduceLeDiff, Int.reduceBEq, Nat.reduceBEq])
  (refine ⟨by kernel_rfl, ?_⟩)
  (refine FINS_done ?_; simp only [ab, ab2, tys, mv, Nat.reduceAdd, Nat.reduceSub, Nat.reduceEqDiff, Nat.reduceMul, Nat.reduceLT, reduceCtorEq, Nat.reduceLeDiff, Int.reduceBEq, Nat.reduceBEq])
  rfl
def select (l : List Event) (f : Event) (m : Int) : List Event := l.filter fun e => fits e f m
theorem select_succ {l : List Event} {f : Event} {m : Int} {i : Nat} (h : i < l.length) : select (l.take (i + 1)) f m = bif fits l[i] f m then select (l.take i) f m ++ [l[i]] else select (l.take i) f m := by
  rw [List.take_succ_eq_append_getElem h, select, List.filter_append, ← select]
  cases hb : fits l[i] f m <;> simp [List.filter_cons, hb]
theorem select_len (l : List Event) (f : Event) (m : Int) (i : Nat) : (select (l.take i) f m).length ≤ l.length := by
  have h1 := List.length_filter_le (fun e => fits e f m) (l.take i)
  have h2 : (l.take i).length ≤ l.length := by simp; omega
  exact Nat.le_trans h1 h2
def selI (l : List Event) (f : Event) (m : Int) (i : Nat) : Nat → List V × List AB
  | 0 => ([.any, .any, i64 m, .any, .ptr 0 0, .any, .any, .sl [] .nil, .any, .any, .sl (l.map Event.v) .plain, i64 l.length, i64 i, .any, .any, .any, .any, .any, .any, .any, .any, .any, .any, .any, .any, .any], [.var f.cells])
  | j + 1 => ([.any, .any, i64 m, .any, .ptr 0 0, .any, .any, .row 2 j, .any, .any, .sl (l.map Event.v) .plain, i64 l.length, i64 i, .any, .any, .any, .any, .any, .any, .any, .any, .any, .any, .any, .any, .any], [.var f.cells, .dead, .row 10 ((select (l.take i) f m).map Event.v) j false])
theorem Select_spec (l : List Event) (f : Event) (m : Int) (hl : l.length ≤ 1099511627776) : Spec PP [] 95 [eventsV l, f.v, i64 m] (eventsV (select l f m)) [] := by
  refine Spec.of_runs Go.Proofs.Try.f95 Go.Proofs.Try.func95 rfl ?_
  intro w0 M0
  simp only [Go.Proofs.Try.f95, List.replicate, List.cons_append, List.nil_append, ab, ab2, tys, mv, Nat.reduceAdd, Nat.reduceSub, Nat.reduceEqDiff, Nat.reduceMul, Nat.reduceLT, reduceCtorEq, Nat.reduceLeDiff, Int.reduceBEq, Nat.reduceBEq]
  refine RUNs_range l.length (fun i (c : Nat) => (select (l.take i) f m).length = c) (fun i c => selI l f m i c) 0 (by simp [select]) ?_ rfl ?_
  · exact ⟨by repeat (first | exact .nil | refine .cons (.refl _) ?_ | refine .cons (.sl _ _) ?_ | refine .cons (.any _) ?_), by repeat (first | exact .nil _ | refine .cons (.refl _) ?_ | refine .cons (.var (by repeat (first | exact .nil | refine .cons (.refl _) ?_ | refine .cons (.sl _ _) ?_ | refine .cons (.any _) ?_))) ?_ | refine .cons (.dead _ (by intro hh; cases hh)) ?_), by rfl, by rfl⟩
  rintro ⟨i, c, hi, hc⟩
  rcases c with _ | j
  · have hs : select (l.take i) f m = [] := List.eq_nil_of_length_eq_zero hc
    simp only [selI, Event.cells, ab, ab2, tys, mv, Nat.reduceAdd, Nat.reduceSub, Nat.reduceEqDiff, Nat.reduceMul, Nat.reduceLT, reduceCtorEq, Nat.reduceLeDiff, Int.reduceBEq, Nat.reduceBEq]
    first | refine CONDS_split (fun h => ?_) (fun h => ?_) | refine GRDN_split (fun h => ?_) (fun h => ?_) | refine GRD_split (fun h => ?_) (fun h => ?_) | refine DGRN_split (fun h => ?_) (fun h => ?_) | refine DGR_split (fun h => ?_) (fun h => ?_)
    · have hlt : i < l.length := by simpa using h
      simp only [h, getMap Event.v l hlt, ab, ab2, tys, mv, Nat.reduceAdd, Nat.reduceSub, Nat.reduceEqDiff, Nat.reduceMul, Nat.reduceLT, reduceCtorEq, Nat.reduceLeDiff, Int.reduceBEq, Nat.reduceBEq]
      (refine CALLS_spec2 (args' := ?_) (r := ?_) (by kernel_rfl) ?_ ?_ ?_; rotate_left 2; (simp only [ab, ab2, tys, mv, Nat.reduceAdd, Nat.reduceSub, Nat.reduceEqDiff, Nat.reduceMul, Nat.reduceLT, reduceCtorEq, Nat.reduceLeDiff, Int.reduceBEq, Nat.reduceBEq]; exact rfl); exact (Fits_spec l[i] f m); simp only [ab, ab2, tys, mv, Nat.reduceAdd, Nat.reduceSub, Nat.reduceEqDiff, Nat.reduceMul, Nat.reduceLT, reduceCtorEq, Nat.reduceLeDiff, Int.reduceBEq, Nat.reduceBEq])
      first | refine CONDS_split (fun h => ?_) (fun h => ?_) | refine GRDN_split (fun h => ?_) (fun h => ?_) | refine GRD_split (fun h => ?_) (fun h => ?_) | refine DGRN_split (fun h => ?_) (fun h => ?_) | refine DGR_split (fun h => ?_) (fun h => ?_)
      · simp only [h, ab, ab2, tys, mv, Nat.reduceAdd, Nat.reduceSub, Nat.reduceEqDiff, Nat.reduceMul, Nat.reduceLT, reduceCtorEq, Nat.reduceLeDiff, Int.reduceBEq, Nat.reduceBEq]
        have e : [Event.v l[i]] = (select (l.take (i + 1)) f m).map Event.v := by
          rw [select_succ hlt, h, hs]; rfl
        simp only [Event.v] at e
        simp only [e, w64s (i := i) (by omega), ab, ab2, tys, mv, Nat.reduceAdd, Nat.reduceSub, Nat.reduceEqDiff, Nat.reduceMul, Nat.reduceLT, reduceCtorEq, Nat.reduceLeDiff, Int.reduceBEq, Nat.reduceBEq]
        (refine RUNs_next 1 ?_ ?_ hlt ?_; exact ⟨by repeat (first | exact .nil | refine .cons (.refl _) ?_ | refine .cons (.sl _ _) ?_ | refine .cons (.any _) ?_), by repeat (first | exact .nil _ | refine .cons (.refl _) ?_ | refine .cons (.var (by repeat (first | exact .nil | refine .cons (.refl _) ?_ | refine .cons (.sl _ _) ?_ | refine .cons (.any _) ?_))) ?_ | refine .cons (.dead _ (by intro hh; cases hh)) ?_), by rfl, by rfl⟩; rfl)
        rw [← List.length_map (f := Event.v), ← e]; rfl
      · simp only [h, w64s (i := i) (by omega), ab, ab2, tys, mv, Nat.reduceAdd, Nat.reduceSub, Nat.reduceEqDiff, Nat.reduceMul, Nat.reduceLT, reduceCtorEq, Nat.reduceLeDiff, Int.reduceBEq, Nat.reduceBEq]
        (refine RUNs_next 0 ?_ ?_ hlt ?_; exact ⟨by repeat (first | exact .nil | refine .cons (.refl _) ?_ | refine .cons (.sl _ _) ?_ | refine .cons (.any _) ?_), by repeat (first | exact .nil _ | refine .cons (.refl _) ?_ | refine .cons (.var (by repeat (first | exact .nil | refine .cons (.refl _) ?_ | refine .cons (.sl _ _) ?_ | refine .cons (.any _) ?_))) ?_ | refine .cons (.dead _ (by intro hh; cases hh)) ?_), by rfl, by rfl⟩; rfl)
        rw [select_succ hlt, h, hs]; rfl
    · simp only [h, ab, ab2, tys, mv, Nat.reduceAdd, Nat.reduceSub, Nat.reduceEqDiff, Nat.reduceMul, Nat.reduceLT, reduceCtorEq, Nat.reduceLeDiff, Int.reduceBEq, Nat.reduceBEq]
      (refine FINS_done ?_; simp only [ab, ab2, tys, mv, Nat.reduceAdd, Nat.reduceSub, Nat.reduceEqDiff, Nat.reduceMul, Nat.reduceLT, reduceCtorEq, Nat.reduceLeDiff, Int.reduceBEq, Nat.reduceBEq])
      have : i = l.length := by simp at h; omega
      subst this
      rw [List.take_length] at hs
      rw [hs]; rfl
  · simp only [selI, Event.cells, ab, ab2, tys, mv, Nat.reduceAdd, Nat.reduceSub, Nat.reduceEqDiff, Nat.reduceMul, Nat.reduceLT, reduceCtorEq, Nat.reduceLeDiff, Int.reduceBEq, Nat.reduceBEq]
    first | refine CONDS_split (fun h => ?_) (fun h => ?_) | refine GRDN_split (fun h => ?_) (fun h => ?_) | refine GRD_split (fun h => ?_) (fun h => ?_) | refine DGRN_split (fun h => ?_) (fun h => ?_) | refine DGR_split (fun h => ?_) (fun h => ?_)
    · have hlt : i < l.length := by simpa using h
      simp only [h, getMap Event.v l hlt, ab, ab2, tys, mv, Nat.reduceAdd, Nat.reduceSub, Nat.reduceEqDiff, Nat.reduceMul, Nat.reduceLT, reduceCtorEq, Nat.reduceLeDiff, Int.reduceBEq, Nat.reduceBEq]
      (refine CALLS_spec2 (args' := ?_) (r := ?_) (by kernel_rfl) ?_ ?_ ?_; rotate_left 2; (simp only [ab, ab2, tys, mv, Nat.reduceAdd, Nat.reduceSub, Nat.reduceEqDiff, Nat.reduceMul, Nat.reduceLT, reduceCtorEq, Nat.reduceLeDiff, Int.reduceBEq, Nat.reduceBEq]; exact rfl); exact (Fits_spec l[i] f m); simp only [ab, ab2, tys, mv, Nat.reduceAdd, Nat.reduceSub, Nat.reduceEqDiff, Nat.reduceMul, Nat.reduceLT, reduceCtorEq, Nat.reduceLeDiff, Int.reduceBEq, Nat.reduceBEq])
      first | refine CONDS_split (fun h => ?_) (fun h => ?_) | refine GRDN_split (fun h => ?_) (fun h => ?_) | refine GRD_split (fun h => ?_) (fun h => ?_) | refine DGRN_split (fun h => ?_) (fun h => ?_) | refine DGR_split (fun h => ?_) (fun h => ?_)
      · simp only [h, ab, ab2, tys, mv, Nat.reduceAdd, Nat.reduceSub, Nat.reduceEqDiff, Nat.reduceMul, Nat.reduceLT, reduceCtorEq, Nat.reduceLeDiff, Int.reduceBEq, Nat.reduceBEq]
        have e : (select (l.take i) f m).map Event.v ++ [Event.v l[i]] = (select (l.take (i + 1)) f m).map Event.v := by
          rw [select_succ hlt, h, cond_true, List.map_append]; rfl
        simp only [Event.v] at e
        refine OPC_ok ?_ ?_
        · have := select_len l f m (i + 1); rw [select_succ hlt, h, cond_true, List.length_append] at this; simp at this ⊢; omega
        simp only [e, w64s (i := i) (by omega), ab, ab2, tys, mv, Nat.reduceAdd, Nat.reduceSub, Nat.reduceEqDiff, Nat.reduceMul, Nat.reduceLT, reduceCtorEq, Nat.reduceLeDiff, Int.reduceBEq, Nat.reduceBEq]
        (refine RUNs_next (j + 2) ?_ ?_ hlt ?_; exact ⟨by repeat (first | exact .nil | refine .cons (.refl _) ?_ | refine .cons (.sl _ _) ?_ | refine .cons (.any _) ?_), by repeat (first | exact .nil _ | refine .cons (.refl _) ?_ | refine .cons (.var (by repeat (first | exact .nil | refine .cons (.refl _) ?_ | refine .cons (.sl _ _) ?_ | refine .cons (.any _) ?_))) ?_ | refine .cons (.dead _ (by intro hh; cases hh)) ?_), by rfl, by rfl⟩; rfl)
        rw [← List.length_map (f := Event.v), ← e]; simp [hc]
      · simp only [h, w64s (i := i) (by omega), ab, ab2, tys, mv, Nat.reduceAdd, Nat.reduceSub, Nat.reduceEqDiff, Nat.reduceMul, Nat.reduceLT, reduceCtorEq, Nat.reduceLeDiff, Int.reduceBEq, Nat.reduceBEq]
        (refine RUNs_next (j + 1) ?_ ?_ hlt ?_; simp only [selI, Event.cells, select_succ hlt, h, cond_false]; exact ⟨by repeat (first | exact .nil | refine .cons (.refl _) ?_ | refine .cons (.sl _ _) ?_ | refine .cons (.any _) ?_), by repeat (first | exact .nil _ | refine .cons (.refl _) ?_ | refine .cons (.var (by repeat (first | exact .nil | refine .cons (.refl _) ?_ | refine .cons (.sl _ _) ?_ | refine .cons (.any _) ?_))) ?_ | refine .cons (.dead _ (by intro hh; cases hh)) ?_), by rfl, by rfl⟩; rfl)
        rw [select_succ hlt, h]; exact hc
    · simp only [h, ab, ab2, tys, mv, Nat.reduceAdd, Nat.reduceSub, Nat.reduceEqDiff, Nat.reduceMul, Nat.reduceLT, reduceCtorEq, Nat.reduceLeDiff, Int.reduceBEq, Nat.reduceBEq]
      (refine FINS_done ?_; simp only [ab, ab2, tys, mv, Nat.reduceAdd, Nat.reduceSub, Nat.reduceEqDiff, Nat.reduceMul, Nat.reduceLT, reduceCtorEq, Nat.reduceLeDiff, Int.reduceBEq, Nat.reduceBEq])
      have : i = l.length := by simp at h; omega
      subst this
      rw [List.take_length]
def likeE (e : Event) (k r : Int) : Event := { e with kind := k, role := r }
theorem like_spec (e : Event) (k r : Int) : Spec PP [] 108 [e.v, i64 k, i64 r] (likeE e k r).v [] := by
  refine Spec.of_runs Go.Proofs.Try.f108 Go.Proofs.Try.func108 rfl ?_
  intro w0 M0
  simp only [Go.Proofs.Try.f108, List.replicate, List.cons_append, List.nil_append, ab, ab2, tys, mv, Nat.reduceAdd, Nat.reduceSub, Nat.reduceEqDiff, Nat.reduceMul, Nat.reduceLT, reduceCtorEq, Nat.reduceLeDiff, Int.reduceBEq, Nat.reduceBEq]
  (refine FINS_done ?_; simp only [ab, ab2, tys, mv, Nat.reduceAdd, Nat.reduceSub, Nat.reduceEqDiff, Nat.reduceMul, Nat.reduceLT, reduceCtorEq, Nat.reduceLeDiff, Int.reduceBEq, Nat.reduceBEq])
  rfl
def soM (a : Ask) (l : List Event) (e : Event) : Bool := match a with
  | .fresh => ((select l ⟨2, 0, 0, 0, 0, e.k, 0, 0, 0, 0⟩ 33).length : Int) == 0
  | .must k r m => decide (((select l (likeE e k r) (orI .i64 7 m)).length : Int) > 0)
  | .never k r m => ((select l (likeE e k r) (orI .i64 7 m)).length : Int) == 0
theorem fresh_spec (l : List Event) (e : Event) (hl : l.length ≤ 1099511627776) : Spec PP [] 94 [.agg [], eventsV l, e.v] (.bool (soM .fresh l e)) [] := by
  refine Spec.of_runs Go.Proofs.Try.f94 Go.Proofs.Try.func94 rfl ?_
  intro w0 M0
  simp only [Go.Proofs.Try.f94, List.replicate, List.cons_append, List.nil_append, ab, ab2, tys, mv, Nat.reduceAdd, Nat.reduceSub, Nat.reduceEqDiff, Nat.reduceMul, Nat.reduceLT, reduceCtorEq, Nat.reduceLeDiff, Int.reduceBEq, Nat.reduceBEq]
  (refine CALLS_spec2 (args' := ?_) (r := ?_) (by kernel_rfl) ?_ ?_ ?_; rotate_left 2; (simp only [ab, ab2, tys, mv, Nat.reduceAdd, Nat.reduceSub, Nat.reduceEqDiff, Nat.reduceMul, Nat.reduceLT, reduceCtorEq, Nat.reduceLeDiff, Int.reduceBEq, Nat.reduceBEq]; exact rfl); exact (Select_spec l ⟨2, 0, 0, 0, 0, e.k, 0, 0, 0, 0⟩ 33 hl); simp only [ab, ab2, tys, mv, Nat.reduceAdd, Nat.reduceSub, Nat.reduceEqDiff, Nat.reduceMul, Nat.reduceLT, reduceCtorEq, Nat.reduceLeDiff, Int.reduceBEq, Nat.reduceBEq])
  (refine FINS_done ?_; simp only [ab, ab2, tys, mv, Nat.reduceAdd, Nat.reduceSub, Nat.reduceEqDiff, Nat.reduceMul, Nat.reduceLT, reduceCtorEq, Nat.reduceLeDiff, Int.reduceBEq, Nat.reduceBEq])
  rfl
theorem must_spec (k r m : Int) (l : List Event) (e : Event) (hl : l.length ≤ 1099511627776) : Spec PP [] 109 [.agg [i64 k, i64 r, i64 m], eventsV l, e.v] (.bool (soM (.must k r m) l e)) [] := by
  refine Spec.of_runs Go.Proofs.Try.f109 Go.Proofs.Try.func109 rfl ?_
  intro w0 M0
  simp only [Go.Proofs.Try.f109, List.replicate, List.cons_append, List.nil_append, ab, ab2, tys, mv, Nat.reduceAdd, Nat.reduceSub, Nat.reduceEqDiff, Nat.reduceMul, Nat.reduceLT, reduceCtorEq, Nat.reduceLeDiff, Int.reduceBEq, Nat.reduceBEq]
  (refine RUNs_draw 0 (by kernel_rfl) ?_; simp only [ab, ab2, tys, mv, Nat.reduceAdd, Nat.reduceSub, Nat.reduceEqDiff, Nat.reduceMul, Nat.reduceLT, reduceCtorEq, Nat.reduceLeDiff, Int.reduceBEq, Nat.reduceBEq])
  (refine DCALLS_spec (args' := ?_) (r := ?_) (by kernel_rfl) ?_ ?_ ?_; rotate_left 2; (simp only [ab, ab2, tys, mv, Nat.reduceAdd, Nat.reduceSub, Nat.reduceEqDiff, Nat.reduceMul, Nat.reduceLT, reduceCtorEq, Nat.reduceLeDiff, Int.reduceBEq, Nat.reduceBEq]; exact rfl); exact (like_spec e k r); simp only [ab, ab2, tys, mv, Nat.reduceAdd, Nat.reduceSub, Nat.reduceEqDiff, Nat.reduceMul, Nat.reduceLT, reduceCtorEq, Nat.reduceLeDiff, Int.reduceBEq, Nat.reduceBEq])
  (refine DCALLS_spec (args' := ?_) (r := ?_) (by kernel_rfl) ?_ ?_ ?_; rotate_left 2; (simp only [ab, ab2, tys, mv, Nat.reduceAdd, Nat.reduceSub, Nat.reduceEqDiff, Nat.reduceMul, Nat.reduceLT, reduceCtorEq, Nat.reduceLeDiff, Int.reduceBEq, Nat.reduceBEq]; exact rfl); exact (Select_spec l (likeE e k r) (orI .i64 7 m) hl); simp only [ab, ab2, tys, mv, Nat.reduceAdd, Nat.reduceSub, Nat.reduceEqDiff, Nat.reduceMul, Nat.reduceLT, reduceCtorEq, Nat.reduceLeDiff, Int.reduceBEq, Nat.reduceBEq])
  (refine ⟨by kernel_rfl, ?_⟩)
  (refine FINS_done ?_; simp only [ab, ab2, tys, mv, Nat.reduceAdd, Nat.reduceSub, Nat.reduceEqDiff, Nat.reduceMul, Nat.reduceLT, reduceCtorEq, Nat.reduceLeDiff, Int.reduceBEq, Nat.reduceBEq])
  rfl
theorem never_spec (k r m : Int) (l : List Event) (e : Event) (hl : l.length ≤ 1099511627776) : Spec PP [] 107 [.agg [i64 k, i64 r, i64 m], eventsV l, e.v] (.bool (soM (.never k r m) l e)) [] := by
  refine Spec.of_runs Go.Proofs.Try.f107 Go.Proofs.Try.func107 rfl ?_
  intro w0 M0
  simp only [Go.Proofs.Try.f107, List.replicate, List.cons_append, List.nil_append, ab, ab2, tys, mv, Nat.reduceAdd, Nat.reduceSub, Nat.reduceEqDiff, Nat.reduceMul, Nat.reduceLT, reduceCtorEq, Nat.reduceLeDiff, Int.reduceBEq, Nat.reduceBEq]
  (refine RUNs_draw 0 (by kernel_rfl) ?_; simp only [ab, ab2, tys, mv, Nat.reduceAdd, Nat.reduceSub, Nat.reduceEqDiff, Nat.reduceMul, Nat.reduceLT, reduceCtorEq, Nat.reduceLeDiff, Int.reduceBEq, Nat.reduceBEq])
  (refine DCALLS_spec (args' := ?_) (r := ?_) (by kernel_rfl) ?_ ?_ ?_; rotate_left 2; (simp only [ab, ab2, tys, mv, Nat.reduceAdd, Nat.reduceSub, Nat.reduceEqDiff, Nat.reduceMul, Nat.reduceLT, reduceCtorEq, Nat.reduceLeDiff, Int.reduceBEq, Nat.reduceBEq]; exact rfl); exact (like_spec e k r); simp only [ab, ab2, tys, mv, Nat.reduceAdd, Nat.reduceSub, Nat.reduceEqDiff, Nat.reduceMul, Nat.reduceLT, reduceCtorEq, Nat.reduceLeDiff, Int.reduceBEq, Nat.reduceBEq])
  (refine DCALLS_spec (args' := ?_) (r := ?_) (by kernel_rfl) ?_ ?_ ?_; rotate_left 2; (simp only [ab, ab2, tys, mv, Nat.reduceAdd, Nat.reduceSub, Nat.reduceEqDiff, Nat.reduceMul, Nat.reduceLT, reduceCtorEq, Nat.reduceLeDiff, Int.reduceBEq, Nat.reduceBEq]; exact rfl); exact (Select_spec l (likeE e k r) (orI .i64 7 m) hl); simp only [ab, ab2, tys, mv, Nat.reduceAdd, Nat.reduceSub, Nat.reduceEqDiff, Nat.reduceMul, Nat.reduceLT, reduceCtorEq, Nat.reduceLeDiff, Int.reduceBEq, Nat.reduceBEq])
  (refine ⟨by kernel_rfl, ?_⟩)
  (refine FINS_done ?_; simp only [ab, ab2, tys, mv, Nat.reduceAdd, Nat.reduceSub, Nat.reduceEqDiff, Nat.reduceMul, Nat.reduceLT, reduceCtorEq, Nat.reduceLeDiff, Int.reduceBEq, Nat.reduceBEq])
  rfl
def allM (a : List Ask) (l : List Event) (e : Event) : Bool := a.all fun x => soM x l e
theorem all_spec (a : List Ask) (l : List Event) (e : Event) (hl : l.length ≤ 1099511627776) (ha : a.length ≤ 1099511627776) : Spec PP [] 37 [asksV a, eventsV l, e.v] (.bool (allM a l e)) [] := by
  refine Spec.of_runs Go.Proofs.Try.f37 Go.Proofs.Try.func37 rfl ?_
  intro w0 M0
  simp only [Go.Proofs.Try.f37, List.replicate, List.cons_append, List.nil_append, asksV, ab, ab2, tys, mv, Nat.reduceAdd, Nat.reduceSub, Nat.reduceEqDiff, Nat.reduceMul, Nat.reduceLT, reduceCtorEq, Nat.reduceLeDiff, Int.reduceBEq, Nat.reduceBEq]
  refine RUNs_range a.length (fun i (_ : Unit) => (a.take i).all (fun x => soM x l e) = true) (fun i _ => ([.any, .sl (l.map Event.v) .plain, .any, .any, .any, .ptr 0 0, .bool false, .any, .any, .sl (a.map Ask.v) .plain, i64 a.length, i64 i, .any, .any, .any, .any, .any, .any, .any, .any, .any], [.var e.cells])) () (by simp) ⟨by repeat (first | exact .nil | refine .cons (.refl _) ?_ | refine .cons (.sl _ _) ?_ | refine .cons (.any _) ?_), by repeat (first | exact .nil _ | refine .cons (.refl _) ?_ | refine .cons (.var (by repeat (first | exact .nil | refine .cons (.refl _) ?_ | refine .cons (.sl _ _) ?_ | refine .cons (.any _) ?_))) ?_ | refine .cons (.dead _ (by intro hh; cases hh)) ?_), by rfl, by rfl⟩ rfl ?_
  rintro ⟨i, _, hi, hw⟩
  simp only [Event.cells, ab, ab2, tys, mv, Nat.reduceAdd, Nat.reduceSub, Nat.reduceEqDiff, Nat.reduceMul, Nat.reduceLT, reduceCtorEq, Nat.reduceLeDiff, Int.reduceBEq, Nat.reduceBEq]
  first | refine CONDS_split (fun h => ?_) (fun h => ?_) | refine GRDN_split (fun h => ?_) (fun h => ?_) | refine GRD_split (fun h => ?_) (fun h => ?_) | refine DGRN_split (fun h => ?_) (fun h => ?_) | refine DGR_split (fun h => ?_) (fun h => ?_)
  · have hlt : i < a.length := by simpa using h
    simp only [h, getMap Ask.v a hlt, ab, ab2, tys, mv, Nat.reduceAdd, Nat.reduceSub, Nat.reduceEqDiff, Nat.reduceMul, Nat.reduceLT, reduceCtorEq, Nat.reduceLeDiff, Int.reduceBEq, Nat.reduceBEq]
    cases hx : a[i] with
    | fresh =>
      simp only [Ask.v, ab, ab2, tys, mv, Nat.reduceAdd, Nat.reduceSub, Nat.reduceEqDiff, Nat.reduceMul, Nat.reduceLT, reduceCtorEq, Nat.reduceLeDiff, Int.reduceBEq, Nat.reduceBEq]
      (refine INVS_spec2 (n := 94) (args' := ?_) (r := ?_) (by kernel_rfl) (by kernel_rfl) ?_ ?_ ?_; rotate_left 2; (simp only [ab, ab2, tys, mv, Nat.reduceAdd, Nat.reduceSub, Nat.reduceEqDiff, Nat.reduceMul, Nat.reduceLT, reduceCtorEq, Nat.reduceLeDiff, Int.reduceBEq, Nat.reduceBEq]; exact rfl); exact (fresh_spec l e hl); simp only [ab, ab2, tys, mv, Nat.reduceAdd, Nat.reduceSub, Nat.reduceEqDiff, Nat.reduceMul, Nat.reduceLT, reduceCtorEq, Nat.reduceLeDiff, Int.reduceBEq, Nat.reduceBEq])
      first | refine CONDS_split (fun h => ?_) (fun h => ?_) | refine GRDN_split (fun h => ?_) (fun h => ?_) | refine GRD_split (fun h => ?_) (fun h => ?_) | refine DGRN_split (fun h => ?_) (fun h => ?_) | refine DGR_split (fun h => ?_) (fun h => ?_)
      · simp only [h, w64s (i := i) (by omega), ab, ab2, tys, mv, Nat.reduceAdd, Nat.reduceSub, Nat.reduceEqDiff, Nat.reduceMul, Nat.reduceLT, reduceCtorEq, Nat.reduceLeDiff, Int.reduceBEq, Nat.reduceBEq]
        (refine RUNs_next () ?_ ?_ hlt ?_; exact ⟨by repeat (first | exact .nil | refine .cons (.refl _) ?_ | refine .cons (.sl _ _) ?_ | refine .cons (.any _) ?_), by repeat (first | exact .nil _ | refine .cons (.refl _) ?_ | refine .cons (.var (by repeat (first | exact .nil | refine .cons (.refl _) ?_ | refine .cons (.sl _ _) ?_ | refine .cons (.any _) ?_))) ?_ | refine .cons (.dead _ (by intro hh; cases hh)) ?_), by rfl, by rfl⟩; rfl)
        rw [all_succ hlt, hw, hx, h]; rfl
      · simp only [h, ab, ab2, tys, mv, Nat.reduceAdd, Nat.reduceSub, Nat.reduceEqDiff, Nat.reduceMul, Nat.reduceLT, reduceCtorEq, Nat.reduceLeDiff, Int.reduceBEq, Nat.reduceBEq]
        (refine FINS_done ?_; simp only [ab, ab2, tys, mv, Nat.reduceAdd, Nat.reduceSub, Nat.reduceEqDiff, Nat.reduceMul, Nat.reduceLT, reduceCtorEq, Nat.reduceLeDiff, Int.reduceBEq, Nat.reduceBEq])
        rw [allM, all_false hlt (by rw [hx]; exact h)]
    | must k r m =>
      simp only [Ask.v, ab, ab2, tys, mv, Nat.reduceAdd, Nat.reduceSub, Nat.reduceEqDiff, Nat.reduceMul, Nat.reduceLT, reduceCtorEq, Nat.reduceLeDiff, Int.reduceBEq, Nat.reduceBEq]
      (refine INVS_spec2 (n := 109) (args' := ?_) (r := ?_) (by kernel_rfl) (by kernel_rfl) ?_ ?_ ?_; rotate_left 2; (simp only [ab, ab2, tys, mv, Nat.reduceAdd, Nat.reduceSub, Nat.reduceEqDiff, Nat.reduceMul, Nat.reduceLT, reduceCtorEq, Nat.reduceLeDiff, Int.reduceBEq, Nat.reduceBEq]; exact rfl); exact (must_spec k r m l e hl); simp only [ab, ab2, tys, mv, Nat.reduceAdd, Nat.reduceSub, Nat.reduceEqDiff, Nat.reduceMul, Nat.reduceLT, reduceCtorEq, Nat.reduceLeDiff, Int.reduceBEq, Nat.reduceBEq])
      first | refine CONDS_split (fun h => ?_) (fun h => ?_) | refine GRDN_split (fun h => ?_) (fun h => ?_) | refine GRD_split (fun h => ?_) (fun h => ?_) | refine DGRN_split (fun h => ?_) (fun h => ?_) | refine DGR_split (fun h => ?_) (fun h => ?_)
      · simp only [h, w64s (i := i) (by omega), ab, ab2, tys, mv, Nat.reduceAdd, Nat.reduceSub, Nat.reduceEqDiff, Nat.reduceMul, Nat.reduceLT, reduceCtorEq, Nat.reduceLeDiff, Int.reduceBEq, Nat.reduceBEq]
        (refine RUNs_next () ?_ ?_ hlt ?_; exact ⟨by repeat (first | exact .nil | refine .cons (.refl _) ?_ | refine .cons (.sl _ _) ?_ | refine .cons (.any _) ?_), by repeat (first | exact .nil _ | refine .cons (.refl _) ?_ | refine .cons (.var (by repeat (first | exact .nil | refine .cons (.refl _) ?_ | refine .cons (.sl _ _) ?_ | refine .cons (.any _) ?_))) ?_ | refine .cons (.dead _ (by intro hh; cases hh)) ?_), by rfl, by rfl⟩; rfl)
        rw [all_succ hlt, hw, hx, h]; rfl
      · simp only [h, ab, ab2, tys, mv, Nat.reduceAdd, Nat.reduceSub, Nat.reduceEqDiff, Nat.reduceMul, Nat.reduceLT, reduceCtorEq, Nat.reduceLeDiff, Int.reduceBEq, Nat.reduceBEq]
        (refine FINS_done ?_; simp only [ab, ab2, tys, mv, Nat.reduceAdd, Nat.reduceSub, Nat.reduceEqDiff, Nat.reduceMul, Nat.reduceLT, reduceCtorEq, Nat.reduceLeDiff, Int.reduceBEq, Nat.reduceBEq])
        rw [allM, all_false hlt (by rw [hx]; exact h)]
    | never k r m =>
      simp only [Ask.v, ab, ab2, tys, mv, Nat.reduceAdd, Nat.reduceSub, Nat.reduceEqDiff, Nat.reduceMul, Nat.reduceLT, reduceCtorEq, Nat.reduceLeDiff, Int.reduceBEq, Nat.reduceBEq]
      (refine INVS_spec2 (n := 107) (args' := ?_) (r := ?_) (by kernel_rfl) (by kernel_rfl) ?_ ?_ ?_; rotate_left 2; (simp only [ab, ab2, tys, mv, Nat.reduceAdd, Nat.reduceSub, Nat.reduceEqDiff, Nat.reduceMul, Nat.reduceLT, reduceCtorEq, Nat.reduceLeDiff, Int.reduceBEq, Nat.reduceBEq]; exact rfl); exact (never_spec k r m l e hl); simp only [ab, ab2, tys, mv, Nat.reduceAdd, Nat.reduceSub, Nat.reduceEqDiff, Nat.reduceMul, Nat.reduceLT, reduceCtorEq, Nat.reduceLeDiff, Int.reduceBEq, Nat.reduceBEq])
      first | refine CONDS_split (fun h => ?_) (fun h => ?_) | refine GRDN_split (fun h => ?_) (fun h => ?_) | refine GRD_split (fun h => ?_) (fun h => ?_) | refine DGRN_split (fun h => ?_) (fun h => ?_) | refine DGR_split (fun h => ?_) (fun h => ?_)
      · simp only [h, w64s (i := i) (by omega), ab, ab2, tys, mv, Nat.reduceAdd, Nat.reduceSub, Nat.reduceEqDiff, Nat.reduceMul, Nat.reduceLT, reduceCtorEq, Nat.reduceLeDiff, Int.reduceBEq, Nat.reduceBEq]
        (refine RUNs_next () ?_ ?_ hlt ?_; exact ⟨by repeat (first | exact .nil | refine .cons (.refl _) ?_ | refine .cons (.sl _ _) ?_ | refine .cons (.any _) ?_), by repeat (first | exact .nil _ | refine .cons (.refl _) ?_ | refine .cons (.var (by repeat (first | exact .nil | refine .cons (.refl _) ?_ | refine .cons (.sl _ _) ?_ | refine .cons (.any _) ?_))) ?_ | refine .cons (.dead _ (by intro hh; cases hh)) ?_), by rfl, by rfl⟩; rfl)
        rw [all_succ hlt, hw, hx, h]; rfl
      · simp only [h, ab, ab2, tys, mv, Nat.reduceAdd, Nat.reduceSub, Nat.reduceEqDiff, Nat.reduceMul, Nat.reduceLT, reduceCtorEq, Nat.reduceLeDiff, Int.reduceBEq, Nat.reduceBEq]
        (refine FINS_done ?_; simp only [ab, ab2, tys, mv, Nat.reduceAdd, Nat.reduceSub, Nat.reduceEqDiff, Nat.reduceMul, Nat.reduceLT, reduceCtorEq, Nat.reduceLeDiff, Int.reduceBEq, Nat.reduceBEq])
        rw [allM, all_false hlt (by rw [hx]; exact h)]
  · simp only [h, ab, ab2, tys, mv, Nat.reduceAdd, Nat.reduceSub, Nat.reduceEqDiff, Nat.reduceMul, Nat.reduceLT, reduceCtorEq, Nat.reduceLeDiff, Int.reduceBEq, Nat.reduceBEq]
    (refine FINS_done ?_; simp only [ab, ab2, tys, mv, Nat.reduceAdd, Nat.reduceSub, Nat.reduceEqDiff, Nat.reduceMul, Nat.reduceLT, reduceCtorEq, Nat.reduceLeDiff, Int.reduceBEq, Nat.reduceBEq])
    have : i = a.length := by simp at h; omega
    subst this
    rw [List.take_length] at hw
    rw [allM, hw]
end Ch
