/- What is ahead of an event alone tells whether it has its cause. -/
import Derived.Test.YtjohhgopnpoboaaR16
set_option maxRecDepth 100000
set_option maxHeartbeats 4000000
set_option linter.unusedSimpArgs false
set_option linter.unusedVariables false
namespace Ch
open Go Go.Ab
theorem Lim_of_ok {w : World} (h : w.ok) : w.Lim := by
  obtain ⟨h1, h2, h3, h4, h5, h6, h7, h8⟩ := h
  exact ⟨h2.1.1, h3.2.1, h4.2.1.1, h4.2.2.1, h5.1, fun p hp => ⟨(h5.2 p hp).2.2.2.1.1, (h5.2 p hp).2.2.2.2.1⟩, h6.1, h7.1, h8.1⟩
theorem few_len {α : Type} {l : List α} {p : α → Bool} {n : Nat} (h : (l.take n).all p = true) (hl : l.length ≤ n) : ∀ x ∈ l, p x = true := by
  rw [List.take_of_length_le hl, List.all_eq_true] at h; exact h
theorem lim_of_few {w : World} (h : Few12 w = true) : w.lim := by
  simp only [Few12, Few07, Few06, Few10, Bool.and_eq_true, decide_eq_true_eq] at h
  obtain ⟨⟨⟨⟨⟨⟨⟨h1, h2, h3⟩, ⟨⟨h4, h5⟩, h6⟩, h7⟩, h8, h9⟩, h10⟩, h11⟩, h12⟩, h13⟩ := h
  have L : ∀ l : List Int, few l = true → l.length ≤ 1099511627776 := fun l hl => by simp only [few, decide_eq_true_eq] at hl; omega
  have P := few_len h8 (by omega)
  simp only [Bool.and_eq_true, decide_eq_true_eq] at P
  exact ⟨by omega, by omega, fun s hs => L _ (few_len h2 (by omega) s hs), by omega, fun s hs => L _ (few_len h4 (by omega) s hs), by omega, fun s hs => L _ (few_len h5 (by omega) s hs), by omega,
    fun p hp => L _ (P p hp).1, fun p hp => by have := (P p hp).2; omega, by omega, by omega, fun s hs => L _ (few_len h1 (by omega) s hs), by omega⟩
/-- everybody but the server corrupt, up to a place -/
def corr (l : List Person) (i : Nat) : List Person := l.mapIdx fun j p => if 1 ≤ j ∧ j ≤ i then { p with corrupt := true } else p
theorem corr_len (l : List Person) (i : Nat) : (corr l i).length = l.length := by simp [corr]
theorem corr_zero (l : List Person) : corr l 0 = l := by
  apply List.ext_getElem?
  intro j
  simp only [corr, List.getElem?_mapIdx]
  cases l[j]? with
  | none => rfl
  | some p => simp; omega
theorem corr_get {l : List Person} {i j : Nat} (h : j < l.length) (hj : i < j) : (corr l i)[j]? = some l[j] := by
  simp [corr, h]; omega
theorem corr_set {l : List Person} {i : Nat} (h : i + 1 < l.length) : (corr l i).set (i + 1) { l[i + 1] with corrupt := true } = corr l (i + 1) := by
  apply List.ext_getElem?
  intro j
  by_cases hj : i + 1 = j
  · subst hj
    rw [List.getElem?_set_self (by rw [corr_len]; exact h)]
    simp [corr, h]
  · rw [List.getElem?_set_ne hj]
    simp only [corr, List.getElem?_mapIdx]
    cases l[j]? with
    | none => rfl
    | some p =>
      simp only [Option.map_some, Option.some.injEq]
      by_cases h1 : 1 ≤ j ∧ j ≤ i
      · rw [if_pos h1, if_pos ⟨h1.1, by omega⟩]
      · rw [if_neg h1, if_neg (fun h2 => h1 ⟨h2.1, by omega⟩)]
theorem honest_corr {l : List Person} {i : Nat} {n : Int} (h : honest (corr l i) n = true) : honest l n = true := by
  simp only [honest, getP, corr, List.getElem?_mapIdx] at h ⊢
  cases hl : l[n.toNat]? with
  | none => rw [hl] at h; simpa using h
  | some p =>
    rw [hl] at h
    simp only [Option.map_some, Option.getD_some] at h ⊢
    split at h
    · simp at h
    · exact h
/-- with more who are corrupt no less have their cause -/
theorem cause_corr {l : List Person} {i : Nat} {a : List Event} {e : Event} (h : causeE l a e = true) : causeE (corr l i) a e = true := by
  simp only [causeE, Bool.and_eq_true, Bool.or_eq_true, Bool.not_eq_true'] at h ⊢
  obtain ⟨h1, h2, h3, h4⟩ := h
  refine ⟨h1, h2, ?_, ?_⟩
  · cases hc : honest (corr l i) e.a with
    | false => exact .inl rfl
    | true => rw [honest_corr hc] at h3; exact .inr (h3.resolve_left (by simp))
  · cases hc : honest (corr l i) e.b with
    | false => exact .inl rfl
    | true => rw [honest_corr hc] at h4; exact .inr (h4.resolve_left (by simp))
theorem cause_take (w : World) (k : Nat) : causeM { w with log := w.log.take (k + 1) } (k : Nat) = causeM w (k : Nat) := by
  simp only [causeM, show ¬ ((k : Int) < 0) by omega, if_false, Int.toNat_natCast]
  rw [List.getElem?_take_of_lt (by omega), List.take_take, Nat.min_eq_left (by omega)]
theorem cause_y (w : World) (i k : Nat) (h : causeM w (k : Nat) = true) : causeM { w with people := corr w.people i } (k : Nat) = true := by
  simp only [causeM, show ¬ ((k : Int) < 0) by omega, if_false, Int.toNat_natCast] at h ⊢
  cases hl : w.log[k]? with
  | none => rw [hl] at h; cases h
  | some e => rw [hl] at h; exact cause_corr h
def xW (w : World) (k : Nat) : World := { w with log := w.log.take (k + 1) }
theorem cause_x (w : World) (k : Nat) : causeM (xW w k) (k : Nat) = causeM w (k : Nat) := cause_take w k
def yW (w : World) (i : Nat) : World := { w with people := corr w.people i }
def taH (w : World) (k : Nat) (ppl regs : V) (m : List AB) : List AB := [.var w.cells, .var (World.cells { w with log := w.log.take (k + 1) })] ++ m ++ [.var (cpCells w (sldsV w.box.rows) (gramsV w.net.grams) (rowsV w.net.seen) ppl (eventsV w.log) regs (leaksV w.leaks))]
def taM (w : World) (i : Nat) : List AB := [.dead, .dead, .dead, .dead, .dead, .dead, .row 6 ((corr w.people i).map Person.v) (w.people.length - 1) false, .dead, .row 1 (w.regs.map wordsV) (w.regs.length - 1) false]
theorem TraceAhead_spec (w : World) (hw : w.ok) (i : Nat) (hi : i < 256) : Spec PP [] 3 [w.v, .int .u8 i] (.bool true) [] := by
  refine Spec.of_runs Go.Proofs.Try.f3 Go.Proofs.Try.func3 rfl ?_
  intro w0 M0
  simp only [Go.Proofs.Try.f3, List.replicate, List.cons_append, List.nil_append, ab, ab2, tys, mv, Nat.reduceAdd, Nat.reduceSub, Nat.reduceEqDiff, Nat.reduceMul, Nat.reduceLT, reduceCtorEq, Nat.reduceLeDiff, Int.reduceBEq, Nat.reduceBEq]
  repeat' (first
    | (refine CALLS_spec2 (args' := ?_) (r := ?_) (by kernel_rfl) ?_ ?_ ?_; rotate_left 2; (simp only [ab, ab2, tys, mv, Nat.reduceAdd, Nat.reduceSub, Nat.reduceEqDiff, Nat.reduceMul, Nat.reduceLT, reduceCtorEq, Nat.reduceLeDiff, Int.reduceBEq, Nat.reduceBEq]; exact rfl); exact (L25.awake_spec); simp only [ab, ab2, tys, mv, Nat.reduceAdd, Nat.reduceSub, Nat.reduceEqDiff, Nat.reduceMul, Nat.reduceLT, reduceCtorEq, Nat.reduceLeDiff, Int.reduceBEq, Nat.reduceBEq])
    | (refine CALLS_spec2 (args' := ?_) (r := ?_) (by kernel_rfl) ?_ ?_ ?_; rotate_left 2; (simp only [ab, ab2, tys, mv, Nat.reduceAdd, Nat.reduceSub, Nat.reduceEqDiff, Nat.reduceMul, Nat.reduceLT, reduceCtorEq, Nat.reduceLeDiff, Int.reduceBEq, Nat.reduceBEq]; exact rfl); exact (Few12_spec w (Lim_of_ok hw)); simp only [ab, ab2, tys, mv, Nat.reduceAdd, Nat.reduceSub, Nat.reduceEqDiff, Nat.reduceMul, Nat.reduceLT, reduceCtorEq, Nat.reduceLeDiff, Int.reduceBEq, Nat.reduceBEq])
    | (refine CALLS_spec2 (args' := ?_) (r := ?_) (by kernel_rfl) ?_ ?_ ?_; rotate_left 2; (simp only [ab, ab2, tys, mv, Nat.reduceAdd, Nat.reduceSub, Nat.reduceEqDiff, Nat.reduceMul, Nat.reduceLT, reduceCtorEq, Nat.reduceLeDiff, Int.reduceBEq, Nat.reduceBEq]; exact rfl); exact (Form12_spec w (Lim_of_ok hw)); simp only [ab, ab2, tys, mv, Nat.reduceAdd, Nat.reduceSub, Nat.reduceEqDiff, Nat.reduceMul, Nat.reduceLT, reduceCtorEq, Nat.reduceLeDiff, Int.reduceBEq, Nat.reduceBEq])
    | ((first | refine CONDS_split (fun h => ?_) (fun h => ?_) | refine GRDN_split (fun h => ?_) (fun h => ?_) | refine GRD_split (fun h => ?_) (fun h => ?_) | refine DGRN_split (fun h => ?_) (fun h => ?_) | refine DGR_split (fun h => ?_) (fun h => ?_)) <;> simp only [h, ab, ab2, tys, mv, Nat.reduceAdd, Nat.reduceSub, Nat.reduceEqDiff, Nat.reduceMul, Nat.reduceLT, reduceCtorEq, Nat.reduceLeDiff, Int.reduceBEq, Nat.reduceBEq]))
  all_goals try ((refine FINS_done ?_; simp only [ab, ab2, tys, mv, Nat.reduceAdd, Nat.reduceSub, Nat.reduceEqDiff, Nat.reduceMul, Nat.reduceLT, reduceCtorEq, Nat.reduceLeDiff, Int.reduceBEq, Nat.reduceBEq]); done)
  rename_i hf hg
  have hF : Few12 w = true := by simpa using hf
  have hG : Form12 w = true := by simpa using hg
  have hpos : 0 < w.log.length := by simp at h; have := List.length_pos_iff.2 h; omega
  have hlim := lim_of_few hF
  have hP : w.people ≠ [] := by
    simp only [Form12, Right10, Bool.and_eq_true, decide_eq_true_eq] at hG
    intro e; rw [e] at hG; simp at hG
  have hR : w.regs ≠ [] := by
    simp only [Form12, May12, Bool.and_eq_true, decide_eq_true_eq] at hG
    intro e; rw [e] at hG; simp at hG; omega
  have hlog : ∀ e ∈ w.log, U e.a ∧ U e.b := fun e he => by
    have := (hw.2.2.2.2.2.1).2 e he
    exact ⟨this.2.2.2.1, this.2.2.2.2.1⟩
  have w1 : IntKind.i64.wrap (i : Int) = i := w64n (by omega)
  have hk : (i : Int).tmod (w.log.length : Int) = ((i % w.log.length : Nat) : Int) := by
    rw [Int.tmod_eq_emod_of_nonneg (by omega)]; rfl
  generalize hkk : i % w.log.length = k at hk
  have hklt : k < w.log.length := by rw [← hkk]; exact Nat.mod_lt _ hpos
  have hle := hlim.log
  simp only [w1, hk, show ¬ ((w.log.length : Int) = 0) by omega, w64s (i := k) (by omega), ab, ab2, tys, mv, Nat.reduceAdd, Nat.reduceSub, Nat.reduceEqDiff, Nat.reduceMul, Nat.reduceLT, reduceCtorEq, Nat.reduceLeDiff, Int.reduceBEq, Nat.reduceBEq]
  refine OPC_ok (slc_ok (by omega) (by intro a; rfl)) ?_
  simp only [ab, ab2, tys, mv, Nat.reduceAdd, Nat.reduceSub, Nat.reduceEqDiff, Nat.reduceMul, Nat.reduceLT, reduceCtorEq, Nat.reduceLeDiff, Int.reduceBEq, Nat.reduceBEq]
  have hc := Copied_H w hlim hP hR
  simp only [cpV, cpH, cpCells, ab, ab2, tys, mv, Nat.reduceAdd, Nat.reduceSub, Nat.reduceEqDiff, Nat.reduceMul, Nat.reduceLT, reduceCtorEq, Nat.reduceLeDiff, Int.reduceBEq, Nat.reduceBEq] at hc
  (refine CALLS_specH (args' := ?_) (r := ?_) (Hr := ?_) (by kernel_rfl) ?_ ?_ ?_; rotate_left 3; (simp only [ab, ab2, tys, mv, Nat.reduceAdd, Nat.reduceSub, Nat.reduceEqDiff, Nat.reduceMul, Nat.reduceLT, reduceCtorEq, Nat.reduceLeDiff, Int.reduceBEq, Nat.reduceBEq]; exact rfl); exact (hc); simp only [ab, ab2, tys, mv, Nat.reduceAdd, Nat.reduceSub, Nat.reduceEqDiff, Nat.reduceMul, Nat.reduceLT, reduceCtorEq, Nat.reduceLeDiff, Int.reduceBEq, Nat.reduceBEq])
  clear hc
  have hpl : 0 < w.people.length := List.length_pos_iff.2 hP
  have hpl2 := hlim.people
  refine RUNs_cut (fun (_ : Unit) => ([.any, .any, .ptr 0 0, .any, .bool false, i64 k, .ptr 1 0, .ptr 11 0, .any, .any, .any, .any, .any, .any, .any, .any, .any, .any, .any, .any, .any, .any, .any, .any, .any, .any, .any, .any, .any, .any, .any, .any, .any, .any, .any, .any, .any, .any, .any, .any, .any, .any, .any, .any, .any, .any, .any, .any, .any, .any, .any, .any, .any, .any, .any, .any, .any, .any, .any, .any, .any, .any, .any, .any, .any, .any, .any, .any, .any, .any, .any, .any, .any, .any, .any, .any, .any, .any, .any, .any, .any, .any, .any, .any, .any, .any, .any, .any, .any, .any, .any, .any, .any, .any, .any, .any, .any, .any, .any, .any, .any, .any, .any, .any, .any, .any, .any, .any, .any, .any, .any, .any, .any, .any, .any, .any, .any, .any, .any, .any, .any], taH w k (peopleV (corr w.people (w.people.length - 1))) (rowsV w.regs) [.dead, .dead, .dead, .dead, .dead, .dead, .dead, .dead, .dead])) (fun _ => True) ?_ ?_ (by rfl)
  · refine RUNs_range (w.people.length - 1) (fun _ (_ : Unit) => True) (fun n _ => ([.any, .any, .ptr 0 0, .any, .bool false, i64 k, .ptr 1 0, .ptr 11 0, i64 ((n + 1 : Nat) : Int), .any, .any, .any, .any, .any, .any, .any, .any, .any, .any, .any, .any, .any, .any, .any, .any, .any, .any, .any, .any, .any, .any, .any, .any, .any, .any, .any, .any, .any, .any, .any, .any, .any, .any, .any, .any, .any, .any, .any, .any, .any, .any, .any, .any, .any, .any, .any, .any, .any, .any, .any, .any, .any, .any, .any, .any, .any, .any, .any, .any, .any, .any, .any, .any, .any, .any, .any, .any, .any, .any, .any, .any, .any, .any, .any, .any, .any, .any, .any, .any, .any, .any, .any, .any, .any, .any, .any, .any, .any, .any, .any, .any, .any, .any, .any, .any, .any, .any, .any, .any, .any, .any, .any, .any, .any, .any, .any, .any, .any, .any, .any, .any], taH w k (.row 8 (w.people.length - 1)) (.row 10 (w.regs.length - 1)) (taM w n))) () trivial ?_ rfl ?_
    · simp only [taH, taM, World.cells, cpCells, wordsV, rowsV, gramsV, peopleV, eventsV, leaksV, sldsV, List.cons_append, List.nil_append, corr_zero, ab, ab2, tys, mv, Nat.reduceAdd, Nat.reduceSub, Nat.reduceEqDiff, Nat.reduceMul, Nat.reduceLT, reduceCtorEq, Nat.reduceLeDiff, Int.reduceBEq, Nat.reduceBEq]
      exact ⟨by repeat (first | exact .nil | refine .cons (.refl _) ?_ | refine .cons (.sl _ _) ?_ | refine .cons (.any _) ?_), by repeat (first | exact .nil _ | refine .cons (.refl _) ?_ | refine .cons (.var (by repeat (first | exact .nil | refine .cons (.refl _) ?_ | refine .cons (.sl _ _) ?_ | refine .cons (.any _) ?_))) ?_ | refine .cons (.dead _ (by intro hh; cases hh)) ?_), by rfl, by rfl⟩
    rintro ⟨n, _, hn, _⟩
    simp only [taH, taM, World.cells, cpCells, wordsV, rowsV, gramsV, peopleV, eventsV, leaksV, sldsV, List.cons_append, List.nil_append, corr_len, ab, ab2, tys, mv, Nat.reduceAdd, Nat.reduceSub, Nat.reduceEqDiff, Nat.reduceMul, Nat.reduceLT, reduceCtorEq, Nat.reduceLeDiff, Int.reduceBEq, Nat.reduceBEq]
    first | refine CONDS_split (fun h => ?_) (fun h => ?_) | refine GRDN_split (fun h => ?_) (fun h => ?_) | refine GRD_split (fun h => ?_) (fun h => ?_) | refine DGRN_split (fun h => ?_) (fun h => ?_) | refine DGR_split (fun h => ?_) (fun h => ?_)
    · have hlt : n + 1 < w.people.length := by have := of_decide_eq_true h; omega
      simp only [h, corr_len, hlt, List.getElem?_map, corr_get hlt (Nat.lt_succ_self n), Option.map_some, Person.v, ab, ab2, tys, mv, Nat.reduceAdd, Nat.reduceSub, Nat.reduceEqDiff, Nat.reduceMul, Nat.reduceLT, reduceCtorEq, Nat.reduceLeDiff, Int.reduceBEq, Nat.reduceBEq]
      have e : ((corr w.people n).map Person.v).set (n + 1) (V.agg [u32 w.people[n + 1].name, u32 w.people[n + 1].key, u32 w.people[n + 1].clock, V.sl (w.people[n + 1].used.map u32) Mk.plain, V.sl (w.people[n + 1].runs.map Run.v) Mk.plain, V.val (Value.bool true)]) = (corr w.people (n + 1)).map Person.v := by
        rw [← corr_set hlt, List.map_set]; rfl
      simp only [w64s (i := n + 1) (by omega), ab, ab2, tys, mv, Nat.reduceAdd, Nat.reduceSub, Nat.reduceEqDiff, Nat.reduceMul, Nat.reduceLT, reduceCtorEq, Nat.reduceLeDiff, Int.reduceBEq, Nat.reduceBEq]
      (refine RUNs_next () ?_ ?_ (by show n < w.people.length - 1; omega) ?_; simp only [taH, taM, World.cells, cpCells, wordsV, rowsV, gramsV, peopleV, eventsV, leaksV, sldsV, List.cons_append, List.nil_append, ← e]; exact ⟨by repeat (first | exact .nil | refine .cons (.refl _) ?_ | refine .cons (.sl _ _) ?_ | refine .cons (.any _) ?_), by repeat (first | exact .nil _ | refine .cons (.refl _) ?_ | refine .cons (.var (by repeat (first | exact .nil | refine .cons (.refl _) ?_ | refine .cons (.sl _ _) ?_ | refine .cons (.any _) ?_))) ?_ | refine .cons (.dead _ (by intro hh; cases hh)) ?_), by rfl, by rfl⟩; rfl)
      trivial
    · have hend : n + 1 = w.people.length := by have := of_decide_eq_false h; omega
      have hend2 : w.people.length - 1 = n := by omega
      simp only [h, ab, ab2, tys, mv, Nat.reduceAdd, Nat.reduceSub, Nat.reduceEqDiff, Nat.reduceMul, Nat.reduceLT, reduceCtorEq, Nat.reduceLeDiff, Int.reduceBEq, Nat.reduceBEq]
      (refine RUNs_freeze 8 (w.people.length - 1) ?_ (by rfl) ?_ ?_; rotate_left 1; (simp only [ab, ab2, tys, mv, Nat.reduceAdd, Nat.reduceSub, Nat.reduceEqDiff, Nat.reduceMul, Nat.reduceLT, reduceCtorEq, Nat.reduceLeDiff, Int.reduceBEq, Nat.reduceBEq]; exact rfl); simp only [ab, ab2, tys, mv, Nat.reduceAdd, Nat.reduceSub, Nat.reduceEqDiff, Nat.reduceMul, Nat.reduceLT, reduceCtorEq, Nat.reduceLeDiff, Int.reduceBEq, Nat.reduceBEq])
      (refine RUNs_freeze 10 (w.regs.length - 1) ?_ (by rfl) ?_ ?_; rotate_left 1; (simp only [ab, ab2, tys, mv, Nat.reduceAdd, Nat.reduceSub, Nat.reduceEqDiff, Nat.reduceMul, Nat.reduceLT, reduceCtorEq, Nat.reduceLeDiff, Int.reduceBEq, Nat.reduceBEq]; exact rfl); simp only [ab, ab2, tys, mv, Nat.reduceAdd, Nat.reduceSub, Nat.reduceEqDiff, Nat.reduceMul, Nat.reduceLT, reduceCtorEq, Nat.reduceLeDiff, Int.reduceBEq, Nat.reduceBEq])
      (refine RUNs_cut_in () ?_ ?_ ?_; simp only [taH, taM, World.cells, cpCells, wordsV, rowsV, gramsV, peopleV, eventsV, leaksV, sldsV, List.cons_append, List.nil_append, hend2]; exact ⟨by repeat (first | exact .nil | refine .cons (.refl _) ?_ | refine .cons (.sl _ _) ?_ | refine .cons (.any _) ?_), by repeat (first | exact .nil _ | refine .cons (.refl _) ?_ | refine .cons (.var (by repeat (first | exact .nil | refine .cons (.refl _) ?_ | refine .cons (.sl _ _) ?_ | refine .cons (.any _) ?_))) ?_ | refine .cons (.dead _ (by intro hh; cases hh)) ?_), by rfl, by rfl⟩; rfl)
      trivial
  · rintro ⟨⟩ -
    simp only [taH, taM, World.cells, cpCells, wordsV, rowsV, gramsV, peopleV, eventsV, leaksV, sldsV, List.cons_append, List.nil_append, ab, ab2, tys, mv, Nat.reduceAdd, Nat.reduceSub, Nat.reduceEqDiff, Nat.reduceMul, Nat.reduceLT, reduceCtorEq, Nat.reduceLeDiff, Int.reduceBEq, Nat.reduceBEq]
    have hplen := hlim.people
    (refine CALLS_spec2 (args' := ?_) (r := ?_) (by kernel_rfl) ?_ ?_ ?_; rotate_left 2; (simp only [ab, ab2, tys, mv, Nat.reduceAdd, Nat.reduceSub, Nat.reduceEqDiff, Nat.reduceMul, Nat.reduceLT, reduceCtorEq, Nat.reduceLeDiff, Int.reduceBEq, Nat.reduceBEq]; exact rfl); exact (Check_spec w hlog hplen hle); simp only [ab, ab2, tys, mv, Nat.reduceAdd, Nat.reduceSub, Nat.reduceEqDiff, Nat.reduceMul, Nat.reduceLT, reduceCtorEq, Nat.reduceLeDiff, Int.reduceBEq, Nat.reduceBEq])
    refine RUNs_cut (fun (_ : Unit) => ([.any, .any, .ptr 0 0, .any, .bool false, i64 k, .ptr 1 0, .ptr 11 0, .any, i64 (((badAt w).getD 0 : Nat) : Int), .bool (badAt w).isNone, .any, .any, .any, .any, .any, .any, .any, .any, .any, .any, .any, .any, .any, .any, .any, .any, .any, .any, .any, .any, .any, .any, .any, .any, .any, .any, .any, .any, .any, .any, .any, .any, .any, .any, .any, .any, .any, .any, .any, .any, .any, .any, .any, .any, .any, .any, .any, .any, .any, .any, .any, .any, .any, .any, .any, .any, .any, .any, .any, .any, .any, .any, .any, .any, .any, .any, .any, .any, .any, .any, .any, .any, .any, .any, .any, .any, .any, .any, .any, .any, .any, .any, .any, .any, .any, .any, .any, .any, .any, .any, .any, .any, .any, .any, .any, .any, .any, .any, .any, .any, .any, .any, .any, .any, .any, .any, .any, .any, .any, .any], taH w k (peopleV (corr w.people (w.people.length - 1))) (rowsV w.regs) [.dead, .dead, .dead, .dead, .dead, .dead, .dead, .dead, .dead])) (fun _ => True) ?_ ?_ (by rfl)
    · refine RUNs_range w.log.length (fun _ (_ : Unit) => True) (fun n _ => ([.any, .any, .ptr 0 0, .any, .bool false, i64 k, .ptr 1 0, .ptr 11 0, .any, i64 (((badAt w).getD 0 : Nat) : Int), .bool (badAt w).isNone, i64 n, .any, .any, .any, .any, .any, .any, .any, .any, .any, .any, .any, .any, .any, .any, .any, .any, .any, .any, .any, .any, .any, .any, .any, .any, .any, .any, .any, .any, .any, .any, .any, .any, .any, .any, .any, .any, .any, .any, .any, .any, .any, .any, .any, .any, .any, .any, .any, .any, .any, .any, .any, .any, .any, .any, .any, .any, .any, .any, .any, .any, .any, .any, .any, .any, .any, .any, .any, .any, .any, .any, .any, .any, .any, .any, .any, .any, .any, .any, .any, .any, .any, .any, .any, .any, .any, .any, .any, .any, .any, .any, .any, .any, .any, .any, .any, .any, .any, .any, .any, .any, .any, .any, .any, .any, .any, .any, .any, .any, .any], taH w k (peopleV (corr w.people (w.people.length - 1))) (rowsV w.regs) [.dead, .dead, .dead, .dead, .dead, .dead, .dead, .dead, .dead])) () trivial ?_ rfl ?_
      · simp only [taH, taM, World.cells, cpCells, wordsV, rowsV, gramsV, peopleV, eventsV, leaksV, sldsV, List.cons_append, List.nil_append, ab, ab2, tys, mv, Nat.reduceAdd, Nat.reduceSub, Nat.reduceEqDiff, Nat.reduceMul, Nat.reduceLT, reduceCtorEq, Nat.reduceLeDiff, Int.reduceBEq, Nat.reduceBEq]
        exact ⟨by repeat (first | exact .nil | refine .cons (.refl _) ?_ | refine .cons (.sl _ _) ?_ | refine .cons (.any _) ?_), by repeat (first | exact .nil _ | refine .cons (.refl _) ?_ | refine .cons (.var (by repeat (first | exact .nil | refine .cons (.refl _) ?_ | refine .cons (.sl _ _) ?_ | refine .cons (.any _) ?_))) ?_ | refine .cons (.dead _ (by intro hh; cases hh)) ?_), by rfl, by rfl⟩
      rintro ⟨n, _, hn, _⟩
      simp only [taH, taM, World.cells, cpCells, wordsV, rowsV, gramsV, peopleV, eventsV, leaksV, sldsV, List.cons_append, List.nil_append, ab, ab2, tys, mv, Nat.reduceAdd, Nat.reduceSub, Nat.reduceEqDiff, Nat.reduceMul, Nat.reduceLT, reduceCtorEq, Nat.reduceLeDiff, Int.reduceBEq, Nat.reduceBEq]
      first | refine CONDS_split (fun h => ?_) (fun h => ?_) | refine GRDN_split (fun h => ?_) (fun h => ?_) | refine GRD_split (fun h => ?_) (fun h => ?_) | refine DGRN_split (fun h => ?_) (fun h => ?_) | refine DGR_split (fun h => ?_) (fun h => ?_)
      · have hlt : n < w.log.length := by have := of_decide_eq_true h; omega
        cases hb : badAt w with
        | none =>
          have hc : causeM w (n : Nat) = true := by
            rw [badAt, List.find?_eq_none] at hb
            simpa using hb n (List.mem_range.2 hlt)
          simp only [h, hb, Option.isNone_none, Option.getD_none, ab, ab2, tys, mv, Nat.reduceAdd, Nat.reduceSub, Nat.reduceEqDiff, Nat.reduceMul, Nat.reduceLT, reduceCtorEq, Nat.reduceLeDiff, Int.reduceBEq, Nat.reduceBEq]
          (refine CALLS_spec2 (args' := ?_) (r := ?_) (by kernel_rfl) ?_ ?_ ?_; rotate_left 2; (simp only [ab, ab2, tys, mv, Nat.reduceAdd, Nat.reduceSub, Nat.reduceEqDiff, Nat.reduceMul, Nat.reduceLT, reduceCtorEq, Nat.reduceLeDiff, Int.reduceBEq, Nat.reduceBEq]; exact rfl); exact (Cause_spec w n hlog hplen hle); simp only [ab, ab2, tys, mv, Nat.reduceAdd, Nat.reduceSub, Nat.reduceEqDiff, Nat.reduceMul, Nat.reduceLT, reduceCtorEq, Nat.reduceLeDiff, Int.reduceBEq, Nat.reduceBEq])
          simp only [hc, w64s (i := n) (by omega), ab, ab2, tys, mv, Nat.reduceAdd, Nat.reduceSub, Nat.reduceEqDiff, Nat.reduceMul, Nat.reduceLT, reduceCtorEq, Nat.reduceLeDiff, Int.reduceBEq, Nat.reduceBEq]
          (refine RUNs_next () ?_ ?_ hlt ?_; simp only [taH, taM, World.cells, cpCells, wordsV, rowsV, gramsV, peopleV, eventsV, leaksV, sldsV, List.cons_append, List.nil_append, hb, Option.isNone_none, Option.getD_none]; exact ⟨by repeat (first | exact .nil | refine .cons (.refl _) ?_ | refine .cons (.sl _ _) ?_ | refine .cons (.any _) ?_), by repeat (first | exact .nil _ | refine .cons (.refl _) ?_ | refine .cons (.var (by repeat (first | exact .nil | refine .cons (.refl _) ?_ | refine .cons (.sl _ _) ?_ | refine .cons (.any _) ?_))) ?_ | refine .cons (.dead _ (by intro hh; cases hh)) ?_), by rfl, by rfl⟩; rfl)
          trivial
        | some at_ =>
          rw [badAt, List.find?_range_eq_some] at hb
          obtain ⟨q1, q2, q3⟩ := hb
          have hb : badAt w = some at_ := by rw [badAt, List.find?_range_eq_some]; exact ⟨q1, q2, q3⟩
          simp only [h, hb, Option.isNone_some, Option.getD_some, ab, ab2, tys, mv, Nat.reduceAdd, Nat.reduceSub, Nat.reduceEqDiff, Nat.reduceMul, Nat.reduceLT, reduceCtorEq, Nat.reduceLeDiff, Int.reduceBEq, Nat.reduceBEq]
          (refine CALLS_spec2 (args' := ?_) (r := ?_) (by kernel_rfl) ?_ ?_ ?_; rotate_left 2; (simp only [ab, ab2, tys, mv, Nat.reduceAdd, Nat.reduceSub, Nat.reduceEqDiff, Nat.reduceMul, Nat.reduceLT, reduceCtorEq, Nat.reduceLeDiff, Int.reduceBEq, Nat.reduceBEq]; exact rfl); exact (Cause_spec w n hlog hplen hle); simp only [ab, ab2, tys, mv, Nat.reduceAdd, Nat.reduceSub, Nat.reduceEqDiff, Nat.reduceMul, Nat.reduceLT, reduceCtorEq, Nat.reduceLeDiff, Int.reduceBEq, Nat.reduceBEq])
          first | refine CONDS_split (fun h => ?_) (fun h => ?_) | refine GRDN_split (fun h => ?_) (fun h => ?_) | refine GRD_split (fun h => ?_) (fun h => ?_) | refine DGRN_split (fun h => ?_) (fun h => ?_) | refine DGR_split (fun h => ?_) (fun h => ?_)
          · have hgt : ¬ n ≤ at_ := by
              intro hle2
              rcases Nat.lt_or_ge n at_ with h1 | h1
              · have h2 := q3 n h1
                have h3 : causeM w (n : Nat) = true := by simpa using h2
                rw [h3, decide_eq_true (show (n : Int) < at_ by omega)] at h; simp at h
              · have h2 : n = at_ := by omega
                subst h2
                have h3 : causeM w (n : Nat) = false := by simpa using q1
                rw [h3, decide_eq_false (show ¬ (n : Int) < n by omega)] at h; simp at h
            simp only [h, decide_eq_false (show ¬ (n : Int) ≤ at_ by omega), w64s (i := n) (by omega), ab, ab2, tys, mv, Nat.reduceAdd, Nat.reduceSub, Nat.reduceEqDiff, Nat.reduceMul, Nat.reduceLT, reduceCtorEq, Nat.reduceLeDiff, Int.reduceBEq, Nat.reduceBEq]
            (refine RUNs_next () ?_ ?_ hlt ?_; simp only [taH, taM, World.cells, cpCells, wordsV, rowsV, gramsV, peopleV, eventsV, leaksV, sldsV, List.cons_append, List.nil_append, hb, Option.isNone_some, Option.getD_some]; exact ⟨by repeat (first | exact .nil | refine .cons (.refl _) ?_ | refine .cons (.sl _ _) ?_ | refine .cons (.any _) ?_), by repeat (first | exact .nil _ | refine .cons (.refl _) ?_ | refine .cons (.var (by repeat (first | exact .nil | refine .cons (.refl _) ?_ | refine .cons (.sl _ _) ?_ | refine .cons (.any _) ?_))) ?_ | refine .cons (.dead _ (by intro hh; cases hh)) ?_), by rfl, by rfl⟩; rfl)
            trivial
          · simp only [h, w64s (i := n) (by omega), ab, ab2, tys, mv, Nat.reduceAdd, Nat.reduceSub, Nat.reduceEqDiff, Nat.reduceMul, Nat.reduceLT, reduceCtorEq, Nat.reduceLeDiff, Int.reduceBEq, Nat.reduceBEq]
            (refine RUNs_next () ?_ ?_ hlt ?_; simp only [taH, taM, World.cells, cpCells, wordsV, rowsV, gramsV, peopleV, eventsV, leaksV, sldsV, List.cons_append, List.nil_append, hb, Option.isNone_some, Option.getD_some]; exact ⟨by repeat (first | exact .nil | refine .cons (.refl _) ?_ | refine .cons (.sl _ _) ?_ | refine .cons (.any _) ?_), by repeat (first | exact .nil _ | refine .cons (.refl _) ?_ | refine .cons (.var (by repeat (first | exact .nil | refine .cons (.refl _) ?_ | refine .cons (.sl _ _) ?_ | refine .cons (.any _) ?_))) ?_ | refine .cons (.dead _ (by intro hh; cases hh)) ?_), by rfl, by rfl⟩; rfl)
            trivial
      · simp only [h, ab, ab2, tys, mv, Nat.reduceAdd, Nat.reduceSub, Nat.reduceEqDiff, Nat.reduceMul, Nat.reduceLT, reduceCtorEq, Nat.reduceLeDiff, Int.reduceBEq, Nat.reduceBEq]
        (refine RUNs_cut_in () ?_ ?_ ?_; simp only [taH, taM, World.cells, cpCells, wordsV, rowsV, gramsV, peopleV, eventsV, leaksV, sldsV, List.cons_append, List.nil_append]; exact ⟨by repeat (first | exact .nil | refine .cons (.refl _) ?_ | refine .cons (.sl _ _) ?_ | refine .cons (.any _) ?_), by repeat (first | exact .nil _ | refine .cons (.refl _) ?_ | refine .cons (.var (by repeat (first | exact .nil | refine .cons (.refl _) ?_ | refine .cons (.sl _ _) ?_ | refine .cons (.any _) ?_))) ?_ | refine .cons (.dead _ (by intro hh; cases hh)) ?_), by rfl, by rfl⟩; rfl)
        trivial
    · rintro ⟨⟩ -
      simp only [taH, taM, World.cells, cpCells, wordsV, rowsV, gramsV, peopleV, eventsV, leaksV, sldsV, List.cons_append, List.nil_append, ab, ab2, tys, mv, Nat.reduceAdd, Nat.reduceSub, Nat.reduceEqDiff, Nat.reduceMul, Nat.reduceLT, reduceCtorEq, Nat.reduceLeDiff, Int.reduceBEq, Nat.reduceBEq]
      (refine RUNs_draw 0 (by kernel_rfl) ?_; simp only [ab, ab2, tys, mv, Nat.reduceAdd, Nat.reduceSub, Nat.reduceEqDiff, Nat.reduceMul, Nat.reduceLT, reduceCtorEq, Nat.reduceLeDiff, Int.reduceBEq, Nat.reduceBEq])
      (refine DCALLS_spec (args' := ?_) (r := ?_) (by kernel_rfl) ?_ ?_ ?_; rotate_left 2; (simp only [ab, ab2, tys, mv, Nat.reduceAdd, Nat.reduceSub, Nat.reduceEqDiff, Nat.reduceMul, Nat.reduceLT, reduceCtorEq, Nat.reduceLeDiff, Int.reduceBEq, Nat.reduceBEq]; exact rfl); exact (Cause_spec w k hlog hplen hle); simp only [ab, ab2, tys, mv, Nat.reduceAdd, Nat.reduceSub, Nat.reduceEqDiff, Nat.reduceMul, Nat.reduceLT, reduceCtorEq, Nat.reduceLeDiff, Int.reduceBEq, Nat.reduceBEq])
      (refine DCALLS_spec (args' := ?_) (r := ?_) (by kernel_rfl) ?_ ?_ ?_; rotate_left 2; (simp only [ab, ab2, tys, mv, Nat.reduceAdd, Nat.reduceSub, Nat.reduceEqDiff, Nat.reduceMul, Nat.reduceLT, reduceCtorEq, Nat.reduceLeDiff, Int.reduceBEq, Nat.reduceBEq]; exact rfl); exact (Cause_spec (xW w k) k (fun e he => hlog e (List.mem_of_mem_take he)) hplen (by simp [xW]; omega)); simp only [ab, ab2, tys, mv, Nat.reduceAdd, Nat.reduceSub, Nat.reduceEqDiff, Nat.reduceMul, Nat.reduceLT, reduceCtorEq, Nat.reduceLeDiff, Int.reduceBEq, Nat.reduceBEq])
      simp only [cause_x, ab, ab2, tys, mv, Nat.reduceAdd, Nat.reduceSub, Nat.reduceEqDiff, Nat.reduceMul, Nat.reduceLT, reduceCtorEq, Nat.reduceLeDiff, Int.reduceBEq, Nat.reduceBEq]
      cases hb : badAt w with
      | none =>
        cases hcw : causeM w (k : Nat) with
        | false =>
          (refine DCALLS_spec (args' := ?_) (r := ?_) (by kernel_rfl) ?_ ?_ ?_; rotate_left 2; (simp only [ab, ab2, tys, mv, Nat.reduceAdd, Nat.reduceSub, Nat.reduceEqDiff, Nat.reduceMul, Nat.reduceLT, reduceCtorEq, Nat.reduceLeDiff, Int.reduceBEq, Nat.reduceBEq]; exact rfl); exact (Cause_spec w k hlog hplen hle); simp only [ab, ab2, tys, mv, Nat.reduceAdd, Nat.reduceSub, Nat.reduceEqDiff, Nat.reduceMul, Nat.reduceLT, reduceCtorEq, Nat.reduceLeDiff, Int.reduceBEq, Nat.reduceBEq])
          simp only [hcw, hb, Option.isNone_none, Option.getD_none, ab, ab2, tys, mv, Nat.reduceAdd, Nat.reduceSub, Nat.reduceEqDiff, Nat.reduceMul, Nat.reduceLT, reduceCtorEq, Nat.reduceLeDiff, Int.reduceBEq, Nat.reduceBEq]
          (refine ⟨by kernel_rfl, ?_⟩)
          (refine FINS_done ?_; simp only [ab, ab2, tys, mv, Nat.reduceAdd, Nat.reduceSub, Nat.reduceEqDiff, Nat.reduceMul, Nat.reduceLT, reduceCtorEq, Nat.reduceLeDiff, Int.reduceBEq, Nat.reduceBEq])
          rfl
        | true =>
          (refine DCALLS_spec (args' := ?_) (r := ?_) (by kernel_rfl) ?_ ?_ ?_; rotate_left 2; (simp only [ab, ab2, tys, mv, Nat.reduceAdd, Nat.reduceSub, Nat.reduceEqDiff, Nat.reduceMul, Nat.reduceLT, reduceCtorEq, Nat.reduceLeDiff, Int.reduceBEq, Nat.reduceBEq]; exact rfl); exact (Cause_spec w k hlog hplen hle); simp only [ab, ab2, tys, mv, Nat.reduceAdd, Nat.reduceSub, Nat.reduceEqDiff, Nat.reduceMul, Nat.reduceLT, reduceCtorEq, Nat.reduceLeDiff, Int.reduceBEq, Nat.reduceBEq])
          simp only [hcw, hb, Option.isNone_none, Option.getD_none, ab, ab2, tys, mv, Nat.reduceAdd, Nat.reduceSub, Nat.reduceEqDiff, Nat.reduceMul, Nat.reduceLT, reduceCtorEq, Nat.reduceLeDiff, Int.reduceBEq, Nat.reduceBEq]
          (refine DCALLS_spec (args' := ?_) (r := ?_) (by kernel_rfl) ?_ ?_ ?_; rotate_left 2; (simp only [ab, ab2, tys, mv, Nat.reduceAdd, Nat.reduceSub, Nat.reduceEqDiff, Nat.reduceMul, Nat.reduceLT, reduceCtorEq, Nat.reduceLeDiff, Int.reduceBEq, Nat.reduceBEq]; exact rfl); exact (Cause_spec (yW w (w.people.length - 1)) k hlog (by simp only [yW, corr_len]; exact hplen) hle); simp only [ab, ab2, tys, mv, Nat.reduceAdd, Nat.reduceSub, Nat.reduceEqDiff, Nat.reduceMul, Nat.reduceLT, reduceCtorEq, Nat.reduceLeDiff, Int.reduceBEq, Nat.reduceBEq])
          have hy : causeM (yW w (w.people.length - 1)) (k : Nat) = true := cause_y w _ k hcw
          simp only [hy, ab, ab2, tys, mv, Nat.reduceAdd, Nat.reduceSub, Nat.reduceEqDiff, Nat.reduceMul, Nat.reduceLT, reduceCtorEq, Nat.reduceLeDiff, Int.reduceBEq, Nat.reduceBEq]
          (refine ⟨by kernel_rfl, ?_⟩)
          (refine FINS_done ?_; simp only [ab, ab2, tys, mv, Nat.reduceAdd, Nat.reduceSub, Nat.reduceEqDiff, Nat.reduceMul, Nat.reduceLT, reduceCtorEq, Nat.reduceLeDiff, Int.reduceBEq, Nat.reduceBEq])
          rfl
      | some at_ =>
        cases hcw : causeM w (k : Nat) with
        | false =>
          (refine DCALLS_spec (args' := ?_) (r := ?_) (by kernel_rfl) ?_ ?_ ?_; rotate_left 2; (simp only [ab, ab2, tys, mv, Nat.reduceAdd, Nat.reduceSub, Nat.reduceEqDiff, Nat.reduceMul, Nat.reduceLT, reduceCtorEq, Nat.reduceLeDiff, Int.reduceBEq, Nat.reduceBEq]; exact rfl); exact (Cause_spec w k hlog hplen hle); simp only [ab, ab2, tys, mv, Nat.reduceAdd, Nat.reduceSub, Nat.reduceEqDiff, Nat.reduceMul, Nat.reduceLT, reduceCtorEq, Nat.reduceLeDiff, Int.reduceBEq, Nat.reduceBEq])
          simp only [hcw, hb, Option.isNone_some, Option.getD_some, ab, ab2, tys, mv, Nat.reduceAdd, Nat.reduceSub, Nat.reduceEqDiff, Nat.reduceMul, Nat.reduceLT, reduceCtorEq, Nat.reduceLeDiff, Int.reduceBEq, Nat.reduceBEq]
          (refine ⟨by kernel_rfl, ?_⟩)
          (refine FINS_done ?_; simp only [ab, ab2, tys, mv, Nat.reduceAdd, Nat.reduceSub, Nat.reduceEqDiff, Nat.reduceMul, Nat.reduceLT, reduceCtorEq, Nat.reduceLeDiff, Int.reduceBEq, Nat.reduceBEq])
        | true =>
          (refine DCALLS_spec (args' := ?_) (r := ?_) (by kernel_rfl) ?_ ?_ ?_; rotate_left 2; (simp only [ab, ab2, tys, mv, Nat.reduceAdd, Nat.reduceSub, Nat.reduceEqDiff, Nat.reduceMul, Nat.reduceLT, reduceCtorEq, Nat.reduceLeDiff, Int.reduceBEq, Nat.reduceBEq]; exact rfl); exact (Cause_spec w k hlog hplen hle); simp only [ab, ab2, tys, mv, Nat.reduceAdd, Nat.reduceSub, Nat.reduceEqDiff, Nat.reduceMul, Nat.reduceLT, reduceCtorEq, Nat.reduceLeDiff, Int.reduceBEq, Nat.reduceBEq])
          simp only [hcw, hb, Option.isNone_some, Option.getD_some, ab, ab2, tys, mv, Nat.reduceAdd, Nat.reduceSub, Nat.reduceEqDiff, Nat.reduceMul, Nat.reduceLT, reduceCtorEq, Nat.reduceLeDiff, Int.reduceBEq, Nat.reduceBEq]
          (refine DCALLS_spec (args' := ?_) (r := ?_) (by kernel_rfl) ?_ ?_ ?_; rotate_left 2; (simp only [ab, ab2, tys, mv, Nat.reduceAdd, Nat.reduceSub, Nat.reduceEqDiff, Nat.reduceMul, Nat.reduceLT, reduceCtorEq, Nat.reduceLeDiff, Int.reduceBEq, Nat.reduceBEq]; exact rfl); exact (Cause_spec (yW w (w.people.length - 1)) k hlog (by simp only [yW, corr_len]; exact hplen) hle); simp only [ab, ab2, tys, mv, Nat.reduceAdd, Nat.reduceSub, Nat.reduceEqDiff, Nat.reduceMul, Nat.reduceLT, reduceCtorEq, Nat.reduceLeDiff, Int.reduceBEq, Nat.reduceBEq])
          have hy : causeM (yW w (w.people.length - 1)) (k : Nat) = true := cause_y w _ k hcw
          simp only [hy, ab, ab2, tys, mv, Nat.reduceAdd, Nat.reduceSub, Nat.reduceEqDiff, Nat.reduceMul, Nat.reduceLT, reduceCtorEq, Nat.reduceLeDiff, Int.reduceBEq, Nat.reduceBEq]
          (refine ⟨by kernel_rfl, ?_⟩)
          (refine FINS_done ?_; simp only [ab, ab2, tys, mv, Nat.reduceAdd, Nat.reduceSub, Nat.reduceEqDiff, Nat.reduceMul, Nat.reduceLT, reduceCtorEq, Nat.reduceLeDiff, Int.reduceBEq, Nat.reduceBEq])
end Ch
