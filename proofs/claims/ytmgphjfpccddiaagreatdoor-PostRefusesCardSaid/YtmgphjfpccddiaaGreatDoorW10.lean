/- The initiator with run identifiers: the program's. -/
import Derived.Test.YtmgphjfpccddiaaGreatDoorW9
set_option maxRecDepth 100000
set_option maxHeartbeats 4000000
set_option linter.unusedSimpArgs false
set_option linter.unusedVariables false
namespace Ch
open Go Go.Ab
theorem wait_not {l : List Run} {proto role m : Int} {j : Nat} (h : isRun proto role 1 (runAt l j) = false) : waitM proto role m (runAt l j) = false := by rw [waitM, h]; rfl
theorem oWaits_spec (l : List Run) (m : Int) (hl : l.length ≤ 1000000000000) : Spec PP GG 181 [runsV l, u32 m] (.tup [i64 ((l.findIdx? (waitM 2 1 m)).getD 0 : Nat), .bool (l.findIdx? (waitM 2 1 m)).isSome]) [] := by
  refine Spec.of_runs Go.Proofs.Tryz.f181 Go.Proofs.Tryz.func181 rfl ?_
  intro w0 M0
  simp only [Go.Proofs.Tryz.f181, List.replicate, List.cons_append, List.nil_append, z, seval]
  refine RUNs_rangeS (l.length + 1) (fun j (f : Nat) => j ≤ f ∧ f ≤ l.length ∧ ∀ i, i < f → waitM 2 1 m (runAt l i) = false) (fun _ f => [(6, i64 f)]) (fun _ _ => []) 0 ?_ (by simp only [z, seval]; exact wk) rfl ?_
  · exact ⟨Nat.le_refl _, Nat.zero_le _, fun i hi => absurd hi (Nat.not_lt_zero _)⟩
  rintro ⟨j, f, hj, h1, h2, h3⟩
  have hN := pNext_spec l f 2 1 1 (by omega)
  simp only [z, seval]
  cases c : nextR l f (isRun 2 1 1) with
  | none =>
    rw [c] at hN
    have e : l.findIdx? (waitM 2 1 m) = none := first_none (fun i hi => by
      rcases Nat.lt_or_ge i f with h | h
      · exact h3 i h
      · exact wait_not (nextR_none c i h hi))
    rw [e]
    simp only [Option.isSome_none, Option.getD_none] at hN
    (refine CU (hN) (h := ?_); simp only [z, seval])
    (refine FINS_done ?_; simp only [z, seval])
    rfl
  | some i =>
    rw [c] at hN
    obtain ⟨n1, n2, n3, n4⟩ := nextR_some c
    have h4 : ∀ k, k < i → waitM 2 1 m (runAt l k) = false := fun k hk => by
      rcases Nat.lt_or_ge k f with h | h
      · exact h3 k h
      · exact wait_not (n4 k h hk)
    have hg := runAt_get n1
    (refine CU (hN) (h := ?_); simp only [z, seval])
    simp only [Option.isSome_some, Option.getD_some, getMap Run.v l n1, z, seval]
    cases d : (l[i].m == m) with
    | true =>
      have e : l.findIdx? (waitM 2 1 m) = some i := first_at n1 (by rw [waitM, n3, hg, d]; rfl) h4
      rw [e]
      simp only [d, z, seval]
      (refine FINS_done ?_; simp only [z, seval])
    | false =>
      simp only [d, w64s (i := i) (by omega), z, seval]
      have hlt : j < l.length + 1 := by omega
      (refine NX (i + 1) ?_ (by rfl) hlt ?_; simp only [z, seval]; exact wk)
      refine ⟨by show j + 1 ≤ i + 1; omega, n1, fun k hk => ?_⟩
      rcases Nat.lt_or_ge k i with h | h
      · exact h4 k h
      · obtain rfl : k = i := by omega
        rw [waitM, hg, d, Bool.and_false]
theorem oEvent_spec (kind : Int) (p : Person) (r : Run) : Spec PP GG 182 [i64 kind, p.v, r.v] (Event.v ⟨kind, 2, 1, p.name, r.peer, r.k, 0, r.m, r.mine, p.clock⟩) [] := by
  refine Spec.of_runs Go.Proofs.Tryz.f182 Go.Proofs.Tryz.func182 rfl ?_
  intro w0 M0
  simp only [Go.Proofs.Tryz.f182, List.replicate, List.cons_append, List.nil_append, z, seval]
  (refine FINS_done ?_; simp only [z, seval])
theorem told9 {w : World} {key h : Int} (ho : (openW w key 9 h).2 = true) : (openW w key 9 h).1 = ⟨(openW w key 9 h).1.n, 0, 0, 0, (openW w key 9 h).1.k, 0, 0⟩ := by
  revert ho
  unfold openW
  cases hb : boxOpen w.box key 9 h with
  | none => intro ho; cases ho
  | some l =>
    simp only [partGet]
    cases (l.length == (partWs 9 zPart).length)
    · intro ho; exact absurd ho (by simp [label?])
    · intro _; rfl
theorem wait_run {l : List Run} {proto role m : Int} {i : Nat} (h : l.findIdx? (waitM proto role m) = some i) : i < l.length ∧ (runAt l i).proto = proto ∧ (runAt l i).role = role ∧ (runAt l i).state = 1 ∧ (runAt l i).m = m := by
  obtain ⟨h1, h2⟩ := find_runs h
  simp only [waitM, isRun, Bool.and_eq_true, beq_iff_eq] at h2
  exact ⟨h1, h2.1.1, h2.1.2.1, h2.1.2.2, h2.2⟩
theorem done_may {r : Run} {k : Int} (h1 : r.proto = 1 ∨ r.proto = 2) (h2 : r.role = 1 ∨ r.role = 2) : May09 (doneR r k) = true := by
  simp only [May09, doneR, Bool.and_eq_true, Bool.or_eq_true, beq_iff_eq]
  exact ⟨⟨h1, h2⟩, .inr trivial⟩
theorem ShareO_spec (w : World) (me : Int) (m : Msg) {N : Nat} (hw : w.fit N) (hN : N ≤ 400000000000) (hme : U me) (hr : Right10 w.people = true) : Spec PP GG 146 [w.v, u32 me, m.v] (.tup [(shareO w me m).1.v, i64 (shareO w me m).2]) [] := by
  have hP := person_spec w hw (by omega) me hme
  have hU : (personW w me).runs.length ≤ N := personW_runs hw me
  have hW := oWaits_spec (personW w me).runs m.run (by omega)
  have hO := open_spec w hw (by omega) (personW w me).key 9 m.box
  have hnm := fun h => name_of hr hme h
  cases c1 : oI w me m with
  | none =>
    have e : shareO w me m = (w, 9) := by simp only [shareO, c1]
    rw [e]
    rw [oI] at c1
    rw [c1] at hW
    simp only [Option.isSome_none, Option.getD_none] at hW
    clear hw hr
    refine Spec.of_runs Go.Proofs.Tryz.f146 Go.Proofs.Tryz.func146 rfl ?_
    intro w0 M0
    simp only [Go.Proofs.Tryz.f146, List.replicate, List.cons_append, List.nil_append, z, seval]
    (refine CU (hP) (h := ?_); simp only [z, seval])
    (refine CU (hW) (h := ?_); simp only [z, seval])
    (refine FINS_done ?_; simp only [z, seval])
  | some i =>
    have e : shareO w me m = bif (oO w me m).2 && (oO w me m).1.n == (runAt (personW w me).runs i).mine then (oCom w me i (oO w me m).1.k, 0) else (w, 6) := by simp only [shareO, c1]
    rw [e]
    have c1' : (personW w me).runs.findIdx? (waitM 2 1 m.run) = some i := c1
    obtain ⟨hi, r1, r2, r3, r4⟩ := wait_run c1'
    have hg := runAt_get hi
    have hin := hnm (has_runs hi)
    rw [c1'] at hW
    simp only [Option.isSome_some, Option.getD_some] at hW
    rw [← oO] at hO
    have hS := pSetR_spec (personW w me).runs i (doneR (runAt (personW w me).runs i) (oO w me m).1.k) hi (done_may (.inr r1) (.inl r2)) (by omega)
    have hwt := with_spec w hw (by omega) (setRun (personW w me) i (doneR (runAt (personW w me).runs i) (oO w me m).1.k)) (personW_ok hw me).1
    have hfit : (withW w (setRun (personW w me) i (doneR (runAt (personW w me).runs i) (oO w me m).1.k))).fit N := set_fit hw me i (doneR_ok (runAt_ok hw me i) (openW_ok hw _ _ _).2.2.2.2.1)
    have hL : Spec PP GG 87 _ (oCom w me i (oO w me m).1.k).v [] := log_spec _ hfit (by omega) ⟨4, 2, 1, me, (runAt (personW w me).runs i).peer, (oO w me m).1.k, 0, (runAt (personW w me).runs i).m, (runAt (personW w me).runs i).mine, (personW w me).clock⟩
    have hE := oEvent_spec 4 (setRun (personW w me) i (doneR (runAt (personW w me).runs i) (oO w me m).1.k)) (doneR (runAt (personW w me).runs i) (oO w me m).1.k)
    simp only [setRun, doneR, hin] at hS hwt hL hE
    have ht := @told9 w (personW w me).key m.box
    rw [← oO] at ht
    clear hw hr hfit
    simp only [hg] at *
    cases c2 : (oO w me m).2 with
    | false =>
      rw [c2] at hO
      simp only [Bool.false_and, cond_false]
      refine Spec.of_runs Go.Proofs.Tryz.f146 Go.Proofs.Tryz.func146 rfl ?_
      intro w0 M0
      simp only [Go.Proofs.Tryz.f146, List.replicate, List.cons_append, List.nil_append, z, seval]
      (refine CU (hP) (h := ?_); simp only [z, seval])
      (refine CU (hW) (h := ?_); simp only [z, seval])
      simp only [getMap Run.v (personW w me).runs hi, z, seval]
      (refine CU (hO) (h := ?_); simp only [z, seval])
      (refine FINS_done ?_; simp only [z, seval])
    | true =>
    rw [c2] at hO
    have ht := ht c2
    generalize hq : oO w me m = q at *
    obtain ⟨⟨qn, qm, qa, qb, qk, qt, qh⟩, q2⟩ := q
    simp only [Part.mk.injEq] at ht
    obtain ⟨-, rfl, rfl, rfl, -, rfl, rfl⟩ := ht
    simp only [Bool.true_and]
    cases c3 : (qn == (personW w me).runs[i].mine) with
    | false =>
      simp only [cond_false]
      refine Spec.of_runs Go.Proofs.Tryz.f146 Go.Proofs.Tryz.func146 rfl ?_
      intro w0 M0
      simp only [Go.Proofs.Tryz.f146, List.replicate, List.cons_append, List.nil_append, z, seval]
      (refine CU (hP) (h := ?_); simp only [z, seval])
      (refine CU (hW) (h := ?_); simp only [z, seval])
      simp only [getMap Run.v (personW w me).runs hi, z, seval]
      (refine CU (hO) (h := ?_); simp only [z, seval])
      simp only [c3, z, seval]
      (refine FINS_done ?_; simp only [z, seval])
    | true =>
      simp only [cond_true]
      refine Spec.of_runs Go.Proofs.Tryz.f146 Go.Proofs.Tryz.func146 rfl ?_
      intro w0 M0
      simp only [Go.Proofs.Tryz.f146, List.replicate, List.cons_append, List.nil_append, z, seval]
      (refine CU (hP) (h := ?_); simp only [z, seval])
      (refine CU (hW) (h := ?_); simp only [z, seval])
      simp only [getMap Run.v (personW w me).runs hi, z, seval]
      (refine CU (hO) (h := ?_); simp only [z, seval])
      simp only [c3, hin, z, seval]
      (refine CU (hS) (h := ?_); simp only [z, seval])
      (refine RUNs_draw 1 (by kernel_rfl) ?_; simp only [z, seval])
      (refine DU (hwt) (h := ?_); simp only [z, seval])
      (refine DU (hE) (h := ?_); simp only [z, seval])
      (refine DU (hL) (h := ?_); simp only [z, seval])
      (refine ⟨by kernel_rfl, ?_⟩)
      (refine FINS_done ?_; simp only [z, seval])
end Ch

/- The initiator with run identifiers: the document's. -/
set_option maxRecDepth 100000
set_option maxHeartbeats 4000000
set_option linter.unusedSimpArgs false
set_option linter.unusedVariables false
namespace Ch
open Go Go.Ab
theorem rWith15_spec (w : World) {N : Nat} (hw : w.fit N) (hN : N ≤ 500000000000) (hr : Right10 w.people = true) (p : Person) (hp : U p.name) (i : Nat) (hi : i < p.runs.length) (hl : p.runs.length ≤ 1099511627776) (r : Run) : Spec PP GG 72 [w.v, p.v, i64 i, r.v] (withW w (setRun p i r)).v [] := by
  have hW : Spec PP GG 60 [w.v, Person.v ⟨p.name, p.key, p.clock, p.used, p.runs.set i r, p.corrupt⟩] (withW w (setRun p i r)).v [] := rWith_spec w hw hN hr (setRun p i r) hp
  have e : (p.runs.map Run.v).set i r.v = (p.runs.set i r).map Run.v := by rw [List.map_set]
  simp only [mv] at e
  clear hw hr
  refine Spec.of_runs Go.Proofs.Tryz.f72 Go.Proofs.Tryz.func72 rfl ?_
  intro w0 M0
  simp only [Go.Proofs.Tryz.f72, List.replicate, List.cons_append, List.nil_append, z, seval]
  refine OPC_ok ?_ ?_
  · exact okMap _ (fun a => rfl) hl
  simp only [hi, getMap Run.v p.runs hi, if_true, e, z, seval]
  (refine CU (hW) (h := ?_); simp only [z, seval])
  (refine FINS_done ?_; simp only [z, seval])
end Ch

/- The responder with run identifiers: first words. -/
set_option maxRecDepth 100000
set_option maxHeartbeats 4000000
set_option linter.unusedSimpArgs false
set_option linter.unusedVariables false
namespace Ch
open Go Go.Ab
theorem must_spec (so : Bool) (why : Int) : Spec PP GG 174 [.bool so, i64 why] (i64 (bif so then 0 else why)) [] := by
  refine Spec.of_runs Go.Proofs.Tryz.f174 Go.Proofs.Tryz.func174 rfl ?_
  intro w0 M0
  simp only [Go.Proofs.Tryz.f174, List.replicate, List.cons_append, List.nil_append, z, seval]
  cases so with
  | true =>
    simp only [z, seval]
    (refine FINS_done ?_; simp only [z, seval])
  | false =>
    simp only [z, seval]
    (refine FINS_done ?_; simp only [z, seval])
theorem bEvent_spec (kind : Int) (p : Person) (r : Run) : Spec PP GG 177 [i64 kind, p.v, r.v] (Event.v ⟨kind, 2, 2, r.peer, p.name, r.k, 0, r.m, r.mine, p.clock⟩) [] := by
  refine Spec.of_runs Go.Proofs.Tryz.f177 Go.Proofs.Tryz.func177 rfl ?_
  intro w0 M0
  simp only [Go.Proofs.Tryz.f177, List.replicate, List.cons_append, List.nil_append, z, seval]
  (refine FINS_done ?_; simp only [z, seval])
theorem FirstB_spec (w : World) (me : Int) (m : Msg) {N : Nat} (hw : w.fit N) (h5 : 21 ≤ N) (hN : N ≤ 400000000000) (hme : U me) (hm : m.ok) (hr : Right10 w.people = true) : Spec PP GG 144 [w.v, u32 me, m.v] (.tup [(firstB w me m).1.v, i64 (firstB w me m).2]) [] := by
  have hP := person_spec w hw (by omega) me hme
  have hPr := pPair_spec w.people m.a me hm.2.2.1 hme (by have := hw.people; omega)
  have hMy := uMay_spec (personW w me).used w.conf.used m.run (by have := personW_used hw me; omega)
  have hNo := uNote_spec (personW w me).used w.conf.used m.run (by have := personW_used hw me; omega)
  have hRm := room_spec' w hw (by omega) 1 1
  have hD := draw_spec w hw (by omega)
  have hS : Spec PP GG 50 _ (.tup [(bS w me m).1.v, u32 (bS w me m).2.1, i64 (bS w me m).2.2]) [] := seal_spec (drawW w).1 (fit_draw hw (by omega)) (by omega) (personW w me).key 7 ⟨(drawW w).2, m.run, m.a, me, 0, 0, 0⟩
  have hU : (personW w me).runs.length ≤ N := personW_runs hw me
  have hAd := pAdd_spec (personW w me).runs w.conf.runs (bRun w m) (by omega)
  have hW : Spec PP GG 88 [(bS w me m).1.v, Person.v ⟨(personW w me).name, (personW w me).key, (personW w me).clock, (personW w me).used ++ [m.run], (personW w me).runs ++ [bRun w m], (personW w me).corrupt⟩] (withW (bS w me m).1 (bP w me m)).v [] := with_spec (bS w me m).1 (bS_fit hw h5 hN hme hm) (by omega) (bP w me m) (bP_ok hw hN me hm).1
  have hL : Spec PP GG 87 _ (bY w me m).v [] := log_spec (withW (bS w me m).1 (bP w me m)) (bW_fit hw h5 hN hme hm) (by omega) (bEv w me m)
  have hSn := send_spec (bY w me m) (bY_fit hw h5 hN hme hm) (by omega) 0 (bMsg w me m) (bMsg_ok hw hN hme hm)
  rw [← bZ] at hSn
  have hE := bEvent_spec 3 ⟨(personW w me).name, (personW w me).key, (personW w me).clock, (personW w me).used ++ [m.run], (personW w me).runs ++ [bRun w m], (personW w me).corrupt⟩ (bRun w m)
  have hnm := fun h => name_of hr hme h
  have hM5 := fun b => must_spec b 5
  have hM10 := fun b => must_spec b 10
  clear hw hr hm
  cases c0 : (m.b == me) with
  | false =>
    have e : firstB w me m = (w, 5) := by simp only [firstB, c0, Bool.false_and, cond_false]
    rw [e]
    refine Spec.of_runs Go.Proofs.Tryz.f144 Go.Proofs.Tryz.func144 rfl ?_
    intro w0 M0
    simp only [Go.Proofs.Tryz.f144, List.replicate, List.cons_append, List.nil_append, z, seval]
    (refine CU (hP) (h := ?_); simp only [z, seval])
    (refine CALLS_in (fn := Go.Proofs.Tryz.f172) Go.Proofs.Tryz.func172 rfl (by kernel_rfl) ?_; simp only [Go.Proofs.Tryz.f172, List.replicate, List.cons_append, List.nil_append, z, seval])
    (refine RUNs_unroll 4 ?_; simp only [z, seval])
    (refine CALLS_in (fn := Go.Proofs.Tryz.f173) Go.Proofs.Tryz.func173 rfl (by kernel_rfl) ?_; simp only [Go.Proofs.Tryz.f173, List.replicate, List.cons_append, List.nil_append, z, seval])
    simp only [c0, z, seval]
    (refine CU (hM5 false) (h := ?_); simp only [z, seval])
    (refine FINS_done ?_; simp only [z, seval])
  | true =>
  cases c1 : pairM w.people m.a me with
  | false =>
    rw [c1] at hPr
    have e : firstB w me m = (w, 5) := by simp only [firstB, c0, c1, Bool.true_and, cond_false]
    rw [e]
    refine Spec.of_runs Go.Proofs.Tryz.f144 Go.Proofs.Tryz.func144 rfl ?_
    intro w0 M0
    simp only [Go.Proofs.Tryz.f144, List.replicate, List.cons_append, List.nil_append, z, seval]
    (refine CU (hP) (h := ?_); simp only [z, seval])
    (refine CALLS_in (fn := Go.Proofs.Tryz.f172) Go.Proofs.Tryz.func172 rfl (by kernel_rfl) ?_; simp only [Go.Proofs.Tryz.f172, List.replicate, List.cons_append, List.nil_append, z, seval])
    (refine RUNs_unroll 4 ?_; simp only [z, seval])
    (refine CALLS_in (fn := Go.Proofs.Tryz.f173) Go.Proofs.Tryz.func173 rfl (by kernel_rfl) ?_; simp only [Go.Proofs.Tryz.f173, List.replicate, List.cons_append, List.nil_append, z, seval])
    simp only [c0, z, seval]
    (refine CU (hPr) (h := ?_); simp only [z, seval])
    (refine CU (hM5 false) (h := ?_); simp only [z, seval])
    (refine FINS_done ?_; simp only [z, seval])
  | true =>
  rw [c1] at hPr
  rw [hnm (pair_in c1).2.2.2.2] at hW hE
  cases c2 : (usedMay (personW w me).used w.conf.used m.run == 0) with
  | false =>
    have e : firstB w me m = (w, usedMay (personW w me).used w.conf.used m.run) := by simp only [firstB, c0, c1, c2, Bool.true_and, cond_true, cond_false]
    rw [e]
    refine Spec.of_runs Go.Proofs.Tryz.f144 Go.Proofs.Tryz.func144 rfl ?_
    intro w0 M0
    simp only [Go.Proofs.Tryz.f144, List.replicate, List.cons_append, List.nil_append, z, seval]
    (refine CU (hP) (h := ?_); simp only [z, seval])
    (refine CALLS_in (fn := Go.Proofs.Tryz.f172) Go.Proofs.Tryz.func172 rfl (by kernel_rfl) ?_; simp only [Go.Proofs.Tryz.f172, List.replicate, List.cons_append, List.nil_append, z, seval])
    (refine RUNs_unroll 4 ?_; simp only [z, seval])
    (refine CALLS_in (fn := Go.Proofs.Tryz.f173) Go.Proofs.Tryz.func173 rfl (by kernel_rfl) ?_; simp only [Go.Proofs.Tryz.f173, List.replicate, List.cons_append, List.nil_append, z, seval])
    simp only [c0, z, seval]
    (refine CU (hPr) (h := ?_); simp only [z, seval])
    (refine CU (hM5 true) (h := ?_); simp only [z, seval])
    (refine RUNs_unr ?_; simp only [z, seval])
    (refine CALLS_in (fn := Go.Proofs.Tryz.f175) Go.Proofs.Tryz.func175 rfl (by kernel_rfl) ?_; simp only [Go.Proofs.Tryz.f175, List.replicate, List.cons_append, List.nil_append, z, seval])
    (refine CU (hMy) (h := ?_); simp only [z, seval])
    simp only [c2, z, seval]
    (refine FINS_done ?_; simp only [z, seval])
  | true =>
  have c2' : usedMay (personW w me).used w.conf.used m.run = 0 := by simpa using c2
  have hno : usedNote (personW w me).used w.conf.used m.run = ((personW w me).used ++ [m.run], 0) := by rw [usedNote, c2]; rfl
  rw [hno] at hNo
  cases c3 : full w (personW w me) with
  | true =>
    have e : firstB w me m = (w, 10) := by simp only [firstB, c0, c1, c2, c3, Bool.true_and, cond_true, cond_false, Bool.not_true, Bool.false_and]
    rw [e]
    have c3' : decide (((personW w me).runs.length : Int) < w.conf.runs) = false := by simp only [full, decide_eq_true_eq] at c3; exact decide_eq_false (by omega)
    refine Spec.of_runs Go.Proofs.Tryz.f144 Go.Proofs.Tryz.func144 rfl ?_
    intro w0 M0
    simp only [Go.Proofs.Tryz.f144, List.replicate, List.cons_append, List.nil_append, z, seval]
    (refine CU (hP) (h := ?_); simp only [z, seval])
    (refine CALLS_in (fn := Go.Proofs.Tryz.f172) Go.Proofs.Tryz.func172 rfl (by kernel_rfl) ?_; simp only [Go.Proofs.Tryz.f172, List.replicate, List.cons_append, List.nil_append, z, seval])
    (refine RUNs_unroll 4 ?_; simp only [z, seval])
    (refine CALLS_in (fn := Go.Proofs.Tryz.f173) Go.Proofs.Tryz.func173 rfl (by kernel_rfl) ?_; simp only [Go.Proofs.Tryz.f173, List.replicate, List.cons_append, List.nil_append, z, seval])
    simp only [c0, z, seval]
    (refine CU (hPr) (h := ?_); simp only [z, seval])
    (refine CU (hM5 true) (h := ?_); simp only [z, seval])
    (refine RUNs_unr ?_; simp only [z, seval])
    (refine CALLS_in (fn := Go.Proofs.Tryz.f175) Go.Proofs.Tryz.func175 rfl (by kernel_rfl) ?_; simp only [Go.Proofs.Tryz.f175, List.replicate, List.cons_append, List.nil_append, z, seval])
    (refine CU (hMy) (h := ?_); simp only [z, seval])
    simp only [c2, z, seval]
    (refine RUNs_unr ?_; simp only [z, seval])
    (refine CALLS_in (fn := Go.Proofs.Tryz.f176) Go.Proofs.Tryz.func176 rfl (by kernel_rfl) ?_; simp only [Go.Proofs.Tryz.f176, List.replicate, List.cons_append, List.nil_append, z, seval])
    simp only [c3', z, seval]
    (refine CU (hM10 false) (h := ?_); simp only [z, seval])
    (refine FINS_done ?_; simp only [z, seval])
  | false =>
  have c3' : decide (((personW w me).runs.length : Int) < w.conf.runs) = true := by simp only [full, decide_eq_false_iff_not] at c3; exact decide_eq_true (by omega)
  cases c4 : roomW w 1 1 with
  | false =>
    rw [c4] at hRm
    have e : firstB w me m = (w, 10) := by simp only [firstB, c0, c1, c2, c3, c4, Bool.true_and, cond_true, cond_false, Bool.not_false]
    rw [e]
    refine Spec.of_runs Go.Proofs.Tryz.f144 Go.Proofs.Tryz.func144 rfl ?_
    intro w0 M0
    simp only [Go.Proofs.Tryz.f144, List.replicate, List.cons_append, List.nil_append, z, seval]
    (refine CU (hP) (h := ?_); simp only [z, seval])
    (refine CALLS_in (fn := Go.Proofs.Tryz.f172) Go.Proofs.Tryz.func172 rfl (by kernel_rfl) ?_; simp only [Go.Proofs.Tryz.f172, List.replicate, List.cons_append, List.nil_append, z, seval])
    (refine RUNs_unroll 4 ?_; simp only [z, seval])
    (refine CALLS_in (fn := Go.Proofs.Tryz.f173) Go.Proofs.Tryz.func173 rfl (by kernel_rfl) ?_; simp only [Go.Proofs.Tryz.f173, List.replicate, List.cons_append, List.nil_append, z, seval])
    simp only [c0, z, seval]
    (refine CU (hPr) (h := ?_); simp only [z, seval])
    (refine CU (hM5 true) (h := ?_); simp only [z, seval])
    (refine RUNs_unr ?_; simp only [z, seval])
    (refine CALLS_in (fn := Go.Proofs.Tryz.f175) Go.Proofs.Tryz.func175 rfl (by kernel_rfl) ?_; simp only [Go.Proofs.Tryz.f175, List.replicate, List.cons_append, List.nil_append, z, seval])
    (refine CU (hMy) (h := ?_); simp only [z, seval])
    simp only [c2, z, seval]
    (refine RUNs_unr ?_; simp only [z, seval])
    (refine CALLS_in (fn := Go.Proofs.Tryz.f176) Go.Proofs.Tryz.func176 rfl (by kernel_rfl) ?_; simp only [Go.Proofs.Tryz.f176, List.replicate, List.cons_append, List.nil_append, z, seval])
    simp only [c3', z, seval]
    (refine CU (hRm) (h := ?_); simp only [z, seval])
    (refine CU (hM10 false) (h := ?_); simp only [z, seval])
    (refine FINS_done ?_; simp only [z, seval])
  | true =>
  rw [c4] at hRm
  rw [bZ_ok c4] at hSn
  have e0 : firstB w me m = (bif (bS w me m).2.2 == 0 then (bZ w me m, 0) else (w, (bS w me m).2.2)) := by simp only [firstB, c0, c1, c2, c3, c4, Bool.true_and, cond_true, Bool.not_false]
  rw [e0]
  clear e0
  have hadd : runsAdd (personW w me).runs w.conf.runs (bRun w m) = ((personW w me).runs ++ [bRun w m], 0) := by
    rw [full] at c3
    rw [runsAdd, c3]; rfl
  rw [hadd] at hAd
  refine Spec.of_runs Go.Proofs.Tryz.f144 Go.Proofs.Tryz.func144 rfl ?_
  intro w0 M0
  simp only [Go.Proofs.Tryz.f144, List.replicate, List.cons_append, List.nil_append, z, seval]
  (refine CU (hP) (h := ?_); simp only [z, seval])
  simp only [hnm (pair_in c1).2.2.2.2, z, seval]
  (refine CALLS_in (fn := Go.Proofs.Tryz.f172) Go.Proofs.Tryz.func172 rfl (by kernel_rfl) ?_; simp only [Go.Proofs.Tryz.f172, List.replicate, List.cons_append, List.nil_append, z, seval])
  (refine RUNs_unroll 4 ?_; simp only [z, seval])
  (refine CALLS_in (fn := Go.Proofs.Tryz.f173) Go.Proofs.Tryz.func173 rfl (by kernel_rfl) ?_; simp only [Go.Proofs.Tryz.f173, List.replicate, List.cons_append, List.nil_append, z, seval])
  simp only [c0, z, seval]
  (refine CU (hPr) (h := ?_); simp only [z, seval])
  (refine CU (hM5 true) (h := ?_); simp only [z, seval])
  (refine RUNs_unr ?_; simp only [z, seval])
  (refine CALLS_in (fn := Go.Proofs.Tryz.f175) Go.Proofs.Tryz.func175 rfl (by kernel_rfl) ?_; simp only [Go.Proofs.Tryz.f175, List.replicate, List.cons_append, List.nil_append, z, seval])
  (refine CU (hMy) (h := ?_); simp only [z, seval])
  simp only [c2, z, seval]
  (refine RUNs_unr ?_; simp only [z, seval])
  (refine CALLS_in (fn := Go.Proofs.Tryz.f176) Go.Proofs.Tryz.func176 rfl (by kernel_rfl) ?_; simp only [Go.Proofs.Tryz.f176, List.replicate, List.cons_append, List.nil_append, z, seval])
  simp only [c3', z, seval]
  (refine CU (hRm) (h := ?_); simp only [z, seval])
  (refine CU (hM10 true) (h := ?_); simp only [z, seval])
  (refine RUNs_unr ?_; simp only [z, seval])
  (refine CU (hD) (h := ?_); simp only [z, seval])
  (refine CU (hS) (h := ?_); simp only [z, seval])
  cases c5 : ((bS w me m).2.2 == 0) with
  | false =>
    simp only [c5, z, seval]
    (refine FINS_done ?_; simp only [z, seval])
  | true =>
  simp only [c5, z, seval]
  (refine CU (hNo) (h := ?_); simp only [z, seval])
  (refine CU (hAd) (h := ?_); simp only [z, seval])
  (refine RUNs_draw 1 (by kernel_rfl) ?_; simp only [z, seval])
  (refine DU (hW) (h := ?_); simp only [z, seval])
  (refine DU (hE) (h := ?_); simp only [z, seval])
  (refine DU (hL) (h := ?_); simp only [z, seval])
  (refine ⟨by kernel_rfl, ?_⟩)
  (refine CU (hSn) (h := ?_); simp only [z, seval])
  (refine FINS_done ?_; simp only [z, seval])
end Ch

/- The responder with run identifiers: shares. -/
set_option maxRecDepth 100000
set_option maxHeartbeats 4000000
set_option linter.unusedSimpArgs false
set_option linter.unusedVariables false
namespace Ch
open Go Go.Ab
theorem bWaits_spec (l : List Run) (m : Int) (hl : l.length ≤ 1000000000000) : Spec PP GG 178 [runsV l, u32 m] (.tup [i64 ((l.findIdx? (waitM 2 2 m)).getD 0 : Nat), .bool (l.findIdx? (waitM 2 2 m)).isSome]) [] := by
  have hN := fun f => pNext_spec l f 2 2 1 (by omega)
  refine Spec.of_runs Go.Proofs.Tryz.f178 Go.Proofs.Tryz.func178 rfl ?_
  intro w0 M0
  simp only [Go.Proofs.Tryz.f178, List.replicate, List.cons_append, List.nil_append, z, seval]
  (refine CU (hN 0) (h := ?_); simp only [z, seval])
  refine RUNs_rangeS (l.length + 1) (fun j (f : Nat) => j ≤ f ∧ f ≤ l.length ∧ ∀ i, i < f → waitM 2 2 m (runAt l i) = false) (fun _ f => [(6, i64 ((nextR l f (isRun 2 2 1)).getD 0 : Nat)), (7, .bool (nextR l f (isRun 2 2 1)).isSome)]) (fun _ _ => []) 0 ?_ (by simp only [z, seval]; exact wk) rfl ?_
  · exact ⟨Nat.le_refl _, Nat.zero_le _, fun i hi => absurd hi (Nat.not_lt_zero _)⟩
  rintro ⟨j, f, hj, h1, h2, h3⟩
  have hN := fun i => hN i
  simp only [z, seval]
  cases c : nextR l f (isRun 2 2 1) with
  | none =>
    have e : l.findIdx? (waitM 2 2 m) = none := first_none (fun i hi => by
      rcases Nat.lt_or_ge i f with h | h
      · exact h3 i h
      · exact wait_not (nextR_none c i h hi))
    simp only [Option.isSome_none, Option.getD_none, z, seval]
    (refine FINS_done ?_; simp only [z, seval])
    rw [e]; rfl
  | some i =>
    obtain ⟨n1, n2, n3, n4⟩ := nextR_some c
    have h4 : ∀ k, k < i → waitM 2 2 m (runAt l k) = false := fun k hk => by
      rcases Nat.lt_or_ge k f with h | h
      · exact h3 k h
      · exact wait_not (n4 k h hk)
    have hg := runAt_get n1
    simp only [Option.isSome_some, Option.getD_some, getMap Run.v l n1, z, seval]
    cases d : (l[i].m == m) with
    | true =>
      have e : l.findIdx? (waitM 2 2 m) = some i := first_at n1 (by rw [waitM, n3, hg, d]; rfl) h4
      simp only [d, z, seval]
      (refine FINS_done ?_; simp only [z, seval])
      rw [e]; rfl
    | false =>
      simp only [d, w64s (i := i) (by omega), z, seval]
      (refine CU (hN (i + 1)) (h := ?_); simp only [z, seval])
      have hlt : j < l.length + 1 := by omega
      (refine NX (i + 1) ?_ (by rfl) hlt ?_; simp only [z, seval]; exact wk)
      refine ⟨by show j + 1 ≤ i + 1; omega, n1, fun k hk => ?_⟩
      rcases Nat.lt_or_ge k i with h | h
      · exact h4 k h
      · obtain rfl : k = i := by omega
        rw [waitM, hg, d, Bool.and_false]
theorem told8 {w : World} {key h : Int} (ho : (openW w key 8 h).2 = true) : (openW w key 8 h).1 = ⟨(openW w key 8 h).1.n, 0, 0, 0, (openW w key 8 h).1.k, 0, 0⟩ := by
  revert ho
  unfold openW
  cases hb : boxOpen w.box key 8 h with
  | none => intro ho; cases ho
  | some l =>
    simp only [partGet]
    cases (l.length == (partWs 8 zPart).length)
    · intro ho; exact absurd ho (by simp [label?])
    · intro _; rfl
theorem ShareB_spec (w : World) (me : Int) (m : Msg) {N : Nat} (hw : w.fit N) (h5 : 21 ≤ N) (hN : N ≤ 400000000000) (hme : U me) (hm : m.ok) (hr : Right10 w.people = true) : Spec PP GG 145 [w.v, u32 me, m.v] (.tup [(shareB w me m).1.v, i64 (shareB w me m).2]) [] := by
  have hP := person_spec w hw (by omega) me hme
  have hU : (personW w me).runs.length ≤ N := personW_runs hw me
  have hW := bWaits_spec (personW w me).runs m.run (by omega)
  have hO := open_spec w hw (by omega) (personW w me).key 8 m.more
  have hRm := room_spec' w hw (by omega) 0 1
  have hM6 := fun b => must_spec b 6
  have hM10 := fun b => must_spec b 10
  have hnm := fun h => name_of hr hme h
  cases c1 : bI w me m with
  | none =>
    have e : shareB w me m = (w, 9) := by simp only [shareB, c1]
    rw [e]
    rw [bI] at c1
    rw [c1] at hW
    simp only [Option.isSome_none, Option.getD_none] at hW
    clear hw hr
    refine Spec.of_runs Go.Proofs.Tryz.f145 Go.Proofs.Tryz.func145 rfl ?_
    intro w0 M0
    simp only [Go.Proofs.Tryz.f145, List.replicate, List.cons_append, List.nil_append, z, seval]
    (refine CU (hP) (h := ?_); simp only [z, seval])
    (refine CU (hW) (h := ?_); simp only [z, seval])
    (refine FINS_done ?_; simp only [z, seval])
  | some i =>
    have e : shareB w me m = bif (bO w me m).2 && (bO w me m).1.n == (runAt (personW w me).runs i).mine then (bif roomW w 0 1 then (bX w me m i (bO w me m).1.k, 0) else (w, 10)) else (w, 6) := by simp only [shareB, c1]
    rw [e]
    have c1' : (personW w me).runs.findIdx? (waitM 2 2 m.run) = some i := c1
    obtain ⟨hi, r1, r2, r3, r4⟩ := wait_run c1'
    have hg := runAt_get hi
    have hin := hnm (has_runs hi)
    rw [c1'] at hW
    simp only [Option.isSome_some, Option.getD_some] at hW
    rw [← bO] at hO
    have hS := pSetR_spec (personW w me).runs i (doneR (runAt (personW w me).runs i) (bO w me m).1.k) hi (done_may (.inr r1) (.inr r2)) (by omega)
    have hwt := with_spec w hw (by omega) (setRun (personW w me) i (doneR (runAt (personW w me).runs i) (bO w me m).1.k)) (personW_ok hw me).1
    have hk : U (bO w me m).1.k := (openW_ok hw _ _ _).2.2.2.2.1
    have hfit : (withW w (setRun (personW w me) i (doneR (runAt (personW w me).runs i) (bO w me m).1.k))).fit N := set_fit hw me i (doneR_ok (runAt_ok hw me i) hk)
    have hL : Spec PP GG 87 _ (bCom w me i (bO w me m).1.k).v [] := log_spec _ hfit (by omega) ⟨4, 2, 2, (runAt (personW w me).runs i).peer, me, (bO w me m).1.k, 0, (runAt (personW w me).runs i).m, (runAt (personW w me).runs i).mine, (personW w me).clock⟩
    have hE := bEvent_spec 4 (setRun (personW w me) i (doneR (runAt (personW w me).runs i) (bO w me m).1.k)) (doneR (runAt (personW w me).runs i) (bO w me m).1.k)
    have hSn := send_spec (bCom w me i (bO w me m).1.k) (bCom_fit hw hN hme i hk) (by omega) (runAt (personW w me).runs i).peer ⟨9, m.run, 0, 0, 0, m.box, 0⟩ (msg9_ok hm)
    rw [← bX] at hSn
    have hz := fun h => @bX_ok w me m i (bO w me m).1.k (runAt (personW w me).runs i).peer h
    simp only [setRun, doneR, hin] at hS hwt hL hE
    have ht := @told8 w (personW w me).key m.more
    rw [← bO] at ht
    clear hw hr hfit hm hk
    simp only [hg] at *
    cases c2 : (bO w me m).2 with
    | false =>
      rw [c2] at hO
      simp only [Bool.false_and, cond_false]
      refine Spec.of_runs Go.Proofs.Tryz.f145 Go.Proofs.Tryz.func145 rfl ?_
      intro w0 M0
      simp only [Go.Proofs.Tryz.f145, List.replicate, List.cons_append, List.nil_append, z, seval]
      (refine CU (hP) (h := ?_); simp only [z, seval])
      (refine CU (hW) (h := ?_); simp only [z, seval])
      simp only [getMap Run.v (personW w me).runs hi, z, seval]
      (refine CU (hO) (h := ?_); simp only [z, seval])
      (refine CALLS_in (fn := Go.Proofs.Tryz.f172) Go.Proofs.Tryz.func172 rfl (by kernel_rfl) ?_; simp only [Go.Proofs.Tryz.f172, List.replicate, List.cons_append, List.nil_append, z, seval])
      (refine RUNs_unroll 3 ?_; simp only [z, seval])
      (refine CALLS_in (fn := Go.Proofs.Tryz.f179) Go.Proofs.Tryz.func179 rfl (by kernel_rfl) ?_; simp only [Go.Proofs.Tryz.f179, List.replicate, List.cons_append, List.nil_append, z, seval])
      (refine CU (hM6 false) (h := ?_); simp only [z, seval])
      (refine FINS_done ?_; simp only [z, seval])
    | true =>
    rw [c2] at hO
    have ht := ht c2
    generalize hq : bO w me m = q at *
    obtain ⟨⟨qn, qm, qa, qb, qk, qt, qh⟩, q2⟩ := q
    simp only [Part.mk.injEq] at ht
    obtain ⟨-, rfl, rfl, rfl, -, rfl, rfl⟩ := ht
    simp only [Bool.true_and]
    cases c3 : (qn == (personW w me).runs[i].mine) with
    | false =>
      simp only [cond_false]
      refine Spec.of_runs Go.Proofs.Tryz.f145 Go.Proofs.Tryz.func145 rfl ?_
      intro w0 M0
      simp only [Go.Proofs.Tryz.f145, List.replicate, List.cons_append, List.nil_append, z, seval]
      (refine CU (hP) (h := ?_); simp only [z, seval])
      (refine CU (hW) (h := ?_); simp only [z, seval])
      simp only [getMap Run.v (personW w me).runs hi, z, seval]
      (refine CU (hO) (h := ?_); simp only [z, seval])
      (refine CALLS_in (fn := Go.Proofs.Tryz.f172) Go.Proofs.Tryz.func172 rfl (by kernel_rfl) ?_; simp only [Go.Proofs.Tryz.f172, List.replicate, List.cons_append, List.nil_append, z, seval])
      (refine RUNs_unroll 3 ?_; simp only [z, seval])
      (refine CALLS_in (fn := Go.Proofs.Tryz.f179) Go.Proofs.Tryz.func179 rfl (by kernel_rfl) ?_; simp only [Go.Proofs.Tryz.f179, List.replicate, List.cons_append, List.nil_append, z, seval])
      simp only [c3, z, seval]
      (refine CU (hM6 false) (h := ?_); simp only [z, seval])
      (refine FINS_done ?_; simp only [z, seval])
    | true =>
    cases c4 : roomW w 0 1 with
    | false =>
      rw [c4] at hRm
      simp only [cond_true, cond_false]
      refine Spec.of_runs Go.Proofs.Tryz.f145 Go.Proofs.Tryz.func145 rfl ?_
      intro w0 M0
      simp only [Go.Proofs.Tryz.f145, List.replicate, List.cons_append, List.nil_append, z, seval]
      (refine CU (hP) (h := ?_); simp only [z, seval])
      (refine CU (hW) (h := ?_); simp only [z, seval])
      simp only [getMap Run.v (personW w me).runs hi, z, seval]
      (refine CU (hO) (h := ?_); simp only [z, seval])
      (refine CALLS_in (fn := Go.Proofs.Tryz.f172) Go.Proofs.Tryz.func172 rfl (by kernel_rfl) ?_; simp only [Go.Proofs.Tryz.f172, List.replicate, List.cons_append, List.nil_append, z, seval])
      (refine RUNs_unroll 3 ?_; simp only [z, seval])
      (refine CALLS_in (fn := Go.Proofs.Tryz.f179) Go.Proofs.Tryz.func179 rfl (by kernel_rfl) ?_; simp only [Go.Proofs.Tryz.f179, List.replicate, List.cons_append, List.nil_append, z, seval])
      simp only [c3, z, seval]
      (refine CU (hM6 true) (h := ?_); simp only [z, seval])
      (refine RUNs_unr ?_; simp only [z, seval])
      (refine CALLS_in (fn := Go.Proofs.Tryz.f180) Go.Proofs.Tryz.func180 rfl (by kernel_rfl) ?_; simp only [Go.Proofs.Tryz.f180, List.replicate, List.cons_append, List.nil_append, z, seval])
      (refine CU (hRm) (h := ?_); simp only [z, seval])
      (refine CU (hM10 false) (h := ?_); simp only [z, seval])
      (refine FINS_done ?_; simp only [z, seval])
    | true =>
      rw [c4] at hRm
      rw [hz c4] at hSn
      simp only [cond_true]
      refine Spec.of_runs Go.Proofs.Tryz.f145 Go.Proofs.Tryz.func145 rfl ?_
      intro w0 M0
      simp only [Go.Proofs.Tryz.f145, List.replicate, List.cons_append, List.nil_append, z, seval]
      (refine CU (hP) (h := ?_); simp only [z, seval])
      (refine CU (hW) (h := ?_); simp only [z, seval])
      simp only [getMap Run.v (personW w me).runs hi, z, seval]
      (refine CU (hO) (h := ?_); simp only [z, seval])
      (refine CALLS_in (fn := Go.Proofs.Tryz.f172) Go.Proofs.Tryz.func172 rfl (by kernel_rfl) ?_; simp only [Go.Proofs.Tryz.f172, List.replicate, List.cons_append, List.nil_append, z, seval])
      (refine RUNs_unroll 3 ?_; simp only [z, seval])
      (refine CALLS_in (fn := Go.Proofs.Tryz.f179) Go.Proofs.Tryz.func179 rfl (by kernel_rfl) ?_; simp only [Go.Proofs.Tryz.f179, List.replicate, List.cons_append, List.nil_append, z, seval])
      simp only [c3, z, seval]
      (refine CU (hM6 true) (h := ?_); simp only [z, seval])
      (refine RUNs_unr ?_; simp only [z, seval])
      (refine CALLS_in (fn := Go.Proofs.Tryz.f180) Go.Proofs.Tryz.func180 rfl (by kernel_rfl) ?_; simp only [Go.Proofs.Tryz.f180, List.replicate, List.cons_append, List.nil_append, z, seval])
      (refine CU (hRm) (h := ?_); simp only [z, seval])
      (refine CU (hM10 true) (h := ?_); simp only [z, seval])
      (refine RUNs_unr ?_; simp only [z, seval])
      simp only [hin, z, seval]
      (refine CU (hS) (h := ?_); simp only [z, seval])
      (refine RUNs_draw 2 (by kernel_rfl) ?_; simp only [z, seval])
      (refine DU (hwt) (h := ?_); simp only [z, seval])
      (refine DU (hE) (h := ?_); simp only [z, seval])
      (refine DU (hL) (h := ?_); simp only [z, seval])
      (refine ⟨by kernel_rfl, ?_⟩)
      (refine CU (hSn) (h := ?_); simp only [z, seval])
      (refine FINS_done ?_; simp only [z, seval])
end Ch

/- The initiator with run identifiers: the document's share. -/
set_option maxRecDepth 100000
set_option maxHeartbeats 4000000
set_option linter.unusedSimpArgs false
set_option linter.unusedVariables false
namespace Ch
open Go Go.Ab
theorem findIdx_none_take {l : List Run} {q : Run → Bool} {i : Nat} (h : i < l.length) (h1 : ∀ j, j < i → q (runAt l j) = false) (h2 : q l[i] = false) : ∀ j, j < i + 1 → q (runAt l j) = false := by
  intro j hj
  rcases Nat.lt_or_ge j i with h3 | h3
  · exact h1 j h3
  · obtain rfl : j = i := by omega
    rw [runAt_get h]; exact h2
theorem rShareO_spec (w : World) (me : Int) (m : Msg) {N : Nat} (hw : w.fit N) (hN : N ≤ 400000000000) (hme : U me) (hr : Right10 w.people = true) (hb7 : Right07 w.box = true) : Spec PP GG 105 [w.v, u32 me, m.v] (.tup [(shareO w me m).1.v, i64 (shareO w me m).2]) [] := by
  have hP := rPerson_spec w hw (by omega) hr me hme
  have hU : (personW w me).runs.length ≤ N := personW_runs hw me
  have hO := rOpen_spec w hw (by omega) hb7 (personW w me).key 9 m.box
  rw [← oO] at hO
  have hS : ∀ i, (hi : i < (personW w me).runs.length) → Spec PP GG 72 [w.v, (personW w me).v, i64 i, Run.v ⟨(personW w me).runs[i].proto, (personW w me).runs[i].role, (personW w me).runs[i].peer, (personW w me).runs[i].mine, (personW w me).runs[i].their, (personW w me).runs[i].m, (oO w me m).1.k, (personW w me).runs[i].t, 3⟩] (withW w (setRun (personW w me) i (doneR (runAt (personW w me).runs i) (oO w me m).1.k))).v [] := fun i hi => by
    have := rWith15_spec w hw (by omega) hr (personW w me) (personW_ok hw me).1 i hi (by omega) (doneR (runAt (personW w me).runs i) (oO w me m).1.k)
    rw [runAt_get hi] at this ⊢
    exact this
  have hL : ∀ i, (hi : i < (personW w me).runs.length) → Spec PP GG 61 [(withW w (setRun (personW w me) i (doneR (runAt (personW w me).runs i) (oO w me m).1.k))).v, Event.v ⟨4, 2, 1, me, (personW w me).runs[i].peer, (oO w me m).1.k, 0, (personW w me).runs[i].m, (personW w me).runs[i].mine, (personW w me).clock⟩] (oCom w me i (oO w me m).1.k).v [] := fun i hi => by
    have hfit : (withW w (setRun (personW w me) i (doneR (runAt (personW w me).runs i) (oO w me m).1.k))).fit N := set_fit hw me i (doneR_ok (runAt_ok hw me i) (openW_ok hw _ _ _).2.2.2.2.1)
    have := rLog_spec _ hfit (by omega) ⟨4, 2, 1, me, (runAt (personW w me).runs i).peer, (oO w me m).1.k, 0, (runAt (personW w me).runs i).m, (runAt (personW w me).runs i).mine, (personW w me).clock⟩
    rw [oCom]
    rw [runAt_get hi] at this ⊢
    exact this
  have hfa := @first_at (personW w me).runs (waitM 2 1 m.run)
  have hfn := @first_none (personW w me).runs (waitM 2 1 m.run)
  have hsh : shareO w me m = match (personW w me).runs.findIdx? (waitM 2 1 m.run) with
    | none => (w, 9)
    | some i => bif (oO w me m).2 && (oO w me m).1.n == (runAt (personW w me).runs i).mine then (oCom w me i (oO w me m).1.k, 0) else (w, 6) := rfl
  clear hw hr hb7
  generalize hq : oO w me m = q at *
  generalize hp : personW w me = p at *
  obtain ⟨⟨qn, qm, qa, qb, qk, qt, qh⟩, q2⟩ := q
  refine Spec.of_runs Go.Proofs.Tryz.f105 Go.Proofs.Tryz.func105 rfl ?_
  intro w0 M0
  simp only [Go.Proofs.Tryz.f105, List.replicate, List.cons_append, List.nil_append, z, seval]
  (refine CU (hP) (h := ?_); simp only [z, seval])
  refine RUNs_rangeS (p.runs.length) (fun i (_ : Unit) => ∀ j, j < i → waitM 2 1 m.run (runAt p.runs j) = false) (fun i _ => [(9, i64 i)]) (fun i _ => []) () ?_ (by simp only [z, seval]; exact wk) rfl ?_
  · intro j h; exact absurd h (Nat.not_lt_zero _)
  rintro ⟨i, _, hi, hw'⟩
  simp only [z, seval]
  first | refine brk (fun h => ?_) (fun h => ?_) | fail
  · have hlt : i < p.runs.length := by have := of_decide_eq_true h; omega
    have hg := runAt_get hlt
    have hS := hS i hlt
    have hL := hL i hlt
    simp only [h, getMap Run.v p.runs hlt, z, seval]
    cases c : waitM 2 1 m.run p.runs[i] with
    | true =>
      have e := hfa hlt (by rw [hg]; exact c) hw'
      rw [e] at hsh
      simp only [hg] at hsh
      simp only [waitM, isRun, Bool.and_eq_true] at c
      simp only [c.1.1, c.1.2.1, c.1.2.2, c.2, z, seval]
      (refine CU (hO) (h := ?_); simp only [z, seval])
      cases d1 : q2 with
      | false =>
        rw [d1] at hsh
        simp only [d1, z, seval]
        (refine FINS_done ?_; simp only [z, seval])
        simp only [hsh, Bool.false_and, cond_false, z, seval]
      | true =>
      rw [d1] at hsh
      simp only [d1, z, seval]
      cases d2 : (qn == p.runs[i].mine) with
      | false =>
        rw [d2] at hsh
        simp only [d2, z, seval]
        (refine FINS_done ?_; simp only [z, seval])
        simp only [hsh, Bool.true_and, cond_false, z, seval]
      | true =>
        rw [d2] at hsh
        simp only [d2, z, seval]
        (refine CU (hS) (h := ?_); simp only [z, seval])
        (refine CU (hL) (h := ?_); simp only [z, seval])
        (refine FINS_done ?_; simp only [z, seval])
        simp only [hsh, Bool.true_and, cond_true, z, seval]
    | false =>
      have hs := findIdx_none_take hlt hw' c
      simp only [waitM, isRun] at c
      cases c1 : (p.runs[i].proto == 2) <;> cases c2 : (p.runs[i].role == 1) <;> cases c3 : (p.runs[i].state == 1) <;> cases c4 : (p.runs[i].m == m.run)
      all_goals
        simp only [c1, c2, c3, c4, z, seval]
        first
          | (exfalso; rw [c1, c2, c3, c4] at c; exact absurd c (by decide))
          | (simp only [w64s (i := i) (by omega), z, seval]
             refine NX () ?_ (by rfl) hlt hs
             first | exact wk | (simp only [z, seval]; exact wk))
  · have : i = p.runs.length := by have := of_decide_eq_false h; omega
    subst this
    simp only [h, z, seval]
    rw [hfn hw'] at hsh
    (refine FINS_done ?_; simp only [z, seval])
    simp only [hsh, z, seval]
end Ch

/- The responder with run identifiers: the document's. -/
set_option maxRecDepth 100000
set_option maxHeartbeats 4000000
set_option linter.unusedSimpArgs false
set_option linter.unusedVariables false
namespace Ch
open Go Go.Ab
theorem rFirstB_spec (w : World) (me : Int) (m : Msg) {N : Nat} (hw : w.fit N) (h5 : 21 ≤ N) (hN : N ≤ 400000000000) (hme : U me) (hm : m.ok) (hr : Right10 w.people = true) : Spec PP GG 103 [w.v, u32 me, m.v] (.tup [(firstB w me m).1.v, i64 (firstB w me m).2]) [] := by
  have hP := rPerson_spec w hw (by omega) hr me hme
  have hPr := rPair_spec w.people (by have := hw.people; omega) hr m.a me hm.2.2.1 hme
  have hMy := rMay08_spec (personW w me).used w.conf.used m.run (by have := personW_used hw me; omega)
  have hRm := rRoom_spec w 1 1 hw.broom hw.nroom (by have := hw.rows; omega) (by have := hw.grams; omega)
  have hD := rDraw_spec w hw (by omega)
  have hS : Spec PP GG 44 _ (.tup [(bS w me m).1.v, u32 (bS w me m).2.1, i64 (bS w me m).2.2]) [] := rSeal_spec (drawW w).1 (fit_draw hw (by omega)) (by omega) (personW w me).key 7 ⟨(drawW w).2, m.run, m.a, me, 0, 0, 0⟩
  have hU : (personW w me).runs.length ≤ N := personW_runs hw me
  have hV : (personW w me).used.length ≤ N := personW_used hw me
  have hW : Spec PP GG 60 [(bS w me m).1.v, Person.v ⟨(personW w me).name, (personW w me).key, (personW w me).clock, (personW w me).used ++ [m.run], (personW w me).runs ++ [bRun w m], (personW w me).corrupt⟩] (withW (bS w me m).1 (bP w me m)).v [] := rWith_spec (bS w me m).1 (bS_fit hw h5 hN hme hm) (by omega) (by rw [bS, people_seal]; exact hr) (bP w me m) (bP_ok hw hN me hm).1
  have hL : Spec PP GG 61 _ (bY w me m).v [] := rLog_spec (withW (bS w me m).1 (bP w me m)) (bW_fit hw h5 hN hme hm) (by omega) (bEv w me m)
  have hSn : Spec PP GG 62 _ (.tup [(bZ w me m).v, _]) [] := rSend_spec (bY w me m) (bY_fit hw h5 hN hme hm) (by omega) 0 (bMsg w me m) (bMsg_ok hw hN hme hm)
  have e1 : (personW w me).used.map u32 ++ [u32 m.run] = ((personW w me).used ++ [m.run]).map u32 := by simp
  have e2 : (personW w me).runs.map Run.v ++ [Run.v ⟨2, 2, m.a, (drawW w).2, 0, m.run, 0, 0, 1⟩] = ((personW w me).runs ++ [bRun w m]).map Run.v := by simp [bRun]
  simp only [mv] at e2
  clear hw hr hm
  cases c0 : (m.b == me) with
  | false =>
    have e : firstB w me m = (w, 5) := by simp only [firstB, c0, Bool.false_and, cond_false]
    rw [e]
    refine Spec.of_runs Go.Proofs.Tryz.f103 Go.Proofs.Tryz.func103 rfl ?_
    intro w0 M0
    simp only [Go.Proofs.Tryz.f103, List.replicate, List.cons_append, List.nil_append, z, seval]
    (refine CU (hP) (h := ?_); simp only [z, seval])
    simp only [c0, z, seval]
    (refine FINS_done ?_; simp only [z, seval])
  | true =>
  cases c1 : pairM w.people m.a me with
  | false =>
    rw [c1] at hPr
    have e : firstB w me m = (w, 5) := by simp only [firstB, c0, c1, Bool.true_and, cond_false]
    rw [e]
    refine Spec.of_runs Go.Proofs.Tryz.f103 Go.Proofs.Tryz.func103 rfl ?_
    intro w0 M0
    simp only [Go.Proofs.Tryz.f103, List.replicate, List.cons_append, List.nil_append, z, seval]
    (refine CU (hP) (h := ?_); simp only [z, seval])
    simp only [c0, z, seval]
    (refine CU (hPr) (h := ?_); simp only [z, seval])
    (refine FINS_done ?_; simp only [z, seval])
  | true =>
  rw [c1] at hPr
  cases c2 : (usedMay (personW w me).used w.conf.used m.run == 0) with
  | false =>
    have e : firstB w me m = (w, usedMay (personW w me).used w.conf.used m.run) := by simp only [firstB, c0, c1, c2, Bool.true_and, cond_true, cond_false]
    rw [e]
    refine Spec.of_runs Go.Proofs.Tryz.f103 Go.Proofs.Tryz.func103 rfl ?_
    intro w0 M0
    simp only [Go.Proofs.Tryz.f103, List.replicate, List.cons_append, List.nil_append, z, seval]
    (refine CU (hP) (h := ?_); simp only [z, seval])
    simp only [c0, z, seval]
    (refine CU (hPr) (h := ?_); simp only [z, seval])
    (refine CU (hMy) (h := ?_); simp only [z, seval])
    simp only [c2, z, seval]
    (refine FINS_done ?_; simp only [z, seval])
  | true =>
  cases c3 : full w (personW w me) with
  | true =>
    have e : firstB w me m = (w, 10) := by simp only [firstB, c0, c1, c2, c3, Bool.true_and, cond_true, cond_false, Bool.not_true, Bool.false_and]
    rw [e]
    simp only [full] at c3
    refine Spec.of_runs Go.Proofs.Tryz.f103 Go.Proofs.Tryz.func103 rfl ?_
    intro w0 M0
    simp only [Go.Proofs.Tryz.f103, List.replicate, List.cons_append, List.nil_append, z, seval]
    (refine CU (hP) (h := ?_); simp only [z, seval])
    simp only [c0, z, seval]
    (refine CU (hPr) (h := ?_); simp only [z, seval])
    (refine CU (hMy) (h := ?_); simp only [z, seval])
    simp only [c2, c3, z, seval]
    (refine FINS_done ?_; simp only [z, seval])
  | false =>
  cases c4 : roomW w 1 1 with
  | false =>
    rw [c4] at hRm
    have e : firstB w me m = (w, 10) := by simp only [firstB, c0, c1, c2, c3, c4, Bool.true_and, cond_true, cond_false, Bool.not_false]
    rw [e]
    simp only [full] at c3
    refine Spec.of_runs Go.Proofs.Tryz.f103 Go.Proofs.Tryz.func103 rfl ?_
    intro w0 M0
    simp only [Go.Proofs.Tryz.f103, List.replicate, List.cons_append, List.nil_append, z, seval]
    (refine CU (hP) (h := ?_); simp only [z, seval])
    simp only [c0, z, seval]
    (refine CU (hPr) (h := ?_); simp only [z, seval])
    (refine CU (hMy) (h := ?_); simp only [z, seval])
    simp only [c2, c3, z, seval]
    (refine CU (hRm) (h := ?_); simp only [z, seval])
    (refine FINS_done ?_; simp only [z, seval])
  | true =>
  rw [c4] at hRm
  have e0 : firstB w me m = (bif (bS w me m).2.2 == 0 then (bZ w me m, 0) else (w, (bS w me m).2.2)) := by simp only [firstB, c0, c1, c2, c3, c4, Bool.true_and, cond_true, Bool.not_false]
  rw [e0]
  clear e0
  simp only [full] at c3
  refine Spec.of_runs Go.Proofs.Tryz.f103 Go.Proofs.Tryz.func103 rfl ?_
  intro w0 M0
  simp only [Go.Proofs.Tryz.f103, List.replicate, List.cons_append, List.nil_append, z, seval]
  (refine CU (hP) (h := ?_); simp only [z, seval])
  simp only [c0, z, seval]
  (refine CU (hPr) (h := ?_); simp only [z, seval])
  (refine CU (hMy) (h := ?_); simp only [z, seval])
  simp only [c2, c3, z, seval]
  (refine CU (hRm) (h := ?_); simp only [z, seval])
  (refine CU (hD) (h := ?_); simp only [z, seval])
  (refine CU (hS) (h := ?_); simp only [z, seval])
  cases c5 : ((bS w me m).2.2 == 0) with
  | false =>
    simp only [c5, z, seval]
    (refine FINS_done ?_; simp only [z, seval])
  | true =>
  simp only [c5, z, seval]
  first
    | (refine OPC_ok ?_ ?_
       · exact okMap _ (fun a => rfl) (by omega)
       simp only [z, seval]
       refine OPC_ok ?_ ?_
       · simp; omega
       simp only [e1, z, seval])
    | ((refine RUNs_draw 4 (by kernel_rfl) ?_; simp only [z, seval])
       refine DOC_ok ?_ ?_
       · exact okMap _ (fun a => rfl) (by omega)
       simp only [z, seval]
       refine DOC_ok ?_ ?_
       · simp; omega
       simp only [z, seval]
       (refine ⟨by kernel_rfl, ?_⟩)
       simp only [e1, z, seval])
  first
    | (refine OPC_ok ?_ ?_
       · exact okMap _ (fun a => rfl) (by omega)
       simp only [z, seval]
       refine OPC_ok ?_ ?_
       · simp; omega
       simp only [e2, z, seval])
    | ((refine RUNs_draw 4 (by kernel_rfl) ?_; simp only [z, seval])
       refine DOC_ok ?_ ?_
       · exact okMap _ (fun a => rfl) (by omega)
       simp only [z, seval]
       refine DOC_ok ?_ ?_
       · simp; omega
       simp only [z, seval]
       (refine ⟨by kernel_rfl, ?_⟩)
       simp only [e2, z, seval])
  (refine CU (hW) (h := ?_); simp only [z, seval])
  (refine CU (hL) (h := ?_); simp only [z, seval])
  (refine CU (hSn) (h := ?_); simp only [z, seval])
  (refine FINS_done ?_; simp only [z, seval])
theorem rShareB_spec (w : World) (me : Int) (m : Msg) {N : Nat} (hw : w.fit N) (h5 : 21 ≤ N) (hN : N ≤ 400000000000) (hme : U me) (hm : m.ok) (hr : Right10 w.people = true) (hb7 : Right07 w.box = true) : Spec PP GG 104 [w.v, u32 me, m.v] (.tup [(shareB w me m).1.v, i64 (shareB w me m).2]) [] := by
  have hP := rPerson_spec w hw (by omega) hr me hme
  have hU : (personW w me).runs.length ≤ N := personW_runs hw me
  have hO := rOpen_spec w hw (by omega) hb7 (personW w me).key 8 m.more
  have hRm := rRoom_spec w 0 1 hw.broom hw.nroom (by have := hw.rows; omega) (by have := hw.grams; omega)
  rw [← bO] at hO
  have hk : U (bO w me m).1.k := (openW_ok hw _ _ _).2.2.2.2.1
  have hS : ∀ i, (hi : i < (personW w me).runs.length) → Spec PP GG 72 [w.v, (personW w me).v, i64 i, Run.v ⟨(personW w me).runs[i].proto, (personW w me).runs[i].role, (personW w me).runs[i].peer, (personW w me).runs[i].mine, (personW w me).runs[i].their, (personW w me).runs[i].m, (bO w me m).1.k, (personW w me).runs[i].t, 3⟩] (withW w (setRun (personW w me) i (doneR (runAt (personW w me).runs i) (bO w me m).1.k))).v [] := fun i hi => by
    have := rWith15_spec w hw (by omega) hr (personW w me) (personW_ok hw me).1 i hi (by omega) (doneR (runAt (personW w me).runs i) (bO w me m).1.k)
    rw [runAt_get hi] at this ⊢
    exact this
  have hL : ∀ i, (hi : i < (personW w me).runs.length) → Spec PP GG 61 [(withW w (setRun (personW w me) i (doneR (runAt (personW w me).runs i) (bO w me m).1.k))).v, Event.v ⟨4, 2, 2, (personW w me).runs[i].peer, me, (bO w me m).1.k, 0, (personW w me).runs[i].m, (personW w me).runs[i].mine, (personW w me).clock⟩] (bCom w me i (bO w me m).1.k).v [] := fun i hi => by
    have hfit : (withW w (setRun (personW w me) i (doneR (runAt (personW w me).runs i) (bO w me m).1.k))).fit N := set_fit hw me i (doneR_ok (runAt_ok hw me i) hk)
    have := rLog_spec _ hfit (by omega) ⟨4, 2, 2, (runAt (personW w me).runs i).peer, me, (bO w me m).1.k, 0, (runAt (personW w me).runs i).m, (runAt (personW w me).runs i).mine, (personW w me).clock⟩
    rw [bCom]
    rw [runAt_get hi] at this ⊢
    exact this
  have hSn : ∀ i, (hi : i < (personW w me).runs.length) → Spec PP GG 62 [(bCom w me i (bO w me m).1.k).v, u32 (personW w me).runs[i].peer, Msg.v ⟨9, m.run, 0, 0, 0, m.box, 0⟩] (.tup [(bX w me m i (bO w me m).1.k).v, i64 (sendW (bCom w me i (bO w me m).1.k) (runAt (personW w me).runs i).peer ⟨9, m.run, 0, 0, 0, m.box, 0⟩).2]) [] := fun i hi => by
    have := rSend_spec (bCom w me i (bO w me m).1.k) (bCom_fit hw hN hme i hk) (by omega) (runAt (personW w me).runs i).peer ⟨9, m.run, 0, 0, 0, m.box, 0⟩ (msg9_ok hm)
    rw [← bX] at this
    rw [runAt_get hi] at this ⊢
    exact this
  have hfa := @first_at (personW w me).runs (waitM 2 2 m.run)
  have hfn := @first_none (personW w me).runs (waitM 2 2 m.run)
  have hsh : shareB w me m = match (personW w me).runs.findIdx? (waitM 2 2 m.run) with
    | none => (w, 9)
    | some i => bif (bO w me m).2 && (bO w me m).1.n == (runAt (personW w me).runs i).mine then (bif roomW w 0 1 then (bX w me m i (bO w me m).1.k, 0) else (w, 10)) else (w, 6) := rfl
  clear hw hr hb7 hm hk
  generalize hq : bO w me m = q at *
  generalize hp : personW w me = p at *
  obtain ⟨⟨qn, qm, qa, qb, qk, qt, qh⟩, q2⟩ := q
  refine Spec.of_runs Go.Proofs.Tryz.f104 Go.Proofs.Tryz.func104 rfl ?_
  intro w0 M0
  simp only [Go.Proofs.Tryz.f104, List.replicate, List.cons_append, List.nil_append, z, seval]
  (refine CU (hP) (h := ?_); simp only [z, seval])
  refine RUNs_rangeS (p.runs.length) (fun i (_ : Unit) => ∀ j, j < i → waitM 2 2 m.run (runAt p.runs j) = false) (fun i _ => [(9, i64 i)]) (fun i _ => []) () ?_ (by simp only [z, seval]; exact wk) rfl ?_
  · intro j h; exact absurd h (Nat.not_lt_zero _)
  rintro ⟨i, _, hi, hw'⟩
  simp only [z, seval]
  first | refine brk (fun h => ?_) (fun h => ?_) | fail
  · have hlt : i < p.runs.length := by have := of_decide_eq_true h; omega
    have hg := runAt_get hlt
    have hS := hS i hlt
    have hL := hL i hlt
    have hSn := hSn i hlt
    simp only [h, getMap Run.v p.runs hlt, z, seval]
    cases c : waitM 2 2 m.run p.runs[i] with
    | true =>
      have e := hfa hlt (by rw [hg]; exact c) hw'
      rw [e] at hsh
      simp only [hg] at hsh
      simp only [waitM, isRun, Bool.and_eq_true] at c
      simp only [c.1.1, c.1.2.1, c.1.2.2, c.2, z, seval]
      (refine CU (hO) (h := ?_); simp only [z, seval])
      cases d1 : q2 with
      | false =>
        rw [d1] at hsh
        simp only [d1, z, seval]
        (refine FINS_done ?_; simp only [z, seval])
        simp only [hsh, Bool.false_and, cond_false, z, seval]
      | true =>
      rw [d1] at hsh
      simp only [d1, z, seval]
      cases d2 : (qn == p.runs[i].mine) with
      | false =>
        rw [d2] at hsh
        simp only [d2, z, seval]
        (refine FINS_done ?_; simp only [z, seval])
        simp only [hsh, Bool.true_and, cond_false, z, seval]
      | true =>
        rw [d2] at hsh
        simp only [d2, z, seval]
        (refine CU (hRm) (h := ?_); simp only [z, seval])
        cases d3 : roomW w 0 1 with
        | false =>
          rw [d3] at hsh
          simp only [d3, z, seval]
          (refine FINS_done ?_; simp only [z, seval])
          simp only [hsh, Bool.true_and, cond_true, cond_false, z, seval]
        | true =>
          rw [d3] at hsh
          simp only [d3, z, seval]
          (refine CU (hS) (h := ?_); simp only [z, seval])
          (refine CU (hL) (h := ?_); simp only [z, seval])
          (refine CU (hSn) (h := ?_); simp only [z, seval])
          (refine FINS_done ?_; simp only [z, seval])
          simp only [hsh, Bool.true_and, cond_true, z, seval]
    | false =>
      have hs := findIdx_none_take hlt hw' c
      simp only [waitM, isRun] at c
      cases c1 : (p.runs[i].proto == 2) <;> cases c2 : (p.runs[i].role == 2) <;> cases c3 : (p.runs[i].state == 1) <;> cases c4 : (p.runs[i].m == m.run)
      all_goals
        simp only [c1, c2, c3, c4, z, seval]
        first
          | (exfalso; rw [c1, c2, c3, c4] at c; exact absurd c (by decide))
          | (simp only [w64s (i := i) (by omega), z, seval]
             refine NX () ?_ (by rfl) hlt hs
             first | exact wk | (simp only [z, seval]; exact wk))
  · have : i = p.runs.length := by have := of_decide_eq_false h; omega
    subst this
    simp only [h, z, seval]
    rw [hfn hw'] at hsh
    (refine FINS_done ?_; simp only [z, seval])
    simp only [hsh, z, seval]
end Ch

/- Frames read: fields, and messages. -/
set_option maxRecDepth 100000
set_option maxHeartbeats 4000000
set_option linter.unusedSimpArgs false
set_option linter.unusedVariables false
namespace Ch
open Go Go.Ab
def fieldBad (l : List Int) : Bool := decide ((l.length : Int) < 2) || (decide (l.getD 0 0 < 1) || (decide (l.getD 0 0 > 255) || (decide (l.getD 1 0 > 16) || decide (l.getD 1 0 > (l.length : Int) - 2))))
def fieldsM : Nat → List Int → List Field × Int
  | k, l => bif l.isEmpty then ([], 0) else match k with
    | 0 => ([], 3)
    | k + 1 => bif fieldBad l then ([], 2) else
      (bif (fieldsM k (l.drop (2 + (l.getD 1 0).toNat))).2 == 0 then (⟨l.getD 0 0, (l.drop 2).take (l.getD 1 0).toNat⟩ :: (fieldsM k (l.drop (2 + (l.getD 1 0).toNat))).1, 0) else ([], (fieldsM k (l.drop (2 + (l.getD 1 0).toNat))).2))
def getF (l : List Int) : List Field × Int := bif decide ((l.length : Int) > 64) then ([], 3) else fieldsM 8 l
def setTag (m : Msg) (t w : Int) : Msg :=
  bif t == 2 then { m with run := w } else bif t == 3 then { m with a := w } else bif t == 4 then { m with b := w } else bif t == 5 then { m with nonce := w } else bif t == 6 then { m with box := w } else bif t == 7 then { m with more := w } else m
def kindM (k : Int) : Msg := ⟨k, 0, 0, 0, 0, 0, 0⟩
def headOk (f : List Field) : Bool := match f with
  | [] => false
  | g :: _ => g.tag == 1 && (g.data.length == 1 && (decide (g.data.getD 0 0 ≥ 1) && decide (g.data.getD 0 0 ≤ 9)))
def headK (f : List Field) : Int := match f with
  | [] => 0
  | g :: _ => g.data.getD 0 0
/-- as the program reads: tag by tag -/
def msgSeq (m : Msg) : List Int → List Field → Option Msg
  | [], [] => some m
  | [], _ :: _ => none
  | t :: ts, fs => bif hasM m.kind t then (match fs with
    | [] => none
    | f :: r => bif f.tag == t && f.data.length == 1 then msgSeq (setTag m t (f.data.getD 0 0)) ts r else none) else msgSeq m ts fs
/-- as the document reads: whatever there is, and put again -/
def msgFold (m : Msg) : List Field → Option Msg
  | [] => some m
  | f :: r => bif f.data.length == 1 && hasM m.kind f.tag then msgFold (setTag m f.tag (f.data.getD 0 0)) r else none
def orBad : Option Msg → Msg × Int
  | none => (zMsg, 2)
  | some m => (m, 0)
def msgGet (l : List Int) : Msg × Int := bif (getF l).2 == 0 then (bif headOk (getF l).1 then orBad (msgSeq (kindM (headK (getF l).1)) tags (getF l).1.tail) else (zMsg, 4)) else (zMsg, (getF l).2)
def msgGetR (l : List Int) : Msg × Int := bif (getF l).2 == 0 then (bif headOk (getF l).1 then (match msgFold (kindM (headK (getF l).1)) (getF l).1.tail with
    | none => (zMsg, 2)
    | some m => bif decide ((msgPut m).1 = l) then (m, 0) else (zMsg, 2)) else (zMsg, 4)) else (zMsg, (getF l).2)
/-! fields and their words -/
def flatOne (f : Field) : List Int := f.tag :: (f.data.length : Int) :: f.data
def flatAll (l : List Field) : List Int := l.flatMap flatOne
def fieldOk (f : Field) : Prop := 1 ≤ f.tag ∧ f.tag ≤ 255 ∧ f.data.length ≤ 16
theorem fields_flat : ∀ (k : Nat) (l : List Int) (f : List Field), (∀ x ∈ l, U x) → fieldsM k l = (f, 0) → flatAll f = l ∧ (∀ x ∈ f, fieldOk x) ∧ f.length ≤ k := by
  intro k
  induction k with
  | zero =>
    intro l f hu h
    unfold fieldsM at h
    cases l with
    | nil => cases h; exact ⟨rfl, fun x hx => (by cases hx), Nat.le_refl _⟩
    | cons a l => cases h
  | succ k ih =>
    intro l f hu h
    unfold fieldsM at h
    cases l with
    | nil => cases h; exact ⟨rfl, fun x hx => (by cases hx), Nat.zero_le _⟩
    | cons a l =>
      simp only [List.isEmpty_cons, cond_false] at h
      cases hb : fieldBad (a :: l) with
      | true => rw [hb] at h; cases h
      | false =>
        rw [hb] at h
        simp only [cond_false] at h
        cases he : ((fieldsM k ((a :: l).drop (2 + ((a :: l).getD 1 0).toNat))).2 == 0) with
        | false =>
          rw [he] at h
          simp only [cond_false, Prod.mk.injEq] at h
          rw [h.2] at he; cases he
        | true =>
          rw [he] at h
          simp only [cond_true, Prod.mk.injEq, and_true] at h
          simp only [fieldBad, Bool.or_eq_false_iff, decide_eq_false_iff_not] at hb
          obtain ⟨b1, b2, b3, b4, b5⟩ := hb
          cases l with
          | nil => simp at b1
          | cons b l =>
            have hn := hu b (by simp)
            simp only [List.getD_cons_zero, List.getD_cons_succ, List.length_cons] at b2 b3 b4 b5 h he
            obtain ⟨n, rfl⟩ := Int.eq_ofNat_of_zero_le hn.1
            simp only [Int.toNat_natCast] at h he
            have hd : (a :: (n : Int) :: l).drop (2 + n) = l.drop n := by rw [Nat.add_comm]; rfl
            rw [hd] at h he
            have hd2 : (a :: (n : Int) :: l).drop 2 = l := rfl
            rw [hd2] at h
            obtain ⟨i1, i2, i3⟩ := ih (l.drop n) _ (fun x hx => hu x (by have := List.mem_of_mem_drop hx; simp [this])) (Prod.ext rfl (by simpa using he))
            have hl : (l.take n).length = n := by rw [List.length_take]; omega
            subst h
            refine ⟨?_, ?_, ?_⟩
            · simp only [flatAll, List.flatMap_cons, flatOne, hl] at i1 ⊢
              rw [i1]
              simp only [List.cons_append, List.take_append_drop]
            · intro x hx
              rcases List.mem_cons.1 hx with rfl | hx
              · exact ⟨by simp only; omega, by simp only; omega, by simp only [hl]; omega⟩
              · exact i2 x hx
            · exact Nat.succ_le_succ i3
theorem flat_fields : ∀ (f : List Field) (k : Nat), (∀ x ∈ f, fieldOk x) → f.length ≤ k → fieldsM k (flatAll f) = (f, 0) := by
  intro f
  induction f with
  | nil => intro k _ _; unfold fieldsM; rfl
  | cons g f ih =>
    intro k hf hk
    cases k with
    | zero => simp at hk
    | succ k =>
      obtain ⟨g1, g2, g3⟩ := hf g (by simp)
      have e : flatAll (g :: f) = g.tag :: (g.data.length : Int) :: (g.data ++ flatAll f) := by simp [flatAll, flatOne]
      unfold fieldsM
      rw [e]
      have hb : fieldBad (g.tag :: (g.data.length : Int) :: (g.data ++ flatAll f)) = false := by
        simp only [fieldBad, Bool.or_eq_false_iff, decide_eq_false_iff_not, List.getD_cons_zero, List.getD_cons_succ, List.length_cons, List.length_append]
        exact ⟨by omega, by omega, by omega, by omega, by omega⟩
      have hd : (g.tag :: (g.data.length : Int) :: (g.data ++ flatAll f)).drop (2 + g.data.length) = flatAll f := by
        rw [Nat.add_comm]; show (g.data ++ flatAll f).drop g.data.length = _; rw [List.drop_left]
      have hd2 : (g.tag :: (g.data.length : Int) :: (g.data ++ flatAll f)).drop 2 = g.data ++ flatAll f := rfl
      simp only [List.isEmpty_cons, cond_false, hb, List.getD_cons_zero, List.getD_cons_succ, Int.toNat_natCast]
      rw [hd, hd2, ih k (fun x hx => hf x (by simp [hx])) (by simp at hk; omega), List.take_left]
      rfl
/-! messages and their fields -/
def bodyF (m : Msg) : List Field := (tags.filter (hasM m.kind)).map fun t => ⟨t, [msgWord m t]⟩
theorem may_kd {m : Msg} (h : msgMay m = true) : 1 ≤ m.kind ∧ m.kind ≤ 9 := by
  simp only [msgMay, Bool.and_eq_true, decide_eq_true_eq] at h; exact ⟨h.1, h.2.1⟩
theorem kind9 {k : Int} (h : 1 ≤ k ∧ k ≤ 9) : k = 1 ∨ k = 2 ∨ k = 3 ∨ k = 4 ∨ k = 5 ∨ k = 6 ∨ k = 7 ∨ k = 8 ∨ k = 9 := by omega
theorem msgWs_flat (m : Msg) : msgWs m = flatAll (⟨1, [m.kind]⟩ :: bodyF m) := by
  simp only [msgWs, flatAll, bodyF, List.flatMap_cons, flatOne, List.flatMap_map, tags]
  simp only [List.flatMap_nil, List.filter_cons, List.filter_nil]
  cases hasM m.kind 2 <;> cases hasM m.kind 3 <;> cases hasM m.kind 4 <;> cases hasM m.kind 5 <;> cases hasM m.kind 6 <;> cases hasM m.kind 7 <;> rfl
theorem one_of {l : List Int} (h : (l.length == 1) = true) : l = [l.getD 0 0] := by
  match l, h with
  | [x], _ => rfl
theorem seq_of {m : Msg} (h : msgMay m = true) : msgSeq (kindM m.kind) tags (bodyF m) = some m := by
  have hk := kind9 (may_kd h)
  obtain ⟨k, run, a, b, nonce, box, more⟩ := m
  simp only at hk
  rcases hk with rfl | rfl | rfl | rfl | rfl | rfl | rfl | rfl | rfl
  all_goals
    simp [msgMay, tags, hasM, msgWord] at h
    simp [msgSeq, bodyF, tags, hasM, msgWord, kindM, setTag, h]
theorem fold_of {m : Msg} (h : msgMay m = true) : msgFold (kindM m.kind) (bodyF m) = some m := by
  have hk := kind9 (may_kd h)
  obtain ⟨k, run, a, b, nonce, box, more⟩ := m
  simp only at hk
  rcases hk with rfl | rfl | rfl | rfl | rfl | rfl | rfl | rfl | rfl
  all_goals
    simp [msgMay, tags, hasM, msgWord] at h
    simp [msgFold, bodyF, tags, hasM, msgWord, kindM, setTag, h]
theorem setTag_kind (m : Msg) (t w : Int) : (setTag m t w).kind = m.kind := by
  unfold setTag
  cases (t == 2) <;> cases (t == 3) <;> cases (t == 4) <;> cases (t == 5) <;> cases (t == 6) <;> cases (t == 7) <;> rfl
theorem fold_kind : ∀ (fs : List Field) (m m' : Msg), msgFold m fs = some m' → m'.kind = m.kind
  | [], m, m', h => by simp only [msgFold, Option.some.injEq] at h; rw [h]
  | f :: r, m, m', h => by
    rw [msgFold] at h
    cases c : f.data.length == 1 && hasM m.kind f.tag
    · rw [c] at h; cases h
    · rw [c] at h
      have := fold_kind r _ m' h
      rw [this, setTag_kind]
def seqStep (m : Msg) (t : Int) (ts : List Int) (fs : List Field) : Option Msg := match fs with
  | [] => none
  | f :: r => bif f.tag == t && f.data.length == 1 then msgSeq (setTag m t (f.data.getD 0 0)) ts r else none
theorem seq_yes {m : Msg} {t : Int} {ts : List Int} {fs : List Field} (h : hasM m.kind t = true) : msgSeq m (t :: ts) fs = seqStep m t ts fs := by cases fs <;> (rw [msgSeq.eq_def]; simp only [h, cond_true, seqStep])
theorem seq_no {m : Msg} {t : Int} {ts : List Int} {fs : List Field} (h : hasM m.kind t = false) : msgSeq m (t :: ts) fs = msgSeq m ts fs := by cases fs <;> (rw [msgSeq.eq_def]; simp only [h, cond_false])
theorem step_some {m m' : Msg} {t : Int} {ts : List Int} {fs : List Field} (h : seqStep m t ts fs = some m') : ∃ w r, fs = ⟨t, [w]⟩ :: r ∧ msgSeq (setTag m t w) ts r = some m' := by
  cases fs with
  | nil => cases h
  | cons f r =>
    simp only [seqStep] at h
    cases c : f.tag == t && f.data.length == 1
    · rw [c] at h; cases h
    · rw [c] at h
      rw [Bool.and_eq_true] at c
      obtain ⟨tg, dt⟩ := f
      have e1 : tg = t := by simpa using c.1
      have e2 := one_of c.2
      simp only at e2
      refine ⟨dt.getD 0 0, r, ?_, h⟩
      rw [e1, ← e2]
theorem seq_nil {m m' : Msg} {fs : List Field} (h : msgSeq m [] fs = some m') : fs = [] ∧ m' = m := by
  cases fs with
  | nil => rw [msgSeq] at h; exact ⟨rfl, (Option.some.inj h).symm⟩
  | cons f r => rw [msgSeq] at h; cases h
theorem seq_some {k : Int} (hk : 1 ≤ k ∧ k ≤ 9) {fs : List Field} {m : Msg} (h : msgSeq (kindM k) tags fs = some m) : fs = bodyF m ∧ m.kind = k ∧ msgMay m = true := by
  have key : ∀ (m0 : Msg) (t : Int) (ts : List Int) (fs : List Field), msgSeq m0 (t :: ts) fs = some m → (hasM m0.kind t = true ∧ ∃ w r, fs = ⟨t, [w]⟩ :: r ∧ msgSeq (setTag m0 t w) ts r = some m) ∨ (hasM m0.kind t = false ∧ msgSeq m0 ts fs = some m) := by
    intro m0 t ts fs h
    cases c : hasM m0.kind t
    · rw [seq_no c] at h; exact .inr ⟨rfl, h⟩
    · rw [seq_yes c] at h; exact .inl ⟨rfl, step_some h⟩
  rcases kind9 hk with rfl | rfl | rfl | rfl | rfl | rfl | rfl | rfl | rfl
  all_goals
    have q := key _ _ _ _ h
    clear h
    rcases q with ⟨c2, w2, r2, rfl, h⟩ | ⟨c2, h⟩ <;> first
      | (exfalso; revert c2; simp [kindM, hasM]; done)
      | skip
    all_goals
      have q := key _ _ _ _ h
      clear h
      rcases q with ⟨c3, w3, r3, rfl, h⟩ | ⟨c3, h⟩ <;> first
        | (exfalso; revert c3; simp [kindM, hasM, setTag_kind]; done)
        | skip
    all_goals
      have q := key _ _ _ _ h
      clear h
      rcases q with ⟨c4, w4, r4, rfl, h⟩ | ⟨c4, h⟩ <;> first
        | (exfalso; revert c4; simp [kindM, hasM, setTag_kind]; done)
        | skip
    all_goals
      have q := key _ _ _ _ h
      clear h
      rcases q with ⟨c5, w5, r5, rfl, h⟩ | ⟨c5, h⟩ <;> first
        | (exfalso; revert c5; simp [kindM, hasM, setTag_kind]; done)
        | skip
    all_goals
      have q := key _ _ _ _ h
      clear h
      rcases q with ⟨c6, w6, r6, rfl, h⟩ | ⟨c6, h⟩ <;> first
        | (exfalso; revert c6; simp [kindM, hasM, setTag_kind]; done)
        | skip
    all_goals
      have q := key _ _ _ _ h
      clear h
      rcases q with ⟨c7, w7, r7, rfl, h⟩ | ⟨c7, h⟩ <;> first
        | (exfalso; revert c7; simp [kindM, hasM, setTag_kind]; done)
        | skip
    all_goals
      obtain ⟨rfl, rfl⟩ := seq_nil h
      simp [bodyF, tags, hasM, msgWord, kindM, setTag, msgMay]
theorem headK_cons (t x : Int) (fs : List Field) : headK (⟨t, [x]⟩ :: fs) = x := rfl
theorem head_form {f : List Field} (h : headOk f = true) : ∃ fs, f = ⟨1, [headK f]⟩ :: fs ∧ 1 ≤ headK f ∧ headK f ≤ 9 := by
  cases f with
  | nil => cases h
  | cons g r =>
    simp only [headOk, Bool.and_eq_true, decide_eq_true_eq, beq_iff_eq] at h
    obtain ⟨h1, h2, h3, h4⟩ := h
    obtain ⟨tg, dt⟩ := g
    have e2 := one_of (l := dt) (by simpa using h2)
    simp only at h1 h3 h4
    subst h1
    exact ⟨r, by show _ = (⟨1, [dt.getD 0 0]⟩ : Field) :: r; rw [← e2], h3, h4⟩
theorem field_one {t w : Int} (h : 1 ≤ t ∧ t ≤ 255) : fieldOk ⟨t, [w]⟩ := ⟨h.1, h.2, by simp⟩
theorem tags_ok {t : Int} (h : t ∈ tags) : 1 ≤ t ∧ t ≤ 255 := by
  simp only [tags, List.mem_cons, List.not_mem_nil, or_false] at h; omega
theorem bodyF_ok (m : Msg) : (∀ x ∈ ((⟨1, [m.kind]⟩ : Field) :: bodyF m), fieldOk x) ∧ (bodyF m).length ≤ 6 := by
  constructor
  · intro x hx
    rcases List.mem_cons.1 hx with rfl | hx
    · exact field_one (by omega)
    · simp only [bodyF, List.mem_map, List.mem_filter] at hx
      obtain ⟨t, ⟨ht, _⟩, rfl⟩ := hx
      exact field_one (tags_ok ht)
  · simp only [bodyF, List.length_map]
    exact Nat.le_trans (List.length_filter_le _ _) (by decide)
theorem getF_msg (m : Msg) : getF (msgWs m) = (⟨1, [m.kind]⟩ :: bodyF m, 0) := by
  have h := bodyF_ok m
  have h2 := msgWs_len m
  rw [getF, decide_eq_false (by omega), cond_false, msgWs_flat]
  exact flat_fields _ 8 h.1 (by simp only [List.length_cons]; omega)
theorem msgGet_put {m : Msg} (h : msgMay m = true) : msgGet (msgWs m) = (m, 0) := by
  have hk := may_kd h
  rw [msgGet, getF_msg]
  have e : headOk ((⟨1, [m.kind]⟩ : Field) :: bodyF m) = true := by simp [headOk]; omega
  simp only [e, beq_self_eq_true, cond_true, headK_cons, List.tail_cons, seq_of h, orBad]
theorem msgGet_ok {l : List Int} {m : Msg} (hu : ∀ x ∈ l, U x) (h : msgGet l = (m, 0)) : msgMay m = true ∧ l = msgWs m := by
  rw [msgGet] at h
  cases c : ((getF l).2 == 0)
  · rw [c] at h
    simp only [cond_false, Prod.mk.injEq] at h
    rw [h.2] at c; cases c
  rw [c] at h
  simp only [cond_true] at h
  cases c2 : headOk (getF l).1
  · rw [c2] at h; cases h
  rw [c2] at h
  simp only [cond_true] at h
  obtain ⟨fs, e, h1, h2⟩ := head_form c2
  rw [e, List.tail_cons] at h
  simp only [headK_cons] at h h1 h2
  cases c3 : msgSeq (kindM (headK (getF l).1)) tags fs with
  | none => rw [c3] at h; cases h
  | some m' =>
    rw [c3] at h
    simp only [orBad, Prod.mk.injEq, and_true] at h
    subst h
    obtain ⟨s1, s2, s3⟩ := seq_some ⟨h1, h2⟩ c3
    have c' : getF l = ((getF l).1, 0) := Prod.ext rfl (by simpa using c)
    unfold getF at c'
    cases c4 : decide ((l.length : Int) > 64)
    · rw [c4, cond_false] at c'
      obtain ⟨g1, g2, g3⟩ := fields_flat 8 l _ hu c'
      have : (fieldsM 8 l).1 = (getF l).1 := by rw [getF, c4, cond_false]
      rw [this] at g1
      exact ⟨s3, by rw [msgWs_flat, ← g1, e, s1, s2]⟩
    · rw [c4, cond_true] at c'
      cases c'
theorem msgGet_eq {l : List Int} (hu : ∀ x ∈ l, U x) : msgGetR l = msgGet l := by
  have key := @msgGet_ok l
  rw [msgGetR]
  rw [msgGet] at key ⊢
  cases c : ((getF l).2 == 0)
  · rfl
  rw [c] at key
  simp only [cond_true] at key ⊢
  cases c2 : headOk (getF l).1
  · rfl
  rw [c2] at key
  simp only [cond_true] at key ⊢
  obtain ⟨fs, e, h1, h2⟩ := head_form c2
  cases c3 : msgSeq (kindM (headK (getF l).1)) tags (getF l).1.tail with
  | some m =>
    rw [c3] at key
    obtain ⟨k1, k2⟩ := key hu rfl
    rw [e, List.tail_cons] at c3
    simp only [headK_cons] at c3 h1 h2
    obtain ⟨s1, s2, s3⟩ := seq_some ⟨h1, h2⟩ c3
    have hf := fold_of k1
    rw [← s1, s2] at hf
    rw [e, List.tail_cons]
    simp only [headK_cons, hf]
    have hp : (msgPut m).1 = l := by rw [msgPut, k1]; exact k2.symm
    rw [decide_eq_true hp]; rfl
  | none =>
    cases c4 : msgFold (kindM (headK (getF l).1)) (getF l).1.tail with
    | none => rfl
    | some m =>
      simp only
      cases c5 : decide ((msgPut m).1 = l)
      · rfl
      · exfalso
        have hp := of_decide_eq_true c5
        have hk : m.kind = headK (getF l).1 := fold_kind _ _ _ c4
        have hm : msgMay m = true := by
          cases hm : msgMay m
          · rw [msgPut, hm] at hp
            simp only [cond_false] at hp
            subst hp
            have : headOk (getF []).1 = false := rfl
            rw [this] at c2; cases c2
          · rfl
        rw [msgPut, hm] at hp
        simp only [cond_true] at hp
        subst hp
        rw [getF_msg] at c3
        simp only [headK_cons, List.tail_cons, seq_of hm] at c3
        cases c3
end Ch

/- Frames read, as the document does. -/
set_option maxRecDepth 100000
set_option maxHeartbeats 4000000
set_option linter.unusedSimpArgs false
set_option linter.unusedVariables false
namespace Ch
open Go Go.Ab
def extF (out : List Field) (r : List Field × Int) : List Field × Int := bif r.2 == 0 then (out ++ r.1, 0) else ([], r.2)
theorem fieldsM_nil (k : Nat) : fieldsM k [] = ([], 0) := by unfold fieldsM; rfl
theorem fieldsM_full {l : List Int} (h : l ≠ []) : fieldsM 0 l = ([], 3) := by
  unfold fieldsM
  cases l with
  | nil => exact absurd rfl h
  | cons a l => rfl
theorem fieldsM_bad {k : Nat} {l : List Int} (h : l ≠ []) (hb : fieldBad l = true) : fieldsM (k + 1) l = ([], 2) := by
  unfold fieldsM
  cases l with
  | nil => exact absurd rfl h
  | cons a l => simp only [List.isEmpty_cons, cond_false, hb, cond_true]
theorem fieldsM_good {k : Nat} {l : List Int} (h : l ≠ []) (hb : fieldBad l = false) : fieldsM (k + 1) l = extF [⟨l.getD 0 0, (l.drop 2).take (l.getD 1 0).toNat⟩] (fieldsM k (l.drop (2 + (l.getD 1 0).toNat))) := by
  conv => lhs; unfold fieldsM
  cases l with
  | nil => exact absurd rfl h
  | cons a l => simp only [List.isEmpty_cons, cond_false, hb]; rfl
theorem fieldsM_err (k : Nat) (l : List Int) (h : ((fieldsM k l).2 == 0) = false) : (fieldsM k l).1 = [] := by
  cases l with
  | nil => rw [fieldsM_nil] at h; cases h
  | cons a l =>
    cases k with
    | zero => rw [fieldsM_full (List.cons_ne_nil _ _)]
    | succ k =>
      cases c : fieldBad (a :: l) with
      | true => rw [fieldsM_bad (List.cons_ne_nil _ _) c]
      | false =>
        rw [fieldsM_good (List.cons_ne_nil _ _) c, extF] at h ⊢
        revert h
        cases (fieldsM k (List.drop (2 + ((a :: l).getD 1 0).toNat) (a :: l))).2 == 0
        · intro _; rfl
        · intro h; cases h
theorem extF_nil (k : Nat) (l : List Int) : extF [] (fieldsM k l) = fieldsM k l := by
  unfold extF
  cases c : ((fieldsM k l).2 == 0)
  · exact Prod.ext (fieldsM_err k l c).symm rfl
  · exact Prod.ext (List.nil_append _) (by have : (fieldsM k l).2 = 0 := by simpa using c
                                           exact this.symm)
theorem extF_ext (a b : List Field) (r : List Field × Int) : extF a (extF b r) = extF (a ++ b) r := by
  unfold extF
  cases c : (r.2 == 0)
  · simp only [cond_false, c]
  · simp only [cond_true, beq_self_eq_true, List.append_assoc]
theorem slc_ok2 {α : Type} {f : α → V} {l : List α} {a b sz : Nat} (h : a ≤ b) (hb : b ≤ l.length) (hf : ∀ a, lenE' sz (f a) = true) : (slcB (l.map f).length (some a) (some b) none && (l.map f).all (lenE' sz)) = true := by
  simp [slcB, h, hb, hf]
theorem sub_map {α : Type} {f : α → V} (l : List α) (a n : Nat) : ((l.map f).take (a + n)).drop a = ((l.drop a).take n).map f := by
  rw [List.map_take, List.map_drop, List.drop_take, Nat.add_sub_cancel_left]
theorem drop_ne {l : List Int} {i : Nat} (h : i < l.length) : l.drop i ≠ [] := by
  rw [List.drop_eq_getElem_cons h]; exact List.cons_ne_nil _ _
theorem drop_0 {l : List Int} {i : Nat} (h : i < l.length) : (l.drop i).getD 0 0 = l[i] := by rw [List.drop_eq_getElem_cons h]; rfl
theorem drop_1 {l : List Int} {i : Nat} (h : i + 1 < l.length) : (l.drop i).getD 1 0 = l[i + 1] := by rw [List.drop_eq_getElem_cons (by omega), List.drop_eq_getElem_cons h]; rfl
theorem rGet02_spec (l : List Int) (hu : ∀ x ∈ l, U x) (hl : l.length ≤ 1099511627776) : Spec PP GG 93 [wordsV l] (.tup [fieldsV (getF l).1, i64 (getF l).2]) [] := by
  refine Spec.of_runs Go.Proofs.Tryz.f93 Go.Proofs.Tryz.func93 rfl ?_
  intro w0 M0
  simp only [Go.Proofs.Tryz.f93, List.replicate, List.cons_append, List.nil_append, z, seval]
  cases c0 : decide ((l.length : Int) > 64) with
  | true =>
    simp only [c0, z, seval]
    (refine FINS_done ?_; simp only [z, seval])
    simp only [getF, c0, cond_true, List.map_nil]
  | false =>
  have hg : getF l = fieldsM 8 l := by simp only [getF, c0, cond_false]
  rw [hg]
  have h64 : l.length ≤ 64 := by have := of_decide_eq_false c0; omega
  simp only [c0, z, seval]
  (refine RUNs_row0 4 2 (h := ?_); simp only [z, seval])
  refine RUNs_rangeS (9) (fun i (s : Nat × List Field) => s.1 ≤ l.length ∧ s.2.length = i ∧ i ≤ 8 ∧ fieldsM 8 l = extF s.2 (fieldsM (8 - i) (l.drop s.1))) (fun i s => [(4, .row 0 i), (5, i64 s.1)]) (fun i s => [(0, .row 2 (s.2.map Field.v) i false)]) (0, []) ?_ (by simp only [z, seval]; exact wk) rfl ?_
  · refine ⟨Nat.zero_le _, rfl, Nat.zero_le _, ?_⟩
    exact (extF_nil 8 l).symm
  rintro ⟨i, ⟨at_, out⟩, hi9, hi, ho, hi8, hm⟩
  simp only at hi ho hi8 hm
  simp only [z, seval]
  first | refine brk (fun h => ?_) (fun h => ?_) | fail
  · have hlt : at_ < l.length := by have := of_decide_eq_true h; omega
    have hne := drop_ne hlt
    simp only [h, ho, z, seval]
    cases c1 : ((i : Int) == 8) with
    | true =>
      obtain rfl : i = 8 := by have : (i : Int) = 8 := by simpa using c1
                               omega
      simp only [c1, z, seval]
      (refine FINS_done ?_; simp only [z, seval])
      rw [hm, fieldsM_full hne]; rfl
    | false =>
    have hi7 : i < 8 := by have : (i : Int) ≠ 8 := by simpa using c1
                           omega
    obtain ⟨k, hk⟩ : ∃ k, 8 - i = k + 1 := ⟨7 - i, by omega⟩
    have hk2 : 8 - (i + 1) = k := by omega
    rw [hk] at hm
    simp only [c1, w64s (i := at_) (by omega), z, seval]
    cases c2 : decide (((at_ + 1 : Nat) : Int) ≥ l.length) with
    | true =>
      simp only [c2, z, seval]
      (refine FINS_done ?_; simp only [z, seval])
      rw [hm, fieldsM_bad hne (by have := of_decide_eq_true c2; simp only [fieldBad, List.length_drop]; rw [decide_eq_true (by omega)]; rfl)]; rfl
    | false =>
    have hlt1 : at_ + 1 < l.length := by have := of_decide_eq_false c2; omega
    have g0 := drop_0 hlt
    have g1 := drop_1 hlt1
    have u0 := hu _ (List.getElem_mem hlt)
    have u1 := hu _ (List.getElem_mem hlt1)
    generalize hx : l[at_] = x at g0 u0
    generalize hy : l[at_ + 1] = y at g1 u1
    have hgx : (l.map u32)[at_]? = some (u32 x) := by rw [getMap u32 l hlt, hx]
    have hgy : (l.map u32)[at_ + 1]? = some (u32 y) := by rw [getMap u32 l hlt1, hy]
    have hw1 : IntKind.i64.wrap ((at_ : Int) + 1) = ((at_ + 1 : Nat) : Int) := w64s (by omega)
    simp only [c2, hgx, hgy, hw1, z, seval]
    have hbad : (x = 0 ∨ x > 255 ∨ y > 16 ∨ (at_ : Int) + 2 + y > l.length) → fieldBad (l.drop at_) = true := by
      intro hb
      have := u0.1
      simp only [fieldBad, g0, g1, List.length_drop, Bool.or_eq_true, decide_eq_true_eq]
      omega
    refine brk (fun c3 => ?_) (fun c3 => ?_)
    rotate_left 1
    · simp only [c3, z, seval]
      (refine FINS_done ?_; simp only [z, seval])
      rw [hm, fieldsM_bad hne (hbad (.inl (by simpa using c3)))]; rfl
    simp only [c3, hgx, hgy, hw1, z, seval]
    refine brk (fun c4 => ?_) (fun c4 => ?_)
    rotate_left 1
    · simp only [c4, z, seval]
      (refine FINS_done ?_; simp only [z, seval])
      rw [hm, fieldsM_bad hne (hbad (.inr (.inl (of_decide_eq_true c4))))]; rfl
    simp only [c4, hgx, hgy, hw1, z, seval]
    refine brk (fun c5 => ?_) (fun c5 => ?_)
    rotate_left 1
    · simp only [c5, z, seval]
      (refine FINS_done ?_; simp only [z, seval])
      rw [hm, fieldsM_bad hne (hbad (.inr (.inr (.inl (of_decide_eq_true c5)))))]; rfl
    have hy16 := of_decide_eq_false c5
    obtain ⟨n, rfl⟩ := Int.eq_ofNat_of_zero_le u1.1
    have hw2 : IntKind.i64.wrap ((at_ : Int) + 2) = ((at_ + 2 : Nat) : Int) := by rw [w64 (by omega) (by omega)]; omega
    have hw3 : IntKind.i64.wrap (n : Int) = (n : Int) := w64 (by omega) (by omega)
    have hw4 : IntKind.i64.wrap (((at_ + 2 : Nat) : Int) + (n : Int)) = ((at_ + 2 + n : Nat) : Int) := by rw [w64 (by omega) (by omega)]; omega
    simp only [c5, hgx, hgy, hw1, hw2, hw3, hw4, z, seval]
    cases c6 : decide (((at_ + 2 + n : Nat) : Int) > l.length) with
    | true =>
      simp only [c6, z, seval]
      (refine FINS_done ?_; simp only [z, seval])
      rw [hm, fieldsM_bad hne (hbad (.inr (.inr (.inr (by have := of_decide_eq_true c6; omega)))))]; rfl
    | false =>
    have hle : at_ + 2 + n ≤ l.length := by have := of_decide_eq_false c6; omega
    simp only [c6, hgx, hgy, hw1, hw2, hw3, hw4, z, seval]
    (refine RUNs_draw 4 (by kernel_rfl) ?_; simp only [z, seval])
    simp only [hgx, hgy, hw1, hw2, hw3, hw4, z, seval]
    refine DOC_ok (by first | exact slc_ok2 (by omega) hle (fun a => rfl) | (rw [← List.length_map (f := u32)]; exact slc_ok2 (by omega) hle (fun a => rfl))) ?_
    have hsub : (l.take (at_ + 2 + n)).drop (at_ + 2) = ((l.drop at_).drop 2).take n := by rw [List.drop_take, Nat.add_sub_cancel_left, List.drop_drop]
    simp only [hsub, hgx, hgy, hw1, hw2, hw3, hw4, z, seval]
    have hlen : (((l.drop at_).drop 2).take n).length = n := by rw [List.length_take, List.length_drop, List.length_drop]; omega
    refine DOC_ok ?_ ?_
    · exact okMap _ (fun a => rfl) (by omega)
    simp only [z, seval]
    refine DOC_ok ?_ ?_
    · simp; omega
    simp only [z, seval]
    (refine ⟨by kernel_rfl, ?_⟩)
    simp only [hw2, hw4, z, seval]
    have hb : fieldBad (l.drop at_) = false := by
      have := u0.1
      simp only [fieldBad, g0, g1, List.length_drop, Bool.or_eq_false_iff, decide_eq_false_iff_not]
      have e3 : ¬ x = 0 := by simpa using c3
      have e4 := of_decide_eq_false c4
      omega
    have e : out.map Field.v ++ [Field.v ⟨x, ((l.drop at_).drop 2).take n⟩] = (out ++ [(⟨x, ((l.drop at_).drop 2).take n⟩ : Field)]).map Field.v := by simp
    simp only [mv] at e
    simp only [e, z, seval]
    have hlt9 : i < 9 := by omega
    (refine NX (at_ + 2 + n, out ++ [⟨x, ((l.drop at_).drop 2).take n⟩]) ?_ (by rfl) hlt9 ?_; simp only [z, seval]; exact wk)
    refine ⟨hle, by simp only [List.length_append, List.length_singleton, ho], by show i + 1 ≤ 8; omega, ?_⟩
    show fieldsM 8 l = extF (out ++ [⟨x, ((l.drop at_).drop 2).take n⟩]) (fieldsM (8 - (i + 1)) (l.drop (at_ + 2 + n)))
    rw [hm, fieldsM_good hne hb, g0, g1, Int.toNat_natCast, extF_ext, hk2]
    simp only [List.drop_drop, Nat.add_assoc]
  · have : at_ = l.length := by have := of_decide_eq_false h; omega
    subst this
    simp only [h, z, seval]
    (refine FINS_done ?_; simp only [z, seval])
    rw [hm, List.drop_length, fieldsM_nil, extF]
    simp
theorem rSame01_ne (a b : List Int) (ha : a.length ≤ 1099511627776) (hb : b.length ≤ 1099511627776) : Spec PP GG 42 [wordsV a, wordsV b] (.bool (decide (a = b))) [] := by
  refine Spec.of_runs Go.Proofs.Tryz.f42 Go.Proofs.Tryz.func42 rfl ?_
  intro w0 M0
  simp only [Go.Proofs.Tryz.f42, List.replicate, List.cons_append, List.nil_append, z, seval]
  cases c : ((a.length : Int) == b.length) with
  | false =>
    simp only [c, z, seval]
    (refine FINS_done ?_; simp only [z, seval])
    have : ¬ a = b := by rintro rfl; simp at c
    rw [decide_eq_false this]
  | true =>
  have hab : a.length = b.length := by have : (a.length : Int) = b.length := by simpa using c
                                       omega
  simp only [c, z, seval]
  refine RUNs_rangeS (a.length) (fun i (_ : Unit) => a.take i = b.take i) (fun i _ => [(5, i64 i)]) (fun i _ => []) () ?_ (by simp only [z, seval]; exact wk) rfl ?_
  · simp
  rintro ⟨i, _, hi, hw⟩
  simp only [z, seval]
  first | refine brk (fun h => ?_) (fun h => ?_) | fail
  · have hlt : i < a.length := by have := of_decide_eq_true h; omega
    have hlt2 : i < b.length := by omega
    simp only [h, z, seval]
    (refine RUNs_draw 0 (by kernel_rfl) ?_; simp only [z, seval])
    simp only [getMap u32 a hlt, getMap u32 b hlt2, z, seval]
    (refine ⟨by kernel_rfl, ?_⟩)
    cases d : (a[i] == b[i]) with
    | true =>
      simp only [d, w64s (i := i) (by omega), z, seval]
      (refine NX () ?_ (by rfl) hlt ?_; simp only [z, seval]; exact wk)
      rw [List.take_succ_eq_append_getElem hlt, List.take_succ_eq_append_getElem hlt2, hw]
      have : a[i] = b[i] := by simpa using d
      rw [this]
    | false =>
      simp only [d, z, seval]
      (refine FINS_done ?_; simp only [z, seval])
      have : ¬ a = b := by
        rintro rfl
        simp at d
      rw [decide_eq_false this]
  · have : i = a.length := by have := of_decide_eq_false h; omega
    subst this
    simp only [h, z, seval]
    (refine FINS_done ?_; simp only [z, seval])
    rw [List.take_length, hab, List.take_length] at hw
    rw [decide_eq_true hw]
theorem msgPut_len' (m : Msg) : (msgPut m).1.length ≤ 1099511627776 := by have := msgPut_len m; omega
theorem fold_step {m : Msg} {f : Field} {r : List Field} (h : (f.data.length == 1 && hasM m.kind f.tag) = true) : msgFold m (f :: r) = msgFold (setTag m f.tag (f.data.getD 0 0)) r := by rw [msgFold, h]; rfl
theorem fold_stop {m : Msg} {f : Field} {r : List Field} (h : (f.data.length == 1 && hasM m.kind f.tag) = false) : msgFold m (f :: r) = none := by rw [msgFold, h]; rfl
def endR (l : List Int) : Option Msg → Msg × Int
  | none => (zMsg, 2)
  | some m => bif decide ((msgPut m).1 = l) then (m, 0) else (zMsg, 2)
theorem setTag_ok {m : Msg} (h : m.ok) {w : Int} (hw : U w) (t : Int) : (setTag m t w).ok := by
  obtain ⟨h1, h2, h3, h4, h5, h6, h7⟩ := h
  unfold setTag
  cases (t == 2) <;> cases (t == 3) <;> cases (t == 4) <;> cases (t == 5) <;> cases (t == 6) <;> cases (t == 7) <;> exact ⟨by assumption, by assumption, by assumption, by assumption, by assumption, by assumption, by assumption⟩
theorem has_tag {k t : Int} (h : hasM k t = true) : t = 2 ∨ t = 3 ∨ t = 4 ∨ t = 5 ∨ t = 6 ∨ t = 7 := by
  revert h
  unfold hasM
  cases (k == 1) <;> cases (k == 2 || (k == 3 || (k == 4 || k == 5))) <;> cases (k == 6) <;> cases (k == 7) <;> cases (k == 8) <;> cases (k == 9) <;> simp <;> omega
theorem rGet03_spec (l : List Int) (hu : ∀ x ∈ l, U x) (hl : l.length ≤ 1099511627776) : Spec PP GG 36 [wordsV l] (.tup [(msgGet l).1.v, i64 (msgGet l).2]) [] := by
  have h1 := rGet02_spec l hu hl
  rw [← msgGet_eq hu, msgGetR]
  cases c1 : ((getF l).2 == 0) with
  | false =>
    refine Spec.of_runs Go.Proofs.Tryz.f36 Go.Proofs.Tryz.func36 rfl ?_
    intro w0 M0
    simp only [Go.Proofs.Tryz.f36, List.replicate, List.cons_append, List.nil_append, z, seval]
    (refine CU (h1) (h := ?_); simp only [z, seval])
    simp only [c1, z, seval]
    (refine FINS_done ?_; simp only [z, seval])
    rfl
  | true =>
  have hz : (getF l).2 = 0 := by simpa using c1
  rw [hz] at h1
  have hfl : (∀ x ∈ (getF l).1, ∀ y ∈ x.data, U y) ∧ (getF l).1.length ≤ 8 := by
    unfold getF at hz ⊢
    cases c3 : decide ((l.length : Int) > 64)
    · rw [c3, cond_false] at hz
      rw [cond_false]
      obtain ⟨f1, f2, f3⟩ := fields_flat 8 l (fieldsM 8 l).1 hu (Prod.ext rfl hz)
      exact ⟨fun x hx y hy => hu y (by rw [← f1]; simp only [flatAll, List.mem_flatMap]; exact ⟨x, hx, by simp [flatOne, hy]⟩), f3⟩
    · rw [c3] at hz; cases hz
  generalize hf : (getF l).1 = f at h1 hfl
  cases c2 : headOk f with
  | false =>
    refine Spec.of_runs Go.Proofs.Tryz.f36 Go.Proofs.Tryz.func36 rfl ?_
    intro w0 M0
    simp only [Go.Proofs.Tryz.f36, List.replicate, List.cons_append, List.nil_append, z, seval]
    (refine CU (h1) (h := ?_); simp only [z, seval])
    cases f with
    | nil =>
      simp only [List.map_nil, z, seval]
      (refine FINS_done ?_; simp only [z, seval])
      rfl
    | cons g fs =>
      have h0 : 0 < (g :: fs).length := by simp
      have hg : ((g :: fs).map Field.v)[0]? = some (Field.v g) := rfl
      simp only [mv] at hg
      have hlen : (((fs.length + 1 : Nat) : Int) == 0) = false := by simp; omega
      simp only [hlen, hg, z, seval]
      cases d1 : (g.tag == 1) with
      | false =>
        simp only [d1, z, seval]
        (refine FINS_done ?_; simp only [z, seval])
        rfl
      | true =>
      simp only [d1, hg, z, seval]
      cases d2 : ((g.data.length : Int) == 1) with
      | false =>
        simp only [d2, z, seval]
        (refine FINS_done ?_; simp only [z, seval])
        rfl
      | true =>
      have d2' : (g.data.length == 1) = true := by simp at d2 ⊢; omega
      have e0 := one_of d2'
      have hk : (g.data.map u32)[0]? = some (u32 (g.data.getD 0 0)) := by rw [e0]; rfl
      simp only [d2, hg, hk, z, seval]
      simp only [headOk, d1, d2', Bool.true_and, Bool.and_eq_false_iff, decide_eq_false_iff_not] at c2
      refine brk (fun d3 => ?_) (fun d3 => ?_)
      · simp only [d3, hg, hk, z, seval]
        have d4 : decide (g.data.getD 0 0 > 9) = true := by have := of_decide_eq_false d3; exact decide_eq_true (by omega)
        simp only [d4, z, seval]
        (refine FINS_done ?_; simp only [z, seval])
        rfl
      · simp only [d3, z, seval]
        (refine FINS_done ?_; simp only [z, seval])
        rfl
  | true =>
    obtain ⟨fs, e, k1, k2⟩ := head_form c2
    generalize hk : headK f = k at e k1 k2
    subst e
    clear c2
    have e1 : decide (k < 1) = false := decide_eq_false (by omega)
    have e2 : decide (k > 9) = false := decide_eq_false (by omega)
    have hlen : (((fs.length + 1 : Nat) : Int) == 0) = false := by simp; omega
    have hg : ((⟨1, [k]⟩ :: fs : List Field).map Field.v)[0]? = some (Field.v ⟨1, [k]⟩) := rfl
    simp only [mv] at hg
    simp only [headK_cons, List.tail_cons, cond_true]
    have kU : U k := hfl.1 _ (List.mem_cons_self) k (by simp)
    have hd : ∀ x ∈ fs, ∀ y ∈ x.data, U y := fun x hx => hfl.1 x (List.mem_cons_of_mem _ hx)
    have h8 : fs.length ≤ 8 := by have := hfl.2; simp only [List.length_cons] at this; omega
    suffices key : Spec PP GG 36 [wordsV l] (.tup [(endR l (msgFold (kindM k) fs)).1.v, i64 (endR l (msgFold (kindM k) fs)).2]) [] by
      cases hq : msgFold (kindM k) fs <;> rw [hq] at key <;> exact key
    clear hfl hf hz c1 hk
    refine Spec.of_runs Go.Proofs.Tryz.f36 Go.Proofs.Tryz.func36 rfl ?_
    intro w0 M0
    simp only [Go.Proofs.Tryz.f36, List.replicate, List.cons_append, List.nil_append, z, seval]
    (refine CU (h1) (h := ?_); simp only [z, seval])
    simp only [hlen, hg, e1, e2, List.map_cons, List.map_nil, z, seval]
    refine RUNs_rangeS (fs.length) (fun j (m : Msg) => msgFold (kindM k) fs = msgFold m (fs.drop j) ∧ m.kind = k ∧ m.ok) (fun j _ => [(7, i64 ((j + 1 : Nat) : Int))]) (fun _ m => [(1, .var [u32 m.kind, u32 m.run, u32 m.a, u32 m.b, u32 m.nonce, u32 m.box, u32 m.more])]) (kindM k) ?_ (by simp only [z, seval]; exact wk) rfl ?_
    · exact ⟨rfl, rfl, kU, U0, U0, U0, U0, U0, U0⟩
    rintro ⟨j, m, hj, hm, hmk, hmo⟩
    simp only [z, seval]
    cases c : decide (((j + 1 : Nat) : Int) < ((fs.length + 1 : Nat) : Int)) with
    | true =>
      have hlt : j < fs.length := by have := of_decide_eq_true c; omega
      have u0 := hd _ (List.getElem_mem hlt)
      have hdr : fs.drop j = fs[j] :: fs.drop (j + 1) := List.drop_eq_getElem_cons hlt
      rw [hdr] at hm
      have hgj := getMap Field.v fs hlt
      generalize fs[j] = g at hm hgj u0
      simp only [mv] at hgj
      have hH := rHas_spec m.kind g.tag
      simp only [c, z, seval]
      (refine RUNs_draw 0 (by kernel_rfl) ?_; simp only [z, seval])
      simp only [hgj, z, seval]
      cases d1 : ((g.data.length : Int) == 1) with
      | false =>
        have d1' : (g.data.length == 1) = false := by simp at d1 ⊢; omega
        simp only [d1, z, seval]
        (refine ⟨by kernel_rfl, ?_⟩)
        (refine FINS_done ?_; simp only [z, seval])
        simp only [hm, fold_stop (by rw [d1']; rfl), endR, zMsg, z, seval]
      | true =>
      have d1' : (g.data.length == 1) = true := by simp at d1 ⊢; omega
      have hk0 : (g.data.map u32)[0]? = some (u32 (g.data.getD 0 0)) := by rw [one_of d1']; rfl
      have u00 : U (g.data.getD 0 0) := u0 _ (by have := one_of d1'; rw [this]; simp)
      simp only [d1, hgj, z, seval]
      (refine DU (hH) (h := ?_); simp only [z, seval])
      (refine ⟨by kernel_rfl, ?_⟩)
      cases d2 : hasM m.kind g.tag with
      | false =>
        simp only [d2, z, seval]
        (refine FINS_done ?_; simp only [z, seval])
        simp only [hm, fold_stop (by rw [d2, Bool.and_false]), endR, zMsg, z, seval]
      | true =>
      rw [fold_step (by rw [d1', d2]; rfl)] at hm
      have hmo' := setTag_ok hmo u00 g.tag
      have hmk' := setTag_kind m g.tag (g.data.getD 0 0)
      simp only [d2, hgj, hk0, z, seval]
      have ht := has_tag d2
      generalize g.data.getD 0 0 = wd at *
      generalize g.tag = tg at *
      rcases ht with rfl | rfl | rfl | rfl | rfl | rfl
      all_goals
        simp only [w64s (i := j + 1) (by omega), z, seval]
        refine NX (setTag m _ wd) ?_ (by rfl) hlt ⟨hm, hmk'.trans hmk, hmo'⟩
        simp only [setTag, Int.reduceBEq, cond_true, cond_false, z, seval]
        exact wk
    | false =>
      have : j = fs.length := by have := of_decide_eq_false c; omega
      subst this
      rw [List.drop_length, msgFold] at hm
      have hP := rPut_spec m hmo
      have hS := rSame01_ne (msgPut m).1 l (msgPut_len' m) hl
      simp only [c, z, seval]
      (refine CU (hP) (h := ?_); simp only [z, seval])
      (refine CU (hS) (h := ?_); simp only [z, seval])
      cases d : decide ((msgPut m).1 = l) with
      | false =>
        simp only [d, z, seval]
        (refine FINS_done ?_; simp only [z, seval])
        simp only [hm, endR, d, cond_false, zMsg, z, seval]
      | true =>
        simp only [d, z, seval]
        (refine FINS_done ?_; simp only [z, seval])
        simp only [hm, endR, d, cond_true, z, seval]
end Ch

/- What the server is handed stays. -/
set_option maxRecDepth 100000
set_option maxHeartbeats 4000000
set_option linter.unusedSimpArgs false
set_option linter.unusedVariables false
namespace Ch
open Go Go.Ab
theorem Copied_spec (w : World) (hL : w.lim) : Spec PP GG 25 [w.v] w.v [] := by
  refine (Copied_H w hL).fz ?_
  simp only [cpV, cpH, cpCells, z, seval]
end Ch

/- The initiator with run identifiers, of whatever world. -/
set_option maxRecDepth 100000
set_option maxHeartbeats 4000000
set_option linter.unusedSimpArgs false
set_option linter.unusedVariables false
namespace Ch
open Go Go.Ab
namespace L17
def c0 : Conf := ⟨5, 2, 9, 4, 4, 9, 2⟩
def w0 : World := newWorld c0 [11, 12, 13, 14, 15, 16, 17] 2 2
def wa : World := (startO w0 1 2).1
def p0 : Part := ⟨2147483662, 0, 0, 0, 70, 0, 0⟩
def wx : World := (sealW wa (getP w0.people 1).key 9 p0).1
def m0 : Msg := ⟨9, 2147483661, 0, 0, 0, 2147483664, 0⟩
def m1 : Msg := ⟨9, 5, 0, 0, 0, 2147483664, 0⟩
def m2 : Msg := ⟨9, 2147483661, 0, 0, 0, 5, 0⟩
def wb : World := (shareO wx 1 m0).1
theorem w0_ok : w0.ok := ⟨by unfold Conf.ok; decide +kernel, ⟨by decide +kernel, by decide +kernel⟩, ⟨by decide +kernel, by decide +kernel⟩, ⟨by decide +kernel, by decide +kernel, ⟨by decide +kernel, fun l hl => by cases hl⟩⟩, by decide +kernel, ⟨by decide +kernel, fun l hl => by cases hl⟩, ⟨by decide +kernel, fun l hl => by
  have : l = [] := by
    have hl' : l ∈ List.replicate 2 ([] : List Int) := hl
    exact (List.mem_replicate.1 hl').2
  subst this; exact ⟨by decide, fun x hx => by cases hx⟩⟩, ⟨by decide +kernel, fun l hl => by cases hl⟩⟩
theorem w0_fit : w0.fit 21 := ⟨w0_ok, by decide +kernel, by decide +kernel, by decide +kernel, by decide +kernel, by decide +kernel, by decide +kernel, by decide +kernel, by decide +kernel, by decide +kernel, by decide +kernel, by decide +kernel, by decide +kernel, by decide +kernel, by decide +kernel, by decide +kernel, by decide +kernel, by decide +kernel, by decide +kernel⟩
theorem U1 : U 1 := by decide
theorem U2 : U 2 := by decide
theorem wa_fit : wa.fit 26 := startO_fit w0_fit (by decide) (by decide) U1 U2
theorem p0_ok : p0.ok := by unfold Part.ok; decide
theorem wx_fit : wx.fit 27 := fit_seal wa_fit (by decide) (by decide) (getP_ok w0_fit 1).2.1 (by decide) p0_ok
theorem wb_fit : wb.fit 28 := shareO_fit wx_fit (by decide) U1 m0
theorem g0 : startO w0 1 2 = (wa, 0) := by
  have : (startO w0 1 2).2 = 0 := by decide +kernel
  rw [← this]; rfl
theorem g1 : (startO w0 2 2).2 = 5 := by decide +kernel
theorem g2 : sealW wa (getP w0.people 1).key 9 p0 = (wx, 2147483664, 0) := by
  have : (sealW wa (getP w0.people 1).key 9 p0).2 = (2147483664, 0) := by decide +kernel
  rw [← this]; rfl
theorem g3 : shareO wx 1 m0 = (wb, 0) := by
  have : (shareO wx 1 m0).2 = 0 := by decide +kernel
  rw [← this]; rfl
theorem g4 : (shareO wx 1 m1).2 = 9 := by decide +kernel
theorem g5 : (shareO wx 1 m2).2 = 6 := by decide +kernel
theorem g6 : (shareO wb 1 m0).2 = 9 := by decide +kernel
theorem wb_log : ∃ e, wb.log = [e, ⟨4, 2, 1, 1, 2, 70, 0, 2147483661, 2147483662, 0⟩] := ⟨_, rfl⟩
theorem wa_g : ∃ ws, wa.net.grams = [⟨2, ws⟩] := ⟨_, rfl⟩
theorem r0 : Right10 w0.people = true := by decide +kernel
theorem rx : Right10 wx.people = true := by decide +kernel
theorem rb : Right10 wb.people = true := by decide +kernel
theorem l1 : 1 < w0.people.length := by decide +kernel
theorem k1 : (getP w0.people 1).key = (w0.people[1]'l1).key := by kernel_rfl
end L17
end Ch

/- The initiator with run identifiers: what comes of whatever it does. -/
set_option maxRecDepth 100000
set_option maxHeartbeats 4000000
set_option linter.unusedSimpArgs false
set_option linter.unusedVariables false
namespace Ch
open Go Go.Ab
def fitsK (w : World) (me : Int) (m : Msg) (kind : Int) : Bool := Few12 w && (Form12 w && (decide (me ≥ 1) && (decide (me < (w.people.length : Int)) && (m.kind == kind && msgMay m))))
end Ch

/- The responder with run identifiers, of whatever world. -/
set_option maxRecDepth 100000
set_option maxHeartbeats 4000000
set_option linter.unusedSimpArgs false
set_option linter.unusedVariables false
namespace Ch
open Go Go.Ab
namespace L18
def m0 : Msg := ⟨6, 5, 1, 2, 0, 77, 0⟩
def w0 : World := L17.w0
def wa : World := (firstB w0 2 m0).1
def p0 : Part := ⟨2147483661, 0, 0, 0, 70, 0, 0⟩
def wx : World := (sealW wa (getP w0.people 2).key 8 p0).1
def m1 : Msg := ⟨8, 5, 0, 0, 0, 78, 2147483663⟩
def m2 : Msg := ⟨8, 6, 0, 0, 0, 78, 2147483663⟩
def m3 : Msg := ⟨8, 5, 0, 0, 0, 2147483663, 78⟩
def wb : World := (shareB wx 2 m1).1
theorem m0_ok : m0.ok := by unfold Msg.ok; decide
theorem m1_ok : m1.ok := by unfold Msg.ok; decide
theorem m2_ok : m2.ok := by unfold Msg.ok; decide
theorem m3_ok : m3.ok := by unfold Msg.ok; decide
theorem U1 : U 1 := by decide
theorem U2 : U 2 := by decide
theorem w0_fit : w0.fit 21 := L17.w0_fit
theorem wa_fit : wa.fit 25 := firstB_fit w0_fit (by decide) (by decide) U2 m0_ok
theorem p0_ok : p0.ok := by unfold Part.ok; decide
theorem wx_fit : wx.fit 26 := fit_seal wa_fit (by decide) (by decide) (getP_ok w0_fit 2).2.1 (by decide) p0_ok
theorem g0 : firstB w0 2 m0 = (wa, 0) := by
  have : (firstB w0 2 m0).2 = 0 := by decide +kernel
  rw [← this]; rfl
theorem g1 : (firstB wa 2 m0).2 = 8 := by decide +kernel
theorem g2 : (firstB w0 1 m0).2 = 5 := by decide +kernel
theorem g3 : sealW wa (getP w0.people 2).key 8 p0 = (wx, 2147483663, 0) := by
  have : (sealW wa (getP w0.people 2).key 8 p0).2 = (2147483663, 0) := by decide +kernel
  rw [← this]; rfl
theorem g4 : shareB wx 2 m1 = (wb, 0) := by
  have : (shareB wx 2 m1).2 = 0 := by decide +kernel
  rw [← this]; rfl
theorem g5 : (shareB wx 2 m2).2 = 9 := by decide +kernel
theorem g6 : (shareB wx 2 m3).2 = 6 := by decide +kernel
theorem wb_log : ∃ e, wb.log = [e, ⟨4, 2, 2, 1, 2, 70, 0, 5, 2147483661, 0⟩] := ⟨_, rfl⟩
theorem wa_g : ∃ ws, wa.net.grams = [⟨0, ws⟩] := ⟨_, rfl⟩
theorem wb_g : ∃ g ws, wb.net.grams = [g, ⟨1, ws⟩] := ⟨_, _, rfl⟩
theorem r0 : Right10 w0.people = true := by decide +kernel
theorem ra : Right10 wa.people = true := by decide +kernel
theorem rx : Right10 wx.people = true := by decide +kernel
theorem l2 : 2 < w0.people.length := by decide +kernel
theorem k2 : (getP w0.people 2).key = (w0.people[2]'l2).key := by kernel_rfl
end L18
end Ch

/- The initiator with run identifiers: a commit. -/
set_option maxRecDepth 100000
set_option maxHeartbeats 4000000
set_option linter.unusedSimpArgs false
set_option linter.unusedVariables false
namespace Ch
open Go Go.Ab
theorem setMap9 {α : Type} (f : α → V) {l : List α} {i : Nat} (x : α) (h : i < l.length) : ((l.set i x).map f)[i]? = some (f x) := by simp [h]
theorem lastMap9 {α : Type} (f : α → V) (l : List α) (x : α) : ((l ++ [x]).map f)[l.length]? = some (f x) := by simp
theorem get_in9 {l : List Person} {n : Nat} (h : n < l.length) : getP l n = l[n] := by simp only [getP, List.getElem?_eq_getElem h, Option.getD_some]
theorem shareO_err {w : World} {me : Int} {m : Msg} (h : (shareO w me m).2 ≠ 0) : (shareO w me m).1 = w := by
  unfold shareO at h ⊢
  cases h1 : oI w me m with
  | none => rfl
  | some i =>
    rw [h1] at h
    cases h2 : ((oO w me m).2 && (oO w me m).1.n == (runAt (personW w me).runs i).mine)
    · simp only [h2, cond_false]
    · simp only [h2] at h; exact absurd rfl h
theorem shareO_ok {w : World} {me : Int} {m : Msg} (h : (shareO w me m).2 = 0) : ∃ i, oI w me m = some i ∧ (oO w me m).2 = true ∧ (oO w me m).1.n = (runAt (personW w me).runs i).mine ∧ shareO w me m = (oCom w me i (oO w me m).1.k, 0) := by
  unfold shareO at h ⊢
  cases h1 : oI w me m with
  | none => rw [h1] at h; cases h
  | some i =>
    rw [h1] at h
    cases h2 : ((oO w me m).2 && (oO w me m).1.n == (runAt (personW w me).runs i).mine)
    · simp only [h2] at h; cases h
    · simp only [h2, cond_true]
      rw [Bool.and_eq_true, beq_iff_eq] at h2
      exact ⟨i, rfl, h2.1, h2.2, rfl⟩
/-- the people behind a commit -/
theorem com_people {w : World} {me : Int} (hr : Right10 w.people = true) (hme : U me) (hin : me.toNat < w.people.length) (i : Nat) (r : Run) (e : Event) : (putP w (setRun (personW w me) i r) e).people = w.people.set me.toNat (setRun (personW w me) i r) := by
  have hn : (setRun (personW w me) i r).name = me := name_of hr hme hin
  show (setM w.people (setRun (personW w me) i r)).1 = _
  rw [setM, hn, decide_eq_true hin]; rfl
theorem shareO_keeps {w : World} {me : Int} (m : Msg) (hr : Right10 w.people = true) (hme : U me) {n : Nat} (hn : me = n) (hin : n < w.people.length) {i : Nat} (hi : i < (personW w me).runs.length) (hs : (runAt (personW w me).runs i).state ≠ 1) :
    ∃ h1 : n < (shareO w me m).1.people.length, (shareO w me m).1.people.length = w.people.length ∧ (shareO w me m).1.people[n].runs.length = (personW w me).runs.length ∧ ∃ h2 : i < (shareO w me m).1.people[n].runs.length, (shareO w me m).1.people[n].runs[i] = runAt (personW w me).runs i := by
  subst hn
  have hp : personW w (n : Int) = w.people[n] := get_in9 hin
  by_cases h : (shareO w n m).2 = 0
  · obtain ⟨j, h1, h2, h3, h4⟩ := shareO_ok h
    have hj := wait_run (show (personW w n).runs.findIdx? (waitM 2 1 m.run) = some j from h1)
    have hij : i ≠ j := by rintro rfl; exact hs hj.2.2.2.1
    have e : (shareO w n m).1.people = w.people.set n (setRun (personW w n) j (doneR (runAt (personW w n).runs j) (oO w n m).1.k)) := by
      rw [h4]; exact com_people hr hme hin j _ _
    have e2 : ∀ h1 : n < (shareO w n m).1.people.length, (shareO w n m).1.people[n] = setRun (personW w n) j (doneR (runAt (personW w n).runs j) (oO w n m).1.k) := by
      intro h1; simp only [e, List.getElem_set_self]
    have h5 : n < (shareO w n m).1.people.length := by rw [e, List.length_set]; exact hin
    refine ⟨h5, by rw [e, List.length_set], by rw [e2 h5]; simp only [setRun, List.length_set], by rw [e2 h5]; simp only [setRun, List.length_set]; exact hi, ?_⟩
    simp only [e2 h5, setRun, List.getElem_set, runAt_get hi]
    rw [if_neg (fun e => hij e.symm)]
  · have e := shareO_err h
    have e2 : ∀ h1 : n < (shareO w n m).1.people.length, (shareO w n m).1.people[n] = personW w n := by
      intro h1; simp only [e, hp]
    have h5 : n < (shareO w n m).1.people.length := by rw [e]; exact hin
    exact ⟨h5, by rw [e], by rw [e2 h5], by rw [e2 h5]; exact hi, by simp only [e2 h5, runAt_get hi]⟩
theorem set_back {l : List Person} {n : Nat} (h : n < l.length) (P : Person) : (l.set n P).set n l[n] = l := by
  rw [List.set_set, List.set_getElem_self]
end Ch

/- The responder with run identifiers: a commit. -/
set_option maxRecDepth 100000
set_option maxHeartbeats 4000000
set_option linter.unusedSimpArgs false
set_option linter.unusedVariables false
namespace Ch
open Go Go.Ab
theorem shareB_err {w : World} {me : Int} {m : Msg} (h : (shareB w me m).2 ≠ 0) : (shareB w me m).1 = w := by
  unfold shareB at h ⊢
  cases h1 : bI w me m with
  | none => rfl
  | some i =>
    rw [h1] at h
    cases h2 : ((bO w me m).2 && (bO w me m).1.n == (runAt (personW w me).runs i).mine)
    · simp only [h2, cond_false]
    · cases h3 : roomW w 0 1
      · simp only [h2, h3, cond_true, cond_false]
      · simp only [h2, h3] at h; exact absurd rfl h
def bM9 (m : Msg) : Msg := ⟨9, m.run, 0, 0, 0, m.box, 0⟩
theorem shareB_ok {w : World} {me : Int} {m : Msg} (h : (shareB w me m).2 = 0) : ∃ i, bI w me m = some i ∧ (bO w me m).2 = true ∧ (bO w me m).1.n = (runAt (personW w me).runs i).mine ∧ shareB w me m = (sendTo (bCom w me i (bO w me m).1.k) (runAt (personW w me).runs i).peer (bM9 m), 0) := by
  unfold shareB at h ⊢
  cases h1 : bI w me m with
  | none => rw [h1] at h; cases h
  | some i =>
    rw [h1] at h
    cases h2 : ((bO w me m).2 && (bO w me m).1.n == (runAt (personW w me).runs i).mine)
    · simp only [h2] at h; cases h
    · cases h3 : roomW w 0 1
      · simp only [h2, h3] at h; cases h
      · have hz := (send_to (bX_ok (me := me) (m := m) (i := i) (k := (bO w me m).1.k) (to := (runAt (personW w me).runs i).peer) h3)).1
        have hz' : bX w me m i (bO w me m).1.k = sendTo (bCom w me i (bO w me m).1.k) (runAt (personW w me).runs i).peer (bM9 m) := by rw [bX, hz]; rfl
        simp only [h2, h3, cond_true, hz']
        rw [Bool.and_eq_true, beq_iff_eq] at h2
        exact ⟨i, rfl, h2.1, h2.2, rfl⟩
theorem shareB_keeps {w : World} {me : Int} (m : Msg) (hr : Right10 w.people = true) (hme : U me) {n : Nat} (hn : me = n) (hin : n < w.people.length) {i : Nat} (hi : i < (personW w me).runs.length) (hs : (runAt (personW w me).runs i).state ≠ 1) :
    ∃ h1 : n < (shareB w me m).1.people.length, (shareB w me m).1.people.length = w.people.length ∧ (shareB w me m).1.people[n].runs.length = (personW w me).runs.length ∧ ∃ h2 : i < (shareB w me m).1.people[n].runs.length, (shareB w me m).1.people[n].runs[i] = runAt (personW w me).runs i := by
  subst hn
  have hp : personW w (n : Int) = w.people[n] := get_in9 hin
  by_cases h : (shareB w n m).2 = 0
  · obtain ⟨j, h1, h2, h3, h4⟩ := shareB_ok h
    have hj := wait_run (show (personW w n).runs.findIdx? (waitM 2 2 m.run) = some j from h1)
    have hij : i ≠ j := by rintro rfl; exact hs hj.2.2.2.1
    have e : (shareB w n m).1.people = w.people.set n (setRun (personW w n) j (doneR (runAt (personW w n).runs j) (bO w n m).1.k)) := by
      rw [h4]; exact com_people hr hme hin j (doneR (runAt (personW w n).runs j) (bO w n m).1.k) ⟨4, 2, 2, (runAt (personW w n).runs j).peer, n, (bO w n m).1.k, 0, (runAt (personW w n).runs j).m, (runAt (personW w n).runs j).mine, (personW w n).clock⟩
    have e2 : ∀ h1 : n < (shareB w n m).1.people.length, (shareB w n m).1.people[n] = setRun (personW w n) j (doneR (runAt (personW w n).runs j) (bO w n m).1.k) := by
      intro h1; simp only [e, List.getElem_set_self]
    have h5 : n < (shareB w n m).1.people.length := by rw [e, List.length_set]; exact hin
    refine ⟨h5, by rw [e, List.length_set], by rw [e2 h5]; simp only [setRun, List.length_set], by rw [e2 h5]; simp only [setRun, List.length_set]; exact hi, ?_⟩
    simp only [e2 h5, setRun, List.getElem_set, runAt_get hi]
    rw [if_neg (fun e => hij e.symm)]
  · have e := shareB_err h
    have e2 : ∀ h1 : n < (shareB w n m).1.people.length, (shareB w n m).1.people[n] = personW w n := by
      intro h1; simp only [e, hp]
    have h5 : n < (shareB w n m).1.people.length := by rw [e]; exact hin
    exact ⟨h5, by rw [e], by rw [e2 h5], by rw [e2 h5]; exact hi, by simp only [e2 h5, runAt_get hi]⟩
end Ch
