/- The initiator with run identifiers: the program's. -/
import Derived.Test.YtndoeofpdpfnjaaDoorW9
set_option maxRecDepth 100000
set_option maxHeartbeats 4000000
set_option linter.unusedSimpArgs false
set_option linter.unusedVariables false
namespace Ch
open Go Go.Ab
theorem wait_not {l : List Run} {proto role m : Int} {j : Nat} (h : isRun proto role 1 (runAt l j) = false) : waitM proto role m (runAt l j) = false := by rw [waitM, h]; rfl
theorem oWaits_spec (l : List Run) (m : Int) (hl : l.length ≤ 1000000000000) : Spec PP GG 101 [runsV l, u32 m] (.tup [i64 ((l.findIdx? (waitM 2 1 m)).getD 0 : Nat), .bool (l.findIdx? (waitM 2 1 m)).isSome]) [] := by
  refine Spec.of_runs Go.Proofs.Tryd.f101 Go.Proofs.Tryd.func101 rfl ?_
  intro w0 M0
  simp only [Go.Proofs.Tryd.f101, List.replicate, List.cons_append, List.nil_append, z, seval]
  refine RUNs_rangeS (l.length + 1) (fun j (f : Nat) => j ≤ f ∧ f ≤ l.length ∧ ∀ i, i < f → waitM 2 1 m (runAt l i) = false) (fun _ f => [(6, i64 f)]) (fun _ _ => []) 0 ?_ (by simp only [z, seval]; exact wk) rfl ?_
  · exact ⟨Nat.le_refl _, Nat.zero_le _, fun i hi => absurd hi (Nat.not_lt_zero _)⟩
  rintro ⟨j, f, hj, h1, h2, h3⟩
  have hN := pNext_spec l f 2 1 1 (by omega)
  simp only [z, seval]
  cases c : nextR l f (isRun 2 1 1) with
  | none =>
    rw [c] at hN
    have e : l.findIdx? (waitM 2 1 m) = none := first_none (fun i hi => by
      rcases Nat.lt_or_ge i f with h | h
      · exact h3 i h
      · exact wait_not (nextR_none c i h hi))
    rw [e]
    simp only [Option.isSome_none, Option.getD_none] at hN
    (refine CU (hN) (h := ?_); simp only [z, seval])
    (refine FINS_done ?_; simp only [z, seval])
    rfl
  | some i =>
    rw [c] at hN
    obtain ⟨n1, n2, n3, n4⟩ := nextR_some c
    have h4 : ∀ k, k < i → waitM 2 1 m (runAt l k) = false := fun k hk => by
      rcases Nat.lt_or_ge k f with h | h
      · exact h3 k h
      · exact wait_not (n4 k h hk)
    have hg := runAt_get n1
    (refine CU (hN) (h := ?_); simp only [z, seval])
    simp only [Option.isSome_some, Option.getD_some, getMap Run.v l n1, z, seval]
    cases d : (l[i].m == m) with
    | true =>
      have e : l.findIdx? (waitM 2 1 m) = some i := first_at n1 (by rw [waitM, n3, hg, d]; rfl) h4
      rw [e]
      simp only [d, z, seval]
      (refine FINS_done ?_; simp only [z, seval])
    | false =>
      simp only [d, w64s (i := i) (by omega), z, seval]
      have hlt : j < l.length + 1 := by omega
      (refine NX (i + 1) ?_ (by rfl) hlt ?_; simp only [z, seval]; exact wk)
      refine ⟨by show j + 1 ≤ i + 1; omega, n1, fun k hk => ?_⟩
      rcases Nat.lt_or_ge k i with h | h
      · exact h4 k h
      · obtain rfl : k = i := by omega
        rw [waitM, hg, d, Bool.and_false]
theorem oEvent_spec (kind : Int) (p : Person) (r : Run) : Spec PP GG 54 [i64 kind, p.v, r.v] (Event.v ⟨kind, 2, 1, p.name, r.peer, r.k, 0, r.m, r.mine, p.clock⟩) [] := by
  refine Spec.of_runs Go.Proofs.Tryd.f54 Go.Proofs.Tryd.func54 rfl ?_
  intro w0 M0
  simp only [Go.Proofs.Tryd.f54, List.replicate, List.cons_append, List.nil_append, z, seval]
  (refine FINS_done ?_; simp only [z, seval])
theorem StartO_spec (w : World) (a b : Int) {N : Nat} (hw : w.fit N) (h5 : 21 ≤ N) (hN : N ≤ 400000000000) (ha : U a) (hb : U b) (hr : Right10 w.people = true) : Spec PP GG 16 [w.v, u32 a, u32 b] (.tup [(startO w a b).1.v, i64 (startO w a b).2]) [] := by
  have hPa := person_spec w hw (by omega) a ha
  have hPr := pPair_spec w.people a b ha hb (by have := hw.people; omega)
  have hRm := room_spec' w hw (by omega) 1 1
  have hD1 := draw_spec w hw (by omega)
  have hD2 := draw_spec (drawW w).1 (fit_draw hw (by omega)) (by omega)
  have hS : Spec PP GG 52 _ (.tup [(oS w a b).1.v, u32 (oS w a b).2.1, i64 (oS w a b).2.2]) [] := seal_spec (drawW (drawW w).1).1 (fit_draw (fit_draw hw (by omega)) (by omega)) (by omega) (personW w a).key 6 ⟨(drawW (drawW w).1).2, (drawW w).2, a, b, 0, 0, 0⟩
  have hU : (personW w a).runs.length ≤ N := personW_runs hw a
  have hAd := pAdd_spec (personW w a).runs w.conf.runs (oRun w b) (by omega)
  have hW : Spec PP GG 48 [(oS w a b).1.v, Person.v ⟨(personW w a).name, (personW w a).key, (personW w a).clock, (personW w a).used, (personW w a).runs ++ [oRun w b], (personW w a).corrupt⟩] (withW (oS w a b).1 (oP w a b)).v [] := with_spec (oS w a b).1 (oS_fit hw h5 hN ha hb) (by omega) (oP w a b) (oP_ok hw hN hb).1
  have hL : Spec PP GG 47 _ (oY w a b).v [] := log_spec (withW (oS w a b).1 (oP w a b)) (oW_fit hw h5 hN ha hb) (by omega) (oEv w a b)
  have hSn := send_spec (oY w a b) (oY_fit hw h5 hN ha hb) (by omega) b (oMsg w a b) (oMsg_ok hw hN ha hb)
  rw [← oZ] at hSn
  have hE := oEvent_spec 1 ⟨(personW w a).name, (personW w a).key, (personW w a).clock, (personW w a).used, (personW w a).runs ++ [oRun w b], (personW w a).corrupt⟩ (oRun w b)
  have hnm := fun h => name_of hr ha h
  clear hw hr
  cases c1 : pairM w.people a b with
  | false =>
    rw [c1] at hPr
    have e : startO w a b = (w, 5) := by simp only [startO, c1, cond_false]
    rw [e]
    refine Spec.of_runs Go.Proofs.Tryd.f16 Go.Proofs.Tryd.func16 rfl ?_
    intro w0 M0
    simp only [Go.Proofs.Tryd.f16, List.replicate, List.cons_append, List.nil_append, z, seval]
    (refine CU (hPa) (h := ?_); simp only [z, seval])
    (refine CU (hPr) (h := ?_); simp only [z, seval])
    (refine FINS_done ?_; simp only [z, seval])
  | true =>
  rw [c1] at hPr
  rw [hnm (pair_in c1).2.2.2.1] at hW hE
  cases c2 : full w (personW w a) with
  | true =>
    have e : startO w a b = (w, 10) := by simp only [startO, c1, c2, cond_true, cond_false, Bool.not_true, Bool.false_and]
    rw [e]
    simp only [full] at c2
    refine Spec.of_runs Go.Proofs.Tryd.f16 Go.Proofs.Tryd.func16 rfl ?_
    intro w0 M0
    simp only [Go.Proofs.Tryd.f16, List.replicate, List.cons_append, List.nil_append, z, seval]
    (refine CU (hPa) (h := ?_); simp only [z, seval])
    (refine CU (hPr) (h := ?_); simp only [z, seval])
    simp only [c2, z, seval]
    (refine FINS_done ?_; simp only [z, seval])
  | false =>
  cases c3 : roomW w 1 1 with
  | false =>
    rw [c3] at hRm
    have e : startO w a b = (w, 10) := by simp only [startO, c1, c2, c3, cond_true, cond_false, Bool.not_false, Bool.true_and]
    rw [e]
    simp only [full] at c2
    refine Spec.of_runs Go.Proofs.Tryd.f16 Go.Proofs.Tryd.func16 rfl ?_
    intro w0 M0
    simp only [Go.Proofs.Tryd.f16, List.replicate, List.cons_append, List.nil_append, z, seval]
    (refine CU (hPa) (h := ?_); simp only [z, seval])
    (refine CU (hPr) (h := ?_); simp only [z, seval])
    simp only [c2, z, seval]
    (refine CU (hRm) (h := ?_); simp only [z, seval])
    (refine FINS_done ?_; simp only [z, seval])
  | true =>
  rw [c3] at hRm
  rw [oZ_ok c3] at hSn
  have e0 : startO w a b = (bif (oS w a b).2.2 == 0 then (oZ w a b, 0) else (w, (oS w a b).2.2)) := by simp only [startO, c1, c2, c3, cond_true, Bool.not_false, Bool.true_and]
  rw [e0]
  clear e0
  simp only [full] at c2
  have hadd : runsAdd (personW w a).runs w.conf.runs (oRun w b) = ((personW w a).runs ++ [oRun w b], 0) := by
    rw [runsAdd, c2]; rfl
  rw [hadd] at hAd
  refine Spec.of_runs Go.Proofs.Tryd.f16 Go.Proofs.Tryd.func16 rfl ?_
  intro w0 M0
  simp only [Go.Proofs.Tryd.f16, List.replicate, List.cons_append, List.nil_append, z, seval]
  (refine CU (hPa) (h := ?_); simp only [z, seval])
  (refine CU (hPr) (h := ?_); simp only [z, seval])
  simp only [c2, hnm (pair_in c1).2.2.2.1, z, seval]
  (refine CU (hRm) (h := ?_); simp only [z, seval])
  (refine CU (hD1) (h := ?_); simp only [z, seval])
  (refine CU (hD2) (h := ?_); simp only [z, seval])
  (refine CU (hS) (h := ?_); simp only [z, seval])
  cases c4 : ((oS w a b).2.2 == 0) with
  | false =>
    simp only [c4, z, seval]
    (refine FINS_done ?_; simp only [z, seval])
  | true =>
  simp only [c4, z, seval]
  (refine CU (hAd) (h := ?_); simp only [z, seval])
  (refine RUNs_draw 1 (by kernel_rfl) ?_; simp only [z, seval])
  (refine DU (hW) (h := ?_); simp only [z, seval])
  (refine DU (hE) (h := ?_); simp only [z, seval])
  (refine DU (hL) (h := ?_); simp only [z, seval])
  (refine ⟨by kernel_rfl, ?_⟩)
  (refine CU (hSn) (h := ?_); simp only [z, seval])
  (refine FINS_done ?_; simp only [z, seval])
theorem told9 {w : World} {key h : Int} (ho : (openW w key 9 h).2 = true) : (openW w key 9 h).1 = ⟨(openW w key 9 h).1.n, 0, 0, 0, (openW w key 9 h).1.k, 0, 0⟩ := by
  revert ho
  unfold openW
  cases hb : boxOpen w.box key 9 h with
  | none => intro ho; cases ho
  | some l =>
    simp only [partGet]
    cases (l.length == (partWs 9 zPart).length)
    · intro ho; exact absurd ho (by simp [label?])
    · intro _; rfl
theorem wait_run {l : List Run} {proto role m : Int} {i : Nat} (h : l.findIdx? (waitM proto role m) = some i) : i < l.length ∧ (runAt l i).proto = proto ∧ (runAt l i).role = role ∧ (runAt l i).state = 1 ∧ (runAt l i).m = m := by
  obtain ⟨h1, h2⟩ := find_runs h
  simp only [waitM, isRun, Bool.and_eq_true, beq_iff_eq] at h2
  exact ⟨h1, h2.1.1, h2.1.2.1, h2.1.2.2, h2.2⟩
theorem done_may {r : Run} {k : Int} (h1 : r.proto = 1 ∨ r.proto = 2) (h2 : r.role = 1 ∨ r.role = 2) : May09 (doneR r k) = true := by
  simp only [May09, doneR, Bool.and_eq_true, Bool.or_eq_true, beq_iff_eq]
  exact ⟨⟨h1, h2⟩, .inr trivial⟩
theorem ShareO_spec (w : World) (me : Int) (m : Msg) {N : Nat} (hw : w.fit N) (hN : N ≤ 400000000000) (hme : U me) (hr : Right10 w.people = true) : Spec PP GG 50 [w.v, u32 me, m.v] (.tup [(shareO w me m).1.v, i64 (shareO w me m).2]) [] := by
  have hP := person_spec w hw (by omega) me hme
  have hU : (personW w me).runs.length ≤ N := personW_runs hw me
  have hW := oWaits_spec (personW w me).runs m.run (by omega)
  have hO := open_spec w hw (by omega) (personW w me).key 9 m.box
  have hnm := fun h => name_of hr hme h
  cases c1 : oI w me m with
  | none =>
    have e : shareO w me m = (w, 9) := by simp only [shareO, c1]
    rw [e]
    rw [oI] at c1
    rw [c1] at hW
    simp only [Option.isSome_none, Option.getD_none] at hW
    clear hw hr
    refine Spec.of_runs Go.Proofs.Tryd.f50 Go.Proofs.Tryd.func50 rfl ?_
    intro w0 M0
    simp only [Go.Proofs.Tryd.f50, List.replicate, List.cons_append, List.nil_append, z, seval]
    (refine CU (hP) (h := ?_); simp only [z, seval])
    (refine CU (hW) (h := ?_); simp only [z, seval])
    (refine FINS_done ?_; simp only [z, seval])
  | some i =>
    have e : shareO w me m = bif (oO w me m).2 && (oO w me m).1.n == (runAt (personW w me).runs i).mine then (oCom w me i (oO w me m).1.k, 0) else (w, 6) := by simp only [shareO, c1]
    rw [e]
    have c1' : (personW w me).runs.findIdx? (waitM 2 1 m.run) = some i := c1
    obtain ⟨hi, r1, r2, r3, r4⟩ := wait_run c1'
    have hg := runAt_get hi
    have hin := hnm (has_runs hi)
    rw [c1'] at hW
    simp only [Option.isSome_some, Option.getD_some] at hW
    rw [← oO] at hO
    have hS := pSetR_spec (personW w me).runs i (doneR (runAt (personW w me).runs i) (oO w me m).1.k) hi (done_may (.inr r1) (.inl r2)) (by omega)
    have hwt := with_spec w hw (by omega) (setRun (personW w me) i (doneR (runAt (personW w me).runs i) (oO w me m).1.k)) (personW_ok hw me).1
    have hfit : (withW w (setRun (personW w me) i (doneR (runAt (personW w me).runs i) (oO w me m).1.k))).fit N := set_fit hw me i (doneR_ok (runAt_ok hw me i) (openW_ok hw _ _ _).2.2.2.2.1)
    have hL : Spec PP GG 47 _ (oCom w me i (oO w me m).1.k).v [] := log_spec _ hfit (by omega) ⟨4, 2, 1, me, (runAt (personW w me).runs i).peer, (oO w me m).1.k, 0, (runAt (personW w me).runs i).m, (runAt (personW w me).runs i).mine, (personW w me).clock⟩
    have hE := oEvent_spec 4 (setRun (personW w me) i (doneR (runAt (personW w me).runs i) (oO w me m).1.k)) (doneR (runAt (personW w me).runs i) (oO w me m).1.k)
    simp only [setRun, doneR, hin] at hS hwt hL hE
    have ht := @told9 w (personW w me).key m.box
    rw [← oO] at ht
    clear hw hr hfit
    simp only [hg] at *
    cases c2 : (oO w me m).2 with
    | false =>
      rw [c2] at hO
      simp only [Bool.false_and, cond_false]
      refine Spec.of_runs Go.Proofs.Tryd.f50 Go.Proofs.Tryd.func50 rfl ?_
      intro w0 M0
      simp only [Go.Proofs.Tryd.f50, List.replicate, List.cons_append, List.nil_append, z, seval]
      (refine CU (hP) (h := ?_); simp only [z, seval])
      (refine CU (hW) (h := ?_); simp only [z, seval])
      simp only [getMap Run.v (personW w me).runs hi, z, seval]
      (refine CU (hO) (h := ?_); simp only [z, seval])
      (refine FINS_done ?_; simp only [z, seval])
    | true =>
    rw [c2] at hO
    have ht := ht c2
    generalize hq : oO w me m = q at *
    obtain ⟨⟨qn, qm, qa, qb, qk, qt, qh⟩, q2⟩ := q
    simp only [Part.mk.injEq] at ht
    obtain ⟨-, rfl, rfl, rfl, -, rfl, rfl⟩ := ht
    simp only [Bool.true_and]
    cases c3 : (qn == (personW w me).runs[i].mine) with
    | false =>
      simp only [cond_false]
      refine Spec.of_runs Go.Proofs.Tryd.f50 Go.Proofs.Tryd.func50 rfl ?_
      intro w0 M0
      simp only [Go.Proofs.Tryd.f50, List.replicate, List.cons_append, List.nil_append, z, seval]
      (refine CU (hP) (h := ?_); simp only [z, seval])
      (refine CU (hW) (h := ?_); simp only [z, seval])
      simp only [getMap Run.v (personW w me).runs hi, z, seval]
      (refine CU (hO) (h := ?_); simp only [z, seval])
      simp only [c3, z, seval]
      (refine FINS_done ?_; simp only [z, seval])
    | true =>
      simp only [cond_true]
      refine Spec.of_runs Go.Proofs.Tryd.f50 Go.Proofs.Tryd.func50 rfl ?_
      intro w0 M0
      simp only [Go.Proofs.Tryd.f50, List.replicate, List.cons_append, List.nil_append, z, seval]
      (refine CU (hP) (h := ?_); simp only [z, seval])
      (refine CU (hW) (h := ?_); simp only [z, seval])
      simp only [getMap Run.v (personW w me).runs hi, z, seval]
      (refine CU (hO) (h := ?_); simp only [z, seval])
      simp only [c3, hin, z, seval]
      (refine CU (hS) (h := ?_); simp only [z, seval])
      (refine RUNs_draw 1 (by kernel_rfl) ?_; simp only [z, seval])
      (refine DU (hwt) (h := ?_); simp only [z, seval])
      (refine DU (hE) (h := ?_); simp only [z, seval])
      (refine DU (hL) (h := ?_); simp only [z, seval])
      (refine ⟨by kernel_rfl, ?_⟩)
      (refine FINS_done ?_; simp only [z, seval])
end Ch

/- The initiator with run identifiers: the document's share. -/
set_option maxRecDepth 100000
set_option maxHeartbeats 4000000
set_option linter.unusedSimpArgs false
set_option linter.unusedVariables false
namespace Ch
open Go Go.Ab
theorem findIdx_none_take {l : List Run} {q : Run → Bool} {i : Nat} (h : i < l.length) (h1 : ∀ j, j < i → q (runAt l j) = false) (h2 : q l[i] = false) : ∀ j, j < i + 1 → q (runAt l j) = false := by
  intro j hj
  rcases Nat.lt_or_ge j i with h3 | h3
  · exact h1 j h3
  · obtain rfl : j = i := by omega
    rw [runAt_get h]; exact h2
end Ch

/- Frames read: fields, and messages. -/
set_option maxRecDepth 100000
set_option maxHeartbeats 4000000
set_option linter.unusedSimpArgs false
set_option linter.unusedVariables false
namespace Ch
open Go Go.Ab
def fieldBad (l : List Int) : Bool := decide ((l.length : Int) < 2) || (decide (l.getD 0 0 < 1) || (decide (l.getD 0 0 > 255) || (decide (l.getD 1 0 > 16) || decide (l.getD 1 0 > (l.length : Int) - 2))))
def fieldsM : Nat → List Int → List Field × Int
  | k, l => bif l.isEmpty then ([], 0) else match k with
    | 0 => ([], 3)
    | k + 1 => bif fieldBad l then ([], 2) else
      (bif (fieldsM k (l.drop (2 + (l.getD 1 0).toNat))).2 == 0 then (⟨l.getD 0 0, (l.drop 2).take (l.getD 1 0).toNat⟩ :: (fieldsM k (l.drop (2 + (l.getD 1 0).toNat))).1, 0) else ([], (fieldsM k (l.drop (2 + (l.getD 1 0).toNat))).2))
def getF (l : List Int) : List Field × Int := bif decide ((l.length : Int) > 64) then ([], 3) else fieldsM 8 l
def setTag (m : Msg) (t w : Int) : Msg :=
  bif t == 2 then { m with run := w } else bif t == 3 then { m with a := w } else bif t == 4 then { m with b := w } else bif t == 5 then { m with nonce := w } else bif t == 6 then { m with box := w } else bif t == 7 then { m with more := w } else m
def kindM (k : Int) : Msg := ⟨k, 0, 0, 0, 0, 0, 0⟩
def headOk (f : List Field) : Bool := match f with
  | [] => false
  | g :: _ => g.tag == 1 && (g.data.length == 1 && (decide (g.data.getD 0 0 ≥ 1) && decide (g.data.getD 0 0 ≤ 9)))
def headK (f : List Field) : Int := match f with
  | [] => 0
  | g :: _ => g.data.getD 0 0
/-- as the program reads: tag by tag -/
def msgSeq (m : Msg) : List Int → List Field → Option Msg
  | [], [] => some m
  | [], _ :: _ => none
  | t :: ts, fs => bif hasM m.kind t then (match fs with
    | [] => none
    | f :: r => bif f.tag == t && f.data.length == 1 then msgSeq (setTag m t (f.data.getD 0 0)) ts r else none) else msgSeq m ts fs
/-- as the document reads: whatever there is, and put again -/
def msgFold (m : Msg) : List Field → Option Msg
  | [] => some m
  | f :: r => bif f.data.length == 1 && hasM m.kind f.tag then msgFold (setTag m f.tag (f.data.getD 0 0)) r else none
def orBad : Option Msg → Msg × Int
  | none => (zMsg, 2)
  | some m => (m, 0)
def msgGet (l : List Int) : Msg × Int := bif (getF l).2 == 0 then (bif headOk (getF l).1 then orBad (msgSeq (kindM (headK (getF l).1)) tags (getF l).1.tail) else (zMsg, 4)) else (zMsg, (getF l).2)
def msgGetR (l : List Int) : Msg × Int := bif (getF l).2 == 0 then (bif headOk (getF l).1 then (match msgFold (kindM (headK (getF l).1)) (getF l).1.tail with
    | none => (zMsg, 2)
    | some m => bif decide ((msgPut m).1 = l) then (m, 0) else (zMsg, 2)) else (zMsg, 4)) else (zMsg, (getF l).2)
/-! fields and their words -/
def flatOne (f : Field) : List Int := f.tag :: (f.data.length : Int) :: f.data
def flatAll (l : List Field) : List Int := l.flatMap flatOne
def fieldOk (f : Field) : Prop := 1 ≤ f.tag ∧ f.tag ≤ 255 ∧ f.data.length ≤ 16
theorem fields_flat : ∀ (k : Nat) (l : List Int) (f : List Field), (∀ x ∈ l, U x) → fieldsM k l = (f, 0) → flatAll f = l ∧ (∀ x ∈ f, fieldOk x) ∧ f.length ≤ k := by
  intro k
  induction k with
  | zero =>
    intro l f hu h
    unfold fieldsM at h
    cases l with
    | nil => cases h; exact ⟨rfl, fun x hx => (by cases hx), Nat.le_refl _⟩
    | cons a l => cases h
  | succ k ih =>
    intro l f hu h
    unfold fieldsM at h
    cases l with
    | nil => cases h; exact ⟨rfl, fun x hx => (by cases hx), Nat.zero_le _⟩
    | cons a l =>
      simp only [List.isEmpty_cons, cond_false] at h
      cases hb : fieldBad (a :: l) with
      | true => rw [hb] at h; cases h
      | false =>
        rw [hb] at h
        simp only [cond_false] at h
        cases he : ((fieldsM k ((a :: l).drop (2 + ((a :: l).getD 1 0).toNat))).2 == 0) with
        | false =>
          rw [he] at h
          simp only [cond_false, Prod.mk.injEq] at h
          rw [h.2] at he; cases he
        | true =>
          rw [he] at h
          simp only [cond_true, Prod.mk.injEq, and_true] at h
          simp only [fieldBad, Bool.or_eq_false_iff, decide_eq_false_iff_not] at hb
          obtain ⟨b1, b2, b3, b4, b5⟩ := hb
          cases l with
          | nil => simp at b1
          | cons b l =>
            have hn := hu b (by simp)
            simp only [List.getD_cons_zero, List.getD_cons_succ, List.length_cons] at b2 b3 b4 b5 h he
            obtain ⟨n, rfl⟩ := Int.eq_ofNat_of_zero_le hn.1
            simp only [Int.toNat_natCast] at h he
            have hd : (a :: (n : Int) :: l).drop (2 + n) = l.drop n := by rw [Nat.add_comm]; rfl
            rw [hd] at h he
            have hd2 : (a :: (n : Int) :: l).drop 2 = l := rfl
            rw [hd2] at h
            obtain ⟨i1, i2, i3⟩ := ih (l.drop n) _ (fun x hx => hu x (by have := List.mem_of_mem_drop hx; simp [this])) (Prod.ext rfl (by simpa using he))
            have hl : (l.take n).length = n := by rw [List.length_take]; omega
            subst h
            refine ⟨?_, ?_, ?_⟩
            · simp only [flatAll, List.flatMap_cons, flatOne, hl] at i1 ⊢
              rw [i1]
              simp only [List.cons_append, List.take_append_drop]
            · intro x hx
              rcases List.mem_cons.1 hx with rfl | hx
              · exact ⟨by simp only; omega, by simp only; omega, by simp only [hl]; omega⟩
              · exact i2 x hx
            · exact Nat.succ_le_succ i3
theorem flat_fields : ∀ (f : List Field) (k : Nat), (∀ x ∈ f, fieldOk x) → f.length ≤ k → fieldsM k (flatAll f) = (f, 0) := by
  intro f
  induction f with
  | nil => intro k _ _; unfold fieldsM; rfl
  | cons g f ih =>
    intro k hf hk
    cases k with
    | zero => simp at hk
    | succ k =>
      obtain ⟨g1, g2, g3⟩ := hf g (by simp)
      have e : flatAll (g :: f) = g.tag :: (g.data.length : Int) :: (g.data ++ flatAll f) := by simp [flatAll, flatOne]
      unfold fieldsM
      rw [e]
      have hb : fieldBad (g.tag :: (g.data.length : Int) :: (g.data ++ flatAll f)) = false := by
        simp only [fieldBad, Bool.or_eq_false_iff, decide_eq_false_iff_not, List.getD_cons_zero, List.getD_cons_succ, List.length_cons, List.length_append]
        exact ⟨by omega, by omega, by omega, by omega, by omega⟩
      have hd : (g.tag :: (g.data.length : Int) :: (g.data ++ flatAll f)).drop (2 + g.data.length) = flatAll f := by
        rw [Nat.add_comm]; show (g.data ++ flatAll f).drop g.data.length = _; rw [List.drop_left]
      have hd2 : (g.tag :: (g.data.length : Int) :: (g.data ++ flatAll f)).drop 2 = g.data ++ flatAll f := rfl
      simp only [List.isEmpty_cons, cond_false, hb, List.getD_cons_zero, List.getD_cons_succ, Int.toNat_natCast]
      rw [hd, hd2, ih k (fun x hx => hf x (by simp [hx])) (by simp at hk; omega), List.take_left]
      rfl
/-! messages and their fields -/
def bodyF (m : Msg) : List Field := (tags.filter (hasM m.kind)).map fun t => ⟨t, [msgWord m t]⟩
theorem may_kd {m : Msg} (h : msgMay m = true) : 1 ≤ m.kind ∧ m.kind ≤ 9 := by
  simp only [msgMay, Bool.and_eq_true, decide_eq_true_eq] at h; exact ⟨h.1, h.2.1⟩
theorem kind9 {k : Int} (h : 1 ≤ k ∧ k ≤ 9) : k = 1 ∨ k = 2 ∨ k = 3 ∨ k = 4 ∨ k = 5 ∨ k = 6 ∨ k = 7 ∨ k = 8 ∨ k = 9 := by omega
theorem msgWs_flat (m : Msg) : msgWs m = flatAll (⟨1, [m.kind]⟩ :: bodyF m) := by
  simp only [msgWs, flatAll, bodyF, List.flatMap_cons, flatOne, List.flatMap_map, tags]
  simp only [List.flatMap_nil, List.filter_cons, List.filter_nil]
  cases hasM m.kind 2 <;> cases hasM m.kind 3 <;> cases hasM m.kind 4 <;> cases hasM m.kind 5 <;> cases hasM m.kind 6 <;> cases hasM m.kind 7 <;> rfl
theorem one_of {l : List Int} (h : (l.length == 1) = true) : l = [l.getD 0 0] := by
  match l, h with
  | [x], _ => rfl
theorem seq_of {m : Msg} (h : msgMay m = true) : msgSeq (kindM m.kind) tags (bodyF m) = some m := by
  have hk := kind9 (may_kd h)
  obtain ⟨k, run, a, b, nonce, box, more⟩ := m
  simp only at hk
  rcases hk with rfl | rfl | rfl | rfl | rfl | rfl | rfl | rfl | rfl
  all_goals
    simp [msgMay, tags, hasM, msgWord] at h
    simp [msgSeq, bodyF, tags, hasM, msgWord, kindM, setTag, h]
theorem fold_of {m : Msg} (h : msgMay m = true) : msgFold (kindM m.kind) (bodyF m) = some m := by
  have hk := kind9 (may_kd h)
  obtain ⟨k, run, a, b, nonce, box, more⟩ := m
  simp only at hk
  rcases hk with rfl | rfl | rfl | rfl | rfl | rfl | rfl | rfl | rfl
  all_goals
    simp [msgMay, tags, hasM, msgWord] at h
    simp [msgFold, bodyF, tags, hasM, msgWord, kindM, setTag, h]
theorem setTag_kind (m : Msg) (t w : Int) : (setTag m t w).kind = m.kind := by
  unfold setTag
  cases (t == 2) <;> cases (t == 3) <;> cases (t == 4) <;> cases (t == 5) <;> cases (t == 6) <;> cases (t == 7) <;> rfl
theorem fold_kind : ∀ (fs : List Field) (m m' : Msg), msgFold m fs = some m' → m'.kind = m.kind
  | [], m, m', h => by simp only [msgFold, Option.some.injEq] at h; rw [h]
  | f :: r, m, m', h => by
    rw [msgFold] at h
    cases c : f.data.length == 1 && hasM m.kind f.tag
    · rw [c] at h; cases h
    · rw [c] at h
      have := fold_kind r _ m' h
      rw [this, setTag_kind]
def seqStep (m : Msg) (t : Int) (ts : List Int) (fs : List Field) : Option Msg := match fs with
  | [] => none
  | f :: r => bif f.tag == t && f.data.length == 1 then msgSeq (setTag m t (f.data.getD 0 0)) ts r else none
theorem seq_yes {m : Msg} {t : Int} {ts : List Int} {fs : List Field} (h : hasM m.kind t = true) : msgSeq m (t :: ts) fs = seqStep m t ts fs := by cases fs <;> (rw [msgSeq.eq_def]; simp only [h, cond_true, seqStep])
theorem seq_no {m : Msg} {t : Int} {ts : List Int} {fs : List Field} (h : hasM m.kind t = false) : msgSeq m (t :: ts) fs = msgSeq m ts fs := by cases fs <;> (rw [msgSeq.eq_def]; simp only [h, cond_false])
theorem step_some {m m' : Msg} {t : Int} {ts : List Int} {fs : List Field} (h : seqStep m t ts fs = some m') : ∃ w r, fs = ⟨t, [w]⟩ :: r ∧ msgSeq (setTag m t w) ts r = some m' := by
  cases fs with
  | nil => cases h
  | cons f r =>
    simp only [seqStep] at h
    cases c : f.tag == t && f.data.length == 1
    · rw [c] at h; cases h
    · rw [c] at h
      rw [Bool.and_eq_true] at c
      obtain ⟨tg, dt⟩ := f
      have e1 : tg = t := by simpa using c.1
      have e2 := one_of c.2
      simp only at e2
      refine ⟨dt.getD 0 0, r, ?_, h⟩
      rw [e1, ← e2]
theorem seq_nil {m m' : Msg} {fs : List Field} (h : msgSeq m [] fs = some m') : fs = [] ∧ m' = m := by
  cases fs with
  | nil => rw [msgSeq] at h; exact ⟨rfl, (Option.some.inj h).symm⟩
  | cons f r => rw [msgSeq] at h; cases h
theorem seq_some {k : Int} (hk : 1 ≤ k ∧ k ≤ 9) {fs : List Field} {m : Msg} (h : msgSeq (kindM k) tags fs = some m) : fs = bodyF m ∧ m.kind = k ∧ msgMay m = true := by
  have key : ∀ (m0 : Msg) (t : Int) (ts : List Int) (fs : List Field), msgSeq m0 (t :: ts) fs = some m → (hasM m0.kind t = true ∧ ∃ w r, fs = ⟨t, [w]⟩ :: r ∧ msgSeq (setTag m0 t w) ts r = some m) ∨ (hasM m0.kind t = false ∧ msgSeq m0 ts fs = some m) := by
    intro m0 t ts fs h
    cases c : hasM m0.kind t
    · rw [seq_no c] at h; exact .inr ⟨rfl, h⟩
    · rw [seq_yes c] at h; exact .inl ⟨rfl, step_some h⟩
  rcases kind9 hk with rfl | rfl | rfl | rfl | rfl | rfl | rfl | rfl | rfl
  all_goals
    have q := key _ _ _ _ h
    clear h
    rcases q with ⟨c2, w2, r2, rfl, h⟩ | ⟨c2, h⟩ <;> first
      | (exfalso; revert c2; simp [kindM, hasM]; done)
      | skip
    all_goals
      have q := key _ _ _ _ h
      clear h
      rcases q with ⟨c3, w3, r3, rfl, h⟩ | ⟨c3, h⟩ <;> first
        | (exfalso; revert c3; simp [kindM, hasM, setTag_kind]; done)
        | skip
    all_goals
      have q := key _ _ _ _ h
      clear h
      rcases q with ⟨c4, w4, r4, rfl, h⟩ | ⟨c4, h⟩ <;> first
        | (exfalso; revert c4; simp [kindM, hasM, setTag_kind]; done)
        | skip
    all_goals
      have q := key _ _ _ _ h
      clear h
      rcases q with ⟨c5, w5, r5, rfl, h⟩ | ⟨c5, h⟩ <;> first
        | (exfalso; revert c5; simp [kindM, hasM, setTag_kind]; done)
        | skip
    all_goals
      have q := key _ _ _ _ h
      clear h
      rcases q with ⟨c6, w6, r6, rfl, h⟩ | ⟨c6, h⟩ <;> first
        | (exfalso; revert c6; simp [kindM, hasM, setTag_kind]; done)
        | skip
    all_goals
      have q := key _ _ _ _ h
      clear h
      rcases q with ⟨c7, w7, r7, rfl, h⟩ | ⟨c7, h⟩ <;> first
        | (exfalso; revert c7; simp [kindM, hasM, setTag_kind]; done)
        | skip
    all_goals
      obtain ⟨rfl, rfl⟩ := seq_nil h
      simp [bodyF, tags, hasM, msgWord, kindM, setTag, msgMay]
theorem headK_cons (t x : Int) (fs : List Field) : headK (⟨t, [x]⟩ :: fs) = x := rfl
theorem head_form {f : List Field} (h : headOk f = true) : ∃ fs, f = ⟨1, [headK f]⟩ :: fs ∧ 1 ≤ headK f ∧ headK f ≤ 9 := by
  cases f with
  | nil => cases h
  | cons g r =>
    simp only [headOk, Bool.and_eq_true, decide_eq_true_eq, beq_iff_eq] at h
    obtain ⟨h1, h2, h3, h4⟩ := h
    obtain ⟨tg, dt⟩ := g
    have e2 := one_of (l := dt) (by simpa using h2)
    simp only at h1 h3 h4
    subst h1
    exact ⟨r, by show _ = (⟨1, [dt.getD 0 0]⟩ : Field) :: r; rw [← e2], h3, h4⟩
theorem field_one {t w : Int} (h : 1 ≤ t ∧ t ≤ 255) : fieldOk ⟨t, [w]⟩ := ⟨h.1, h.2, by simp⟩
theorem tags_ok {t : Int} (h : t ∈ tags) : 1 ≤ t ∧ t ≤ 255 := by
  simp only [tags, List.mem_cons, List.not_mem_nil, or_false] at h; omega
theorem bodyF_ok (m : Msg) : (∀ x ∈ ((⟨1, [m.kind]⟩ : Field) :: bodyF m), fieldOk x) ∧ (bodyF m).length ≤ 6 := by
  constructor
  · intro x hx
    rcases List.mem_cons.1 hx with rfl | hx
    · exact field_one (by omega)
    · simp only [bodyF, List.mem_map, List.mem_filter] at hx
      obtain ⟨t, ⟨ht, _⟩, rfl⟩ := hx
      exact field_one (tags_ok ht)
  · simp only [bodyF, List.length_map]
    exact Nat.le_trans (List.length_filter_le _ _) (by decide)
theorem getF_msg (m : Msg) : getF (msgWs m) = (⟨1, [m.kind]⟩ :: bodyF m, 0) := by
  have h := bodyF_ok m
  have h2 := msgWs_len m
  rw [getF, decide_eq_false (by omega), cond_false, msgWs_flat]
  exact flat_fields _ 8 h.1 (by simp only [List.length_cons]; omega)
theorem msgGet_put {m : Msg} (h : msgMay m = true) : msgGet (msgWs m) = (m, 0) := by
  have hk := may_kd h
  rw [msgGet, getF_msg]
  have e : headOk ((⟨1, [m.kind]⟩ : Field) :: bodyF m) = true := by simp [headOk]; omega
  simp only [e, beq_self_eq_true, cond_true, headK_cons, List.tail_cons, seq_of h, orBad]
theorem msgGet_ok {l : List Int} {m : Msg} (hu : ∀ x ∈ l, U x) (h : msgGet l = (m, 0)) : msgMay m = true ∧ l = msgWs m := by
  rw [msgGet] at h
  cases c : ((getF l).2 == 0)
  · rw [c] at h
    simp only [cond_false, Prod.mk.injEq] at h
    rw [h.2] at c; cases c
  rw [c] at h
  simp only [cond_true] at h
  cases c2 : headOk (getF l).1
  · rw [c2] at h; cases h
  rw [c2] at h
  simp only [cond_true] at h
  obtain ⟨fs, e, h1, h2⟩ := head_form c2
  rw [e, List.tail_cons] at h
  simp only [headK_cons] at h h1 h2
  cases c3 : msgSeq (kindM (headK (getF l).1)) tags fs with
  | none => rw [c3] at h; cases h
  | some m' =>
    rw [c3] at h
    simp only [orBad, Prod.mk.injEq, and_true] at h
    subst h
    obtain ⟨s1, s2, s3⟩ := seq_some ⟨h1, h2⟩ c3
    have c' : getF l = ((getF l).1, 0) := Prod.ext rfl (by simpa using c)
    unfold getF at c'
    cases c4 : decide ((l.length : Int) > 64)
    · rw [c4, cond_false] at c'
      obtain ⟨g1, g2, g3⟩ := fields_flat 8 l _ hu c'
      have : (fieldsM 8 l).1 = (getF l).1 := by rw [getF, c4, cond_false]
      rw [this] at g1
      exact ⟨s3, by rw [msgWs_flat, ← g1, e, s1, s2]⟩
    · rw [c4, cond_true] at c'
      cases c'
theorem msgGet_eq {l : List Int} (hu : ∀ x ∈ l, U x) : msgGetR l = msgGet l := by
  have key := @msgGet_ok l
  rw [msgGetR]
  rw [msgGet] at key ⊢
  cases c : ((getF l).2 == 0)
  · rfl
  rw [c] at key
  simp only [cond_true] at key ⊢
  cases c2 : headOk (getF l).1
  · rfl
  rw [c2] at key
  simp only [cond_true] at key ⊢
  obtain ⟨fs, e, h1, h2⟩ := head_form c2
  cases c3 : msgSeq (kindM (headK (getF l).1)) tags (getF l).1.tail with
  | some m =>
    rw [c3] at key
    obtain ⟨k1, k2⟩ := key hu rfl
    rw [e, List.tail_cons] at c3
    simp only [headK_cons] at c3 h1 h2
    obtain ⟨s1, s2, s3⟩ := seq_some ⟨h1, h2⟩ c3
    have hf := fold_of k1
    rw [← s1, s2] at hf
    rw [e, List.tail_cons]
    simp only [headK_cons, hf]
    have hp : (msgPut m).1 = l := by rw [msgPut, k1]; exact k2.symm
    rw [decide_eq_true hp]; rfl
  | none =>
    cases c4 : msgFold (kindM (headK (getF l).1)) (getF l).1.tail with
    | none => rfl
    | some m =>
      simp only
      cases c5 : decide ((msgPut m).1 = l)
      · rfl
      · exfalso
        have hp := of_decide_eq_true c5
        have hk : m.kind = headK (getF l).1 := fold_kind _ _ _ c4
        have hm : msgMay m = true := by
          cases hm : msgMay m
          · rw [msgPut, hm] at hp
            simp only [cond_false] at hp
            subst hp
            have : headOk (getF []).1 = false := rfl
            rw [this] at c2; cases c2
          · rfl
        rw [msgPut, hm] at hp
        simp only [cond_true] at hp
        subst hp
        rw [getF_msg] at c3
        simp only [headK_cons, List.tail_cons, seq_of hm] at c3
        cases c3
end Ch

/- Frames read, as the document does. -/
set_option maxRecDepth 100000
set_option maxHeartbeats 4000000
set_option linter.unusedSimpArgs false
set_option linter.unusedVariables false
namespace Ch
open Go Go.Ab
def extF (out : List Field) (r : List Field × Int) : List Field × Int := bif r.2 == 0 then (out ++ r.1, 0) else ([], r.2)
theorem fieldsM_nil (k : Nat) : fieldsM k [] = ([], 0) := by unfold fieldsM; rfl
theorem fieldsM_full {l : List Int} (h : l ≠ []) : fieldsM 0 l = ([], 3) := by
  unfold fieldsM
  cases l with
  | nil => exact absurd rfl h
  | cons a l => rfl
theorem fieldsM_bad {k : Nat} {l : List Int} (h : l ≠ []) (hb : fieldBad l = true) : fieldsM (k + 1) l = ([], 2) := by
  unfold fieldsM
  cases l with
  | nil => exact absurd rfl h
  | cons a l => simp only [List.isEmpty_cons, cond_false, hb, cond_true]
theorem fieldsM_good {k : Nat} {l : List Int} (h : l ≠ []) (hb : fieldBad l = false) : fieldsM (k + 1) l = extF [⟨l.getD 0 0, (l.drop 2).take (l.getD 1 0).toNat⟩] (fieldsM k (l.drop (2 + (l.getD 1 0).toNat))) := by
  conv => lhs; unfold fieldsM
  cases l with
  | nil => exact absurd rfl h
  | cons a l => simp only [List.isEmpty_cons, cond_false, hb]; rfl
theorem fieldsM_err (k : Nat) (l : List Int) (h : ((fieldsM k l).2 == 0) = false) : (fieldsM k l).1 = [] := by
  cases l with
  | nil => rw [fieldsM_nil] at h; cases h
  | cons a l =>
    cases k with
    | zero => rw [fieldsM_full (List.cons_ne_nil _ _)]
    | succ k =>
      cases c : fieldBad (a :: l) with
      | true => rw [fieldsM_bad (List.cons_ne_nil _ _) c]
      | false =>
        rw [fieldsM_good (List.cons_ne_nil _ _) c, extF] at h ⊢
        revert h
        cases (fieldsM k (List.drop (2 + ((a :: l).getD 1 0).toNat) (a :: l))).2 == 0
        · intro _; rfl
        · intro h; cases h
theorem extF_nil (k : Nat) (l : List Int) : extF [] (fieldsM k l) = fieldsM k l := by
  unfold extF
  cases c : ((fieldsM k l).2 == 0)
  · exact Prod.ext (fieldsM_err k l c).symm rfl
  · exact Prod.ext (List.nil_append _) (by have : (fieldsM k l).2 = 0 := by simpa using c
                                           exact this.symm)
theorem extF_ext (a b : List Field) (r : List Field × Int) : extF a (extF b r) = extF (a ++ b) r := by
  unfold extF
  cases c : (r.2 == 0)
  · simp only [cond_false, c]
  · simp only [cond_true, beq_self_eq_true, List.append_assoc]
theorem slc_ok2 {α : Type} {f : α → V} {l : List α} {a b sz : Nat} (h : a ≤ b) (hb : b ≤ l.length) (hf : ∀ a, lenE' sz (f a) = true) : (slcB (l.map f).length (some a) (some b) none && (l.map f).all (lenE' sz)) = true := by
  simp [slcB, h, hb, hf]
theorem sub_map {α : Type} {f : α → V} (l : List α) (a n : Nat) : ((l.map f).take (a + n)).drop a = ((l.drop a).take n).map f := by
  rw [List.map_take, List.map_drop, List.drop_take, Nat.add_sub_cancel_left]
theorem drop_ne {l : List Int} {i : Nat} (h : i < l.length) : l.drop i ≠ [] := by
  rw [List.drop_eq_getElem_cons h]; exact List.cons_ne_nil _ _
theorem drop_0 {l : List Int} {i : Nat} (h : i < l.length) : (l.drop i).getD 0 0 = l[i] := by rw [List.drop_eq_getElem_cons h]; rfl
theorem drop_1 {l : List Int} {i : Nat} (h : i + 1 < l.length) : (l.drop i).getD 1 0 = l[i + 1] := by rw [List.drop_eq_getElem_cons (by omega), List.drop_eq_getElem_cons h]; rfl
end Ch

/- The initiator with run identifiers, of whatever world. -/
set_option maxRecDepth 100000
set_option maxHeartbeats 4000000
set_option linter.unusedSimpArgs false
set_option linter.unusedVariables false
namespace Ch
open Go Go.Ab
namespace L17
def c0 : Conf := ⟨5, 2, 9, 4, 4, 9, 2⟩
def w0 : World := newWorld c0 [11, 12, 13, 14, 15, 16, 17] 2 2
def wa : World := (startO w0 1 2).1
def p0 : Part := ⟨2147483662, 0, 0, 0, 70, 0, 0⟩
def wx : World := (sealW wa (getP w0.people 1).key 9 p0).1
def m0 : Msg := ⟨9, 2147483661, 0, 0, 0, 2147483664, 0⟩
def m1 : Msg := ⟨9, 5, 0, 0, 0, 2147483664, 0⟩
def m2 : Msg := ⟨9, 2147483661, 0, 0, 0, 5, 0⟩
def wb : World := (shareO wx 1 m0).1
theorem w0_ok : w0.ok := ⟨by unfold Conf.ok; decide +kernel, ⟨by decide +kernel, by decide +kernel⟩, ⟨by decide +kernel, by decide +kernel⟩, ⟨by decide +kernel, by decide +kernel, ⟨by decide +kernel, fun l hl => by cases hl⟩⟩, by decide +kernel, ⟨by decide +kernel, fun l hl => by cases hl⟩, ⟨by decide +kernel, fun l hl => by
  have : l = [] := by
    have hl' : l ∈ List.replicate 2 ([] : List Int) := hl
    exact (List.mem_replicate.1 hl').2
  subst this; exact ⟨by decide, fun x hx => by cases hx⟩⟩, ⟨by decide +kernel, fun l hl => by cases hl⟩⟩
theorem w0_fit : w0.fit 21 := ⟨w0_ok, by decide +kernel, by decide +kernel, by decide +kernel, by decide +kernel, by decide +kernel, by decide +kernel, by decide +kernel, by decide +kernel, by decide +kernel, by decide +kernel, by decide +kernel, by decide +kernel, by decide +kernel, by decide +kernel, by decide +kernel, by decide +kernel, by decide +kernel, by decide +kernel⟩
theorem U1 : U 1 := by decide
theorem U2 : U 2 := by decide
theorem wa_fit : wa.fit 26 := startO_fit w0_fit (by decide) (by decide) U1 U2
theorem p0_ok : p0.ok := by unfold Part.ok; decide
theorem wx_fit : wx.fit 27 := fit_seal wa_fit (by decide) (by decide) (getP_ok w0_fit 1).2.1 (by decide) p0_ok
theorem wb_fit : wb.fit 28 := shareO_fit wx_fit (by decide) U1 m0
theorem g0 : startO w0 1 2 = (wa, 0) := by
  have : (startO w0 1 2).2 = 0 := by decide +kernel
  rw [← this]; rfl
theorem g1 : (startO w0 2 2).2 = 5 := by decide +kernel
theorem g2 : sealW wa (getP w0.people 1).key 9 p0 = (wx, 2147483664, 0) := by
  have : (sealW wa (getP w0.people 1).key 9 p0).2 = (2147483664, 0) := by decide +kernel
  rw [← this]; rfl
theorem g3 : shareO wx 1 m0 = (wb, 0) := by
  have : (shareO wx 1 m0).2 = 0 := by decide +kernel
  rw [← this]; rfl
theorem g4 : (shareO wx 1 m1).2 = 9 := by decide +kernel
theorem g5 : (shareO wx 1 m2).2 = 6 := by decide +kernel
theorem g6 : (shareO wb 1 m0).2 = 9 := by decide +kernel
theorem wb_log : ∃ e, wb.log = [e, ⟨4, 2, 1, 1, 2, 70, 0, 2147483661, 2147483662, 0⟩] := ⟨_, rfl⟩
theorem wa_g : ∃ ws, wa.net.grams = [⟨2, ws⟩] := ⟨_, rfl⟩
theorem r0 : Right10 w0.people = true := by decide +kernel
theorem rx : Right10 wx.people = true := by decide +kernel
theorem rb : Right10 wb.people = true := by decide +kernel
theorem l1 : 1 < w0.people.length := by decide +kernel
theorem k1 : (getP w0.people 1).key = (w0.people[1]'l1).key := by kernel_rfl
theorem awake_spec : Spec PP GG 15 [] (.bool true) [] := by
  have hN : Spec PP GG 26 [c0.v, wordsV [11, 12, 13, 14, 15, 16, 17]] w0.v [] := New12_spec c0 2 2 (by decide) (by decide) rfl rfl [11, 12, 13, 14, 15, 16, 17]
  have hA := StartO_spec w0 1 2 w0_fit (by decide) (by decide) U1 U2 r0
  have hB := StartO_spec w0 2 2 w0_fit (by decide) (by decide) U2 U2 r0
  have hS := rSeal_spec wa wa_fit (by decide) (getP w0.people 1).key 9 p0
  have hC := ShareO_spec wx 1 m0 wx_fit (by decide) U1 rx
  have hD := ShareO_spec wx 1 m1 wx_fit (by decide) U1 rx
  have hE := ShareO_spec wx 1 m2 wx_fit (by decide) U1 rx
  have hF := ShareO_spec wb 1 m0 wb_fit (by decide) U1 rb
  rw [g0] at hA
  rw [g1] at hB
  rw [g2] at hS
  rw [g3] at hC
  rw [g4] at hD
  rw [g5] at hE
  rw [g6] at hF
  rw [k1] at hS
  simp only [p0] at hS
  simp only [m0] at hC hF
  simp only [m1] at hD
  simp only [m2] at hE
  obtain ⟨ws, hw⟩ := wa_g
  obtain ⟨e0, hl⟩ := wb_log
  refine Spec.of_runs Go.Proofs.Tryd.f15 Go.Proofs.Tryd.func15 rfl ?_
  intro w0 M0
  simp only [Go.Proofs.Tryd.f15, List.replicate, List.cons_append, List.nil_append, z, seval]
  (refine CU (hN) (h := ?_); simp only [z, seval])
  (refine CU (hA) (h := ?_); simp only [z, seval])
  (refine CU (hB) (h := ?_); simp only [z, seval])
  first | simp only [getMap Person.v L17.w0.people l1, z, seval] | ((refine RUNs_draw 1 (by kernel_rfl) ?_; simp only [z, seval]); simp only [getMap Person.v L17.w0.people l1, z, seval])
  first | (refine CU (hS) (h := ?_); simp only [z, seval]) | ((refine DU (hS) (h := ?_); simp only [z, seval]); (refine ⟨by kernel_rfl, ?_⟩))
  (refine CU (hC) (h := ?_); simp only [z, seval])
  (refine CU (hD) (h := ?_); simp only [z, seval])
  (refine CU (hE) (h := ?_); simp only [z, seval])
  (refine CU (hF) (h := ?_); simp only [z, seval])
  simp only [hl, hw, List.map_cons, List.map_nil, z, seval]
  (refine FINS_done ?_; simp only [z, seval])
end L17
end Ch

/- The initiator with run identifiers: what comes of whatever it does. -/
set_option maxRecDepth 100000
set_option maxHeartbeats 4000000
set_option linter.unusedSimpArgs false
set_option linter.unusedVariables false
namespace Ch
open Go Go.Ab
def fitsK (w : World) (me : Int) (m : Msg) (kind : Int) : Bool := Few12 w && (Form12 w && (decide (me ≥ 1) && (decide (me < (w.people.length : Int)) && (m.kind == kind && msgMay m))))
end Ch

/- The initiator with run identifiers: a run that was begun. -/
set_option maxRecDepth 100000
set_option maxHeartbeats 4000000
set_option linter.unusedSimpArgs false
set_option linter.unusedVariables false
namespace Ch
open Go Go.Ab
theorem lastMap' {α : Type} (f : α → V) (l : List α) (x : α) : ((l ++ [x]).map f)[l.length]? = some (f x) := by simp
theorem snocLen' {α : Type} (l : List α) (x : α) : (l ++ [x]).length = l.length + 1 := by simp
theorem setMap {α : Type} (f : α → V) {l : List α} {i : Nat} (x : α) (h : i < l.length) : ((l.set i x).map f)[i]? = some (f x) := by simp [h]
def oPart (w : World) (a b : Int) : Part := ⟨(drawW (drawW w).1).2, (drawW w).2, a, b, 0, 0, 0⟩
def oRow (w : World) (a b : Int) : Sld := sealRow (drawW (drawW w).1).1 (personW w a).key 6 (oPart w a b)
def oX (w : World) (a b : Int) : World := ⟨w.conf, ⟨w.draws.list, w.draws.next + 1 + 1 + 1⟩, ⟨w.box.room, w.box.rows ++ [oRow w a b]⟩, ⟨w.net.room, w.net.grams ++ [⟨b, msgWs (oMsg w a b)⟩], w.net.seen ++ [msgWs (oMsg w a b)]⟩, w.people.set a.toNat (oP w a b), w.log ++ [oEv w a b], w.regs, w.leaks⟩
theorem startO_err {w : World} {a b : Int} (h : (startO w a b).2 ≠ 0) : (startO w a b).1 = w := by
  unfold startO at h ⊢
  cases h1 : pairM w.people a b
  · rfl
  cases h2 : (!full w (personW w a) && roomW w 1 1)
  · rfl
  cases h3 : ((oS w a b).2.2 == 0)
  · rfl
  · rw [h1, h2, h3] at h; exact absurd rfl h
theorem startO_ok {w : World} {a b : Int} (hr : Right10 w.people = true) (ha : U a) (h : (startO w a b).2 = 0) : startO w a b = (oX w a b, 0) ∧ pairM w.people a b = true ∧ full w (personW w a) = false ∧ roomW w 1 1 = true ∧ (sealW (drawW (drawW w).1).1 (personW w a).key 6 (oPart w a b)).2.2 = 0 := by
  unfold startO at h ⊢
  cases h1 : pairM w.people a b
  · rw [h1] at h; cases h
  cases h2 : (!full w (personW w a) && roomW w 1 1)
  · rw [h1, h2] at h; cases h
  cases h3 : ((oS w a b).2.2 == 0)
  · rw [h1, h2, h3] at h
    simp only [cond_true, cond_false] at h
    rw [h] at h3; cases h3
  · simp only [Bool.and_eq_true, Bool.not_eq_true'] at h2
    have h3' : (sealW (drawW (drawW w).1).1 (personW w a).key 6 (oPart w a b)).2.2 = 0 := by (have h4 : (oS w a b).2.2 = 0 := by simpa using h3); exact h4
    refine ⟨?_, rfl, h2.1, h2.2, h3'⟩
    simp only [cond_true]
    obtain ⟨hin, _⟩ := (pair_in h1).2.2.2
    have hnm := name_of hr ha hin
    have hs : (oS w a b).1 = sealTo (drawW (drawW w).1).1 (personW w a).key 6 (oPart w a b) := by
      have := (seal_ok h3').1
      show (sealW (drawW (drawW w).1).1 (personW w a).key 6 (oPart w a b)).1 = _
      rw [this]
    have hz := send_to (oZ_ok (w := w) (a := a) (b := b) h2.2)
    have hset : (setM w.people (oP w a b)).1 = w.people.set a.toNat (oP w a b) := by
      have hn : (oP w a b).name = a := hnm
      rw [setM, hn, decide_eq_true hin]; rfl
    have : oZ w a b = oX w a b := by
      rw [oZ, hz.1, sendTo, oY, putP, logW, withW, hs]
      show World.mk _ _ _ _ _ _ _ _ = _
      simp only [sealTo, drawW, hset, oX, oRow]
    rw [this]
theorem open_box {v w : World} (h : v.box = w.box) (k l hh : Int) : openW v k l hh = openW w k l hh := by
  unfold openW; rw [h]
theorem oX_open {w : World} {a b : Int} (h : (sealW (drawW (drawW w).1).1 (personW w a).key 6 (oPart w a b)).2.2 = 0) (k l : Int) : openW (oX w a b) k l (drawW (drawW (drawW w).1).1).2 = bif (personW w a).key == k && 6 == l then (oPart w a b, true) else (zPart, false) := by
  rw [← open_new h k l]
  exact open_box rfl _ _ _
theorem oMsg_box {w : World} {a b : Int} (h : (sealW (drawW (drawW w).1).1 (personW w a).key 6 (oPart w a b)).2.2 = 0) : oMsg w a b = ⟨6, (drawW w).2, a, b, 0, (drawW (drawW (drawW w).1).1).2, 0⟩ := by
  have := (seal_ok h).1
  rw [oMsg]
  show Msg.mk 6 _ a b 0 (sealW (drawW (drawW w).1).1 (personW w a).key 6 (oPart w a b)).2.1 0 = _
  rw [this]
theorem seal_right {w : World} (h : Right07 w.box = true) (key label : Int) (p : Part) : Right07 (sealW w key label p).1.box = true := by
  unfold sealW
  cases ((partPut label p).2 == 0)
  · exact h
  · cases ((boxSeal w.box (drawW w).2 key label (partPut label p).1).2 == 0)
    · exact h
    · exact right_seal h _ _ _ _
theorem oX_right {w : World} {a b : Int} (hb : Right07 w.box = true) (h : (sealW (drawW (drawW w).1).1 (personW w a).key 6 (oPart w a b)).2.2 = 0) : Right07 (oX w a b).box = true := by
  have h1 := seal_right (w := (drawW (drawW w).1).1) hb (personW w a).key 6 (oPart w a b)
  rw [(seal_ok h).1] at h1
  exact h1
theorem has_not {m a b n h : Int} (hn : n ≥ 2147483648) (h1 : a < 10) (h2 : b < 10) (h3 : n ≠ m) (h4 : n ≠ h) : n ∉ msgWs ⟨6, m, a, b, 0, h, 0⟩ := by
  simp [msgWs, tags, hasM, msgWord]
  refine ⟨?_, ?_, ?_, ?_, ?_, ?_, ?_⟩ <;> omega
theorem get_in {l : List Person} {n : Nat} (h : n < l.length) : getP l n = l[n] := by simp only [getP, List.getElem?_eq_getElem h, Option.getD_some]
end Ch

/- The initiator with run identifiers: two runs, one behind the other. -/
set_option maxRecDepth 100000
set_option maxHeartbeats 4000000
set_option linter.unusedSimpArgs false
set_option linter.unusedVariables false
namespace Ch
open Go Go.Ab
theorem nat_draw {w : World} (h : 0 ≤ w.draws.next) (k : Nat) : (w.draws.next + k).toNat = w.draws.next.toNat + k := by omega
theorem oX_form {w : World} {N : Nat} (hf : w.form) {a b : Int} (ha : U a) (hn : w.draws.next + 3 ≤ 1048576) (h : (startO w a b).2 = 0) (hfit : w.fit N) : (startO w a b).1.form := by
  have hr := hf.right
  obtain ⟨h1, h2, h3, h4, h5⟩ := startO_ok hr ha h
  obtain ⟨p1, p2, p3, p4, p5⟩ := pair_in h2
  have e : (startO w a b).1 = oZ w a b := by
    unfold startO
    have h6 : (oS w a b).2.2 = 0 := h5
    rw [h2, h3, h4, h6]; rfl
  rw [e, oZ]
  refine form_send ?_ _ _
  refine form_log ?_ _
  have hS : (oS w a b).1.form := form_seal (form_draw (form_draw hf (by omega)) (by show w.draws.next + 1 < _; omega)) (by show w.draws.next + 1 + 1 < _; omega) _ _ _
  refine form_with hS (personW_ok hfit a).1 ?_
  have hc : (oS w a b).1.conf = w.conf := conf_seal _ _ _ _
  rw [hc]
  refine okP_push (okP_get hf p4) rfl ?_
  simp only [full, decide_eq_false_iff_not] at h3
  omega
theorem OraTwice_law (w : World) (hw : w.ok) (a : Int) (ha : U a) (b : Int) (hb : U b) : Spec PP GG 5 [w.v, u32 a, u32 b] (.bool true) [] := by
  have hA := L17.awake_spec
  have hF1 := Few12_spec w (Lim_of_ok hw)
  have hF2 := Form12_spec w (Lim_of_ok hw)
  cases hf1 : Few12 w with
  | false =>
    rw [hf1] at hF1
    refine Spec.of_runs Go.Proofs.Tryd.f5 Go.Proofs.Tryd.func5 rfl ?_
    intro w0 M0
    simp only [Go.Proofs.Tryd.f5, List.replicate, List.cons_append, List.nil_append, z, seval]
    (refine CU (hA) (h := ?_); simp only [z, seval])
    (refine CU (hF1) (h := ?_); simp only [z, seval])
    (refine CU (hA) (h := ?_); simp only [z, seval])
    (refine FINS_done ?_; simp only [z, seval])
  | true =>
  rw [hf1] at hF1
  cases hf2 : Form12 w with
  | false =>
    rw [hf2] at hF2
    refine Spec.of_runs Go.Proofs.Tryd.f5 Go.Proofs.Tryd.func5 rfl ?_
    intro w0 M0
    simp only [Go.Proofs.Tryd.f5, List.replicate, List.cons_append, List.nil_append, z, seval]
    (refine CU (hA) (h := ?_); simp only [z, seval])
    (refine CU (hF1) (h := ?_); simp only [z, seval])
    (refine CU (hF2) (h := ?_); simp only [z, seval])
    (refine CU (hA) (h := ?_); simp only [z, seval])
    (refine FINS_done ?_; simp only [z, seval])
  | true =>
  rw [hf2] at hF2
  cases hn : decide (w.draws.next > 1048567) with
  | true =>
    refine Spec.of_runs Go.Proofs.Tryd.f5 Go.Proofs.Tryd.func5 rfl ?_
    intro w0 M0
    simp only [Go.Proofs.Tryd.f5, List.replicate, List.cons_append, List.nil_append, z, seval]
    (refine CU (hA) (h := ?_); simp only [z, seval])
    (refine CU (hF1) (h := ?_); simp only [z, seval])
    (refine CU (hF2) (h := ?_); simp only [z, seval])
    simp only [hn, z, seval]
    (refine CU (hA) (h := ?_); simp only [z, seval])
    (refine FINS_done ?_; simp only [z, seval])
  | false =>
  have hn' := of_decide_eq_false hn
  have hfit := fit_of_few hw hf1 hf2
  have hform := form_iff.1 hf2
  have h1 := StartO_spec w a b hfit (by decide) (by decide) ha hb hform.right
  have hfa := startO_fit hfit (by decide) (by decide) ha hb
  cases he : ((startO w a b).2 == 0) with
  | false =>
    have e1 := startO_err (show (startO w a b).2 ≠ 0 by intro h; rw [h] at he; cases he)
    have h2 := Same12 w (hfit.toLim (by decide))
    rw [e1] at h1
    generalize (startO w a b).2 = x at h1 he
    clear hw hfit hform hfa
    refine Spec.of_runs Go.Proofs.Tryd.f5 Go.Proofs.Tryd.func5 rfl ?_
    intro w0 M0
    simp only [Go.Proofs.Tryd.f5, List.replicate, List.cons_append, List.nil_append, z, seval]
    (refine CU (hA) (h := ?_); simp only [z, seval])
    (refine CU (hF1) (h := ?_); simp only [z, seval])
    (refine CU (hF2) (h := ?_); simp only [z, seval])
    simp only [hn, z, seval]
    (refine CU (h1) (h := ?_); simp only [z, seval])
    (refine CU (h1) (h := ?_); simp only [z, seval])
    simp only [he, z, seval]
    (refine CU (h2) (h := ?_); simp only [z, seval])
    (refine FINS_done ?_; simp only [z, seval])
  | true =>
  have he' : (startO w a b).2 = 0 := by simpa using he
  have hfo := oX_form hform ha (by omega) he' hfit
  obtain ⟨q1, q2, q3, q4, q5⟩ := startO_ok hform.right ha he'
  rw [q1] at h1 hfa hfo
  have h2 := StartO_spec (oX w a b) a b hfa (by decide) (by decide) ha hb hfo.right
  cases hf : ((startO (oX w a b) a b).2 == 0) with
  | false =>
    have e1 := startO_err (show (startO (oX w a b) a b).2 ≠ 0 by intro h; rw [h] at hf; cases hf)
    have h3 := Same12 (oX w a b) (hfa.toLim (by decide))
    rw [e1] at h2
    generalize (startO (oX w a b) a b).2 = x at h2 hf
    generalize oX w a b = X at *
    clear hw hfit hform hfa hfo q1 q2 q3 q4 q5 he he' e1
    refine Spec.of_runs Go.Proofs.Tryd.f5 Go.Proofs.Tryd.func5 rfl ?_
    intro w0 M0
    simp only [Go.Proofs.Tryd.f5, List.replicate, List.cons_append, List.nil_append, z, seval]
    (refine CU (hA) (h := ?_); simp only [z, seval])
    (refine CU (hF1) (h := ?_); simp only [z, seval])
    (refine CU (hF2) (h := ?_); simp only [z, seval])
    simp only [hn, z, seval]
    (refine CU (h1) (h := ?_); simp only [z, seval])
    (refine CU (h2) (h := ?_); simp only [z, seval])
    simp only [hf, z, seval]
    (refine CU (h3) (h := ?_); simp only [z, seval])
    (refine FINS_done ?_; simp only [z, seval])
  | true =>
  have hf' : (startO (oX w a b) a b).2 = 0 := by simpa using hf
  obtain ⟨q6, q7, q8, q9, q10⟩ := startO_ok hfo.right ha hf'
  rw [q6] at h2
  obtain ⟨p1, p2, p3, p4, p5⟩ := pair_in q2
  obtain ⟨k, hk⟩ := Int.eq_ofNat_of_zero_le hform.next0
  obtain ⟨n, rfl⟩ := Int.eq_ofNat_of_zero_le ha.1
  simp only [Int.toNat_natCast] at p4
  have hpa : personW w (n : Int) = w.people[n] := get_in p4
  have u0 : (personW w (n : Int)).runs.length ≤ 1048576 := personW_runs hfit _
  have v1 : (drawW w).2 = drawAt w.draws.list k := by simp only [drawW, hk, Int.toNat_natCast]
  have v2 : (drawW (drawW w).1).2 = drawAt w.draws.list (k + 1) := by simp only [drawW, hk]; congr 1
  have v3 : (drawW (oX w n b)).2 = drawAt w.draws.list (k + 3) := by simp only [drawW, oX, hk]; congr 1
  have v4 : (drawW (drawW (oX w n b)).1).2 = drawAt w.draws.list (k + 4) := by simp only [drawW, oX, hk]; congr 1
  have r1 : oRun w b = ⟨2, 1, b, drawAt w.draws.list (k + 1), 0, drawAt w.draws.list k, 0, 0, 1⟩ := by rw [oRun, v1, v2]
  have r2 : oRun (oX w n b) b = ⟨2, 1, b, drawAt w.draws.list (k + 4), 0, drawAt w.draws.list (k + 3), 0, 0, 1⟩ := by rw [oRun, v3, v4]
  have hpx : personW (oX w n b) (n : Int) = oP w n b := by
    have h5 : n < (oX w n b).people.length := by simp only [oX, List.length_set]; exact p4
    rw [show personW (oX w n b) (n : Int) = (oX w n b).people[n] from get_in h5]
    simp only [oX, Int.toNat_natCast, List.getElem_set_self]
  have yp : (oX (oX w n b) n b).people = w.people.set n (oP (oX w n b) n b) := by
    show (w.people.set ((n : Int)).toNat _).set ((n : Int)).toNat _ = _
    rw [List.set_set]; rfl
  have yd : (oX (oX w n b) n b).draws.next = w.draws.next + 1 + 1 + 1 + 1 + 1 + 1 := rfl
  have yg : (oX (oX w n b) n b).net.grams.length = w.net.grams.length + 1 + 1 := by
    simp only [oX, List.length_append, List.length_singleton]
  have hP2 : oP (oX w n b) n b = ⟨(personW w (n : Int)).name, (personW w (n : Int)).key, (personW w (n : Int)).clock, (personW w (n : Int)).used, (personW w (n : Int)).runs ++ [⟨2, 1, b, drawAt w.draws.list (k + 1), 0, drawAt w.draws.list k, 0, 0, 1⟩] ++ [⟨2, 1, b, drawAt w.draws.list (k + 4), 0, drawAt w.draws.list (k + 3), 0, 0, 1⟩], (personW w (n : Int)).corrupt⟩ := by
    rw [oP, hpx, r2]
    simp only [oP, pushRun, r1]
  rw [hP2] at yp
  have b0 := getMap Person.v w.people p4
  rw [← hpa] at b0
  have g1 := hfit.grams
  generalize personW w (n : Int) = P at *
  generalize oX (oX w n b) n b = Y at *
  generalize oX w n b = X at *
  have hA0 := At04_spec ⟨w.draws.list, (k : Int)⟩ k
  have hA1 := At04_spec ⟨w.draws.list, (k : Int)⟩ (k + 1)
  have hA3 := At04_spec ⟨w.draws.list, (k : Int)⟩ (k + 3)
  have hA4 := At04_spec ⟨w.draws.list, (k : Int)⟩ (k + 4)
  have hS := Same01 [drawAt w.draws.list k, drawAt w.draws.list (k + 1), drawAt w.draws.list (k + 3), drawAt w.draws.list (k + 4)] (by simp)
  have w4 : Y.people.length = w.people.length := by rw [yp, List.length_set]
  have b6 : (Y.people.map Person.v)[n]? = some (Person.v ⟨P.name, P.key, P.clock, P.used, P.runs ++ [⟨2, 1, b, drawAt w.draws.list (k + 1), 0, drawAt w.draws.list k, 0, 0, 1⟩] ++ [⟨2, 1, b, drawAt w.draws.list (k + 4), 0, drawAt w.draws.list (k + 3), 0, 0, 1⟩], P.corrupt⟩) := by rw [yp]; exact setMap Person.v _ p4
  have b4 : ((P.runs ++ [(⟨2, 1, b, drawAt w.draws.list (k + 1), 0, drawAt w.draws.list k, 0, 0, 1⟩ : Run)] ++ [(⟨2, 1, b, drawAt w.draws.list (k + 4), 0, drawAt w.draws.list (k + 3), 0, 0, 1⟩ : Run)]).map Run.v)[P.runs.length]? = some (Run.v ⟨2, 1, b, drawAt w.draws.list (k + 1), 0, drawAt w.draws.list k, 0, 0, 1⟩) := by simp
  have b5 : ((P.runs ++ [(⟨2, 1, b, drawAt w.draws.list (k + 1), 0, drawAt w.draws.list k, 0, 0, 1⟩ : Run)] ++ [(⟨2, 1, b, drawAt w.draws.list (k + 4), 0, drawAt w.draws.list (k + 3), 0, 0, 1⟩ : Run)]).map Run.v)[P.runs.length + 1]? = some (Run.v ⟨2, 1, b, drawAt w.draws.list (k + 4), 0, drawAt w.draws.list (k + 3), 0, 0, 1⟩) := by simp
  have w5 : (P.runs ++ [(⟨2, 1, b, drawAt w.draws.list (k + 1), 0, drawAt w.draws.list k, 0, 0, 1⟩ : Run)] ++ [(⟨2, 1, b, drawAt w.draws.list (k + 4), 0, drawAt w.draws.list (k + 3), 0, 0, 1⟩ : Run)]).length = P.runs.length + 1 + 1 := by simp
  have x1 : IntKind.i64.wrap ((P.runs.length : Int) + 2) = ((P.runs.length + 1 + 1 : Nat) : Int) := by rw [w64 (by omega) (by omega)]; omega
  have x2 : IntKind.i64.wrap ((P.runs.length : Int) + 1) = ((P.runs.length + 1 : Nat) : Int) := w64s (by omega)
  have x3 : IntKind.i64.wrap ((w.net.grams.length : Int) + 2) = ((w.net.grams.length + 1 + 1 : Nat) : Int) := by rw [w64 (by omega) (by omega)]; omega
  rw [hk] at yd hn'
  have x4 : IntKind.i64.wrap ((k : Int) + 6) = (k : Int) + 1 + 1 + 1 + 1 + 1 + 1 := by rw [w64 (by omega) (by omega)]; omega
  have x5 : IntKind.i64.wrap ((k : Int) + 1) = ((k + 1 : Nat) : Int) := w64s (by omega)
  have x6 : IntKind.i64.wrap ((k : Int) + 3) = ((k + 3 : Nat) : Int) := by rw [w64 (by omega) (by omega)]; omega
  have x7 : IntKind.i64.wrap ((k : Int) + 4) = ((k + 4 : Nat) : Int) := by rw [w64 (by omega) (by omega)]; omega
  clear hw hfit hform hfa hfo q1 q2 q3 q4 q5 he he' q6 q7 q8 q9 q10 hf hf' hpx hP2 r1 r2 v1 v2 v3 v4 yp
  simp only [mv] at b0 b4 b5 b6
  refine Spec.of_runs Go.Proofs.Tryd.f5 Go.Proofs.Tryd.func5 rfl ?_
  intro w0 M0
  simp only [Go.Proofs.Tryd.f5, List.replicate, List.cons_append, List.nil_append, z, seval]
  (refine CU (hA) (h := ?_); simp only [z, seval])
  (refine CU (hF1) (h := ?_); simp only [z, seval])
  (refine CU (hF2) (h := ?_); simp only [z, seval])
  simp only [hn, z, seval]
  (refine CU (h1) (h := ?_); simp only [z, seval])
  (refine CU (h2) (h := ?_); simp only [z, seval])
  simp only [b0, b4, b5, b6, w4, w5, x1, x2, x3, x4, x5, x6, x7, yd, yg, hk, z, seval]
  (refine RUNs_draw 1 (by kernel_rfl) ?_; simp only [z, seval])
  (refine DU (hA0) (h := ?_); simp only [z, seval])
  try simp only [x5, hk, z, seval]
  (refine DU (hA1) (h := ?_); simp only [z, seval])
  try simp only [x6, hk, z, seval]
  (refine DU (hA3) (h := ?_); simp only [z, seval])
  try simp only [x7, hk, z, seval]
  (refine DU (hA4) (h := ?_); simp only [z, seval])
  (refine ⟨by kernel_rfl, ?_⟩)
  (refine CU (hS) (h := ?_); simp only [z, seval])
  simp only [yg, x3, z, seval]
  (refine FINS_done ?_; simp only [z, seval])
end Ch

/- All texts so far, go on. -/

/- The server that grants: what it hangs on. -/
set_option maxRecDepth 100000
set_option maxHeartbeats 4000000
set_option linter.unusedSimpArgs false
set_option linter.unusedVariables false
namespace Ch
open Go Go.Ab
theorem seal_with (w : World) (ps : List Person) (rs : List (List Int)) (k l : Int) (p : Part) : sealW { w with people := ps, regs := rs } k l p = ({ (sealW w k l p).1 with people := ps, regs := rs }, (sealW w k l p).2) := by
  have e : drawW { w with people := ps, regs := rs } = ({ (drawW w).1 with people := ps, regs := rs }, (drawW w).2) := rfl
  unfold sealW
  rw [e]
  cases ((partPut l p).2 == 0)
  · rfl
  · simp only [cond_true]
    cases ((boxSeal w.box (drawW w).2 k l (partPut l p).1).2 == 0) <;> rfl
theorem send_net {v u : World} (h : v.net = u.net) (to : Int) (m : Msg) : (sendW v to m).2 = (sendW u to m).2 := by
  unfold sendW
  rw [h]
  cases ((msgPut m).2 == 0)
  · rfl
  · simp only [cond_true]
    cases ((netSend u.net ⟨to, (msgPut m).1⟩).2 == 0) <;> rfl
theorem grant_alike {w : World} {ps : List Person} {rs : List (List Int)} {m : Msg} (h1 : ps.length = w.people.length) (h2 : getP ps 0 = getP w.people 0) (h3 : ∀ n, (getP ps n).key = (getP w.people n).key) : (grantM { w with people := ps, regs := rs } m).2 = (grantM w m).2 := by
  have hT : gTk { w with people := ps, regs := rs } m = ({ (gTk w m).1 with people := ps, regs := rs }, (gTk w m).2) := by
    have hk : (personW { w with people := ps, regs := rs } m.b).key = (personW w m.b).key := h3 _
    have hc : (personW { w with people := ps, regs := rs } 0).clock = (personW w 0).clock := congrArg Person.clock h2
    unfold gTk
    rw [hk, hc]
    exact seal_with (drawW w).1 ps rs _ _ _
  have hG : gGr { w with people := ps, regs := rs } m = ({ (gGr w m).1 with people := ps, regs := rs }, (gGr w m).2) := by
    have hk : (personW { w with people := ps, regs := rs } m.a).key = (personW w m.a).key := h3 _
    have hc : (personW { w with people := ps, regs := rs } 0).clock = (personW w 0).clock := congrArg Person.clock h2
    unfold gGr
    rw [hk, hc, hT]
    exact seal_with (gTk w m).1 ps rs _ _ _
  have hZ : (gZ { w with people := ps, regs := rs } m).2 = (gZ w m).2 := by
    unfold gZ
    rw [hG]
    refine send_net ?_ _ _
    show (gGr { w with people := ps, regs := rs } m).1.net = (gGr w m).1.net
    rw [hG]
  have hP : pairM ps m.a m.b = pairM w.people m.a m.b := by simp only [pairM, h1]
  have hp : personW { w with people := ps, regs := rs } 0 = personW w 0 := h2
  have hr : roomW { w with people := ps, regs := rs } 2 1 = roomW w 2 1 := rfl
  unfold grantM
  rw [hp, hT, hG, hZ, hr]
  rw [show pairM ({ w with people := ps, regs := rs } : World).people m.a m.b = pairM w.people m.a m.b from hP]
  dsimp only
  cases pairM w.people m.a m.b
  · rfl
  cases decide ((personW w 0).clock ≥ 1073741824)
  · simp only [cond_true, cond_false]
    cases (usedMay (personW w 0).used w.conf.used m.nonce == 0)
    · rfl
    cases roomW w 2 1
    · rfl
    simp only [cond_true]
    cases ((gTk w m).2.2 == 0)
    · rfl
    simp only [cond_true]
    cases ((gGr w m).2.2 == 0)
    · rfl
    simp only [cond_true]
    cases ((gZ w m).2 == 0) <;> rfl
  · rfl
theorem grant_late {w : World} {m : Msg} (h : (personW w 0).clock = 1073741824) : (grantM w m).2 = bif pairM w.people m.a m.b then 7 else 5 := by
  unfold grantM
  rw [h]
  cases pairM w.people m.a m.b <;> rfl
theorem grant_name {w : World} {m : Msg} (h : pairM w.people m.a m.b = false) : (grantM w m).2 = 5 := by
  unfold grantM
  rw [h]; rfl
def clearP (c : Int) (p : Person) : Person := ⟨p.name, p.key, c, [], [], true⟩
/-- the first of a row stay but the first one, who is kept -/
def clr (c : Int) (l : List Person) (i : Nat) : List Person := l.mapIdx fun j p => if j < i ∧ j ≠ 0 then clearP c p else p
theorem clr_len (c : Int) (l : List Person) (i : Nat) : (clr c l i).length = l.length := by simp [clr]
theorem clr_get {c : Int} {l : List Person} {i j : Nat} (h : j < l.length) : (clr c l i)[j]'(by rw [clr_len]; exact h) = if j < i ∧ j ≠ 0 then clearP c l[j] else l[j] := by
  simp [clr]
theorem clr_one (c : Int) (l : List Person) : clr c l 1 = l := by
  apply List.ext_getElem
  · rw [clr_len]
  intro j h1 h2
  rw [clr_get h2, if_neg (by omega)]
theorem clr_succ {c : Int} {l : List Person} {i : Nat} (h0 : i ≠ 0) (h : i < l.length) : (clr c l i).set i (clearP c l[i]) = clr c l (i + 1) := by
  apply List.ext_getElem
  · simp [clr_len]
  intro j h1 h2
  have hj : j < l.length := by rw [clr_len] at h2; exact h2
  rw [clr_get hj, List.getElem_set]
  by_cases e : i = j
  · subst e
    rw [if_pos rfl, if_pos ⟨by omega, h0⟩]
  · rw [if_neg e, clr_get hj]
    by_cases e2 : j < i ∧ j ≠ 0
    · rw [if_pos e2, if_pos ⟨by omega, e2.2⟩]
    · rw [if_neg e2, if_neg (by omega)]
theorem clr_key (c : Int) (l : List Person) (i n : Nat) : (getP (clr c l i) n).key = (getP l n).key := by
  unfold getP
  rcases Nat.lt_or_ge n l.length with h | h
  · rw [List.getElem?_eq_getElem h, List.getElem?_eq_getElem (by rw [clr_len]; exact h), Option.getD_some, Option.getD_some, clr_get h]
    split <;> rfl
  · rw [List.getElem?_eq_none h, List.getElem?_eq_none (by rw [clr_len]; exact h)]
theorem clr_zero (c : Int) (l : List Person) (i : Nat) : getP (clr c l i) 0 = getP l 0 := by
  unfold getP
  rcases Nat.lt_or_ge 0 l.length with h | h
  · rw [List.getElem?_eq_getElem h, List.getElem?_eq_getElem (by rw [clr_len]; exact h), Option.getD_some, Option.getD_some, clr_get h, if_neg (by omega)]
  · rw [List.getElem?_eq_none h, List.getElem?_eq_none (by rw [clr_len]; exact h)]
def clrR (l : List (List Int)) (i : Nat) : List (List Int) := l.mapIdx fun j r => if j < i then [] else r
theorem clrR_len (l : List (List Int)) (i : Nat) : (clrR l i).length = l.length := by simp [clrR]
theorem clrR_zero (l : List (List Int)) : clrR l 0 = l := by
  apply List.ext_getElem
  · rw [clrR_len]
  intro j h1 h2
  simp [clrR]
theorem clrR_succ {l : List (List Int)} {i : Nat} (h : i < l.length) : (clrR l i).set i [] = clrR l (i + 1) := by
  apply List.ext_getElem
  · simp [clrR_len]
  intro j h1 h2
  simp only [clrR, List.getElem_mapIdx, List.getElem_set]
  by_cases e : i = j
  · subst e; rw [if_pos rfl, if_pos (by omega)]
  · rw [if_neg e]
    by_cases e2 : j < i
    · rw [if_pos e2, if_pos (by omega)]
    · rw [if_neg e2, if_neg (by omega)]
end Ch

/- The server that grants: what it hangs on, walked. -/
set_option maxRecDepth 100000
set_option maxHeartbeats 4000000
set_option linter.unusedSimpArgs false
set_option linter.unusedVariables false
namespace Ch
open Go Go.Ab
theorem clr_mem {c : Int} {l : List Person} {i : Nat} {q : Person} (h : q ∈ clr c l i) : q ∈ l ∨ ∃ p ∈ l, q = clearP c p := by
  obtain ⟨j, hj, rfl⟩ := List.mem_iff_getElem.1 h
  have hj' : j < l.length := by rw [clr_len] at hj; exact hj
  rw [clr_get hj']
  split
  · exact .inr ⟨_, List.getElem_mem hj', rfl⟩
  · exact .inl (List.getElem_mem hj')
theorem clrR_mem {l : List (List Int)} {i : Nat} {r : List Int} (h : r ∈ clrR l i) : r ∈ l ∨ r = [] := by
  obtain ⟨j, hj, rfl⟩ := List.mem_iff_getElem.1 h
  have hj' : j < l.length := by rw [clrR_len] at hj; exact hj
  simp only [clrR, List.getElem_mapIdx]
  split
  · exact .inr rfl
  · exact .inl (List.getElem_mem hj')
theorem fit_late {w : World} {N : Nat} (h : w.fit N) (h0 : 0 < w.people.length) : ({ w with people := w.people.set 0 { w.people[0] with clock := 1073741824 } } : World).fit N := by
  have hm : ∀ q ∈ w.people.set 0 { w.people[0] with clock := 1073741824 }, q ∈ w.people ∨ q = { w.people[0] with clock := 1073741824 } := fun q hq => List.mem_or_eq_of_mem_set hq
  obtain ⟨p1, p2, p3, p4, p5⟩ := h.ok.2.2.2.2.1.2 _ (List.getElem_mem h0)
  exact { h with
    ok := ⟨h.ok.1, h.ok.2.1, h.ok.2.2.1, h.ok.2.2.2.1, ⟨by show (w.people.set 0 _).length ≤ _; rw [List.length_set]; exact h.ok.2.2.2.2.1.1, fun q hq => by
      rcases hm q hq with h1 | rfl
      · exact h.ok.2.2.2.2.1.2 q h1
      · exact ⟨p1, p2, (by decide : U 1073741824), p4, p5⟩⟩, h.ok.2.2.2.2.2⟩
    people := by show (w.people.set 0 _).length ≤ _; rw [List.length_set]; exact h.people
    used := fun q hq => by
      rcases hm q hq with h1 | rfl
      · exact h.used q h1
      · show w.people[0].used.length ≤ N
        exact h.used _ (List.getElem_mem h0)
    runs := fun q hq => by
      rcases hm q hq with h1 | rfl
      · exact h.runs q h1
      · show w.people[0].runs.length ≤ N
        exact h.runs _ (List.getElem_mem h0) }
theorem fit_clr {w : World} {N : Nat} (h : w.fit N) {c : Int} (hc : U c) (i j : Nat) : ({ w with people := clr c w.people i, regs := clrR w.regs j } : World).fit N := by
  exact { h with
    ok := ⟨h.ok.1, h.ok.2.1, h.ok.2.2.1, h.ok.2.2.2.1, ⟨by show (clr c w.people i).length ≤ _; rw [clr_len]; exact h.ok.2.2.2.2.1.1, fun q hq => by
      rcases clr_mem hq with h1 | ⟨p, h1, rfl⟩
      · exact h.ok.2.2.2.2.1.2 q h1
      · obtain ⟨p1, p2, p3, p4, p5⟩ := h.ok.2.2.2.2.1.2 p h1
        exact ⟨p1, p2, hc, ⟨by simp [clearP], fun x hx => by cases hx⟩, ⟨by simp [clearP], fun x hx => by cases hx⟩⟩⟩, h.ok.2.2.2.2.2.1, ⟨by show (clrR w.regs j).length ≤ _; rw [clrR_len]; exact h.ok.2.2.2.2.2.2.1.1, fun r hr => by
      rcases clrR_mem hr with h1 | rfl
      · exact h.ok.2.2.2.2.2.2.1.2 r h1
      · exact ⟨by simp, fun x hx => by cases hx⟩⟩, h.ok.2.2.2.2.2.2.2⟩
    people := by show (clr c w.people i).length ≤ _; rw [clr_len]; exact h.people
    used := fun q hq => by
      rcases clr_mem hq with h1 | ⟨p, h1, rfl⟩
      · exact h.used q h1
      · exact Nat.zero_le _
    runs := fun q hq => by
      rcases clr_mem hq with h1 | ⟨p, h1, rfl⟩
      · exact h.runs q h1
      · exact Nat.zero_le _
    regs := by show (clrR w.regs j).length ≤ _; rw [clrR_len]; exact h.regs
    reg := fun r hr => by
      rcases clrR_mem hr with h1 | rfl
      · exact h.reg r h1
      · exact Nat.zero_le _ }
theorem KsnClock_law (w : World) (hw : w.ok) (m : Msg) (hm : m.ok) (c : Int) (hc : U c) : Spec PP GG 4 [w.v, m.v, u32 c] (.bool true) [] := by
  have hA := L13.awake_spec
  have hF := fits13_spec w hw m hm
  cases hf : fits13 w m with
  | false =>
    rw [hf] at hF
    refine Spec.of_runs Go.Proofs.Tryd.f4 Go.Proofs.Tryd.func4 rfl ?_
    intro w0 M0
    simp only [Go.Proofs.Tryd.f4, List.replicate, List.cons_append, List.nil_append, z, seval]
    (refine CU (hA) (h := ?_); simp only [z, seval])
    (refine CU (hF) (h := ?_); simp only [z, seval])
    (refine CU (hA) (h := ?_); simp only [z, seval])
    (refine FINS_done ?_; simp only [z, seval])
  | true =>
  rw [hf] at hF
  cases hn : decide (c > 1073741824) with
  | true =>
    refine Spec.of_runs Go.Proofs.Tryd.f4 Go.Proofs.Tryd.func4 rfl ?_
    intro w0 M0
    simp only [Go.Proofs.Tryd.f4, List.replicate, List.cons_append, List.nil_append, z, seval]
    (refine CU (hA) (h := ?_); simp only [z, seval])
    (refine CU (hF) (h := ?_); simp only [z, seval])
    simp only [hn, z, seval]
    (refine CU (hA) (h := ?_); simp only [z, seval])
    (refine FINS_done ?_; simp only [z, seval])
  | false =>
  simp only [fits13, Bool.and_eq_true] at hf
  have hfit := fit_of_few hw hf.1 hf.2.1
  have hform := form_iff.1 hf.2.1
  have hlen := right_len hform.right
  have h1 := Grant_spec w m hfit (by decide) (by decide) hm
  have hC := Copied_H w (hfit.toLim (by decide))
  have hC2 : Spec PP GG 14 [w.v] (cpV w) [.dead, .dead, .dead, .dead, .dead, .dead, .dead, .row 6 ((clr c w.people 1).map Person.v) w.people.length false, .dead, .row 1 ((clrR w.regs 0).map wordsV) w.regs.length false] := by rw [clr_one, clrR_zero]; exact hC
  have hp0 : 0 < w.people.length := by omega
  have hx : ({ w with people := w.people.set 0 { w.people[0] with clock := 1073741824 } } : World).fit 1048576 := fit_late hfit hp0
  have hy : ({ w with people := clr c w.people w.people.length, regs := clrR w.regs w.regs.length } : World).fit 1048576 := fit_clr hfit hc _ _
  have h2 := Grant_spec { w with people := w.people.set 0 { w.people[0] with clock := 1073741824 } } m hx (by decide) (by decide) hm
  have h3 := Grant_spec { w with people := clr c w.people w.people.length, regs := clrR w.regs w.regs.length } m hy (by decide) (by decide) hm
  rw [grant_late (by simp [personW, getP, hp0])] at h2
  rw [grant_alike (clr_len _ _ _) (clr_zero _ _ _) (fun n => clr_key _ _ _ n)] at h3
  have hnm := @grant_name w m
  generalize (grantM { w with people := clr c w.people w.people.length, regs := clrR w.regs w.regs.length } m).1 = g3 at h3
  generalize (grantM { w with people := w.people.set 0 { w.people[0] with clock := 1073741824 } } m).1 = g2 at h2
  generalize (grantM w m).1 = g1 at h1
  simp only [List.length_set] at h2
  have hpl : pairM (w.people.set 0 { w.people[0] with clock := 1073741824 }) m.a m.b = pairM w.people m.a m.b := by simp only [pairM, List.length_set]
  rw [hpl] at h2
  have u1 := hfit.people
  have u2 := hfit.regs
  clear hw hfit hform hx hy hm
  have b0 := getMap Person.v w.people hp0
  have e0 : (w.people.map Person.v).set 0 (Person.v ⟨w.people[0].name, w.people[0].key, 1073741824, w.people[0].used, w.people[0].runs, w.people[0].corrupt⟩) = (w.people.set 0 { w.people[0] with clock := 1073741824 }).map Person.v := by rw [List.map_set]
  simp only [mv] at b0 e0
  simp only [cpV, cpH, cpCells] at hC hC2
  refine Spec.of_runs Go.Proofs.Tryd.f4 Go.Proofs.Tryd.func4 rfl ?_
  intro w0 M0
  simp only [Go.Proofs.Tryd.f4, List.replicate, List.cons_append, List.nil_append, z, seval]
  (refine CU (hA) (h := ?_); simp only [z, seval])
  (refine CU (hF) (h := ?_); simp only [z, seval])
  simp only [hn, z, seval]
  (refine CU (h1) (h := ?_); simp only [z, seval])
  (refine CH (hC) (h := ?_); simp only [z, seval])
  simp only [hp0, b0, e0, if_true, z, seval]
  (refine CU (h2) (h := ?_); simp only [z, seval])
  (refine CH (hC2) (h := ?_); simp only [z, seval])
  refine RUNs_rangeS (w.people.length - 1) (fun _ (_ : Unit) => True) (fun t _ => [(13, i64 ((t + 1 : Nat) : Int))]) (fun t _ => [(22, .row 6 ((clr c w.people (t + 1)).map Person.v) w.people.length false)]) () ?_ (by simp only [z, seval]; exact wk) rfl ?_
  · trivial
  rintro ⟨t, _, ht, -⟩
  have cl := clr_len c w.people (t + 1)
  simp only [cl, z, seval]
  first | refine brk (fun h => ?_) (fun h => ?_) | fail
  · have hlt : t + 1 < w.people.length := by have := of_decide_eq_true h; omega
    have hl2 : t + 1 < (clr c w.people (t + 1)).length := by rw [cl]; exact hlt
    have bt := getMap Person.v (clr c w.people (t + 1)) hl2
    rw [clr_get hlt, if_neg (by omega)] at bt
    have es : ∀ X : V, (((clr c w.people (t + 1)).map Person.v).set (t + 1) X)[t + 1]? = some X := fun X => by simp [hl2]
    have ef : ((clr c w.people (t + 1)).map Person.v).set (t + 1) (Person.v (clearP c w.people[t + 1])) = (clr c w.people (t + 1 + 1)).map Person.v := by rw [← List.map_set, clr_succ (by omega) hlt]
    simp only [clearP, mv, List.map_nil] at ef
    simp only [mv] at bt
    simp only [h, cl, hlt, bt, if_true, z, seval]
    simp only [es, List.set_set, List.length_set, List.length_map, cl, hlt, if_true, z, seval]
    simp only [ef, w64s (i := t + 1) (by omega), z, seval]
    have ht2 : t < w.people.length - 1 := by omega
    (refine NX () ?_ (by rfl) ht2 ?_; simp only [z, seval]; exact wk)
    trivial
  · have htl : t + 1 = w.people.length := by have := of_decide_eq_false h; omega
    simp only [h, htl, z, seval]
    clear cl
    have cl := clr_len c w.people w.people.length
    refine RUNs_rangeS (w.regs.length) (fun _ (_ : Unit) => True) (fun t _ => [(14, i64 t)]) (fun t _ => [(24, .row 1 ((clrR w.regs t).map wordsV) w.regs.length false)]) () ?_ (by simp only [z, seval]; exact wk) rfl ?_
    · trivial
    rintro ⟨q, _, hq, -⟩
    have cr := clrR_len w.regs q
    simp only [cr, z, seval]
    cases h' : decide ((q : Int) < (w.regs.length : Int)) with
    | true =>
      have hlt : q < w.regs.length := by have := of_decide_eq_true h'; omega
      have hl2 : q < (clrR w.regs q).length := by rw [cr]; exact hlt
      have bt := getMap wordsV (clrR w.regs q) hl2
      have ef : ((clrR w.regs q).map wordsV).set q (wordsV []) = (clrR w.regs (q + 1)).map wordsV := by rw [← List.map_set, clrR_succ hlt]
      simp only [mv, List.map_nil] at ef bt
      simp only [h', cr, hlt, bt, if_true, z, seval]
      try simp only [ef, w64s (i := q) (by omega), z, seval]
      (refine NX () ?_ (by rfl) hlt ?_; simp only [z, seval]; exact wk)
      trivial
    | false =>
      have hql : q = w.regs.length := by have := of_decide_eq_false h'; omega
      subst hql
      simp only [h', z, seval]
      (refine CU (h3) (h := ?_); simp only [z, seval])
      cases cp : pairM w.people m.a m.b with
      | false =>
        have e5 := hnm cp
        simp only [e5, cond_false, z, seval]
        (refine FINS_done ?_; simp only [z, seval])
      | true =>
        simp only [cond_true, z, seval]
        (refine FINS_done ?_; simp only [z, seval])
end Ch

/- All texts so far, to the end. -/
