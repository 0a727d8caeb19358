/- The principals of the protocol with times: what comes of a refusal, and of what is taken. -/
import Derived.Test.YtmgphjfpccddiaaGreatDoorW10
set_option maxRecDepth 100000
set_option maxHeartbeats 4000000
set_option linter.unusedSimpArgs false
set_option linter.unusedVariables false
namespace Ch
open Go Go.Ab
theorem sendW_full {w : World} {to : Int} {m : Msg} (hm : msgMay m = true) (hr : w.net.room - (w.net.grams.length : Int) < 1) : sendW w to m = (w, 10) := by
  have e : decide (w.net.room - (w.net.grams.length : Int) < 1) = true := decide_eq_true hr
  simp only [sendW, msgPut, hm, netSend, e, cond_true, beq_self_eq_true]
  rfl
theorem right_room {b : Box} (h : Right07 b = true) : (b.rows.length : Int) ≤ b.room := by
  simp only [Right07, Bool.and_eq_true, decide_eq_true_eq] at h; exact h.1.2
theorem room_full {w : World} {f : Int} (hb : Right07 w.box = true) (h : roomW w 0 f = false) : w.net.room - (w.net.grams.length : Int) < f := by
  have h1 := right_room hb
  have e : decide (w.box.room - (w.box.rows.length : Int) ≥ 0) = true := decide_eq_true (by omega)
  rw [roomW, e, Bool.true_and] at h
  have := of_decide_eq_false h
  omega
theorem aZ_err {w : World} {a b : Int} (hb : Right07 w.box = true) (h : roomW w 0 1 = false) : sendW (aY w a b) 0 (aMsg w a b) = (aY w a b, 10) :=
  sendW_full (may1 _ _ _) (by have := room_full hb h; rw [aY, net_put]; exact this)
theorem aX_err {w : World} {me : Int} {g : Part} {i : Nat} {to : Int} (hb : Right07 w.box = true) (h : roomW w 0 1 = false) : sendW (aT w me g i) to ⟨3, 0, 0, 0, 0, g.h, 0⟩ = (aT w me g i, 10) :=
  sendW_full (mayBox (by omega) _) (by have := room_full hb h; rw [aT, net_put]; exact this)
/-! which run it is -/
theorem back_run {w : World} {me : Int} {m : Msg} {i : Nat} (h : kI w me m = some i) : i < (personW w me).runs.length ∧ (runAt (personW w me).runs i).proto = 1 ∧ (runAt (personW w me).runs i).role = 2 ∧ (runAt (personW w me).runs i).state = 2 ∧ (openW w (runAt (personW w me).runs i).k 5 m.box).2 = true ∧ (openW w (runAt (personW w me).runs i).k 5 m.box).1.n = (runAt (personW w me).runs i).mine := by
  obtain ⟨h1, h2⟩ := find_runs h
  simp only [kQ, isRun, Bool.and_eq_true, beq_iff_eq] at h2
  exact ⟨h1, h2.1.1, h2.1.2.1, h2.1.2.2, h2.2.1, h2.2.2⟩
theorem echo_run {w : World} {me : Int} {m : Msg} {i : Nat} (h : eI w me m = some i) : i < (personW w me).runs.length ∧ (runAt (personW w me).runs i).proto = 1 ∧ (runAt (personW w me).runs i).role = 1 ∧ (runAt (personW w me).runs i).state = 2 ∧ (openW w (runAt (personW w me).runs i).k 4 m.box).2 = true := by
  obtain ⟨h1, h2⟩ := find_runs h
  simp only [eQ, isRun, Bool.and_eq_true, beq_iff_eq] at h2
  exact ⟨h1, h2.1.1, h2.1.2.1, h2.1.2.2, h2.2⟩
theorem grant_run {w : World} {me : Int} {m : Msg} {i : Nat} (h : aI w me m = some i) : i < (personW w me).runs.length ∧ (runAt (personW w me).runs i).proto = 1 ∧ (runAt (personW w me).runs i).role = 1 ∧ (runAt (personW w me).runs i).state = 1 ∧ (runAt (personW w me).runs i).mine = (aG w me m).1.n ∧ (runAt (personW w me).runs i).peer = (aG w me m).1.b := by
  obtain ⟨h1, h2⟩ := find_runs h
  simp only [aQ, isRun, Bool.and_eq_true, beq_iff_eq] at h2
  exact ⟨h1, h2.1.1, h2.1.2.1, h2.1.2.2, h2.2.1, h2.2.2⟩
/-! what a refusal leaves, and what is taken comes to -/
theorem startN_err {w : World} {a b : Int} (h : (startN w a b).2 ≠ 0) : (startN w a b).1 = w := by
  unfold startN at h ⊢
  cases h1 : pairM w.people a b
  · rfl
  · cases h2 : (!full w (personW w a) && roomW w 0 1)
    · rfl
    · simp only [h1, h2] at h; exact absurd rfl h
theorem startN_done {w : World} {a b : Int} (h : (startN w a b).2 = 0) : pairM w.people a b = true ∧ full w (personW w a) = false ∧ startN w a b = (sendTo (aY w a b) 0 (aMsg w a b), 0) := by
  unfold startN at h ⊢
  cases h1 : pairM w.people a b
  · simp only [h1] at h; cases h
  · cases h2 : (!full w (personW w a) && roomW w 0 1)
    · simp only [h1, h2] at h; cases h
    · rw [Bool.and_eq_true, Bool.not_eq_true'] at h2
      have hz := (send_to (aZ_ok (a := a) (b := b) h2.2)).1
      refine ⟨rfl, h2.1, ?_⟩
      simp only [cond_true, aZ, hz]
theorem grantN_err {w : World} {me : Int} {m : Msg} (h : (grantN w me m).2 ≠ 0) : (grantN w me m).1 = w := by
  unfold grantN at h ⊢
  cases h1 : (aG w me m).2
  · rfl
  · cases h2 : aI w me m with
    | none => rfl
    | some i =>
      simp only [h1, h2, cond_true] at h ⊢
      cases h3 : freshM (personW w me).clock (aG w me m).1.t w.conf.window
      · rfl
      · cases h4 : roomW w 0 1
        · rfl
        · simp only [h3, h4] at h; exact absurd rfl h
theorem grantN_done {w : World} {me : Int} {m : Msg} (h : (grantN w me m).2 = 0) : ∃ i, aI w me m = some i ∧ (aG w me m).2 = true ∧ freshM (personW w me).clock (aG w me m).1.t w.conf.window = true ∧ grantN w me m = (sendTo (aT w me (aG w me m).1 i) (runAt (personW w me).runs i).peer ⟨3, 0, 0, 0, 0, (aG w me m).1.h, 0⟩, 0) := by
  unfold grantN at h ⊢
  cases h1 : (aG w me m).2
  · simp only [h1] at h; cases h
  · cases h2 : aI w me m with
    | none => simp only [h1, h2] at h; cases h
    | some i =>
      simp only [h1, h2, cond_true] at h ⊢
      cases h3 : freshM (personW w me).clock (aG w me m).1.t w.conf.window
      · simp only [h3] at h; cases h
      · cases h4 : roomW w 0 1
        · simp only [h3, h4] at h; cases h
        · have hz := (send_to (aX_ok (me := me) (g := (aG w me m).1) (i := i) (to := (runAt (personW w me).runs i).peer) h4)).1
          exact ⟨i, rfl, trivial, rfl, by simp only [cond_true, aX, hz]⟩
theorem echoN_err {w : World} {me : Int} {m : Msg} (h : (echoN w me m).2 ≠ 0) : (echoN w me m).1 = w := by
  unfold echoN at h ⊢
  cases h2 : eI w me m with
  | none => rfl
  | some i =>
    simp only [h2] at h ⊢
    cases h3 : freshM (personW w me).clock (runAt (personW w me).runs i).t w.conf.window
    · rfl
    · cases h4 : roomW w 1 1
      · rfl
      · simp only [h3, h4, cond_true] at h ⊢
        cases h5 : ((eS w me (eN w me m i) i).2.2 == 0)
        · rfl
        · simp only [h5] at h; exact absurd rfl h
theorem echoN_done {w : World} {me : Int} {m : Msg} (h : (echoN w me m).2 = 0) : ∃ i, eI w me m = some i ∧ freshM (personW w me).clock (runAt (personW w me).runs i).t w.conf.window = true ∧ (eS w me (eN w me m i) i).2.2 = 0 ∧ echoN w me m = (sendTo (eT w me (eN w me m i) i) (runAt (personW w me).runs i).peer ⟨5, 0, 0, 0, 0, (eS w me (eN w me m i) i).2.1, 0⟩, 0) := by
  unfold echoN at h ⊢
  cases h2 : eI w me m with
  | none => simp only [h2] at h; cases h
  | some i =>
    simp only [h2] at h ⊢
    cases h3 : freshM (personW w me).clock (runAt (personW w me).runs i).t w.conf.window
    · simp only [h3] at h; cases h
    · cases h4 : roomW w 1 1
      · simp only [h3, h4] at h; cases h
      · simp only [h3, h4, cond_true] at h ⊢
        cases h5 : ((eS w me (eN w me m i) i).2.2 == 0)
        · simp only [h5, cond_false] at h
          rw [h] at h5; cases h5
        · have hz := (send_to (eX_ok (me := me) (n := eN w me m i) (i := i) (to := (runAt (personW w me).runs i).peer) h4)).1
          exact ⟨i, rfl, h3, by simpa using h5, by simp only [cond_true, eX, hz]⟩
theorem ticketB_err {w : World} {me : Int} {m : Msg} (h : (ticketB w me m).2 ≠ 0) : (ticketB w me m).1 = w := by
  unfold ticketB at h ⊢
  cases h1 : (tG w me m).2
  · rfl
  cases h2 : pairM w.people (tG w me m).1.a me
  · rfl
  cases h3 : freshM (personW w me).clock (tG w me m).1.t w.conf.window
  · rfl
  cases h4 : (usedMay (personW w me).used w.conf.used (tG w me m).1.k == 0)
  · rfl
  cases h5 : (!full w (personW w me) && roomW w 1 1)
  · rfl
  simp only [h1, h2, h3, h4, h5, cond_true] at h ⊢
  cases h6 : ((tS w (tG w me m).1).2.2 == 0)
  · rfl
  · simp only [h6] at h; exact absurd rfl h
theorem backB_err {w : World} {me : Int} {m : Msg} (h : (backB w me m).2 ≠ 0) : (backB w me m).1 = w := by
  unfold backB at h ⊢
  cases h2 : kI w me m with
  | none => rfl
  | some i =>
    simp only [h2] at h ⊢
    cases h3 : freshM (personW w me).clock (runAt (personW w me).runs i).t w.conf.window
    · rfl
    · simp only [h3] at h; exact absurd rfl h
theorem backB_done {w : World} {me : Int} {m : Msg} (h : (backB w me m).2 = 0) : ∃ i, kI w me m = some i ∧ freshM (personW w me).clock (runAt (personW w me).runs i).t w.conf.window = true ∧ backB w me m = (kT w me i, 0) := by
  unfold backB at h ⊢
  cases h2 : kI w me m with
  | none => simp only [h2] at h; cases h
  | some i =>
    simp only [h2] at h ⊢
    cases h3 : freshM (personW w me).clock (runAt (personW w me).runs i).t w.conf.window
    · simp only [h3] at h; cases h
    · exact ⟨i, rfl, h3, rfl⟩
/-! what a part of a label has -/
theorem toldT {w : World} {key h : Int} (ho : (openW w key 3 h).2 = true) : (openW w key 3 h).1 = ⟨0, 0, (openW w key 3 h).1.a, 0, (openW w key 3 h).1.k, (openW w key 3 h).1.t, 0⟩ := by
  revert ho
  unfold openW
  cases hb : boxOpen w.box key 3 h with
  | none => intro ho; cases ho
  | some l =>
    simp only [partGet]
    cases (l.length == (partWs 3 zPart).length)
    · intro ho; exact absurd ho (by simp [label?])
    · intro _; rfl
theorem toldG {w : World} {key h : Int} (ho : (openW w key 2 h).2 = true) : (openW w key 2 h).1 = ⟨(openW w key 2 h).1.n, 0, 0, (openW w key 2 h).1.b, (openW w key 2 h).1.k, (openW w key 2 h).1.t, (openW w key 2 h).1.h⟩ := by
  revert ho
  unfold openW
  cases hb : boxOpen w.box key 2 h with
  | none => intro ho; cases ho
  | some l =>
    simp only [partGet]
    cases (l.length == (partWs 2 zPart).length)
    · intro ho; exact absurd ho (by simp [label?])
    · intro _; rfl
theorem toldE {w : World} {key h : Int} (ho : (openW w key 4 h).2 = true) : (openW w key 4 h).1 = ⟨(openW w key 4 h).1.n, 0, 0, 0, 0, 0, 0⟩ := by
  revert ho
  unfold openW
  cases hb : boxOpen w.box key 4 h with
  | none => intro ho; cases ho
  | some l =>
    simp only [partGet]
    cases (l.length == (partWs 4 zPart).length)
    · intro ho; exact absurd ho (by simp [label?])
    · intro _; rfl
theorem toldB {w : World} {key h : Int} (ho : (openW w key 5 h).2 = true) : (openW w key 5 h).1 = ⟨(openW w key 5 h).1.n, 0, 0, 0, 0, 0, 0⟩ := by
  revert ho
  unfold openW
  cases hb : boxOpen w.box key 5 h with
  | none => intro ho; cases ho
  | some l =>
    simp only [partGet]
    cases (l.length == (partWs 5 zPart).length)
    · intro ho; exact absurd ho (by simp [label?])
    · intro _; rfl
/-! the document's freshness -/
def fresh05 (now t w : Int) : Bool := bif decide (now ≥ 1073741824) || decide (t ≥ 1073741824) then false else bif decide (now - t < 0) then decide (-(now - t) ≤ w) else decide (now - t ≤ w)
theorem fresh05_eq (now t w : Int) : fresh05 now t w = freshM now t w := by
  unfold fresh05 freshM
  by_cases h1 : now ≥ 1073741824
  · simp [h1, show ¬ now < 1073741824 by omega]
  · by_cases h2 : t ≥ 1073741824
    · simp [h2, show ¬ t < 1073741824 by omega]
    · rw [decide_eq_false h1, decide_eq_false h2, decide_eq_true (show now < 1073741824 by omega), decide_eq_true (show t < 1073741824 by omega)]
      simp only [Bool.or_false, cond_false, Bool.true_and]
      by_cases h3 : now - t < 0
      · rw [decide_eq_true h3]
        rw [Bool.eq_iff_iff]
        simp only [cond_true, decide_eq_true_eq, Bool.and_eq_true]
        constructor
        · intro h4; constructor <;> omega
        · intro h4; omega
      · rw [decide_eq_false h3]
        rw [Bool.eq_iff_iff]
        simp only [cond_false, decide_eq_true_eq, Bool.and_eq_true]
        constructor
        · intro h4; constructor <;> omega
        · intro h4; omega
/-! a run that is at its end stays as it is -/
theorem backB_keeps {w : World} {me : Int} (m : Msg) (hr : Right10 w.people = true) (hme : U me) {n : Nat} (hn : me = n) (hin : n < w.people.length) {i : Nat} (hi : i < (personW w me).runs.length) (hs : (runAt (personW w me).runs i).state ≠ 2) :
    ∃ h1 : n < (backB w me m).1.people.length, (backB w me m).1.people.length = w.people.length ∧ (backB w me m).1.people[n].runs.length = (personW w me).runs.length ∧ ∃ h2 : i < (backB w me m).1.people[n].runs.length, (backB w me m).1.people[n].runs[i] = runAt (personW w me).runs i := by
  subst hn
  have hp : personW w (n : Int) = w.people[n] := get_in9 hin
  by_cases h : (backB w n m).2 = 0
  · obtain ⟨j, h1, h2, h4⟩ := backB_done h
    have hj := back_run h1
    have hij : i ≠ j := by rintro rfl; exact hs hj.2.2.2.1
    have e : (backB w n m).1.people = w.people.set n (setRun (personW w n) j (endR' (runAt (personW w n).runs j))) := by
      rw [h4]; exact com_people hr hme hin j (endR' (runAt (personW w n).runs j)) ⟨4, 1, 2, (runAt (personW w n).runs j).peer, n, (runAt (personW w n).runs j).k, (runAt (personW w n).runs j).t, 0, (runAt (personW w n).runs j).mine, (personW w n).clock⟩
    have e2 : ∀ h1 : n < (backB w n m).1.people.length, (backB w n m).1.people[n] = setRun (personW w n) j (endR' (runAt (personW w n).runs j)) := by
      intro h1; simp only [e, List.getElem_set_self]
    have h5 : n < (backB w n m).1.people.length := by rw [e, List.length_set]; exact hin
    refine ⟨h5, by rw [e, List.length_set], by rw [e2 h5]; simp only [setRun, List.length_set], by rw [e2 h5]; simp only [setRun, List.length_set]; exact hi, ?_⟩
    simp only [e2 h5, setRun, List.getElem_set, runAt_get hi]
    rw [if_neg (fun e => hij e.symm)]
  · have e := backB_err h
    have e2 : ∀ h1 : n < (backB w n m).1.people.length, (backB w n m).1.people[n] = personW w n := by
      intro h1; simp only [e, hp]
    have h5 : n < (backB w n m).1.people.length := by rw [e]; exact hin
    exact ⟨h5, by rw [e], by rw [e2 h5], by rw [e2 h5]; exact hi, by simp only [e2 h5, runAt_get hi]⟩
end Ch

/- The responder with times: the program's. (Written before a seat was at hand: not built yet; sc.sh checks the facts. The walks end at 'sorry': to be written when the seat is there.) -/
set_option maxRecDepth 100000
set_option maxHeartbeats 4000000
set_option linter.unusedSimpArgs false
set_option linter.unusedVariables false
namespace Ch
open Go Go.Ab
theorem fresh_spec (now t w : Int) (h1 : U now) (h2 : U t) (h3 : U w) : Spec PP GG 70 [u32 now, u32 t, u32 w] (.bool (freshM now t w)) [] := by
  obtain ⟨a1, a2⟩ := h1
  obtain ⟨b1, b2⟩ := h2
  obtain ⟨c1, c2⟩ := h3
  refine Spec.of_runs Go.Proofs.Tryz.f70 Go.Proofs.Tryz.func70 rfl ?_
  intro w0 M0
  simp only [Go.Proofs.Tryz.f70, List.replicate, List.cons_append, List.nil_append, z, seval]
  have k1 : IntKind.u64.wrap now = now := wu64 (by omega) (by omega)
  have k2 : IntKind.u64.wrap t = t := wu64 (by omega) (by omega)
  have k3 : IntKind.u64.wrap w = w := wu64 (by omega) (by omega)
  have k4 : IntKind.u64.wrap (t + w) = t + w := wu64 (by omega) (by omega)
  have k5 : IntKind.u64.wrap (now + w) = now + w := wu64 (by omega) (by omega)
  repeat' (first | ((refine CALLS_in (fn := Go.Proofs.Tryz.f129) Go.Proofs.Tryz.func129 rfl (by kernel_rfl) ?_; simp only [Go.Proofs.Tryz.f129, List.replicate, List.cons_append, List.nil_append, z, seval]); simp only [k1, k2, k3, k4, k5, z, seval]) | ((try simp only [k1, k2, k3, k4, k5, z, seval]); (first | refine brk (fun h => ?_) (fun h => ?_) | fail) <;> simp only [h, k1, k2, k3, k4, k5, z, seval]))
  all_goals (refine FINS_done ?_; simp only [z, seval])
  all_goals (first | (simp only [freshM, *, cond_true, cond_false, Bool.true_and, Bool.and_true, Bool.false_and, Bool.and_false, Bool.true_or, Bool.or_true, Bool.false_or, Bool.or_false, Bool.not_true, Bool.not_false, beq_self_eq_true, Option.getD_some, Option.getD_none, Option.isSome_some, Option.isSome_none, List.map_nil]; done) | (simp only [freshM, *, cond_true, cond_false, Bool.true_and, Bool.and_true, Bool.false_and, Bool.and_false, Bool.true_or, Bool.or_true, Bool.false_or, Bool.or_false, Bool.not_true, Bool.not_false, beq_self_eq_true, Option.getD_some, Option.getD_none, Option.isSome_some, Option.isSome_none, List.map_nil]; rfl) | (simp [freshM, *]; done) | (simp_all [freshM]; done))
theorem TicketB_spec (w : World) (me : Int) (m : Msg) {N : Nat} (hw : w.fit N) (h5 : 21 ≤ N) (hN : N ≤ 400000000000) (hme : U me) (hr : Right10 w.people = true) (hin : me.toNat < w.people.length) : Spec PP GG 18 [w.v, u32 me, m.v] (.tup [(ticketB w me m).1.v, i64 (ticketB w me m).2]) [] := by
  have hP := person_spec w hw (by omega) me hme
  have hO := open_spec w hw (by omega) (personW w me).key 3 m.box
  rw [← tG] at hO
  have hg : (tG w me m).1.ok := openW_ok hw _ _ _
  have hPr := pPair_spec w.people (tG w me m).1.a me hg.2.2.1 hme (by have := hw.people; omega)
  have hFr := fresh_spec (personW w me).clock (tG w me m).1.t w.conf.window (personW_ok hw me).2.2.1 hg.2.2.2.2.2.1 hw.ok.1.1
  have hMy := uMay_spec (personW w me).used w.conf.used (tG w me m).1.k (by have := personW_used hw me; omega)
  have hNo := uNote_spec (personW w me).used w.conf.used (tG w me m).1.k (by have := personW_used hw me; omega)
  have hRm := room_spec' w hw (by omega) 1 1
  have hD := draw_spec w hw (by omega)
  have hS : Spec PP GG 50 _ (.tup [(tS w (tG w me m).1).1.v, u32 (tS w (tG w me m).1).2.1, i64 (tS w (tG w me m).1).2.2]) [] := seal_spec (drawW w).1 (fit_draw hw (by omega)) (by omega) (tG w me m).1.k 4 ⟨(drawW w).2, 0, 0, 0, 0, 0, 0⟩
  have hU : (personW w me).runs.length ≤ N := personW_runs hw me
  have hAd := pAdd_spec (personW w me).runs w.conf.runs (tkRun w (tG w me m).1) (by omega)
  have hW : Spec PP GG 88 [(tS w (tG w me m).1).1.v, Person.v ⟨(personW w me).name, (personW w me).key, (personW w me).clock, (personW w me).used ++ [(tG w me m).1.k], (personW w me).runs ++ [tkRun w (tG w me m).1], (personW w me).corrupt⟩] (withW (tS w (tG w me m).1).1 (tP w me (tG w me m).1)).v [] := with_spec (tS w (tG w me m).1).1 (tS_fit hw h5 hN hg) (by omega) (tP w me (tG w me m).1) (tP_ok hw hN me hg).1
  have hL : Spec PP GG 87 _ (tY w me (tG w me m).1).v [] := log_spec (withW (tS w (tG w me m).1).1 (tP w me (tG w me m).1)) (tW_fit hw h5 hN me hg) (by omega) (tEv w me (tG w me m).1)
  have hSn := send_spec (tY w me (tG w me m).1) (tY_fit hw h5 hN hme hg) (by omega) (tG w me m).1.a ⟨4, 0, 0, 0, 0, (tS w (tG w me m).1).2.1, 0⟩ (boxMsg_ok (by decide) (tS_U hw hN _))
  rw [← tZ] at hSn
  have hz := fun h => @tZ_ok w me (tG w me m).1 (tG w me m).1.a h
  have hnm := name_of hr hme hin
  rw [hnm] at hW
  have ht := @toldT w (personW w me).key m.box
  rw [← tG] at ht
  clear hw hr hg
  cases c0 : (tG w me m).2 with
  | false =>
    have e : ticketB w me m = (w, 6) := by simp only [ticketB, c0, cond_false]
    rw [e]
    rw [c0] at hO
    refine Spec.of_runs Go.Proofs.Tryz.f18 Go.Proofs.Tryz.func18 rfl ?_
    intro w0 M0
    simp only [Go.Proofs.Tryz.f18, List.replicate, List.cons_append, List.nil_append, z, seval]
    (refine CALLS_in (fn := Go.Proofs.Tryz.f46) Go.Proofs.Tryz.func46 rfl (by kernel_rfl) ?_; simp only [Go.Proofs.Tryz.f46, List.replicate, List.cons_append, List.nil_append, z, seval])
    (refine RUNs_draw 1 (by kernel_rfl) ?_; simp only [z, seval])
    (refine DU (hP) (h := ?_); simp only [z, seval])
    (refine ⟨by kernel_rfl, ?_⟩)
    simp only [hnm, z, seval]
    (refine RUNs_draw 1 (by kernel_rfl) ?_; simp only [z, seval])
    (refine DU (hO) (h := ?_); simp only [z, seval])
    (refine ⟨by kernel_rfl, ?_⟩)
    (refine FINS_done ?_; simp only [z, seval])
  | true =>
  rw [c0] at hO
  have ht := ht c0
  cases c1 : pairM w.people (tG w me m).1.a me with
  | false =>
    rw [c1] at hPr
    have e : ticketB w me m = (w, 5) := by simp only [ticketB, c0, c1, cond_true, cond_false]
    rw [e]
    refine Spec.of_runs Go.Proofs.Tryz.f18 Go.Proofs.Tryz.func18 rfl ?_
    intro w0 M0
    simp only [Go.Proofs.Tryz.f18, List.replicate, List.cons_append, List.nil_append, z, seval]
    (refine CALLS_in (fn := Go.Proofs.Tryz.f46) Go.Proofs.Tryz.func46 rfl (by kernel_rfl) ?_; simp only [Go.Proofs.Tryz.f46, List.replicate, List.cons_append, List.nil_append, z, seval])
    (refine RUNs_draw 1 (by kernel_rfl) ?_; simp only [z, seval])
    (refine DU (hP) (h := ?_); simp only [z, seval])
    (refine ⟨by kernel_rfl, ?_⟩)
    simp only [hnm, z, seval]
    (refine RUNs_draw 1 (by kernel_rfl) ?_; simp only [z, seval])
    (refine DU (hO) (h := ?_); simp only [z, seval])
    (refine ⟨by kernel_rfl, ?_⟩)
    (refine CALLS_in (fn := Go.Proofs.Tryz.f48) Go.Proofs.Tryz.func48 rfl (by kernel_rfl) ?_; simp only [Go.Proofs.Tryz.f48, List.replicate, List.cons_append, List.nil_append, z, seval])
    (refine RUNs_draw 0 (by kernel_rfl) ?_; simp only [z, seval])
    (refine DU (hPr) (h := ?_); simp only [z, seval])
    (refine ⟨by kernel_rfl, ?_⟩)
    (refine FINS_done ?_; simp only [z, seval])
  | true =>
  rw [c1] at hPr
  cases c2 : freshM (personW w me).clock (tG w me m).1.t w.conf.window with
  | false =>
    rw [c2] at hFr
    have e : ticketB w me m = (w, 7) := by simp only [ticketB, c0, c1, c2, cond_true, cond_false]
    rw [e]
    refine Spec.of_runs Go.Proofs.Tryz.f18 Go.Proofs.Tryz.func18 rfl ?_
    intro w0 M0
    simp only [Go.Proofs.Tryz.f18, List.replicate, List.cons_append, List.nil_append, z, seval]
    (refine CALLS_in (fn := Go.Proofs.Tryz.f46) Go.Proofs.Tryz.func46 rfl (by kernel_rfl) ?_; simp only [Go.Proofs.Tryz.f46, List.replicate, List.cons_append, List.nil_append, z, seval])
    (refine RUNs_draw 1 (by kernel_rfl) ?_; simp only [z, seval])
    (refine DU (hP) (h := ?_); simp only [z, seval])
    (refine ⟨by kernel_rfl, ?_⟩)
    simp only [hnm, z, seval]
    (refine RUNs_draw 1 (by kernel_rfl) ?_; simp only [z, seval])
    (refine DU (hO) (h := ?_); simp only [z, seval])
    (refine ⟨by kernel_rfl, ?_⟩)
    (refine CALLS_in (fn := Go.Proofs.Tryz.f48) Go.Proofs.Tryz.func48 rfl (by kernel_rfl) ?_; simp only [Go.Proofs.Tryz.f48, List.replicate, List.cons_append, List.nil_append, z, seval])
    (refine RUNs_draw 0 (by kernel_rfl) ?_; simp only [z, seval])
    (refine DU (hPr) (h := ?_); simp only [z, seval])
    (refine ⟨by kernel_rfl, ?_⟩)
    (refine RUNs_draw 0 (by kernel_rfl) ?_; simp only [z, seval])
    (refine DU (hFr) (h := ?_); simp only [z, seval])
    (refine ⟨by kernel_rfl, ?_⟩)
    (refine FINS_done ?_; simp only [z, seval])
  | true =>
  rw [c2] at hFr
  cases c3 : (usedMay (personW w me).used w.conf.used (tG w me m).1.k == 0) with
  | false =>
    have e : ticketB w me m = (w, usedMay (personW w me).used w.conf.used (tG w me m).1.k) := by simp only [ticketB, c0, c1, c2, c3, cond_true, cond_false]
    rw [e]
    refine Spec.of_runs Go.Proofs.Tryz.f18 Go.Proofs.Tryz.func18 rfl ?_
    intro w0 M0
    simp only [Go.Proofs.Tryz.f18, List.replicate, List.cons_append, List.nil_append, z, seval]
    (refine CALLS_in (fn := Go.Proofs.Tryz.f46) Go.Proofs.Tryz.func46 rfl (by kernel_rfl) ?_; simp only [Go.Proofs.Tryz.f46, List.replicate, List.cons_append, List.nil_append, z, seval])
    (refine RUNs_draw 1 (by kernel_rfl) ?_; simp only [z, seval])
    (refine DU (hP) (h := ?_); simp only [z, seval])
    (refine ⟨by kernel_rfl, ?_⟩)
    simp only [hnm, z, seval]
    (refine RUNs_draw 1 (by kernel_rfl) ?_; simp only [z, seval])
    (refine DU (hO) (h := ?_); simp only [z, seval])
    (refine ⟨by kernel_rfl, ?_⟩)
    (refine CALLS_in (fn := Go.Proofs.Tryz.f48) Go.Proofs.Tryz.func48 rfl (by kernel_rfl) ?_; simp only [Go.Proofs.Tryz.f48, List.replicate, List.cons_append, List.nil_append, z, seval])
    (refine RUNs_draw 0 (by kernel_rfl) ?_; simp only [z, seval])
    (refine DU (hPr) (h := ?_); simp only [z, seval])
    (refine ⟨by kernel_rfl, ?_⟩)
    (refine RUNs_draw 0 (by kernel_rfl) ?_; simp only [z, seval])
    (refine DU (hFr) (h := ?_); simp only [z, seval])
    (refine ⟨by kernel_rfl, ?_⟩)
    (refine RUNs_draw 0 (by kernel_rfl) ?_; simp only [z, seval])
    (refine DU (hMy) (h := ?_); simp only [z, seval])
    (refine ⟨by kernel_rfl, ?_⟩)
    simp only [c3, z, seval]
    (refine FINS_done ?_; simp only [z, seval])
  | true =>
  have hno : usedNote (personW w me).used w.conf.used (tG w me m).1.k = ((personW w me).used ++ [(tG w me m).1.k], 0) := by rw [usedNote, c3]; rfl
  rw [hno] at hNo
  cases c4 : full w (personW w me) with
  | true =>
    have e : ticketB w me m = (w, 10) := by simp only [ticketB, c0, c1, c2, c3, c4, cond_true, cond_false, Bool.not_true, Bool.false_and]
    rw [e]
    simp only [full] at c4
    refine Spec.of_runs Go.Proofs.Tryz.f18 Go.Proofs.Tryz.func18 rfl ?_
    intro w0 M0
    simp only [Go.Proofs.Tryz.f18, List.replicate, List.cons_append, List.nil_append, z, seval]
    (refine CALLS_in (fn := Go.Proofs.Tryz.f46) Go.Proofs.Tryz.func46 rfl (by kernel_rfl) ?_; simp only [Go.Proofs.Tryz.f46, List.replicate, List.cons_append, List.nil_append, z, seval])
    (refine RUNs_draw 1 (by kernel_rfl) ?_; simp only [z, seval])
    (refine DU (hP) (h := ?_); simp only [z, seval])
    (refine ⟨by kernel_rfl, ?_⟩)
    simp only [hnm, z, seval]
    (refine RUNs_draw 1 (by kernel_rfl) ?_; simp only [z, seval])
    (refine DU (hO) (h := ?_); simp only [z, seval])
    (refine ⟨by kernel_rfl, ?_⟩)
    (refine CALLS_in (fn := Go.Proofs.Tryz.f48) Go.Proofs.Tryz.func48 rfl (by kernel_rfl) ?_; simp only [Go.Proofs.Tryz.f48, List.replicate, List.cons_append, List.nil_append, z, seval])
    (refine RUNs_draw 0 (by kernel_rfl) ?_; simp only [z, seval])
    (refine DU (hPr) (h := ?_); simp only [z, seval])
    (refine ⟨by kernel_rfl, ?_⟩)
    (refine RUNs_draw 0 (by kernel_rfl) ?_; simp only [z, seval])
    (refine DU (hFr) (h := ?_); simp only [z, seval])
    (refine ⟨by kernel_rfl, ?_⟩)
    (refine RUNs_draw 0 (by kernel_rfl) ?_; simp only [z, seval])
    (refine DU (hMy) (h := ?_); simp only [z, seval])
    (refine ⟨by kernel_rfl, ?_⟩)
    simp only [c3, z, seval]
    (refine RUNs_draw 0 (by kernel_rfl) ?_; simp only [z, seval])
    simp only [c4, z, seval]
    (refine ⟨by kernel_rfl, ?_⟩)
    (refine FINS_done ?_; simp only [z, seval])
  | false =>
  have hadd : runsAdd (personW w me).runs w.conf.runs (tkRun w (tG w me m).1) = ((personW w me).runs ++ [tkRun w (tG w me m).1], 0) := by
    rw [full] at c4
    rw [runsAdd, c4]; rfl
  rw [hadd] at hAd
  simp only [full] at c4
  cases c5 : roomW w 1 1 with
  | false =>
    rw [c5] at hRm
    have e : ticketB w me m = (w, 10) := by simp only [ticketB, c0, c1, c2, c3, c5, Bool.and_false, cond_true, cond_false]
    rw [e]
    refine Spec.of_runs Go.Proofs.Tryz.f18 Go.Proofs.Tryz.func18 rfl ?_
    intro w0 M0
    simp only [Go.Proofs.Tryz.f18, List.replicate, List.cons_append, List.nil_append, z, seval]
    (refine CALLS_in (fn := Go.Proofs.Tryz.f46) Go.Proofs.Tryz.func46 rfl (by kernel_rfl) ?_; simp only [Go.Proofs.Tryz.f46, List.replicate, List.cons_append, List.nil_append, z, seval])
    (refine RUNs_draw 1 (by kernel_rfl) ?_; simp only [z, seval])
    (refine DU (hP) (h := ?_); simp only [z, seval])
    (refine ⟨by kernel_rfl, ?_⟩)
    simp only [hnm, z, seval]
    (refine RUNs_draw 1 (by kernel_rfl) ?_; simp only [z, seval])
    (refine DU (hO) (h := ?_); simp only [z, seval])
    (refine ⟨by kernel_rfl, ?_⟩)
    (refine CALLS_in (fn := Go.Proofs.Tryz.f48) Go.Proofs.Tryz.func48 rfl (by kernel_rfl) ?_; simp only [Go.Proofs.Tryz.f48, List.replicate, List.cons_append, List.nil_append, z, seval])
    (refine RUNs_draw 0 (by kernel_rfl) ?_; simp only [z, seval])
    (refine DU (hPr) (h := ?_); simp only [z, seval])
    (refine ⟨by kernel_rfl, ?_⟩)
    (refine RUNs_draw 0 (by kernel_rfl) ?_; simp only [z, seval])
    (refine DU (hFr) (h := ?_); simp only [z, seval])
    (refine ⟨by kernel_rfl, ?_⟩)
    (refine RUNs_draw 0 (by kernel_rfl) ?_; simp only [z, seval])
    (refine DU (hMy) (h := ?_); simp only [z, seval])
    (refine ⟨by kernel_rfl, ?_⟩)
    simp only [c3, z, seval]
    (refine RUNs_draw 0 (by kernel_rfl) ?_; simp only [z, seval])
    simp only [c4, z, seval]
    (refine DU (hRm) (h := ?_); simp only [z, seval])
    (refine ⟨by kernel_rfl, ?_⟩)
    (refine FINS_done ?_; simp only [z, seval])
  | true =>
  rw [c5] at hRm
  rw [hz c5] at hSn
  have e0 : ticketB w me m = (bif (tS w (tG w me m).1).2.2 == 0 then (tZ w me (tG w me m).1, 0) else (w, (tS w (tG w me m).1).2.2)) := by
    have c4' : full w (personW w me) = false := c4
    simp only [ticketB, c0, c1, c2, c3, c4', c5, Bool.true_and, cond_true, Bool.not_false]
  rw [e0]
  clear e0
  refine Spec.of_runs Go.Proofs.Tryz.f18 Go.Proofs.Tryz.func18 rfl ?_
  intro w0 M0
  simp only [Go.Proofs.Tryz.f18, List.replicate, List.cons_append, List.nil_append, z, seval]
  (refine CALLS_in (fn := Go.Proofs.Tryz.f46) Go.Proofs.Tryz.func46 rfl (by kernel_rfl) ?_; simp only [Go.Proofs.Tryz.f46, List.replicate, List.cons_append, List.nil_append, z, seval])
  (refine RUNs_draw 1 (by kernel_rfl) ?_; simp only [z, seval])
  (refine DU (hP) (h := ?_); simp only [z, seval])
  (refine ⟨by kernel_rfl, ?_⟩)
  simp only [hnm, z, seval]
  (refine RUNs_draw 1 (by kernel_rfl) ?_; simp only [z, seval])
  (refine DU (hO) (h := ?_); simp only [z, seval])
  (refine ⟨by kernel_rfl, ?_⟩)
  (refine CALLS_in (fn := Go.Proofs.Tryz.f48) Go.Proofs.Tryz.func48 rfl (by kernel_rfl) ?_; simp only [Go.Proofs.Tryz.f48, List.replicate, List.cons_append, List.nil_append, z, seval])
  (refine RUNs_draw 0 (by kernel_rfl) ?_; simp only [z, seval])
  (refine DU (hPr) (h := ?_); simp only [z, seval])
  (refine ⟨by kernel_rfl, ?_⟩)
  (refine RUNs_draw 0 (by kernel_rfl) ?_; simp only [z, seval])
  (refine DU (hFr) (h := ?_); simp only [z, seval])
  (refine ⟨by kernel_rfl, ?_⟩)
  (refine RUNs_draw 0 (by kernel_rfl) ?_; simp only [z, seval])
  (refine DU (hMy) (h := ?_); simp only [z, seval])
  (refine ⟨by kernel_rfl, ?_⟩)
  simp only [c3, z, seval]
  (refine RUNs_draw 0 (by kernel_rfl) ?_; simp only [z, seval])
  simp only [c4, z, seval]
  (refine DU (hRm) (h := ?_); simp only [z, seval])
  (refine ⟨by kernel_rfl, ?_⟩)
  (refine CU (hD) (h := ?_); simp only [z, seval])
  (refine CU (hS) (h := ?_); simp only [z, seval])
  cases c6 : ((tS w (tG w me m).1).2.2 == 0) with
  | false =>
    simp only [c6, z, seval]
    (refine FINS_done ?_; simp only [z, seval])
  | true =>
  simp only [c6, z, seval]
  have hcf : (tS w (tG w me m).1).1.conf = w.conf := by rw [tS, conf_seal]; rfl
  rw [← hcf] at hNo hAd
  (refine RUNs_draw 0 (by kernel_rfl) ?_; simp only [z, seval])
  (refine DU (hNo) (h := ?_); simp only [z, seval])
  (refine ⟨by kernel_rfl, ?_⟩)
  (refine RUNs_draw 0 (by kernel_rfl) ?_; simp only [z, seval])
  (refine DU (hAd) (h := ?_); simp only [z, seval])
  (refine ⟨by kernel_rfl, ?_⟩)
  (refine CALLS_in (fn := Go.Proofs.Tryz.f53) Go.Proofs.Tryz.func53 rfl (by kernel_rfl) ?_; simp only [Go.Proofs.Tryz.f53, List.replicate, List.cons_append, List.nil_append, z, seval])
  (refine RUNs_draw 0 (by kernel_rfl) ?_; simp only [z, seval])
  (refine DU (hW) (h := ?_); simp only [z, seval])
  (refine DU (hL) (h := ?_); simp only [z, seval])
  (refine ⟨by kernel_rfl, ?_⟩)
  (refine RUNs_draw 0 (by kernel_rfl) ?_; simp only [z, seval])
  (refine DU (hSn) (h := ?_); simp only [z, seval])
  (refine ⟨by kernel_rfl, ?_⟩)
  (refine FINS_done ?_; simp only [z, seval])
theorem BackB_spec (w : World) (me : Int) (m : Msg) {N : Nat} (hw : w.fit N) (hN : N ≤ 400000000000) (hme : U me) (hr : Right10 w.people = true) : Spec PP GG 21 [w.v, u32 me, m.v] (.tup [(backB w me m).1.v, i64 (backB w me m).2]) [] := by
  have hP := person_spec w hw (by omega) me hme
  have hU : (personW w me).runs.length ≤ N := personW_runs hw me
  have hO := fun k => open_spec w hw (by omega) k 5 m.box
  have hNx := fun f => pNext_spec (personW w me).runs f 1 2 2 (by omega)
  have hFr : ∀ i, (hi : i < (personW w me).runs.length) → _ := fun i hi => fresh_spec (personW w me).clock (personW w me).runs[i].t w.conf.window (personW_ok hw me).2.2.1 (by have := (runAt_ok hw me i).2.2.2.2.2.2.2.1; rw [runAt_get hi] at this; exact this) hw.ok.1.1
  have hS : ∀ i, (hi : i < (personW w me).runs.length) → May09 (endR' (runAt (personW w me).runs i)) = true → _ := fun i hi hm9 => pSetR_spec (personW w me).runs i (endR' (runAt (personW w me).runs i)) hi hm9 (by omega)
  have hwt := fun i => with_spec w hw (by omega) (setRun (personW w me) i (endR' (runAt (personW w me).runs i))) (personW_ok hw me).1
  have hL : ∀ i, Spec PP GG 87 _ (kT w me i).v [] := fun i => log_spec (withW w (setRun (personW w me) i (endR' (runAt (personW w me).runs i)))) (set_fit hw me i (endR'_ok (runAt_ok hw me i))) (by omega) ⟨4, 1, 2, (runAt (personW w me).runs i).peer, me, (runAt (personW w me).runs i).k, (runAt (personW w me).runs i).t, 0, (runAt (personW w me).runs i).mine, (personW w me).clock⟩
  have hnm := fun h => name_of hr hme h
  have hfa := @first_at (personW w me).runs (kQ w m)
  have hfn := @first_none (personW w me).runs (kQ w m)
  have hsh : backB w me m = match (personW w me).runs.findIdx? (kQ w m) with
    | none => (w, (6 : Int))
    | some i => bif freshM (personW w me).clock (runAt (personW w me).runs i).t w.conf.window then (kT w me i, (0 : Int)) else (w, (7 : Int)) := rfl
  have hkq : ∀ r, isRun 1 2 2 r = false → kQ w m r = false := fun r h => by rw [kQ, h]; rfl
  have hin : ∀ i, i < (personW w me).runs.length → me.toNat < w.people.length := fun i h => has_runs h
  have hrun : ∀ i, i < (personW w me).runs.length → isRun 1 2 2 (runAt (personW w me).runs i) = true → May09 (endR' (runAt (personW w me).runs i)) = true := fun i _ h => by
    simp only [isRun, Bool.and_eq_true, beq_iff_eq] at h
    rw [endR', h.1, h.2.1]; rfl
  clear hw hr
  generalize hp : personW w me = p at *
  refine Spec.of_runs Go.Proofs.Tryz.f21 Go.Proofs.Tryz.func21 rfl ?_
  intro w0 M0
  simp only [Go.Proofs.Tryz.f21, List.replicate, List.cons_append, List.nil_append, z, seval]
  (refine CALLS_in (fn := Go.Proofs.Tryz.f46) Go.Proofs.Tryz.func46 rfl (by kernel_rfl) ?_; simp only [Go.Proofs.Tryz.f46, List.replicate, List.cons_append, List.nil_append, z, seval])
  (refine RUNs_draw 1 (by kernel_rfl) ?_; simp only [z, seval])
  (refine DU (hP) (h := ?_); simp only [z, seval])
  (refine ⟨by kernel_rfl, ?_⟩)
  (refine CALLS_in (fn := Go.Proofs.Tryz.f69) Go.Proofs.Tryz.func69 rfl (by kernel_rfl) ?_; simp only [Go.Proofs.Tryz.f69, List.replicate, List.cons_append, List.nil_append, z, seval])
  (refine CU (hNx 0) (h := ?_); simp only [z, seval])
  refine RUNs_rangeS (p.runs.length + 1) (fun j (f : Nat) => j ≤ f ∧ f ≤ p.runs.length ∧ ∀ i, i < f → kQ w m (runAt p.runs i) = false) (fun _ f => [(6, i64 ((nextR p.runs f (isRun 1 2 2)).getD 0 : Nat)), (7, .bool (nextR p.runs f (isRun 1 2 2)).isSome)]) (fun _ _ => []) 0 ?_ (by simp only [z, seval]; exact wk) rfl ?_
  · exact ⟨Nat.le_refl _, Nat.zero_le _, fun i hi => absurd hi (Nat.not_lt_zero _)⟩
  rintro ⟨j, f, hj, h1, h2, h3⟩
  simp only [z, seval]
  cases c : nextR p.runs f (isRun 1 2 2) with
  | none =>
    have e : p.runs.findIdx? (kQ w m) = none := hfn (fun i hi => by
      rcases Nat.lt_or_ge i f with h | h
      · exact h3 i h
      · exact hkq _ (nextR_none c i h hi))
    rw [e] at hsh
    simp only [Option.isSome_none, Option.getD_none, z, seval]
    (refine FINS_done ?_; simp only [z, seval])
    simp only [hsh, z, seval]
  | some i =>
    obtain ⟨n1, n2, n3, n4⟩ := nextR_some c
    have h4 : ∀ k, k < i → kQ w m (runAt p.runs k) = false := fun k hk => by
      rcases Nat.lt_or_ge k f with h | h
      · exact h3 k h
      · exact hkq _ (n4 k h hk)
    have hg := runAt_get n1
    have hO := hO p.runs[i].k
    have hFr := hFr i n1
    have hS := hS i n1 (hrun i n1 n3)
    have hwt := hwt i
    have hL := hL i
    have hnm := hnm (hin i n1)
    rw [hg] at hS hwt
    simp only [Option.isSome_some, Option.getD_some, getMap Run.v p.runs n1, z, seval]
    (refine RUNs_draw 1 (by kernel_rfl) ?_; simp only [z, seval])
    (refine DU (hO) (h := ?_); simp only [z, seval])
    (refine ⟨by kernel_rfl, ?_⟩)
    cases d : kQ w m p.runs[i] with
    | true =>
      have e := hfa n1 (by rw [hg]; exact d) h4
      rw [e] at hsh
      simp only [hg] at hsh
      simp only [kQ, Bool.and_eq_true] at d
      simp only [setRun, endR', hnm, hg] at hS hwt hL
      simp only [d.2.1, d.2.2, z, seval]
      simp only [getMap Run.v p.runs n1, z, seval]
      (refine RUNs_draw 0 (by kernel_rfl) ?_; simp only [z, seval])
      (refine DU (hFr) (h := ?_); simp only [z, seval])
      (refine ⟨by kernel_rfl, ?_⟩)
      cases d2 : freshM p.clock p.runs[i].t w.conf.window with
      | false =>
        rw [d2] at hsh
        simp only [d2, z, seval]
        (refine FINS_done ?_; simp only [z, seval])
        simp only [hsh, cond_false, z, seval]
      | true =>
        rw [d2] at hsh
        simp only [d2, z, seval]
        (refine RUNs_draw 0 (by kernel_rfl) ?_; simp only [z, seval])
        (refine DU (hS) (h := ?_); simp only [z, seval])
        (refine ⟨by kernel_rfl, ?_⟩)
        (refine CALLS_in (fn := Go.Proofs.Tryz.f53) Go.Proofs.Tryz.func53 rfl (by kernel_rfl) ?_; simp only [Go.Proofs.Tryz.f53, List.replicate, List.cons_append, List.nil_append, z, seval])
        (refine RUNs_draw 0 (by kernel_rfl) ?_; simp only [z, seval])
        simp only [hnm, z, seval]
        (refine DU (hwt) (h := ?_); simp only [z, seval])
        (refine DU (hL) (h := ?_); simp only [z, seval])
        (refine ⟨by kernel_rfl, ?_⟩)
        (refine FINS_done ?_; simp only [z, seval])
        simp only [hsh, cond_true, z, seval]
    | false =>
      have hs : ∀ k, k < i + 1 → kQ w m (runAt p.runs k) = false := fun k hk => by
        rcases Nat.lt_or_ge k i with h | h
        · exact h4 k h
        · obtain rfl : k = i := by omega
          rw [hg]; exact d
      have hlt : j < p.runs.length + 1 := by omega
      rw [hg] at n3
      simp only [kQ, n3, Bool.true_and] at d
      cases d1 : (openW w p.runs[i].k 5 m.box).2 with
      | false =>
        simp only [d1, w64s (i := i) (by omega), z, seval]
        (refine CU (hNx (i + 1)) (h := ?_); simp only [z, seval])
        (refine NX (i + 1) ?_ (by rfl) hlt ?_; simp only [z, seval]; exact wk)
        exact ⟨by show j + 1 ≤ i + 1; omega, n1, hs⟩
      | true =>
        rw [d1, Bool.true_and] at d
        simp only [d1, d, w64s (i := i) (by omega), z, seval]
        (refine CU (hNx (i + 1)) (h := ?_); simp only [z, seval])
        (refine NX (i + 1) ?_ (by rfl) hlt ?_; simp only [z, seval]; exact wk)
        exact ⟨by show j + 1 ≤ i + 1; omega, n1, hs⟩
end Ch

/- The principals of the protocol with times: the document's. (Written before a seat was at hand: not built yet.) -/
set_option maxRecDepth 100000
set_option maxHeartbeats 4000000
set_option linter.unusedSimpArgs false
set_option linter.unusedVariables false
namespace Ch
open Go Go.Ab
theorem rFresh_spec (now t w : Int) (h1 : U now) (h2 : U t) (h3 : U w) : Spec PP GG 24 [u32 now, u32 t, u32 w] (.bool (freshM now t w)) [] := by
  obtain ⟨a1, a2⟩ := h1
  obtain ⟨b1, b2⟩ := h2
  obtain ⟨c1, c2⟩ := h3
  rw [← fresh05_eq]
  have k1 : IntKind.i64.wrap now = now := w64 (by omega) (by omega)
  have k2 : IntKind.i64.wrap t = t := w64 (by omega) (by omega)
  have k3 : IntKind.i64.wrap w = w := w64 (by omega) (by omega)
  have k4 : IntKind.i64.wrap (now - t) = now - t := w64 (by omega) (by omega)
  have k5 : IntKind.i64.wrap (-(now - t)) = -(now - t) := w64 (by omega) (by omega)
  refine Spec.of_runs Go.Proofs.Tryz.f24 Go.Proofs.Tryz.func24 rfl ?_
  intro w0 M0
  simp only [Go.Proofs.Tryz.f24, List.replicate, List.cons_append, List.nil_append, z, seval]
  repeat' ((try simp only [k1, k2, k3, k4, k5, z, seval]); (first | refine brk (fun h => ?_) (fun h => ?_) | fail) <;> simp only [h, k1, k2, k3, k4, k5, z, seval])
  all_goals (refine FINS_done ?_; simp only [z, seval])
  all_goals (first | (simp only [fresh05, *, cond_true, cond_false, Bool.true_and, Bool.and_true, Bool.false_and, Bool.and_false, Bool.true_or, Bool.or_true, Bool.false_or, Bool.or_false, Bool.not_true, Bool.not_false, beq_self_eq_true, Option.getD_some, Option.getD_none, Option.isSome_some, Option.isSome_none, List.map_nil]; done) | (simp only [fresh05, *, cond_true, cond_false, Bool.true_and, Bool.and_true, Bool.false_and, Bool.and_false, Bool.true_or, Bool.or_true, Bool.false_or, Bool.or_false, Bool.not_true, Bool.not_false, beq_self_eq_true, Option.getD_some, Option.getD_none, Option.isSome_some, Option.isSome_none, List.map_nil]; rfl) | (simp [fresh05, *]; done) | (simp_all [fresh05]; done))
theorem rStartN_spec (w : World) (a b : Int) {N : Nat} (hw : w.fit N) (h5 : 21 ≤ N) (hN : N ≤ 400000000000) (ha : U a) (hb : U b) (hr : Right10 w.people = true) : Spec PP GG 30 [w.v, u32 a, u32 b] (.tup [(startN w a b).1.v, i64 (startN w a b).2]) [] := by
  have hPr := rPair_spec w.people (by have := hw.people; omega) hr a b ha hb
  have hPa := rPerson_spec w hw (by omega) hr a ha
  have hRm := rRoom_spec w 0 1 hw.broom hw.nroom (by have := hw.rows; omega) (by have := hw.grams; omega)
  have hD1 := rDraw_spec w hw (by omega)
  have hU : (personW w a).runs.length ≤ N := personW_runs hw a
  have hW : Spec PP GG 60 [(drawW w).1.v, Person.v ⟨(personW w a).name, (personW w a).key, (personW w a).clock, (personW w a).used, (personW w a).runs ++ [aRun w b], (personW w a).corrupt⟩] (withW (drawW w).1 (aP w a b)).v [] := rWith_spec (drawW w).1 (fit_draw hw (by omega)) (by omega) hr (aP w a b) (aP_ok hw hN hb).1
  have hL : Spec PP GG 61 _ (aY w a b).v [] := rLog_spec (withW (drawW w).1 (aP w a b)) (aW_fit hw hN hb) (by omega) (aEv w a b)
  have hSn : Spec PP GG 62 _ (.tup [(aZ w a b).v, _]) [] := rSend_spec (aY w a b) (aY_fit hw hN ha hb) (by omega) 0 (aMsg w a b) (aMsg_ok hw ha hb)
  have e : (personW w a).runs.map Run.v ++ [Run.v ⟨1, 1, b, (drawW w).2, 0, 0, 0, 0, 1⟩] = ((personW w a).runs ++ [aRun w b]).map Run.v := by simp [aRun]
  simp only [mv] at e
  clear hw hr
  cases c1 : pairM w.people a b with
  | false =>
    rw [c1] at hPr
    have e : startN w a b = (w, 5) := by simp only [startN, c1, cond_false]
    rw [e]
    refine Spec.of_runs Go.Proofs.Tryz.f30 Go.Proofs.Tryz.func30 rfl ?_
    intro w0 M0
    simp only [Go.Proofs.Tryz.f30, List.replicate, List.cons_append, List.nil_append, z, seval]
    (refine CU (hPr) (h := ?_); simp only [z, seval])
    (refine FINS_done ?_; simp only [z, seval])
  | true =>
  rw [c1] at hPr
  cases c2 : full w (personW w a) with
  | true =>
    have e : startN w a b = (w, 10) := by simp only [startN, c1, c2, cond_true, cond_false, Bool.not_true, Bool.false_and]
    rw [e]
    simp only [full] at c2
    refine Spec.of_runs Go.Proofs.Tryz.f30 Go.Proofs.Tryz.func30 rfl ?_
    intro w0 M0
    simp only [Go.Proofs.Tryz.f30, List.replicate, List.cons_append, List.nil_append, z, seval]
    (refine CU (hPr) (h := ?_); simp only [z, seval])
    (refine CU (hPa) (h := ?_); simp only [z, seval])
    simp only [c2, z, seval]
    (refine FINS_done ?_; simp only [z, seval])
  | false =>
  cases c3 : roomW w 0 1 with
  | false =>
    rw [c3] at hRm
    have e : startN w a b = (w, 10) := by simp only [startN, c1, c2, c3, cond_true, cond_false, Bool.not_false, Bool.true_and]
    rw [e]
    simp only [full] at c2
    refine Spec.of_runs Go.Proofs.Tryz.f30 Go.Proofs.Tryz.func30 rfl ?_
    intro w0 M0
    simp only [Go.Proofs.Tryz.f30, List.replicate, List.cons_append, List.nil_append, z, seval]
    (refine CU (hPr) (h := ?_); simp only [z, seval])
    (refine CU (hPa) (h := ?_); simp only [z, seval])
    simp only [c2, z, seval]
    (refine CU (hRm) (h := ?_); simp only [z, seval])
    (refine FINS_done ?_; simp only [z, seval])
  | true =>
  rw [c3] at hRm
  have e0 : startN w a b = (aZ w a b, 0) := by simp only [startN, c1, c2, c3, cond_true, Bool.not_false, Bool.true_and]
  rw [e0]
  clear e0
  simp only [full] at c2
  refine Spec.of_runs Go.Proofs.Tryz.f30 Go.Proofs.Tryz.func30 rfl ?_
  intro w0 M0
  simp only [Go.Proofs.Tryz.f30, List.replicate, List.cons_append, List.nil_append, z, seval]
  (refine CU (hPr) (h := ?_); simp only [z, seval])
  (refine CU (hPa) (h := ?_); simp only [z, seval])
  simp only [c2, z, seval]
  (refine CU (hRm) (h := ?_); simp only [z, seval])
  (refine CU (hD1) (h := ?_); simp only [z, seval])
  refine OPC_ok ?_ ?_
  · exact okMap _ (fun a => rfl) (by omega)
  simp only [z, seval]
  refine OPC_ok ?_ ?_
  · simp; omega
  simp only [e, z, seval]
  (refine CU (hW) (h := ?_); simp only [z, seval])
  (refine CU (hL) (h := ?_); simp only [z, seval])
  (refine CU (hSn) (h := ?_); simp only [z, seval])
  (refine FINS_done ?_; simp only [z, seval])
theorem rGrantN_spec (w : World) (me : Int) (m : Msg) {N : Nat} (hw : w.fit N) (h5 : 21 ≤ N) (hN : N ≤ 400000000000) (hme : U me) (hr : Right10 w.people = true) (hb7 : Right07 w.box = true) : Spec PP GG 33 [w.v, u32 me, m.v] (.tup [(grantN w me m).1.v, i64 (grantN w me m).2]) [] := by
  have hP := rPerson_spec w hw (by omega) hr me hme
  have hU : (personW w me).runs.length ≤ N := personW_runs hw me
  have hO := rOpen_spec w hw (by omega) hb7 (personW w me).key 2 m.box
  have hRm := rRoom_spec w 0 1 hw.broom hw.nroom (by have := hw.rows; omega) (by have := hw.grams; omega)
  rw [← aG] at hO
  have hg : (aG w me m).1.ok := openW_ok hw _ _ _
  have hFr := rFresh_spec (personW w me).clock (aG w me m).1.t w.conf.window (personW_ok hw me).2.2.1 hg.2.2.2.2.2.1 hw.ok.1.1
  have hS : ∀ i, (hi : i < (personW w me).runs.length) → Spec PP GG 72 [w.v, (personW w me).v, i64 i, Run.v ⟨(personW w me).runs[i].proto, (personW w me).runs[i].role, (personW w me).runs[i].peer, (personW w me).runs[i].mine, (personW w me).runs[i].their, (personW w me).runs[i].m, (aG w me m).1.k, (aG w me m).1.t, 2⟩] (withW w (setRun (personW w me) i (tookR (runAt (personW w me).runs i) (aG w me m).1))).v [] := fun i hi => by
    have := rWith15_spec w hw (by omega) hr (personW w me) (personW_ok hw me).1 i hi (by omega) (tookR (runAt (personW w me).runs i) (aG w me m).1)
    rw [runAt_get hi] at this ⊢
    exact this
  have hL : ∀ i, (hi : i < (personW w me).runs.length) → Spec PP GG 61 [(withW w (setRun (personW w me) i (tookR (runAt (personW w me).runs i) (aG w me m).1))).v, Event.v ⟨3, 1, 1, me, (personW w me).runs[i].peer, (aG w me m).1.k, (aG w me m).1.t, 0, (personW w me).runs[i].mine, (personW w me).clock⟩] (aT w me (aG w me m).1 i).v [] := fun i hi => by
    have hfit : (withW w (setRun (personW w me) i (tookR (runAt (personW w me).runs i) (aG w me m).1))).fit N := set_fit hw me i (tookR_ok (runAt_ok hw me i) hg)
    have := rLog_spec _ hfit (by omega) ⟨3, 1, 1, me, (runAt (personW w me).runs i).peer, (aG w me m).1.k, (aG w me m).1.t, 0, (runAt (personW w me).runs i).mine, (personW w me).clock⟩
    rw [aT]
    rw [runAt_get hi] at this ⊢
    exact this
  have hSn : ∀ i, (hi : i < (personW w me).runs.length) → Spec PP GG 62 [(aT w me (aG w me m).1 i).v, u32 (personW w me).runs[i].peer, Msg.v ⟨3, 0, 0, 0, 0, (aG w me m).1.h, 0⟩] (.tup [(aX w me (aG w me m).1 i).v, i64 (sendW (aT w me (aG w me m).1 i) (runAt (personW w me).runs i).peer ⟨3, 0, 0, 0, 0, (aG w me m).1.h, 0⟩).2]) [] := fun i hi => by
    have := rSend_spec (aT w me (aG w me m).1 i) (aT_fit hw hN hme hg i) (by omega) (runAt (personW w me).runs i).peer ⟨3, 0, 0, 0, 0, (aG w me m).1.h, 0⟩ (boxMsg_ok (by decide) hg.2.2.2.2.2.2)
    rw [← aX] at this
    rw [runAt_get hi] at this ⊢
    exact this
  have hfa := @first_at (personW w me).runs (aQ (aG w me m).1)
  have hfn := @first_none (personW w me).runs (aQ (aG w me m).1)
  have hsh : grantN w me m = bif (aG w me m).2 then (match (personW w me).runs.findIdx? (aQ (aG w me m).1) with
    | none => (w, (9 : Int))
    | some i => bif freshM (personW w me).clock (aG w me m).1.t w.conf.window then (bif roomW w 0 1 then (aX w me (aG w me m).1 i, (0 : Int)) else (w, (10 : Int))) else (w, (7 : Int))) else (w, (6 : Int)) := rfl
  clear hw hr hb7 hg
  generalize hq : aG w me m = q at *
  generalize hp : personW w me = p at *
  obtain ⟨⟨qn, qm, qa, qb, qk, qt, qh⟩, q2⟩ := q
  cases d1 : q2 with
  | false =>
    rw [d1] at hO hsh
    refine Spec.of_runs Go.Proofs.Tryz.f33 Go.Proofs.Tryz.func33 rfl ?_
    intro w0 M0
    simp only [Go.Proofs.Tryz.f33, List.replicate, List.cons_append, List.nil_append, z, seval]
    (refine CU (hP) (h := ?_); simp only [z, seval])
    (refine CU (hO) (h := ?_); simp only [z, seval])
    (refine FINS_done ?_; simp only [z, seval])
    simp only [hsh, cond_false, z, seval]
  | true =>
  rw [d1] at hO hsh
  simp only [cond_true] at hsh
  refine Spec.of_runs Go.Proofs.Tryz.f33 Go.Proofs.Tryz.func33 rfl ?_
  intro w0 M0
  simp only [Go.Proofs.Tryz.f33, List.replicate, List.cons_append, List.nil_append, z, seval]
  (refine CU (hP) (h := ?_); simp only [z, seval])
  (refine CU (hO) (h := ?_); simp only [z, seval])
  refine RUNs_rangeS (p.runs.length) (fun i (_ : Unit) => ∀ j, j < i → aQ ⟨qn, qm, qa, qb, qk, qt, qh⟩ (runAt p.runs j) = false) (fun i _ => [(11, i64 i)]) (fun i _ => []) () ?_ (by simp only [z, seval]; exact wk) rfl ?_
  · intro j h; exact absurd h (Nat.not_lt_zero _)
  rintro ⟨i, _, hi, hw'⟩
  simp only [z, seval]
  first | refine brk (fun h => ?_) (fun h => ?_) | fail
  · have hlt : i < p.runs.length := by have := of_decide_eq_true h; omega
    have hg := runAt_get hlt
    have hS := hS i hlt
    have hL := hL i hlt
    have hSn := hSn i hlt
    simp only [h, getMap Run.v p.runs hlt, z, seval]
    cases c : aQ ⟨qn, qm, qa, qb, qk, qt, qh⟩ p.runs[i] with
    | true =>
      have e := hfa hlt (by rw [hg]; exact c) hw'
      rw [e] at hsh
      simp only [hg] at hsh
      simp only [aQ, isRun, Bool.and_eq_true] at c
      simp only [c.1.1, c.1.2.1, c.1.2.2, c.2.1, c.2.2, z, seval]
      (refine CU (hFr) (h := ?_); simp only [z, seval])
      cases d2 : freshM p.clock qt w.conf.window with
      | false =>
        rw [d2] at hsh
        simp only [d2, z, seval]
        (refine FINS_done ?_; simp only [z, seval])
        simp only [hsh, cond_false, z, seval]
      | true =>
        rw [d2] at hsh
        simp only [d2, z, seval]
        (refine CU (hRm) (h := ?_); simp only [z, seval])
        cases d3 : roomW w 0 1 with
        | false =>
          rw [d3] at hsh
          simp only [d3, z, seval]
          (refine FINS_done ?_; simp only [z, seval])
          simp only [hsh, cond_true, cond_false, z, seval]
        | true =>
          rw [d3] at hsh
          simp only [d3, z, seval]
          (refine CU (hS) (h := ?_); simp only [z, seval])
          (refine CU (hL) (h := ?_); simp only [z, seval])
          (refine CU (hSn) (h := ?_); simp only [z, seval])
          (refine FINS_done ?_; simp only [z, seval])
          simp only [hsh, cond_true, z, seval]
    | false =>
      have hs := findIdx_none_take hlt hw' c
      simp only [aQ, isRun] at c
      cases c1 : (p.runs[i].proto == 1) <;> cases c2 : (p.runs[i].role == 1) <;> cases c3 : (p.runs[i].state == 1) <;> cases c4 : (p.runs[i].mine == qn) <;> cases c5 : (p.runs[i].peer == qb)
      all_goals
        simp only [c1, c2, c3, c4, c5, z, seval]
        first
          | (exfalso; rw [c1, c2, c3, c4, c5] at c; exact absurd c (by decide))
          | (simp only [w64s (i := i) (by omega), z, seval]
             refine NX () ?_ (by rfl) hlt hs
             first | exact wk | (simp only [z, seval]; exact wk))
  · have : i = p.runs.length := by have := of_decide_eq_false h; omega
    subst this
    simp only [h, z, seval]
    rw [hfn hw'] at hsh
    (refine FINS_done ?_; simp only [z, seval])
    simp only [hsh, z, seval]
theorem rBackB_spec (w : World) (me : Int) (m : Msg) {N : Nat} (hw : w.fit N) (hN : N ≤ 400000000000) (hme : U me) (hr : Right10 w.people = true) (hb7 : Right07 w.box = true) : Spec PP GG 22 [w.v, u32 me, m.v] (.tup [(backB w me m).1.v, i64 (backB w me m).2]) [] := by
  have hP := rPerson_spec w hw (by omega) hr me hme
  have hU : (personW w me).runs.length ≤ N := personW_runs hw me
  have hO := fun k => rOpen_spec w hw (by omega) hb7 k 5 m.box
  have hFr : ∀ i, (hi : i < (personW w me).runs.length) → _ := fun i hi => rFresh_spec (personW w me).clock (personW w me).runs[i].t w.conf.window (personW_ok hw me).2.2.1 (by have := (runAt_ok hw me i).2.2.2.2.2.2.2.1; rw [runAt_get hi] at this; exact this) hw.ok.1.1
  have hS : ∀ i, (hi : i < (personW w me).runs.length) → Spec PP GG 72 [w.v, (personW w me).v, i64 i, Run.v ⟨(personW w me).runs[i].proto, (personW w me).runs[i].role, (personW w me).runs[i].peer, (personW w me).runs[i].mine, (personW w me).runs[i].their, (personW w me).runs[i].m, (personW w me).runs[i].k, (personW w me).runs[i].t, 3⟩] (withW w (setRun (personW w me) i (endR' (runAt (personW w me).runs i)))).v [] := fun i hi => by
    have := rWith15_spec w hw (by omega) hr (personW w me) (personW_ok hw me).1 i hi (by omega) (endR' (runAt (personW w me).runs i))
    rw [runAt_get hi] at this ⊢
    exact this
  have hL : ∀ i, (hi : i < (personW w me).runs.length) → Spec PP GG 61 [(withW w (setRun (personW w me) i (endR' (runAt (personW w me).runs i)))).v, Event.v ⟨4, 1, 2, (personW w me).runs[i].peer, me, (personW w me).runs[i].k, (personW w me).runs[i].t, 0, (personW w me).runs[i].mine, (personW w me).clock⟩] (kT w me i).v [] := fun i hi => by
    have hfit : (withW w (setRun (personW w me) i (endR' (runAt (personW w me).runs i)))).fit N := set_fit hw me i (endR'_ok (runAt_ok hw me i))
    have := rLog_spec _ hfit (by omega) ⟨4, 1, 2, (runAt (personW w me).runs i).peer, me, (runAt (personW w me).runs i).k, (runAt (personW w me).runs i).t, 0, (runAt (personW w me).runs i).mine, (personW w me).clock⟩
    rw [kT]
    rw [runAt_get hi] at this ⊢
    exact this
  have hfa := @first_at (personW w me).runs (kQ w m)
  have hfn := @first_none (personW w me).runs (kQ w m)
  have hsh : backB w me m = match (personW w me).runs.findIdx? (kQ w m) with
    | none => (w, (6 : Int))
    | some i => bif freshM (personW w me).clock (runAt (personW w me).runs i).t w.conf.window then (kT w me i, (0 : Int)) else (w, (7 : Int)) := rfl
  clear hw hr hb7
  generalize hp : personW w me = p at *
  refine Spec.of_runs Go.Proofs.Tryz.f22 Go.Proofs.Tryz.func22 rfl ?_
  intro w0 M0
  simp only [Go.Proofs.Tryz.f22, List.replicate, List.cons_append, List.nil_append, z, seval]
  (refine CU (hP) (h := ?_); simp only [z, seval])
  refine RUNs_rangeS (p.runs.length) (fun i (_ : Unit) => ∀ j, j < i → kQ w m (runAt p.runs j) = false) (fun i _ => [(9, i64 i)]) (fun i _ => []) () ?_ (by simp only [z, seval]; exact wk) rfl ?_
  · intro j h; exact absurd h (Nat.not_lt_zero _)
  rintro ⟨i, _, hi, hw'⟩
  simp only [z, seval]
  first | refine brk (fun h => ?_) (fun h => ?_) | fail
  · have hlt : i < p.runs.length := by have := of_decide_eq_true h; omega
    have hg := runAt_get hlt
    have hS := hS i hlt
    have hL := hL i hlt
    have hFr := hFr i hlt
    have hO := hO p.runs[i].k
    simp only [h, getMap Run.v p.runs hlt, z, seval]
    (refine CU (hO) (h := ?_); simp only [z, seval])
    cases c : kQ w m p.runs[i] with
    | true =>
      have e := hfa hlt (by rw [hg]; exact c) hw'
      rw [e] at hsh
      simp only [hg] at hsh
      simp only [kQ, isRun, Bool.and_eq_true] at c
      simp only [c.1.1, c.1.2.1, c.1.2.2, c.2.1, c.2.2, z, seval]
      (refine CU (hFr) (h := ?_); simp only [z, seval])
      cases d2 : freshM p.clock p.runs[i].t w.conf.window with
      | false =>
        rw [d2] at hsh
        simp only [d2, z, seval]
        (refine FINS_done ?_; simp only [z, seval])
        simp only [hsh, cond_false, z, seval]
      | true =>
        rw [d2] at hsh
        simp only [d2, z, seval]
        (refine CU (hS) (h := ?_); simp only [z, seval])
        (refine CU (hL) (h := ?_); simp only [z, seval])
        (refine FINS_done ?_; simp only [z, seval])
        simp only [hsh, cond_true, z, seval]
    | false =>
      have hs := findIdx_none_take hlt hw' c
      simp only [kQ, isRun] at c
      cases c1 : (p.runs[i].proto == 1) <;> cases c2 : (p.runs[i].role == 2) <;> cases c3 : (p.runs[i].state == 2) <;> cases c4 : (openW w p.runs[i].k 5 m.box).2 <;> cases c5 : ((openW w p.runs[i].k 5 m.box).1.n == p.runs[i].mine)
      all_goals
        simp only [c1, c2, c3, c4, c5, z, seval]
        first
          | (exfalso; rw [c1, c2, c3, c4, c5] at c; exact absurd c (by decide))
          | (simp only [w64s (i := i) (by omega), z, seval]
             refine NX () ?_ (by rfl) hlt hs
             first | exact wk | (simp only [z, seval]; exact wk))
  · have : i = p.runs.length := by have := of_decide_eq_false h; omega
    subst this
    simp only [h, z, seval]
    rw [hfn hw'] at hsh
    (refine FINS_done ?_; simp only [z, seval])
    simp only [hsh, z, seval]
theorem rEchoN_spec (w : World) (me : Int) (m : Msg) {N : Nat} (hw : w.fit N) (h5 : 21 ≤ N) (hN : N ≤ 400000000000) (hme : U me) (hr : Right10 w.people = true) (hb7 : Right07 w.box = true) : Spec PP GG 35 [w.v, u32 me, m.v] (.tup [(echoN w me m).1.v, i64 (echoN w me m).2]) [] := by
  have hP := rPerson_spec w hw (by omega) hr me hme
  have hU : (personW w me).runs.length ≤ N := personW_runs hw me
  have hO := fun k => rOpen_spec w hw (by omega) hb7 k 4 m.box
  have hRm := rRoom_spec w 1 1 hw.broom hw.nroom (by have := hw.rows; omega) (by have := hw.grams; omega)
  have hFr : ∀ i, (hi : i < (personW w me).runs.length) → _ := fun i hi => rFresh_spec (personW w me).clock (personW w me).runs[i].t w.conf.window (personW_ok hw me).2.2.1 (by have := (runAt_ok hw me i).2.2.2.2.2.2.2.1; rw [runAt_get hi] at this; exact this) hw.ok.1.1
  have hn : ∀ i, U (eN w me m i) := fun i => (openW_ok hw _ _ _).1
  have hSe : ∀ i, (hi : i < (personW w me).runs.length) → Spec PP GG 44 [w.v, u32 (personW w me).runs[i].k, u32 5, Part.v ⟨eN w me m i, 0, 0, 0, 0, 0, 0⟩] (.tup [(eS w me (eN w me m i) i).1.v, u32 (eS w me (eN w me m i) i).2.1, i64 (eS w me (eN w me m i) i).2.2]) [] := fun i hi => by
    have := rSeal_spec w hw (by omega) (runAt (personW w me).runs i).k 5 ⟨eN w me m i, 0, 0, 0, 0, 0, 0⟩
    rw [eS]
    rw [runAt_get hi] at this ⊢
    exact this
  have hS : ∀ i, (hi : i < (personW w me).runs.length) → Spec PP GG 72 [(eS w me (eN w me m i) i).1.v, (personW w me).v, i64 i, Run.v ⟨(personW w me).runs[i].proto, (personW w me).runs[i].role, (personW w me).runs[i].peer, (personW w me).runs[i].mine, eN w me m i, (personW w me).runs[i].m, (personW w me).runs[i].k, (personW w me).runs[i].t, 3⟩] (withW (eS w me (eN w me m i) i).1 (setRun (personW w me) i (backR (runAt (personW w me).runs i) (eN w me m i)))).v [] := fun i hi => by
    have := rWith15_spec (eS w me (eN w me m i) i).1 (eS_fit hw h5 hN (hn i) i) (by omega) (by rw [eS, people_seal]; exact hr) (personW w me) (personW_ok hw me).1 i hi (by omega) (backR (runAt (personW w me).runs i) (eN w me m i))
    rw [runAt_get hi] at this ⊢
    exact this
  have hL : ∀ i, (hi : i < (personW w me).runs.length) → Spec PP GG 61 [(withW (eS w me (eN w me m i) i).1 (setRun (personW w me) i (backR (runAt (personW w me).runs i) (eN w me m i)))).v, Event.v ⟨4, 1, 1, me, (personW w me).runs[i].peer, (personW w me).runs[i].k, (personW w me).runs[i].t, 0, eN w me m i, (personW w me).clock⟩] (eT w me (eN w me m i) i).v [] := fun i hi => by
    have := rLog_spec _ (eW_fit (me := me) hw h5 hN (hn i) i) (by omega) ⟨4, 1, 1, me, (runAt (personW w me).runs i).peer, (runAt (personW w me).runs i).k, (runAt (personW w me).runs i).t, 0, eN w me m i, (personW w me).clock⟩
    rw [eT]
    rw [runAt_get hi] at this ⊢
    exact this
  have hSn : ∀ i, (hi : i < (personW w me).runs.length) → Spec PP GG 62 [(eT w me (eN w me m i) i).v, u32 (personW w me).runs[i].peer, Msg.v ⟨5, 0, 0, 0, 0, (eS w me (eN w me m i) i).2.1, 0⟩] (.tup [(eX w me (eN w me m i) i).v, i64 (sendW (eT w me (eN w me m i) i) (runAt (personW w me).runs i).peer ⟨5, 0, 0, 0, 0, (eS w me (eN w me m i) i).2.1, 0⟩).2]) [] := fun i hi => by
    have := rSend_spec (eT w me (eN w me m i) i) (eT_fit hw h5 hN hme (hn i) i) (by omega) (runAt (personW w me).runs i).peer ⟨5, 0, 0, 0, 0, (eS w me (eN w me m i) i).2.1, 0⟩ (boxMsg_ok (by decide) (eS_U hw me _ i))
    rw [← eX] at this
    rw [runAt_get hi] at this ⊢
    exact this
  have hfa := @first_at (personW w me).runs (eQ w m)
  have hfn := @first_none (personW w me).runs (eQ w m)
  have hen : ∀ i, (hi : i < (personW w me).runs.length) → (openW w (personW w me).runs[i].k 4 m.box).1.n = eN w me m i := fun i hi => by rw [eN, runAt_get hi]
  have ht := fun k => @toldE w k m.box
  have hsh : echoN w me m = match (personW w me).runs.findIdx? (eQ w m) with
    | none => (w, (6 : Int))
    | some i => bif freshM (personW w me).clock (runAt (personW w me).runs i).t w.conf.window then (bif roomW w 1 1 then
      (bif (eS w me (eN w me m i) i).2.2 == 0 then (eX w me (eN w me m i) i, (0 : Int)) else (w, (eS w me (eN w me m i) i).2.2)) else (w, (10 : Int))) else (w, (7 : Int)) := rfl
  clear hw hr hb7
  generalize hp : personW w me = p at *
  refine Spec.of_runs Go.Proofs.Tryz.f35 Go.Proofs.Tryz.func35 rfl ?_
  intro w0 M0
  simp only [Go.Proofs.Tryz.f35, List.replicate, List.cons_append, List.nil_append, z, seval]
  (refine CU (hP) (h := ?_); simp only [z, seval])
  refine RUNs_rangeS (p.runs.length) (fun i (_ : Unit) => ∀ j, j < i → eQ w m (runAt p.runs j) = false) (fun i _ => [(9, i64 i)]) (fun i _ => []) () ?_ (by simp only [z, seval]; exact wk) rfl ?_
  · intro j h; exact absurd h (Nat.not_lt_zero _)
  rintro ⟨i, _, hi, hw'⟩
  simp only [z, seval]
  first | refine brk (fun h => ?_) (fun h => ?_) | fail
  · have hlt : i < p.runs.length := by have := of_decide_eq_true h; omega
    have hg := runAt_get hlt
    have hS := hS i hlt
    have hL := hL i hlt
    have hSn := hSn i hlt
    have hSe := hSe i hlt
    have hFr := hFr i hlt
    have hen := hen i hlt
    have hO := hO p.runs[i].k
    have ht := ht p.runs[i].k
    simp only [h, getMap Run.v p.runs hlt, z, seval]
    cases c : eQ w m p.runs[i] with
    | true =>
      have e := hfa hlt (by rw [hg]; exact c) hw'
      rw [e] at hsh
      simp only [hg] at hsh
      simp only [eQ, isRun, Bool.and_eq_true] at c
      have ht := ht c.2
      rw [hen] at ht
      rw [ht, c.2] at hO
      simp only [c.1.1, c.1.2.1, c.1.2.2, z, seval]
      (refine CU (hO) (h := ?_); simp only [z, seval])
      (refine CU (hFr) (h := ?_); simp only [z, seval])
      cases d2 : freshM p.clock p.runs[i].t w.conf.window with
      | false =>
        rw [d2] at hsh
        simp only [d2, z, seval]
        (refine FINS_done ?_; simp only [z, seval])
        simp only [hsh, cond_false, z, seval]
      | true =>
      rw [d2] at hsh
      simp only [d2, z, seval]
      (refine CU (hRm) (h := ?_); simp only [z, seval])
      cases d3 : roomW w 1 1 with
      | false =>
        rw [d3] at hsh
        simp only [d3, z, seval]
        (refine FINS_done ?_; simp only [z, seval])
        simp only [hsh, cond_true, cond_false, z, seval]
      | true =>
      rw [d3] at hsh
      simp only [d3, z, seval]
      (refine CU (hSe) (h := ?_); simp only [z, seval])
      cases d4 : ((eS w me (eN w me m i) i).2.2 == 0) with
      | false =>
        rw [d4] at hsh
        simp only [d4, z, seval]
        (refine FINS_done ?_; simp only [z, seval])
        simp only [hsh, cond_true, cond_false, z, seval]
      | true =>
        rw [d4] at hsh
        simp only [d4, z, seval]
        (refine CU (hS) (h := ?_); simp only [z, seval])
        (refine CU (hL) (h := ?_); simp only [z, seval])
        (refine CU (hSn) (h := ?_); simp only [z, seval])
        (refine FINS_done ?_; simp only [z, seval])
        simp only [hsh, cond_true, z, seval]
    | false =>
      have hs := findIdx_none_take hlt hw' c
      simp only [eQ, isRun] at c
      cases c1 : (p.runs[i].proto == 1) <;> cases c2 : (p.runs[i].role == 1) <;> cases c3 : (p.runs[i].state == 2)
      all_goals
        simp only [c1, c2, c3, z, seval]
        first
          | (simp only [w64s (i := i) (by omega), z, seval]
             refine NX () ?_ (by rfl) hlt hs
             first | exact wk | (simp only [z, seval]; exact wk))
          | (rw [c1, c2, c3] at c
             simp only [Bool.and_true, Bool.true_and] at c
             rw [c] at hO
             (refine CU (hO) (h := ?_); simp only [z, seval])
             simp only [w64s (i := i) (by omega), z, seval]
             refine NX () ?_ (by rfl) hlt hs
             first | exact wk | (simp only [z, seval]; exact wk))
  · have : i = p.runs.length := by have := of_decide_eq_false h; omega
    subst this
    simp only [h, z, seval]
    rw [hfn hw'] at hsh
    (refine FINS_done ?_; simp only [z, seval])
    simp only [hsh, z, seval]
theorem rTicketB_spec (w : World) (me : Int) (m : Msg) {N : Nat} (hw : w.fit N) (h5 : 21 ≤ N) (hN : N ≤ 400000000000) (hme : U me) (hr : Right10 w.people = true) (hb7 : Right07 w.box = true) : Spec PP GG 19 [w.v, u32 me, m.v] (.tup [(ticketB w me m).1.v, i64 (ticketB w me m).2]) [] := by
  have hP := rPerson_spec w hw (by omega) hr me hme
  have hO := rOpen_spec w hw (by omega) hb7 (personW w me).key 3 m.box
  rw [← tG] at hO
  have hg : (tG w me m).1.ok := openW_ok hw _ _ _
  have hPr := rPair_spec w.people (by have := hw.people; omega) hr (tG w me m).1.a me hg.2.2.1 hme
  have hFr := rFresh_spec (personW w me).clock (tG w me m).1.t w.conf.window (personW_ok hw me).2.2.1 hg.2.2.2.2.2.1 hw.ok.1.1
  have hMy := rMay08_spec (personW w me).used w.conf.used (tG w me m).1.k (by have := personW_used hw me; omega)
  have hRm := rRoom_spec w 1 1 hw.broom hw.nroom (by have := hw.rows; omega) (by have := hw.grams; omega)
  have hD := rDraw_spec w hw (by omega)
  have hS : Spec PP GG 44 _ (.tup [(tS w (tG w me m).1).1.v, u32 (tS w (tG w me m).1).2.1, i64 (tS w (tG w me m).1).2.2]) [] := rSeal_spec (drawW w).1 (fit_draw hw (by omega)) (by omega) (tG w me m).1.k 4 ⟨(drawW w).2, 0, 0, 0, 0, 0, 0⟩
  have hU : (personW w me).runs.length ≤ N := personW_runs hw me
  have hV : (personW w me).used.length ≤ N := personW_used hw me
  have hW : Spec PP GG 60 [(tS w (tG w me m).1).1.v, Person.v ⟨(personW w me).name, (personW w me).key, (personW w me).clock, (personW w me).used ++ [(tG w me m).1.k], (personW w me).runs ++ [tkRun w (tG w me m).1], (personW w me).corrupt⟩] (withW (tS w (tG w me m).1).1 (tP w me (tG w me m).1)).v [] := rWith_spec (tS w (tG w me m).1).1 (tS_fit hw h5 hN hg) (by omega) (by rw [tS, people_seal]; exact hr) (tP w me (tG w me m).1) (tP_ok hw hN me hg).1
  have hL : Spec PP GG 61 _ (tY w me (tG w me m).1).v [] := rLog_spec (withW (tS w (tG w me m).1).1 (tP w me (tG w me m).1)) (tW_fit hw h5 hN me hg) (by omega) (tEv w me (tG w me m).1)
  have hSn : Spec PP GG 62 _ (.tup [(tZ w me (tG w me m).1).v, _]) [] := rSend_spec (tY w me (tG w me m).1) (tY_fit hw h5 hN hme hg) (by omega) (tG w me m).1.a ⟨4, 0, 0, 0, 0, (tS w (tG w me m).1).2.1, 0⟩ (boxMsg_ok (by decide) (tS_U hw hN _))
  have e1 : (personW w me).used.map u32 ++ [u32 (tG w me m).1.k] = ((personW w me).used ++ [(tG w me m).1.k]).map u32 := by simp
  have e2 : (personW w me).runs.map Run.v ++ [Run.v ⟨1, 2, (tG w me m).1.a, (drawW w).2, 0, 0, (tG w me m).1.k, (tG w me m).1.t, 2⟩] = ((personW w me).runs ++ [tkRun w (tG w me m).1]).map Run.v := by simp [tkRun]
  simp only [mv] at e2
  have ht := @toldT w (personW w me).key m.box
  rw [← tG] at ht
  clear hw hr hb7 hg
  cases c0 : (tG w me m).2 with
  | false =>
    have e : ticketB w me m = (w, 6) := by simp only [ticketB, c0, cond_false]
    rw [e]
    rw [c0] at hO
    refine Spec.of_runs Go.Proofs.Tryz.f19 Go.Proofs.Tryz.func19 rfl ?_
    intro w0 M0
    simp only [Go.Proofs.Tryz.f19, List.replicate, List.cons_append, List.nil_append, z, seval]
    (refine CU (hP) (h := ?_); simp only [z, seval])
    (refine CU (hO) (h := ?_); simp only [z, seval])
    (refine FINS_done ?_; simp only [z, seval])
  | true =>
  rw [c0] at hO
  have ht := ht c0
  cases c1 : pairM w.people (tG w me m).1.a me with
  | false =>
    rw [c1] at hPr
    have e : ticketB w me m = (w, 5) := by simp only [ticketB, c0, c1, cond_true, cond_false]
    rw [e]
    refine Spec.of_runs Go.Proofs.Tryz.f19 Go.Proofs.Tryz.func19 rfl ?_
    intro w0 M0
    simp only [Go.Proofs.Tryz.f19, List.replicate, List.cons_append, List.nil_append, z, seval]
    (refine CU (hP) (h := ?_); simp only [z, seval])
    (refine CU (hO) (h := ?_); simp only [z, seval])
    (refine CU (hPr) (h := ?_); simp only [z, seval])
    (refine FINS_done ?_; simp only [z, seval])
  | true =>
  rw [c1] at hPr
  cases c2 : freshM (personW w me).clock (tG w me m).1.t w.conf.window with
  | false =>
    rw [c2] at hFr
    have e : ticketB w me m = (w, 7) := by simp only [ticketB, c0, c1, c2, cond_true, cond_false]
    rw [e]
    refine Spec.of_runs Go.Proofs.Tryz.f19 Go.Proofs.Tryz.func19 rfl ?_
    intro w0 M0
    simp only [Go.Proofs.Tryz.f19, List.replicate, List.cons_append, List.nil_append, z, seval]
    (refine CU (hP) (h := ?_); simp only [z, seval])
    (refine CU (hO) (h := ?_); simp only [z, seval])
    (refine CU (hPr) (h := ?_); simp only [z, seval])
    (refine CU (hFr) (h := ?_); simp only [z, seval])
    (refine FINS_done ?_; simp only [z, seval])
  | true =>
  rw [c2] at hFr
  cases c3 : (usedMay (personW w me).used w.conf.used (tG w me m).1.k == 0) with
  | false =>
    have e : ticketB w me m = (w, usedMay (personW w me).used w.conf.used (tG w me m).1.k) := by simp only [ticketB, c0, c1, c2, c3, cond_true, cond_false]
    rw [e]
    refine Spec.of_runs Go.Proofs.Tryz.f19 Go.Proofs.Tryz.func19 rfl ?_
    intro w0 M0
    simp only [Go.Proofs.Tryz.f19, List.replicate, List.cons_append, List.nil_append, z, seval]
    (refine CU (hP) (h := ?_); simp only [z, seval])
    (refine CU (hO) (h := ?_); simp only [z, seval])
    (refine CU (hPr) (h := ?_); simp only [z, seval])
    (refine CU (hFr) (h := ?_); simp only [z, seval])
    (refine CU (hMy) (h := ?_); simp only [z, seval])
    simp only [c3, z, seval]
    (refine FINS_done ?_; simp only [z, seval])
  | true =>
  cases c4 : full w (personW w me) with
  | true =>
    have e : ticketB w me m = (w, 10) := by simp only [ticketB, c0, c1, c2, c3, c4, cond_true, cond_false, Bool.not_true, Bool.false_and]
    rw [e]
    simp only [full] at c4
    refine Spec.of_runs Go.Proofs.Tryz.f19 Go.Proofs.Tryz.func19 rfl ?_
    intro w0 M0
    simp only [Go.Proofs.Tryz.f19, List.replicate, List.cons_append, List.nil_append, z, seval]
    (refine CU (hP) (h := ?_); simp only [z, seval])
    (refine CU (hO) (h := ?_); simp only [z, seval])
    (refine CU (hPr) (h := ?_); simp only [z, seval])
    (refine CU (hFr) (h := ?_); simp only [z, seval])
    (refine CU (hMy) (h := ?_); simp only [z, seval])
    simp only [c3, c4, z, seval]
    (refine FINS_done ?_; simp only [z, seval])
  | false =>
  cases c5 : roomW w 1 1 with
  | false =>
    rw [c5] at hRm
    have e : ticketB w me m = (w, 10) := by simp only [ticketB, c0, c1, c2, c3, c4, c5, Bool.true_and, cond_true, cond_false, Bool.not_false]
    rw [e]
    simp only [full] at c4
    refine Spec.of_runs Go.Proofs.Tryz.f19 Go.Proofs.Tryz.func19 rfl ?_
    intro w0 M0
    simp only [Go.Proofs.Tryz.f19, List.replicate, List.cons_append, List.nil_append, z, seval]
    (refine CU (hP) (h := ?_); simp only [z, seval])
    (refine CU (hO) (h := ?_); simp only [z, seval])
    (refine CU (hPr) (h := ?_); simp only [z, seval])
    (refine CU (hFr) (h := ?_); simp only [z, seval])
    (refine CU (hMy) (h := ?_); simp only [z, seval])
    simp only [c3, c4, z, seval]
    (refine CU (hRm) (h := ?_); simp only [z, seval])
    (refine FINS_done ?_; simp only [z, seval])
  | true =>
  rw [c5] at hRm
  have e0 : ticketB w me m = (bif (tS w (tG w me m).1).2.2 == 0 then (tZ w me (tG w me m).1, 0) else (w, (tS w (tG w me m).1).2.2)) := by simp only [ticketB, c0, c1, c2, c3, c4, c5, Bool.true_and, cond_true, Bool.not_false]
  rw [e0]
  clear e0
  simp only [full] at c4
  refine Spec.of_runs Go.Proofs.Tryz.f19 Go.Proofs.Tryz.func19 rfl ?_
  intro w0 M0
  simp only [Go.Proofs.Tryz.f19, List.replicate, List.cons_append, List.nil_append, z, seval]
  (refine CU (hP) (h := ?_); simp only [z, seval])
  (refine CU (hO) (h := ?_); simp only [z, seval])
  (refine CU (hPr) (h := ?_); simp only [z, seval])
  (refine CU (hFr) (h := ?_); simp only [z, seval])
  (refine CU (hMy) (h := ?_); simp only [z, seval])
  simp only [c3, c4, z, seval]
  (refine CU (hRm) (h := ?_); simp only [z, seval])
  (refine CU (hD) (h := ?_); simp only [z, seval])
  (refine CU (hS) (h := ?_); simp only [z, seval])
  cases c6 : ((tS w (tG w me m).1).2.2 == 0) with
  | false =>
    simp only [c6, z, seval]
    (refine FINS_done ?_; simp only [z, seval])
  | true =>
  simp only [c6, z, seval]
  first
    | (refine OPC_ok ?_ ?_
       · exact okMap _ (fun a => rfl) (by omega)
       simp only [z, seval]
       refine OPC_ok ?_ ?_
       · simp; omega
       simp only [e1, z, seval])
    | ((refine RUNs_draw 4 (by kernel_rfl) ?_; simp only [z, seval])
       refine DOC_ok ?_ ?_
       · exact okMap _ (fun a => rfl) (by omega)
       simp only [z, seval]
       refine DOC_ok ?_ ?_
       · simp; omega
       simp only [z, seval]
       (refine ⟨by kernel_rfl, ?_⟩)
       simp only [e1, z, seval])
  first
    | (refine OPC_ok ?_ ?_
       · exact okMap _ (fun a => rfl) (by omega)
       simp only [z, seval]
       refine OPC_ok ?_ ?_
       · simp; omega
       simp only [e2, z, seval])
    | ((refine RUNs_draw 4 (by kernel_rfl) ?_; simp only [z, seval])
       refine DOC_ok ?_ ?_
       · exact okMap _ (fun a => rfl) (by omega)
       simp only [z, seval]
       refine DOC_ok ?_ ?_
       · simp; omega
       simp only [z, seval]
       (refine ⟨by kernel_rfl, ?_⟩)
       simp only [e2, z, seval])
  (refine CU (hW) (h := ?_); simp only [z, seval])
  (refine CU (hL) (h := ?_); simp only [z, seval])
  (refine CU (hSn) (h := ?_); simp only [z, seval])
  (refine FINS_done ?_; simp only [z, seval])
end Ch

/- The initiator with times: the program's. (Written before a seat was at hand: not built yet; sc.sh checks the facts.) -/
set_option maxRecDepth 100000
set_option maxHeartbeats 4000000
set_option linter.unusedSimpArgs false
set_option linter.unusedVariables false
namespace Ch
open Go Go.Ab
theorem nEvent_spec (kind : Int) (p : Person) (r : Run) (n : Int) : Spec PP GG 89 [i64 kind, p.v, r.v, u32 n] (Event.v ⟨kind, 1, 1, p.name, r.peer, r.k, r.t, 0, n, p.clock⟩) [] := by
  refine Spec.of_runs Go.Proofs.Tryz.f89 Go.Proofs.Tryz.func89 rfl ?_
  intro w0 M0
  simp only [Go.Proofs.Tryz.f89, List.replicate, List.cons_append, List.nil_append, z, seval]
  (refine FINS_done ?_; simp only [z, seval])
theorem nChanged_spec (w : World) (p : Person) (i : Nat) (r : Run) {N : Nat} (hw : w.fit N) (hN : N ≤ 500000000000) (hp : U p.name) (hi : i < p.runs.length) (hl : p.runs.length ≤ 1000000000000) (hr : May09 r = true) : Spec PP GG 91 [w.v, p.v, i64 i, r.v] (withW w (setRun p i r)).v [] := by
  have hS := pSetR_spec p.runs i r hi hr (by omega)
  have hwt := with_spec w hw (by omega) (setRun p i r) hp
  simp only [setRun] at hwt
  clear hw
  refine Spec.of_runs Go.Proofs.Tryz.f91 Go.Proofs.Tryz.func91 rfl ?_
  intro w0 M0
  simp only [Go.Proofs.Tryz.f91, List.replicate, List.cons_append, List.nil_append, z, seval]
  (refine CU (hS) (h := ?_); simp only [z, seval])
  (refine CU (hwt) (h := ?_); simp only [z, seval])
  (refine FINS_done ?_; simp only [z, seval])
  simp only [setRun]
theorem StartN_spec (w : World) (a b : Int) {N : Nat} (hw : w.fit N) (h5 : 21 ≤ N) (hN : N ≤ 400000000000) (ha : U a) (hb : U b) (hr : Right10 w.people = true) (hb7 : Right07 w.box = true) : Spec PP GG 29 [w.v, u32 a, u32 b] (.tup [(startN w a b).1.v, i64 (startN w a b).2]) [] := by
  have hPr := pPair_spec w.people a b ha hb (by have := hw.people; omega)
  have hD := draw_spec w hw (by omega)
  have hPa := person_spec w hw (by omega) a ha
  have hU : (personW w a).runs.length ≤ N := personW_runs hw a
  have hAd := pAdd_spec (personW w a).runs w.conf.runs (aRun w b) (by omega)
  have hW : Spec PP GG 88 [(drawW w).1.v, Person.v ⟨(personW w a).name, (personW w a).key, (personW w a).clock, (personW w a).used, (personW w a).runs ++ [aRun w b], (personW w a).corrupt⟩] (withW (drawW w).1 (aP w a b)).v [] := with_spec (drawW w).1 (fit_draw hw (by omega)) (by omega) (aP w a b) (aP_ok hw hN hb).1
  have hL : Spec PP GG 87 _ (aY w a b).v [] := log_spec (withW (drawW w).1 (aP w a b)) (aW_fit hw hN hb) (by omega) (aEv w a b)
  have hSn := send_spec (aY w a b) (aY_fit hw hN ha hb) (by omega) 0 (aMsg w a b) (aMsg_ok hw ha hb)
  have hE := nEvent_spec 1 ⟨(personW w a).name, (personW w a).key, (personW w a).clock, (personW w a).used, (personW w a).runs ++ [aRun w b], (personW w a).corrupt⟩ (aRun w b) (drawW w).2
  have hnm := fun h => name_of hr ha h
  have hze := @aZ_err w a b hb7
  clear hw hr hb7
  cases c1 : pairM w.people a b with
  | false =>
    rw [c1] at hPr
    have e : startN w a b = (w, 5) := by simp only [startN, c1, cond_false]
    rw [e]
    refine Spec.of_runs Go.Proofs.Tryz.f29 Go.Proofs.Tryz.func29 rfl ?_
    intro w0 M0
    simp only [Go.Proofs.Tryz.f29, List.replicate, List.cons_append, List.nil_append, z, seval]
    (refine CU (hPr) (h := ?_); simp only [z, seval])
    (refine FINS_done ?_; simp only [z, seval])
  | true =>
  rw [c1] at hPr
  have hin := hnm (pair_in c1).2.2.2.1
  rw [hin] at hW hE
  cases c2 : full w (personW w a) with
  | true =>
    have e : startN w a b = (w, 10) := by simp only [startN, c1, c2, cond_true, cond_false, Bool.not_true, Bool.false_and]
    rw [e]
    have hadd : runsAdd (personW w a).runs w.conf.runs (aRun w b) = ((personW w a).runs, 10) := by
      rw [full] at c2
      rw [runsAdd, c2]; rfl
    rw [hadd] at hAd
    refine Spec.of_runs Go.Proofs.Tryz.f29 Go.Proofs.Tryz.func29 rfl ?_
    intro w0 M0
    simp only [Go.Proofs.Tryz.f29, List.replicate, List.cons_append, List.nil_append, z, seval]
    (refine CU (hPr) (h := ?_); simp only [z, seval])
    (refine CU (hD) (h := ?_); simp only [z, seval])
    (refine CU (hPa) (h := ?_); simp only [z, seval])
    (refine CU (hAd) (h := ?_); simp only [z, seval])
    (refine FINS_done ?_; simp only [z, seval])
  | false =>
  have hadd : runsAdd (personW w a).runs w.conf.runs (aRun w b) = ((personW w a).runs ++ [aRun w b], 0) := by
    rw [full] at c2
    rw [runsAdd, c2]; rfl
  rw [hadd] at hAd
  cases c3 : roomW w 0 1 with
  | false =>
    rw [hze c3] at hSn
    have e : startN w a b = (w, 10) := by simp only [startN, c1, c2, c3, cond_true, cond_false, Bool.not_false, Bool.true_and]
    rw [e]
    refine Spec.of_runs Go.Proofs.Tryz.f29 Go.Proofs.Tryz.func29 rfl ?_
    intro w0 M0
    simp only [Go.Proofs.Tryz.f29, List.replicate, List.cons_append, List.nil_append, z, seval]
    (refine CU (hPr) (h := ?_); simp only [z, seval])
    (refine CU (hD) (h := ?_); simp only [z, seval])
    (refine CU (hPa) (h := ?_); simp only [z, seval])
    simp only [hin, z, seval]
    (refine CU (hAd) (h := ?_); simp only [z, seval])
    (refine RUNs_draw 1 (by kernel_rfl) ?_; simp only [z, seval])
    (refine DU (hW) (h := ?_); simp only [z, seval])
    (refine DU (hE) (h := ?_); simp only [z, seval])
    (refine DU (hL) (h := ?_); simp only [z, seval])
    (refine ⟨by kernel_rfl, ?_⟩)
    (refine CU (hSn) (h := ?_); simp only [z, seval])
    (refine FINS_done ?_; simp only [z, seval])
  | true =>
    rw [← aZ, aZ_ok c3] at hSn
    have e : startN w a b = (aZ w a b, 0) := by simp only [startN, c1, c2, c3, cond_true, Bool.not_false, Bool.true_and]
    rw [e]
    refine Spec.of_runs Go.Proofs.Tryz.f29 Go.Proofs.Tryz.func29 rfl ?_
    intro w0 M0
    simp only [Go.Proofs.Tryz.f29, List.replicate, List.cons_append, List.nil_append, z, seval]
    (refine CU (hPr) (h := ?_); simp only [z, seval])
    (refine CU (hD) (h := ?_); simp only [z, seval])
    (refine CU (hPa) (h := ?_); simp only [z, seval])
    simp only [hin, z, seval]
    (refine CU (hAd) (h := ?_); simp only [z, seval])
    (refine RUNs_draw 1 (by kernel_rfl) ?_; simp only [z, seval])
    (refine DU (hW) (h := ?_); simp only [z, seval])
    (refine DU (hE) (h := ?_); simp only [z, seval])
    (refine DU (hL) (h := ?_); simp only [z, seval])
    (refine ⟨by kernel_rfl, ?_⟩)
    (refine CU (hSn) (h := ?_); simp only [z, seval])
    (refine FINS_done ?_; simp only [z, seval])
theorem GrantN_spec (w : World) (me : Int) (m : Msg) {N : Nat} (hw : w.fit N) (h5 : 21 ≤ N) (hN : N ≤ 400000000000) (hme : U me) (hr : Right10 w.people = true) (hb7 : Right07 w.box = true) : Spec PP GG 32 [w.v, u32 me, m.v] (.tup [(grantN w me m).1.v, i64 (grantN w me m).2]) [] := by
  have hP := person_spec w hw (by omega) me hme
  have hU : (personW w me).runs.length ≤ N := personW_runs hw me
  have hO := open_spec w hw (by omega) (personW w me).key 2 m.box
  rw [← aG] at hO
  have hg : (aG w me m).1.ok := openW_ok hw _ _ _
  have hFr := fresh_spec (personW w me).clock (aG w me m).1.t w.conf.window (personW_ok hw me).2.2.1 hg.2.2.2.2.2.1 hw.ok.1.1
  have hNx := fun f => pNext_spec (personW w me).runs f 1 1 1 (by omega)
  have hnm := fun h => name_of hr hme h
  have hS := fun i hi hm9 => nChanged_spec w (personW w me) i (tookR (runAt (personW w me).runs i) (aG w me m).1) hw (by omega) (personW_ok hw me).1 hi (by omega) hm9
  have hL : ∀ i, Spec PP GG 87 _ (aT w me (aG w me m).1 i).v [] := fun i => log_spec (withW w (setRun (personW w me) i (tookR (runAt (personW w me).runs i) (aG w me m).1))) (set_fit hw me i (tookR_ok (runAt_ok hw me i) hg)) (by omega) ⟨3, 1, 1, me, (runAt (personW w me).runs i).peer, (aG w me m).1.k, (aG w me m).1.t, 0, (runAt (personW w me).runs i).mine, (personW w me).clock⟩
  have hE := fun i => nEvent_spec 3 (personW w me) (tookR (runAt (personW w me).runs i) (aG w me m).1) (runAt (personW w me).runs i).mine
  have hSn := fun i => send_spec (aT w me (aG w me m).1 i) (aT_fit hw hN hme hg i) (by omega) (runAt (personW w me).runs i).peer ⟨3, 0, 0, 0, 0, (aG w me m).1.h, 0⟩ (boxMsg_ok (by decide) hg.2.2.2.2.2.2)
  have hzo := fun i to h => @aX_ok w me (aG w me m).1 i to h
  have hze := fun i to h => @aX_err w me (aG w me m).1 i to hb7 h
  have hfa := @first_at (personW w me).runs (aQ (aG w me m).1)
  have hfn := @first_none (personW w me).runs (aQ (aG w me m).1)
  have hsh : grantN w me m = bif (aG w me m).2 then (match (personW w me).runs.findIdx? (aQ (aG w me m).1) with
    | none => (w, (9 : Int))
    | some i => bif freshM (personW w me).clock (aG w me m).1.t w.conf.window then (bif roomW w 0 1 then (aX w me (aG w me m).1 i, (0 : Int)) else (w, (10 : Int))) else (w, (7 : Int))) else (w, (6 : Int)) := rfl
  clear hw hr hb7 hg
  generalize hq : aG w me m = q at *
  generalize hp : personW w me = p at *
  cases d1 : q.2 with
  | false =>
    rw [d1] at hO hsh
    refine Spec.of_runs Go.Proofs.Tryz.f32 Go.Proofs.Tryz.func32 rfl ?_
    intro w0 M0
    simp only [Go.Proofs.Tryz.f32, List.replicate, List.cons_append, List.nil_append, z, seval]
    (refine CU (hP) (h := ?_); simp only [z, seval])
    (refine CU (hO) (h := ?_); simp only [z, seval])
    (refine FINS_done ?_; simp only [z, seval])
    simp only [hsh, cond_false, z, seval]
  | true =>
  rw [d1] at hO hsh
  simp only [cond_true] at hsh
  have haq : ∀ r, isRun 1 1 1 r = false → aQ q.1 r = false := fun r h => by rw [aQ, h]; rfl
  have hrun : ∀ i, i < p.runs.length → isRun 1 1 1 (runAt p.runs i) = true → May09 (tookR (runAt p.runs i) q.1) = true := fun i _ h => by
    simp only [isRun, Bool.and_eq_true, beq_iff_eq] at h
    rw [tookR, h.1, h.2.1]; rfl
  refine Spec.of_runs Go.Proofs.Tryz.f32 Go.Proofs.Tryz.func32 rfl ?_
  intro w0 M0
  simp only [Go.Proofs.Tryz.f32, List.replicate, List.cons_append, List.nil_append, z, seval]
  (refine CU (hP) (h := ?_); simp only [z, seval])
  (refine CU (hO) (h := ?_); simp only [z, seval])
  (refine CALLS_in (fn := Go.Proofs.Tryz.f90) Go.Proofs.Tryz.func90 rfl (by kernel_rfl) ?_; simp only [Go.Proofs.Tryz.f90, List.replicate, List.cons_append, List.nil_append, z, seval])
  (refine RUNs_rangeFunc Go.Proofs.Tryz.f138 Go.Proofs.Tryz.func138 rfl (by kernel_rfl) rfl rfl ?_; intro D l; simp only [Go.Proofs.Tryz.f138, List.replicate, List.cons_append, List.nil_append, z, seval])
  refine RUNs_rangeS (p.runs.length + 1) (fun j (f : Nat) => j ≤ f ∧ f ≤ p.runs.length ∧ ∀ i, i < f → aQ q.1 (runAt p.runs i) = false) (fun _ f => [(4, i64 f)]) (fun _ _ => []) 0 ?_ (by simp only [z, seval]; exact wk) rfl ?_
  · exact ⟨Nat.le_refl _, Nat.zero_le _, fun i hi => absurd hi (Nat.not_lt_zero _)⟩
  rintro ⟨j, f, hj, h1, h2, h3⟩
  have hN := hNx f
  simp only [z, seval]
  cases c : nextR p.runs f (isRun 1 1 1) with
  | none =>
    rw [c] at hN
    have e : p.runs.findIdx? (aQ q.1) = none := hfn (fun i hi => by
      rcases Nat.lt_or_ge i f with h | h
      · exact h3 i h
      · exact haq _ (nextR_none c i h hi))
    rw [e] at hsh
    simp only [Option.isSome_none, Option.getD_none] at hN
    (refine CU (hN) (h := ?_); simp only [z, seval])
    (refine RUNs_erf 9 rfl (by simp) ?_; simp only [z, seval])
    (refine RUNs_mk 8 rfl ?_; simp only [z, seval])
    (refine FINS_done ?_; simp only [z, seval])
    simp only [hsh, z, seval]
  | some i =>
    rw [c] at hN
    obtain ⟨n1, n2, n3, n4⟩ := nextR_some c
    have h4 : ∀ k, k < i → aQ q.1 (runAt p.runs k) = false := fun k hk => by
      rcases Nat.lt_or_ge k f with h | h
      · exact h3 k h
      · exact haq _ (n4 k h hk)
    have hg := runAt_get n1
    simp only [Option.isSome_some, Option.getD_some] at hN
    (refine CU (hN) (h := ?_); simp only [z, seval])
    (refine CALLS_yield 9 rfl rfl ?_; simp only [z, seval]; refine RUNs_beg 9 rfl ?_; simp only [z, seval])
    simp only [getMap Run.v p.runs n1, z, seval]
    have hlt : j < p.runs.length + 1 := by omega
    cases d : aQ q.1 p.runs[i] with
    | true =>
      have e := hfa n1 (by rw [hg]; exact d) h4
      rw [e] at hsh
      simp only [hg] at hsh
      have hS := hS i n1 (hrun i n1 n3)
      have hL := hL i
      have hE := hE i
      have hSn := hSn i
      have hzo := hzo i p.runs[i].peer
      have hze := hze i p.runs[i].peer
      simp only [aQ, Bool.and_eq_true] at d
      simp only [d.2.1, d.2.2, z, seval]
      (first | refine RUNs_rnd 9 rfl ?_ | refine RUNs_rndj 9 rfl ?_; simp only [z, seval])
      (refine RUNs_erf 9 rfl (by simp) ?_; simp only [z, seval])
      have n0 : decide ((i : Int) < 0) = false := decide_eq_false (by omega)
      simp only [n0, z, seval]
      (refine CU (hFr) (h := ?_); simp only [z, seval])
      cases d2 : freshM p.clock q.1.t w.conf.window with
      | false =>
        rw [d2] at hsh
        simp only [d2, z, seval]
        (refine RUNs_mk 8 rfl ?_; simp only [z, seval])
        (refine FINS_done ?_; simp only [z, seval])
        simp only [hsh, cond_false, z, seval]
      | true =>
      rw [d2] at hsh
      have hnm := hnm (has_runs (w := w) (me := me) (i := i) (by rw [hp]; exact n1))
      simp only [hg, tookR] at hS hE
      simp only [hnm] at hS hE
      simp only [hg] at hSn hzo hze hL
      simp only [d2, getMap Run.v p.runs n1, z, seval]
      (refine RUNs_draw 0 (by kernel_rfl) ?_; simp only [z, seval])
      (refine ⟨by kernel_rfl, ?_⟩)
      (refine RUNs_draw 1 (by kernel_rfl) ?_; simp only [z, seval])
      (refine DU (hS) (h := ?_); simp only [z, seval])
      (refine DU (hE) (h := ?_); simp only [z, seval])
      (refine DU (hL) (h := ?_); simp only [z, seval])
      (refine ⟨by kernel_rfl, ?_⟩)
      cases d3 : roomW w 0 1 with
      | false =>
        rw [d3] at hsh
        rw [hze d3] at hSn
        (refine CU (hSn) (h := ?_); simp only [z, seval])
        (refine RUNs_mk 8 rfl ?_; simp only [z, seval])
        (refine FINS_done ?_; simp only [z, seval])
        simp only [hsh, cond_true, cond_false, z, seval]
      | true =>
        rw [d3] at hsh
        rw [hzo d3] at hSn
        (refine CU (hSn) (h := ?_); simp only [z, seval])
        (refine RUNs_mk 8 rfl ?_; simp only [z, seval])
        (refine FINS_done ?_; simp only [z, seval])
        simp only [hsh, cond_true, aX, hg, hp, z, seval]
    | false =>
      have hs : ∀ k, k < i + 1 → aQ q.1 (runAt p.runs k) = false := fun k hk => by
        rcases Nat.lt_or_ge k i with h | h
        · exact h4 k h
        · obtain rfl : k = i := by omega
          rw [hg]; exact d
      rw [hg] at n3
      simp only [aQ, n3, Bool.true_and] at d
      cases d1 : (p.runs[i].mine == q.1.n) with
      | false =>
        simp only [d1, z, seval]
        (first | refine RUNs_rnd 9 rfl ?_ | refine RUNs_rndj 9 rfl ?_; simp only [z, seval])
        simp only [w64s (i := i) (by omega), z, seval]
        (refine NX (i + 1) ?_ (by rfl) hlt ?_; simp only [z, seval]; exact wk)
        exact ⟨by show j + 1 ≤ i + 1; omega, n1, hs⟩
      | true =>
        rw [d1, Bool.true_and] at d
        simp only [d1, d, z, seval]
        (first | refine RUNs_rnd 9 rfl ?_ | refine RUNs_rndj 9 rfl ?_; simp only [z, seval])
        simp only [w64s (i := i) (by omega), z, seval]
        (refine NX (i + 1) ?_ (by rfl) hlt ?_; simp only [z, seval]; exact wk)
        exact ⟨by show j + 1 ≤ i + 1; omega, n1, hs⟩
def commitM (w : World) (me n : Int) (i : Nat) : World × Int := bif roomW w 1 1 then (bif (eS w me n i).2.2 == 0 then (eX w me n i, 0) else (w, (eS w me n i).2.2)) else (w, 10)
theorem nCommit_spec (w : World) (me n : Int) (i : Nat) {N : Nat} (hw : w.fit N) (h5 : 21 ≤ N) (hN : N ≤ 400000000000) (hme : U me) (hn : U n) (hr : Right10 w.people = true) (hi : i < (personW w me).runs.length) (h : isRun 1 1 2 (runAt (personW w me).runs i) = true) : Spec PP GG 92 [w.v, (personW w me).v, i64 i, u32 n] (.tup [(commitM w me n i).1.v, i64 (commitM w me n i).2]) [] := by
  have hU : (personW w me).runs.length ≤ N := personW_runs hw me
  have hRm := room_spec' w hw (by omega) 1 1
  have hm9 : May09 (backR (runAt (personW w me).runs i) n) = true := by
    simp only [isRun, Bool.and_eq_true, beq_iff_eq] at h
    rw [backR, h.1, h.2.1]; rfl
  have hSe : Spec PP GG 50 [w.v, u32 (runAt (personW w me).runs i).k, u32 5, Part.v ⟨n, 0, 0, 0, 0, 0, 0⟩] (.tup [(eS w me n i).1.v, u32 (eS w me n i).2.1, i64 (eS w me n i).2.2]) [] := seal_spec w hw (by omega) (runAt (personW w me).runs i).k 5 ⟨n, 0, 0, 0, 0, 0, 0⟩
  have hS := nChanged_spec (eS w me n i).1 (personW w me) i (backR (runAt (personW w me).runs i) n) (eS_fit hw h5 hN hn i) (by omega) (personW_ok hw me).1 hi (by omega) hm9
  have hL : Spec PP GG 87 _ (eT w me n i).v [] := log_spec _ (eW_fit (me := me) hw h5 hN hn i) (by omega) ⟨4, 1, 1, me, (runAt (personW w me).runs i).peer, (runAt (personW w me).runs i).k, (runAt (personW w me).runs i).t, 0, n, (personW w me).clock⟩
  have hE := nEvent_spec 4 (personW w me) (backR (runAt (personW w me).runs i) n) n
  have hSn := send_spec (eT w me n i) (eT_fit hw h5 hN hme hn i) (by omega) (runAt (personW w me).runs i).peer ⟨5, 0, 0, 0, 0, (eS w me n i).2.1, 0⟩ (boxMsg_ok (by decide) (eS_U hw me _ i))
  have hz := fun h => @eX_ok w me n i (runAt (personW w me).runs i).peer h
  have hnm := name_of hr hme (has_runs hi)
  have hsh : commitM w me n i = bif roomW w 1 1 then (bif (eS w me n i).2.2 == 0 then ((sendW (eT w me n i) (runAt (personW w me).runs i).peer ⟨5, 0, 0, 0, 0, (eS w me n i).2.1, 0⟩).1, (0 : Int)) else (w, (eS w me n i).2.2)) else (w, (10 : Int)) := rfl
  have hg := runAt_get hi
  simp only [hg, backR] at hSe hS hL hE hSn hz hsh
  simp only [hnm] at hE
  clear hw hr h hm9 hg hnm
  generalize personW w me = p at *
  cases c1 : roomW w 1 1 with
  | false =>
    rw [c1] at hRm hsh
    refine Spec.of_runs Go.Proofs.Tryz.f92 Go.Proofs.Tryz.func92 rfl ?_
    intro w0 M0
    simp only [Go.Proofs.Tryz.f92, List.replicate, List.cons_append, List.nil_append, z, seval]
    (refine CU (hRm) (h := ?_); simp only [z, seval])
    (refine FINS_done ?_; simp only [z, seval])
    simp only [hsh, cond_false, z, seval]
  | true =>
  rw [c1] at hRm hsh
  rw [hz c1] at hSn
  refine Spec.of_runs Go.Proofs.Tryz.f92 Go.Proofs.Tryz.func92 rfl ?_
  intro w0 M0
  simp only [Go.Proofs.Tryz.f92, List.replicate, List.cons_append, List.nil_append, z, seval]
  (refine CU (hRm) (h := ?_); simp only [z, seval])
  simp only [getMap Run.v p.runs hi, z, seval]
  (refine CU (hSe) (h := ?_); simp only [z, seval])
  cases c2 : ((eS w me n i).2.2 == 0) with
  | false =>
    rw [c2] at hsh
    simp only [c2, z, seval]
    (refine FINS_done ?_; simp only [z, seval])
    simp only [hsh, cond_true, cond_false, z, seval]
  | true =>
    rw [c2] at hsh
    simp only [c2, z, seval]
    (refine RUNs_draw 0 (by kernel_rfl) ?_; simp only [z, seval])
    (refine DU (hS) (h := ?_); simp only [z, seval])
    (refine DU (hE) (h := ?_); simp only [z, seval])
    (refine DU (hL) (h := ?_); simp only [z, seval])
    (refine ⟨by kernel_rfl, ?_⟩)
    (refine CU (hSn) (h := ?_); simp only [z, seval])
    (refine FINS_done ?_; simp only [z, seval])
    simp only [hsh, cond_true, z, seval]
theorem EchoN_spec (w : World) (me : Int) (m : Msg) {N : Nat} (hw : w.fit N) (h5 : 21 ≤ N) (hN : N ≤ 400000000000) (hme : U me) (hr : Right10 w.people = true) : Spec PP GG 34 [w.v, u32 me, m.v] (.tup [(echoN w me m).1.v, i64 (echoN w me m).2]) [] := by
  have hP := person_spec w hw (by omega) me hme
  have hU : (personW w me).runs.length ≤ N := personW_runs hw me
  have hO := fun k => open_spec w hw (by omega) k 4 m.box
  have hFr : ∀ i, (hi : i < (personW w me).runs.length) → _ := fun i hi => fresh_spec (personW w me).clock (personW w me).runs[i].t w.conf.window (personW_ok hw me).2.2.1 (by have := (runAt_ok hw me i).2.2.2.2.2.2.2.1; rw [runAt_get hi] at this; exact this) hw.ok.1.1
  have hNx := fun f => pNext_spec (personW w me).runs f 1 1 2 (by omega)
  have hC := fun i hi h => nCommit_spec w me (eN w me m i) i hw h5 hN hme (openW_ok hw _ _ _).1 hr hi h
  have hfa := @first_at (personW w me).runs (eQ w m)
  have hfn := @first_none (personW w me).runs (eQ w m)
  have hen : ∀ i, (hi : i < (personW w me).runs.length) → eN w me m i = (openW w (personW w me).runs[i].k 4 m.box).1.n := fun i hi => by rw [eN, runAt_get hi]
  have hsh : echoN w me m = match (personW w me).runs.findIdx? (eQ w m) with
    | none => (w, (6 : Int))
    | some i => bif freshM (personW w me).clock (runAt (personW w me).runs i).t w.conf.window then commitM w me (eN w me m i) i else (w, (7 : Int)) := rfl
  have heq : ∀ r, isRun 1 1 2 r = false → eQ w m r = false := fun r h => by rw [eQ, h]; rfl
  clear hw hr
  generalize personW w me = p at *
  refine Spec.of_runs Go.Proofs.Tryz.f34 Go.Proofs.Tryz.func34 rfl ?_
  intro w0 M0
  simp only [Go.Proofs.Tryz.f34, List.replicate, List.cons_append, List.nil_append, z, seval]
  (refine CU (hP) (h := ?_); simp only [z, seval])
  (refine CALLS_in (fn := Go.Proofs.Tryz.f90) Go.Proofs.Tryz.func90 rfl (by kernel_rfl) ?_; simp only [Go.Proofs.Tryz.f90, List.replicate, List.cons_append, List.nil_append, z, seval])
  (refine RUNs_rangeFunc Go.Proofs.Tryz.f138 Go.Proofs.Tryz.func138 rfl (by kernel_rfl) rfl rfl ?_; intro D l; simp only [Go.Proofs.Tryz.f138, List.replicate, List.cons_append, List.nil_append, z, seval])
  refine RUNs_rangeS (p.runs.length + 1) (fun j (f : Nat) => j ≤ f ∧ f ≤ p.runs.length ∧ ∀ i, i < f → eQ w m (runAt p.runs i) = false) (fun _ f => [(4, i64 f)]) (fun _ _ => []) 0 ?_ (by simp only [z, seval]; exact wk) rfl ?_
  · exact ⟨Nat.le_refl _, Nat.zero_le _, fun i hi => absurd hi (Nat.not_lt_zero _)⟩
  rintro ⟨j, f, hj, h1, h2, h3⟩
  have hN := hNx f
  simp only [z, seval]
  cases c : nextR p.runs f (isRun 1 1 2) with
  | none =>
    rw [c] at hN
    have e : p.runs.findIdx? (eQ w m) = none := hfn (fun i hi => by
      rcases Nat.lt_or_ge i f with h | h
      · exact h3 i h
      · exact heq _ (nextR_none c i h hi))
    rw [e] at hsh
    simp only [Option.isSome_none, Option.getD_none] at hN
    (refine CU (hN) (h := ?_); simp only [z, seval])
    (refine RUNs_erf 8 rfl (by simp) ?_; simp only [z, seval])
    (refine RUNs_mk 7 rfl ?_; simp only [z, seval])
    (refine FINS_done ?_; simp only [z, seval])
    simp only [hsh, z, seval]
  | some i =>
    rw [c] at hN
    obtain ⟨n1, n2, n3, n4⟩ := nextR_some c
    have h4 : ∀ k, k < i → eQ w m (runAt p.runs k) = false := fun k hk => by
      rcases Nat.lt_or_ge k f with h | h
      · exact h3 k h
      · exact heq _ (n4 k h hk)
    have hg := runAt_get n1
    have hO := hO p.runs[i].k
    have hFr := hFr i n1
    simp only [Option.isSome_some, Option.getD_some] at hN
    (refine CU (hN) (h := ?_); simp only [z, seval])
    (refine CALLS_yield 8 rfl rfl ?_; simp only [z, seval]; refine RUNs_beg 8 rfl ?_; simp only [z, seval])
    simp only [getMap Run.v p.runs n1, z, seval]
    have hlt : j < p.runs.length + 1 := by omega
    (refine CU (hO) (h := ?_); simp only [z, seval])
    cases d : (openW w p.runs[i].k 4 m.box).2 with
    | true =>
      have e := hfa n1 (by rw [eQ, n3, hg, d]; rfl) h4
      rw [e] at hsh
      simp only [hg, hen i n1] at hsh
      have hC := hC i n1 n3
      rw [hen i n1] at hC
      simp only [d, z, seval]
      (refine CU (hFr) (h := ?_); simp only [z, seval])
      cases d2 : freshM p.clock p.runs[i].t w.conf.window with
      | false =>
        rw [d2] at hsh
        simp only [d2, z, seval]
        (first | refine RUNs_rnd 8 rfl ?_ | refine RUNs_rndj 8 rfl ?_; simp only [z, seval])
        (refine RUNs_erf 8 rfl (by simp) ?_; simp only [z, seval])
        (refine RUNs_mk 7 rfl ?_; simp only [z, seval])
        (refine FINS_done ?_; simp only [z, seval])
        simp only [hsh, cond_false, z, seval]
      | true =>
        rw [d2] at hsh
        simp only [d2, z, seval]
        (refine CU (hC) (h := ?_); simp only [z, seval])
        (first | refine RUNs_rnd 8 rfl ?_ | refine RUNs_rndj 8 rfl ?_; simp only [z, seval])
        (refine RUNs_erf 8 rfl (by simp) ?_; simp only [z, seval])
        (refine RUNs_mk 7 rfl ?_; simp only [z, seval])
        (refine FINS_done ?_; simp only [z, seval])
        simp only [hsh, cond_true, z, seval]
    | false =>
      have hs : ∀ k, k < i + 1 → eQ w m (runAt p.runs k) = false := fun k hk => by
        rcases Nat.lt_or_ge k i with h | h
        · exact h4 k h
        · obtain rfl : k = i := by omega
          rw [eQ, hg, d, Bool.and_false]
      simp only [d, z, seval]
      (first | refine RUNs_rnd 8 rfl ?_ | refine RUNs_rndj 8 rfl ?_; simp only [z, seval])
      simp only [w64s (i := i) (by omega), z, seval]
      (refine NX (i + 1) ?_ (by rfl) hlt ?_; simp only [z, seval]; exact wk)
      exact ⟨by show j + 1 ≤ i + 1; omega, n1, hs⟩
end Ch

/- The initiator with run identifiers: a run that was begun. -/
set_option maxRecDepth 100000
set_option maxHeartbeats 4000000
set_option linter.unusedSimpArgs false
set_option linter.unusedVariables false
namespace Ch
open Go Go.Ab
theorem lastMap' {α : Type} (f : α → V) (l : List α) (x : α) : ((l ++ [x]).map f)[l.length]? = some (f x) := by simp
theorem snocLen' {α : Type} (l : List α) (x : α) : (l ++ [x]).length = l.length + 1 := by simp
theorem setMap {α : Type} (f : α → V) {l : List α} {i : Nat} (x : α) (h : i < l.length) : ((l.set i x).map f)[i]? = some (f x) := by simp [h]
def oPart (w : World) (a b : Int) : Part := ⟨(drawW (drawW w).1).2, (drawW w).2, a, b, 0, 0, 0⟩
def oRow (w : World) (a b : Int) : Sld := sealRow (drawW (drawW w).1).1 (personW w a).key 6 (oPart w a b)
def oX (w : World) (a b : Int) : World := ⟨w.conf, ⟨w.draws.list, w.draws.next + 1 + 1 + 1⟩, ⟨w.box.room, w.box.rows ++ [oRow w a b]⟩, ⟨w.net.room, w.net.grams ++ [⟨b, msgWs (oMsg w a b)⟩], w.net.seen ++ [msgWs (oMsg w a b)]⟩, w.people.set a.toNat (oP w a b), w.log ++ [oEv w a b], w.regs, w.leaks⟩
theorem startO_err {w : World} {a b : Int} (h : (startO w a b).2 ≠ 0) : (startO w a b).1 = w := by
  unfold startO at h ⊢
  cases h1 : pairM w.people a b
  · rfl
  cases h2 : (!full w (personW w a) && roomW w 1 1)
  · rfl
  cases h3 : ((oS w a b).2.2 == 0)
  · rfl
  · rw [h1, h2, h3] at h; exact absurd rfl h
theorem startO_ok {w : World} {a b : Int} (hr : Right10 w.people = true) (ha : U a) (h : (startO w a b).2 = 0) : startO w a b = (oX w a b, 0) ∧ pairM w.people a b = true ∧ full w (personW w a) = false ∧ roomW w 1 1 = true ∧ (sealW (drawW (drawW w).1).1 (personW w a).key 6 (oPart w a b)).2.2 = 0 := by
  unfold startO at h ⊢
  cases h1 : pairM w.people a b
  · rw [h1] at h; cases h
  cases h2 : (!full w (personW w a) && roomW w 1 1)
  · rw [h1, h2] at h; cases h
  cases h3 : ((oS w a b).2.2 == 0)
  · rw [h1, h2, h3] at h
    simp only [cond_true, cond_false] at h
    rw [h] at h3; cases h3
  · simp only [Bool.and_eq_true, Bool.not_eq_true'] at h2
    have h3' : (sealW (drawW (drawW w).1).1 (personW w a).key 6 (oPart w a b)).2.2 = 0 := by (have h4 : (oS w a b).2.2 = 0 := by simpa using h3); exact h4
    refine ⟨?_, rfl, h2.1, h2.2, h3'⟩
    simp only [cond_true]
    obtain ⟨hin, _⟩ := (pair_in h1).2.2.2
    have hnm := name_of hr ha hin
    have hs : (oS w a b).1 = sealTo (drawW (drawW w).1).1 (personW w a).key 6 (oPart w a b) := by
      have := (seal_ok h3').1
      show (sealW (drawW (drawW w).1).1 (personW w a).key 6 (oPart w a b)).1 = _
      rw [this]
    have hz := send_to (oZ_ok (w := w) (a := a) (b := b) h2.2)
    have hset : (setM w.people (oP w a b)).1 = w.people.set a.toNat (oP w a b) := by
      have hn : (oP w a b).name = a := hnm
      rw [setM, hn, decide_eq_true hin]; rfl
    have : oZ w a b = oX w a b := by
      rw [oZ, hz.1, sendTo, oY, putP, logW, withW, hs]
      show World.mk _ _ _ _ _ _ _ _ = _
      simp only [sealTo, drawW, hset, oX, oRow]
    rw [this]
theorem open_box {v w : World} (h : v.box = w.box) (k l hh : Int) : openW v k l hh = openW w k l hh := by
  unfold openW; rw [h]
theorem oX_open {w : World} {a b : Int} (h : (sealW (drawW (drawW w).1).1 (personW w a).key 6 (oPart w a b)).2.2 = 0) (k l : Int) : openW (oX w a b) k l (drawW (drawW (drawW w).1).1).2 = bif (personW w a).key == k && 6 == l then (oPart w a b, true) else (zPart, false) := by
  rw [← open_new h k l]
  exact open_box rfl _ _ _
theorem oMsg_box {w : World} {a b : Int} (h : (sealW (drawW (drawW w).1).1 (personW w a).key 6 (oPart w a b)).2.2 = 0) : oMsg w a b = ⟨6, (drawW w).2, a, b, 0, (drawW (drawW (drawW w).1).1).2, 0⟩ := by
  have := (seal_ok h).1
  rw [oMsg]
  show Msg.mk 6 _ a b 0 (sealW (drawW (drawW w).1).1 (personW w a).key 6 (oPart w a b)).2.1 0 = _
  rw [this]
theorem seal_right {w : World} (h : Right07 w.box = true) (key label : Int) (p : Part) : Right07 (sealW w key label p).1.box = true := by
  unfold sealW
  cases ((partPut label p).2 == 0)
  · exact h
  · cases ((boxSeal w.box (drawW w).2 key label (partPut label p).1).2 == 0)
    · exact h
    · exact right_seal h _ _ _ _
theorem oX_right {w : World} {a b : Int} (hb : Right07 w.box = true) (h : (sealW (drawW (drawW w).1).1 (personW w a).key 6 (oPart w a b)).2.2 = 0) : Right07 (oX w a b).box = true := by
  have h1 := seal_right (w := (drawW (drawW w).1).1) hb (personW w a).key 6 (oPart w a b)
  rw [(seal_ok h).1] at h1
  exact h1
theorem has_not {m a b n h : Int} (hn : n ≥ 2147483648) (h1 : a < 10) (h2 : b < 10) (h3 : n ≠ m) (h4 : n ≠ h) : n ∉ msgWs ⟨6, m, a, b, 0, h, 0⟩ := by
  simp [msgWs, tags, hasM, msgWord]
  refine ⟨?_, ?_, ?_, ?_, ?_, ?_, ?_⟩ <;> omega
theorem get_in {l : List Person} {n : Nat} (h : n < l.length) : getP l n = l[n] := by simp only [getP, List.getElem?_eq_getElem h, Option.getD_some]
end Ch
