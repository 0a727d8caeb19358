/- What each operation of principals and server comes to, in one form. -/
import Derived.Test.YtmgphjfpccddiaaGreatDoorW11
set_option maxRecDepth 100000
set_option maxHeartbeats 4000000
set_option linter.unusedSimpArgs false
set_option linter.unusedVariables false
namespace Ch
open Go Go.Ab
/-- the k-th number that is to be drawn -/
def dAt (w : World) (k : Int) : Int := drawAt w.draws.list (w.draws.next + k).toNat
/-- the row that a seal puts, whose handle is the k-th number -/
def sld (w : World) (k key label : Int) (p : Part) : Sld := ⟨dAt w k, key, label, partWs label p⟩
/-- a world behind k draws, with some rows more -/
def baseT (w : World) (k : Int) (sl : List Sld) : World := ⟨w.conf, ⟨w.draws.list, w.draws.next + k⟩, ⟨w.box.room, w.box.rows ++ sl⟩, w.net, w.people, w.log, w.regs, w.leaks⟩
/-- and with frames, somebody changed, and an event -/
def mkT (w : World) (k : Int) (sl : List Sld) (gs : List Gram) (n : Nat) (p : Person) (e : Event) : World :=
  ⟨w.conf, ⟨w.draws.list, w.draws.next + k⟩, ⟨w.box.room, w.box.rows ++ sl⟩, ⟨w.net.room, w.net.grams ++ gs, w.net.seen ++ gs.map Gram.words⟩, w.people.set n p, w.log ++ [e], w.regs, w.leaks⟩
theorem base_0 (w : World) : baseT w 0 [] = w := by
  obtain ⟨c, ⟨l, n⟩, ⟨r, b⟩, nt, p, lg, rg, lk⟩ := w
  simp only [baseT, Int.add_zero, List.append_nil]
theorem base_draw (w : World) (k : Int) (sl : List Sld) : drawW (baseT w k sl) = (baseT w (k + 1) sl, dAt w k) := by
  simp only [drawW, baseT, dAt, Int.add_assoc]
theorem d_0 (w : World) : drawW w = (baseT w 1 [], dAt w 0) := by
  conv => lhs; rw [← base_0 w]
  exact base_draw w 0 []
theorem base_seal {w : World} {k key label : Int} {sl : List Sld} {p : Part} (h : (sealW (baseT w k sl) key label p).2.2 = 0) : sealW (baseT w k sl) key label p = (baseT w (k + 1) (sl ++ [sld w k key label p]), dAt w k, 0) := by
  rw [(seal_ok h).1, base_draw]
  simp only [sealTo, base_draw, sealRow]
  simp only [baseT, sld, List.append_assoc]
theorem set_T {l : List Person} {p : Person} {n : Nat} (hn : p.name.toNat = n) (hin : n < l.length) : (setM l p).1 = l.set n p := by
  rw [setM, hn, decide_eq_true hin]; rfl
theorem put_T {w : World} {k : Int} {sl : List Sld} {p : Person} {n : Nat} (hn : p.name.toNat = n) (hin : n < w.people.length) (e : Event) : putP (baseT w k sl) p e = mkT w k sl [] n p e := by
  have := set_T hn hin
  simp only [putP, logW, withW, baseT, mkT, this, List.map_nil, List.append_nil]
theorem send_T {w : World} {k : Int} {sl : List Sld} {p : Person} {n : Nat} (hn : p.name.toNat = n) (hin : n < w.people.length) (e : Event) (to : Int) (m : Msg) : sendTo (putP (baseT w k sl) p e) to m = mkT w k sl [⟨to, msgWs m⟩] n p e := by
  have := set_T hn hin
  simp only [sendTo, putP, logW, withW, baseT, mkT, this, List.map_cons, List.map_nil]
theorem nm_T {w : World} (h : Right10 w.people = true) {a : Int} (ha : U a) (hl : a.toNat < w.people.length) : (personW w a).name.toNat = a.toNat := by rw [name_of h ha hl]
/-! what is begun -/
/-! the initiator with times -/
theorem grantN_T {w : World} {me : Int} {m : Msg} (hr : Right10 w.people = true) (hme : U me) (h : (grantN w me m).2 = 0) : ∃ i, aI w me m = some i ∧ (aG w me m).2 = true ∧ freshM (personW w me).clock (aG w me m).1.t w.conf.window = true ∧ me.toNat < w.people.length ∧
    grantN w me m = (mkT w 0 [] [⟨(runAt (personW w me).runs i).peer, msgWs ⟨3, 0, 0, 0, 0, (aG w me m).1.h, 0⟩⟩] me.toNat (setRun (personW w me) i (tookR (runAt (personW w me).runs i) (aG w me m).1)) ⟨3, 1, 1, me, (runAt (personW w me).runs i).peer, (aG w me m).1.k, (aG w me m).1.t, 0, (runAt (personW w me).runs i).mine, (personW w me).clock⟩, 0) := by
  obtain ⟨i, h1, h2, h3, h4⟩ := grantN_done h
  have hin := has_runs (grant_run h1).1
  refine ⟨i, h1, h2, h3, hin, ?_⟩
  rw [h4, aT]
  have e := send_T (w := w) (k := 0) (sl := []) (p := setRun (personW w me) i (tookR (runAt (personW w me).runs i) (aG w me m).1)) (n := me.toNat) (by exact nm_T hr hme hin) hin
  rw [base_0] at e
  rw [e]
theorem echoN_T {w : World} {me : Int} {m : Msg} (hr : Right10 w.people = true) (hme : U me) (h : (echoN w me m).2 = 0) : ∃ i, eI w me m = some i ∧ freshM (personW w me).clock (runAt (personW w me).runs i).t w.conf.window = true ∧ me.toNat < w.people.length ∧ (sealW (baseT w 0 []) (runAt (personW w me).runs i).k 5 ⟨eN w me m i, 0, 0, 0, 0, 0, 0⟩).2.2 = 0 ∧
    echoN w me m = (mkT w 1 [sld w 0 (runAt (personW w me).runs i).k 5 ⟨eN w me m i, 0, 0, 0, 0, 0, 0⟩] [⟨(runAt (personW w me).runs i).peer, msgWs ⟨5, 0, 0, 0, 0, dAt w 0, 0⟩⟩] me.toNat (setRun (personW w me) i (backR (runAt (personW w me).runs i) (eN w me m i))) ⟨4, 1, 1, me, (runAt (personW w me).runs i).peer, (runAt (personW w me).runs i).k, (runAt (personW w me).runs i).t, 0, eN w me m i, (personW w me).clock⟩, 0) := by
  obtain ⟨i, h1, h2, h3, h4⟩ := echoN_done h
  have hin := has_runs (echo_run h1).1
  have h3' : (sealW (baseT w 0 []) (runAt (personW w me).runs i).k 5 ⟨eN w me m i, 0, 0, 0, 0, 0, 0⟩).2.2 = 0 := by rw [base_0]; exact h3
  have h5 := base_seal h3'
  simp only [base_0, Int.reduceAdd, List.nil_append] at h5
  refine ⟨i, h1, h2, hin, h3', ?_⟩
  rw [h4, eT, eS, h5]
  simp only
  rw [send_T (n := me.toNat) (by exact nm_T hr hme hin) hin]
/-! the responder with times -/
theorem ticketB_done {w : World} {me : Int} {m : Msg} (h : (ticketB w me m).2 = 0) : (tG w me m).2 = true ∧ pairM w.people (tG w me m).1.a me = true ∧ freshM (personW w me).clock (tG w me m).1.t w.conf.window = true ∧ usedMay (personW w me).used w.conf.used (tG w me m).1.k = 0 ∧ full w (personW w me) = false ∧ (tS w (tG w me m).1).2.2 = 0 ∧ ticketB w me m = (sendTo (tY w me (tG w me m).1) (tG w me m).1.a ⟨4, 0, 0, 0, 0, (tS w (tG w me m).1).2.1, 0⟩, 0) := by
  unfold ticketB at h ⊢
  cases h1 : (tG w me m).2
  · simp only [h1] at h; cases h
  cases h2 : pairM w.people (tG w me m).1.a me
  · simp only [h1, h2] at h; cases h
  cases h3 : freshM (personW w me).clock (tG w me m).1.t w.conf.window
  · simp only [h1, h2, h3] at h; cases h
  cases h4 : (usedMay (personW w me).used w.conf.used (tG w me m).1.k == 0)
  · simp only [h1, h2, h3, h4, cond_true, cond_false] at h
    rw [h] at h4; cases h4
  cases h5 : (!full w (personW w me) && roomW w 1 1)
  · simp only [h1, h2, h3, h4, h5] at h; cases h
  cases h6 : ((tS w (tG w me m).1).2.2 == 0)
  · simp only [h1, h2, h3, h4, h5, h6, cond_true, cond_false] at h
    rw [h] at h6; cases h6
  · rw [Bool.and_eq_true, Bool.not_eq_true'] at h5
    have hz := (send_to (tZ_ok (me := me) (g := (tG w me m).1) (to := (tG w me m).1.a) h5.2)).1
    exact ⟨rfl, rfl, rfl, by simpa using h4, h5.1, by simpa using h6, by simp only [cond_true, tZ, hz]⟩
theorem ticketB_T {w : World} {me : Int} {m : Msg} (hr : Right10 w.people = true) (hme : U me) (h : (ticketB w me m).2 = 0) : (tG w me m).2 = true ∧ pairM w.people (tG w me m).1.a me = true ∧ freshM (personW w me).clock (tG w me m).1.t w.conf.window = true ∧ usedMay (personW w me).used w.conf.used (tG w me m).1.k = 0 ∧ full w (personW w me) = false ∧ (sealW (baseT w 1 []) (tG w me m).1.k 4 ⟨dAt w 0, 0, 0, 0, 0, 0, 0⟩).2.2 = 0 ∧
    ticketB w me m = (mkT w 2 [sld w 1 (tG w me m).1.k 4 ⟨dAt w 0, 0, 0, 0, 0, 0, 0⟩] [⟨(tG w me m).1.a, msgWs ⟨4, 0, 0, 0, 0, dAt w 1, 0⟩⟩] me.toNat (pushRun { personW w me with used := (personW w me).used ++ [(tG w me m).1.k] } ⟨1, 2, (tG w me m).1.a, dAt w 0, 0, 0, (tG w me m).1.k, (tG w me m).1.t, 2⟩) ⟨3, 1, 2, (tG w me m).1.a, me, (tG w me m).1.k, (tG w me m).1.t, 0, dAt w 0, (personW w me).clock⟩, 0) := by
  obtain ⟨h1, h2, h3, h4, h5, h6, h7⟩ := ticketB_done h
  have hin := (pair_in h2).2.2.2.2
  simp only [tS, d_0 w] at h6
  have h8 := base_seal h6
  refine ⟨h1, h2, h3, h4, h5, h6, ?_⟩
  rw [h7]
  simp only [tY, tP, tkRun, tEv, tS, d_0 w]
  simp only [Int.reduceAdd, List.nil_append] at h8 ⊢
  rw [h8]
  simp only
  rw [send_T (n := me.toNat) (by exact nm_T hr hme hin) hin]
theorem backB_T {w : World} {me : Int} {m : Msg} (hr : Right10 w.people = true) (hme : U me) (h : (backB w me m).2 = 0) : ∃ i, kI w me m = some i ∧ freshM (personW w me).clock (runAt (personW w me).runs i).t w.conf.window = true ∧ me.toNat < w.people.length ∧
    backB w me m = (mkT w 0 [] [] me.toNat (setRun (personW w me) i (endR' (runAt (personW w me).runs i))) ⟨4, 1, 2, (runAt (personW w me).runs i).peer, me, (runAt (personW w me).runs i).k, (runAt (personW w me).runs i).t, 0, (runAt (personW w me).runs i).mine, (personW w me).clock⟩, 0) := by
  obtain ⟨i, h1, h2, h4⟩ := backB_done h
  have hin := has_runs (back_run h1).1
  refine ⟨i, h1, h2, hin, ?_⟩
  rw [h4, kT]
  have e := put_T (w := w) (k := 0) (sl := []) (p := setRun (personW w me) i (endR' (runAt (personW w me).runs i))) (n := me.toNat) (by exact nm_T hr hme hin) hin
  rw [base_0] at e
  rw [e]
/-! those with run identifiers -/
theorem shareO_T {w : World} {me : Int} {m : Msg} (hr : Right10 w.people = true) (hme : U me) (h : (shareO w me m).2 = 0) : ∃ i, oI w me m = some i ∧ (oO w me m).2 = true ∧ (oO w me m).1.n = (runAt (personW w me).runs i).mine ∧ me.toNat < w.people.length ∧
    shareO w me m = (mkT w 0 [] [] me.toNat (setRun (personW w me) i (doneR (runAt (personW w me).runs i) (oO w me m).1.k)) ⟨4, 2, 1, me, (runAt (personW w me).runs i).peer, (oO w me m).1.k, 0, (runAt (personW w me).runs i).m, (runAt (personW w me).runs i).mine, (personW w me).clock⟩, 0) := by
  obtain ⟨i, h1, h2, h3, h4⟩ := shareO_ok h
  have hin := has_runs (wait_run (show (personW w me).runs.findIdx? (waitM 2 1 m.run) = some i from h1)).1
  refine ⟨i, h1, h2, h3, hin, ?_⟩
  rw [h4, oCom]
  have e := put_T (w := w) (k := 0) (sl := []) (p := setRun (personW w me) i (doneR (runAt (personW w me).runs i) (oO w me m).1.k)) (n := me.toNat) (by exact nm_T hr hme hin) hin
  rw [base_0] at e
  rw [e]
theorem firstB_err {w : World} {me : Int} {m : Msg} (h : (firstB w me m).2 ≠ 0) : (firstB w me m).1 = w := by
  unfold firstB at h ⊢
  cases h1 : (m.b == me && pairM w.people m.a me)
  · rfl
  cases h2 : (usedMay (personW w me).used w.conf.used m.run == 0)
  · rfl
  cases h3 : (!full w (personW w me) && roomW w 1 1)
  · rfl
  cases h4 : ((bS w me m).2.2 == 0)
  · rfl
  · simp only [h1, h2, h3, h4] at h; exact absurd rfl h
theorem firstB_done {w : World} {me : Int} {m : Msg} (h : (firstB w me m).2 = 0) : m.b = me ∧ pairM w.people m.a me = true ∧ usedMay (personW w me).used w.conf.used m.run = 0 ∧ full w (personW w me) = false ∧ (bS w me m).2.2 = 0 ∧ firstB w me m = (sendTo (bY w me m) 0 (bMsg w me m), 0) := by
  unfold firstB at h ⊢
  cases h1 : (m.b == me && pairM w.people m.a me)
  · simp only [h1] at h; cases h
  cases h2 : (usedMay (personW w me).used w.conf.used m.run == 0)
  · simp only [h1, h2, cond_true, cond_false] at h
    rw [h] at h2; cases h2
  cases h3 : (!full w (personW w me) && roomW w 1 1)
  · simp only [h1, h2, h3] at h; cases h
  cases h4 : ((bS w me m).2.2 == 0)
  · simp only [h1, h2, h3, h4, cond_true, cond_false] at h
    rw [h] at h4; cases h4
  · rw [Bool.and_eq_true, beq_iff_eq] at h1
    rw [Bool.and_eq_true, Bool.not_eq_true'] at h3
    have hz := (send_to (bZ_ok (me := me) (m := m) h3.2)).1
    exact ⟨h1.1, h1.2, by simpa using h2, h3.1, by simpa using h4, by simp only [cond_true, bZ, hz]⟩
theorem firstB_T {w : World} {me : Int} {m : Msg} (hr : Right10 w.people = true) (hme : U me) (h : (firstB w me m).2 = 0) : m.b = me ∧ pairM w.people m.a me = true ∧ usedMay (personW w me).used w.conf.used m.run = 0 ∧ full w (personW w me) = false ∧ (sealW (baseT w 1 []) (personW w me).key 7 ⟨dAt w 0, m.run, m.a, me, 0, 0, 0⟩).2.2 = 0 ∧
    firstB w me m = (mkT w 2 [sld w 1 (personW w me).key 7 ⟨dAt w 0, m.run, m.a, me, 0, 0, 0⟩] [⟨0, msgWs ⟨7, m.run, m.a, me, 0, m.box, dAt w 1⟩⟩] me.toNat (pushRun { personW w me with used := (personW w me).used ++ [m.run] } ⟨2, 2, m.a, dAt w 0, 0, m.run, 0, 0, 1⟩) ⟨3, 2, 2, m.a, me, 0, 0, m.run, dAt w 0, (personW w me).clock⟩, 0) := by
  obtain ⟨h1, h2, h3, h4, h5, h6⟩ := firstB_done h
  have hin := (pair_in h2).2.2.2.2
  simp only [bS, d_0 w] at h5
  have h8 := base_seal h5
  refine ⟨h1, h2, h3, h4, h5, ?_⟩
  rw [h6]
  simp only [bY, bMsg, bP, bRun, bEv, bS, d_0 w]
  simp only [Int.reduceAdd, List.nil_append] at h8 ⊢
  rw [h8]
  simp only
  rw [send_T (n := me.toNat) (by exact nm_T hr hme hin) hin]
theorem shareB_T {w : World} {me : Int} {m : Msg} (hr : Right10 w.people = true) (hme : U me) (h : (shareB w me m).2 = 0) : ∃ i, bI w me m = some i ∧ (bO w me m).2 = true ∧ (bO w me m).1.n = (runAt (personW w me).runs i).mine ∧ me.toNat < w.people.length ∧
    shareB w me m = (mkT w 0 [] [⟨(runAt (personW w me).runs i).peer, msgWs ⟨9, m.run, 0, 0, 0, m.box, 0⟩⟩] me.toNat (setRun (personW w me) i (doneR (runAt (personW w me).runs i) (bO w me m).1.k)) ⟨4, 2, 2, (runAt (personW w me).runs i).peer, me, (bO w me m).1.k, 0, (runAt (personW w me).runs i).m, (runAt (personW w me).runs i).mine, (personW w me).clock⟩, 0) := by
  unfold shareB at h ⊢
  cases h1 : bI w me m with
  | none => rw [h1] at h; cases h
  | some i =>
    rw [h1] at h
    cases h2 : ((bO w me m).2 && (bO w me m).1.n == (runAt (personW w me).runs i).mine)
    · simp only [h2] at h; cases h
    · cases h3 : roomW w 0 1
      · simp only [h2, h3] at h; cases h
      · have hz := (send_to (bX_ok (me := me) (m := m) (i := i) (k := (bO w me m).1.k) (to := (runAt (personW w me).runs i).peer) h3)).1
        have hin := has_runs (wait_run (show (personW w me).runs.findIdx? (waitM 2 2 m.run) = some i from h1)).1
        have h2' := h2
        rw [Bool.and_eq_true, beq_iff_eq] at h2'
        refine ⟨i, rfl, h2'.1, h2'.2, hin, ?_⟩
        simp only [h2, h3, cond_true]
        rw [bX, hz, bCom]
        have e := send_T (w := w) (k := 0) (sl := []) (p := setRun (personW w me) i (doneR (runAt (personW w me).runs i) (bO w me m).1.k)) (n := me.toNat) (by exact nm_T hr hme hin) hin
        rw [base_0] at e
        rw [e]
/-! the server -/
theorem grantM_err {w : World} {m : Msg} (h : (grantM w m).2 ≠ 0) : (grantM w m).1 = w := by
  unfold grantM at h ⊢
  cases h1 : pairM w.people m.a m.b
  · rfl
  cases h2 : decide ((personW w 0).clock ≥ 1073741824)
  · cases h3 : (usedMay (personW w 0).used w.conf.used m.nonce == 0)
    · rfl
    cases h4 : roomW w 2 1
    · rfl
    cases h5 : ((gTk w m).2.2 == 0)
    · rfl
    cases h6 : ((gGr w m).2.2 == 0)
    · rfl
    cases h7 : ((gZ w m).2 == 0)
    · rfl
    · simp only [h1, h2, h3, h4, h5, h6, h7] at h; exact absurd rfl h
  · rfl
theorem note_T {l : List Int} {room x : Int} (h : usedMay l room x = 0) : (usedNote l room x).1 = l ++ [x] := by rw [usedNote, h]; rfl
theorem grantM_T {w : World} {m : Msg} (hr : Right10 w.people = true) (h : (grantM w m).2 = 0) : pairM w.people m.a m.b = true ∧ (personW w 0).clock < 1073741824 ∧ usedMay (personW w 0).used w.conf.used m.nonce = 0 ∧
    (sealW (baseT w 1 []) (personW w m.b).key 3 ⟨0, 0, m.a, 0, dAt w 0, (personW w 0).clock, 0⟩).2.2 = 0 ∧
    (sealW (baseT w 2 [sld w 1 (personW w m.b).key 3 ⟨0, 0, m.a, 0, dAt w 0, (personW w 0).clock, 0⟩]) (personW w m.a).key 2 ⟨m.nonce, 0, 0, m.b, dAt w 0, (personW w 0).clock, dAt w 1⟩).2.2 = 0 ∧
    grantM w m = (mkT w 3 [sld w 1 (personW w m.b).key 3 ⟨0, 0, m.a, 0, dAt w 0, (personW w 0).clock, 0⟩, sld w 2 (personW w m.a).key 2 ⟨m.nonce, 0, 0, m.b, dAt w 0, (personW w 0).clock, dAt w 1⟩] [⟨m.a, msgWs ⟨2, 0, 0, 0, 0, dAt w 2, 0⟩⟩] 0 { personW w 0 with used := (personW w 0).used ++ [m.nonce] } ⟨2, 1, 0, m.a, m.b, dAt w 0, (personW w 0).clock, 0, m.nonce, (personW w 0).clock⟩, 0) := by
  unfold grantM at h ⊢
  cases h1 : pairM w.people m.a m.b
  · simp only [h1] at h; cases h
  cases h2 : decide ((personW w 0).clock ≥ 1073741824)
  rotate_left 1
  · simp only [h1, h2] at h; cases h
  cases h3 : (usedMay (personW w 0).used w.conf.used m.nonce == 0)
  · simp only [h1, h2, h3, cond_true, cond_false] at h
    rw [h] at h3; cases h3
  cases h4 : roomW w 2 1
  · simp only [h1, h2, h3, h4] at h; cases h
  cases h5 : ((gTk w m).2.2 == 0)
  · simp only [h1, h2, h3, h4, h5, cond_true, cond_false] at h
    rw [h] at h5; cases h5
  cases h6 : ((gGr w m).2.2 == 0)
  · simp only [h1, h2, h3, h4, h5, h6, cond_true, cond_false] at h
    rw [h] at h6; cases h6
  cases h7 : ((gZ w m).2 == 0)
  · simp only [h1, h2, h3, h4, h5, h6, h7, cond_true, cond_false] at h
    rw [h] at h7; cases h7
  have h3' : usedMay (personW w 0).used w.conf.used m.nonce = 0 := by simpa using h3
  have h5' : (gTk w m).2.2 = 0 := by simpa using h5
  have h6' : (gGr w m).2.2 = 0 := by simpa using h6
  have h7' : (gZ w m).2 = 0 := by simpa using h7
  have hin : 0 < w.people.length := by have := (right_len hr).1; omega
  rw [gTk] at h5'
  simp only [d_0 w] at h5'
  have e5 := base_seal h5'
  have e5' : gTk w m = (baseT w 2 [sld w 1 (personW w m.b).key 3 ⟨0, 0, m.a, 0, dAt w 0, (personW w 0).clock, 0⟩], dAt w 1, 0) := by
    rw [gTk]; simp only [d_0 w]; exact e5
  rw [gGr, e5'] at h6'
  simp only [d_0 w] at h6'
  have e6 := base_seal h6'
  have e6' : gGr w m = (baseT w 3 [sld w 1 (personW w m.b).key 3 ⟨0, 0, m.a, 0, dAt w 0, (personW w 0).clock, 0⟩, sld w 2 (personW w m.a).key 2 ⟨m.nonce, 0, 0, m.b, dAt w 0, (personW w 0).clock, dAt w 1⟩], dAt w 2, 0) := by
    rw [gGr, e5']; simp only [d_0 w]; exact e6
  refine ⟨rfl, by have := of_decide_eq_false h2; omega, h3', h5', h6', ?_⟩
  simp only [cond_true, cond_false]
  rw [gZ] at h7'
  have e7 := (send_to h7').1
  rw [gZ, e7, gY, e6', gP, note_T h3', gEv]
  simp only [d_0 w]
  have hn : Person.name { personW w 0 with used := (personW w 0).used ++ [m.nonce] } = 0 := name_of hr (by decide) hin
  have e8 := send_T (w := w) (k := 3) (sl := [sld w 1 (personW w m.b).key 3 ⟨0, 0, m.a, 0, dAt w 0, (personW w 0).clock, 0⟩, sld w 2 (personW w m.a).key 2 ⟨m.nonce, 0, 0, m.b, dAt w 0, (personW w 0).clock, dAt w 1⟩]) (p := { personW w 0 with used := (personW w 0).used ++ [m.nonce] }) (n := 0) (by rw [hn]; rfl) hin
  simp only [putP] at e8
  exact congrArg (·, (0 : Int)) (e8 _ _ _)
theorem shareM_err {w : World} {m : Msg} (h : (shareM w m).2 ≠ 0) : (shareM w m).1 = w := by
  unfold shareM at h ⊢
  cases h1 : pairM w.people m.a m.b
  · rfl
  cases h2 : ((sA w m).2 && (sB w m).2)
  · rfl
  cases h3 : (usedMay (personW w 0).used w.conf.used m.run == 0)
  · rfl
  cases h4 : roomW w 2 1
  · rfl
  cases h5 : ((s1 w m).2.2 == 0)
  · rfl
  cases h6 : ((s2 w m).2.2 == 0)
  · rfl
  cases h7 : ((sZ w m).2 == 0)
  · rfl
  · simp only [h1, h2, h3, h4, h5, h6, h7] at h; exact absurd rfl h
theorem shareM_T {w : World} {m : Msg} (hr : Right10 w.people = true) (h : (shareM w m).2 = 0) : pairM w.people m.a m.b = true ∧ (sA w m).2 = true ∧ (sB w m).2 = true ∧ usedMay (personW w 0).used w.conf.used m.run = 0 ∧
    (sealW (baseT w 1 []) (personW w m.b).key 8 ⟨(sB w m).1, 0, 0, 0, dAt w 0, 0, 0⟩).2.2 = 0 ∧
    (sealW (baseT w 2 [sld w 1 (personW w m.b).key 8 ⟨(sB w m).1, 0, 0, 0, dAt w 0, 0, 0⟩]) (personW w m.a).key 9 ⟨(sA w m).1, 0, 0, 0, dAt w 0, 0, 0⟩).2.2 = 0 ∧
    shareM w m = (mkT w 3 [sld w 1 (personW w m.b).key 8 ⟨(sB w m).1, 0, 0, 0, dAt w 0, 0, 0⟩, sld w 2 (personW w m.a).key 9 ⟨(sA w m).1, 0, 0, 0, dAt w 0, 0, 0⟩] [⟨m.b, msgWs ⟨8, m.run, 0, 0, 0, dAt w 2, dAt w 1⟩⟩] 0 { personW w 0 with used := (personW w 0).used ++ [m.run] } ⟨2, 2, 0, m.a, m.b, dAt w 0, 0, m.run, 0, (personW w 0).clock⟩, 0) := by
  unfold shareM at h ⊢
  cases h1 : pairM w.people m.a m.b
  · simp only [h1] at h; cases h
  cases h2 : ((sA w m).2 && (sB w m).2)
  · simp only [h1, h2] at h; cases h
  cases h3 : (usedMay (personW w 0).used w.conf.used m.run == 0)
  · simp only [h1, h2, h3, cond_true, cond_false] at h
    rw [h] at h3; cases h3
  cases h4 : roomW w 2 1
  · simp only [h1, h2, h3, h4] at h; cases h
  cases h5 : ((s1 w m).2.2 == 0)
  · simp only [h1, h2, h3, h4, h5, cond_true, cond_false] at h
    rw [h] at h5; cases h5
  cases h6 : ((s2 w m).2.2 == 0)
  · simp only [h1, h2, h3, h4, h5, h6, cond_true, cond_false] at h
    rw [h] at h6; cases h6
  cases h7 : ((sZ w m).2 == 0)
  · simp only [h1, h2, h3, h4, h5, h6, h7, cond_true, cond_false] at h
    rw [h] at h7; cases h7
  have h3' : usedMay (personW w 0).used w.conf.used m.run = 0 := by simpa using h3
  have h5' : (s1 w m).2.2 = 0 := by simpa using h5
  have h6' : (s2 w m).2.2 = 0 := by simpa using h6
  have h7' : (sZ w m).2 = 0 := by simpa using h7
  have hin : 0 < w.people.length := by have := (right_len hr).1; omega
  rw [s1] at h5'
  simp only [d_0 w] at h5'
  have e5 := base_seal h5'
  have e5' : s1 w m = (baseT w 2 [sld w 1 (personW w m.b).key 8 ⟨(sB w m).1, 0, 0, 0, dAt w 0, 0, 0⟩], dAt w 1, 0) := by
    rw [s1]; simp only [d_0 w]; exact e5
  rw [s2, e5'] at h6'
  simp only [d_0 w] at h6'
  have e6 := base_seal h6'
  have e6' : s2 w m = (baseT w 3 [sld w 1 (personW w m.b).key 8 ⟨(sB w m).1, 0, 0, 0, dAt w 0, 0, 0⟩, sld w 2 (personW w m.a).key 9 ⟨(sA w m).1, 0, 0, 0, dAt w 0, 0, 0⟩], dAt w 2, 0) := by
    rw [s2, e5']; simp only [d_0 w]; exact e6
  rw [Bool.and_eq_true] at h2
  refine ⟨rfl, h2.1, h2.2, h3', h5', h6', ?_⟩
  simp only [cond_true, cond_false]
  rw [sZ] at h7'
  have e7 := (send_to h7').1
  rw [sZ, e7, sY, e6', e5', sP, sEv]
  simp only [d_0 w]
  have hn : Person.name { personW w 0 with used := (personW w 0).used ++ [m.run] } = 0 := name_of hr (by decide) hin
  have e8 := send_T (w := w) (k := 3) (sl := [sld w 1 (personW w m.b).key 8 ⟨(sB w m).1, 0, 0, 0, dAt w 0, 0, 0⟩, sld w 2 (personW w m.a).key 9 ⟨(sA w m).1, 0, 0, 0, dAt w 0, 0, 0⟩]) (p := { personW w 0 with used := (personW w 0).used ++ [m.run] }) (n := 0) (by rw [hn]; rfl) hin
  simp only [putP] at e8
  exact congrArg (·, (0 : Int)) (e8 _ _ _)
end Ch

/- Frames, come to somebody: what comes of them, in plain Lean. -/
set_option maxRecDepth 100000
set_option maxHeartbeats 4000000
set_option linter.unusedSimpArgs false
set_option linter.unusedVariables false
namespace Ch
open Go Go.Ab
def takeM (w : World) (to : Int) (m : Msg) : World × Int :=
  bif to == 0 then (bif m.kind == 1 then grantM w m else bif m.kind == 7 then shareM w m else (w, 4))
  else bif m.kind == 2 then grantN w to m else bif m.kind == 3 then ticketB w to m else bif m.kind == 4 then echoN w to m else bif m.kind == 5 then backB w to m else bif m.kind == 6 then firstB w to m else bif m.kind == 8 then shareB w to m else bif m.kind == 9 then shareO w to m else (w, 4)
def deliverM (w : World) (to : Int) (l : List Int) : World × Int :=
  bif decide (to.toNat < w.people.length) then (bif (msgGet l).2 == 0 then takeM w to (msgGet l).1 else (w, (msgGet l).2)) else (w, 5)
theorem takeM_fit {w : World} {N : Nat} (hw : w.fit N) (h5 : 21 ≤ N) (hN : N ≤ 400000000000) {to : Int} (ht : U to) {m : Msg} (hm : m.ok) : (takeM w to m).1.fit (N + 5) := by
  have h0 := hw.mono (show N ≤ N + 5 by omega)
  have mono : ∀ {K : Nat} {v : World}, v.fit K → K ≤ N + 5 → v.fit (N + 5) := fun h1 h2 => h1.mono h2
  unfold takeM
  cases (to == 0)
  · simp only [cond_false]
    cases (m.kind == 2)
    · cases (m.kind == 3)
      · cases (m.kind == 4)
        · cases (m.kind == 5)
          · cases (m.kind == 6)
            · cases (m.kind == 8)
              · cases (m.kind == 9)
                · exact h0
                · exact mono (shareO_fit hw hN ht m) (by omega)
              · exact mono (shareB_fit hw h5 hN ht hm) (by omega)
            · exact mono (firstB_fit hw h5 hN ht hm) (by omega)
          · exact mono (backB_fit hw hN ht m) (by omega)
        · exact mono (echoN_fit hw h5 hN ht m) (by omega)
      · exact mono (ticketB_fit hw h5 hN ht m) (by omega)
    · exact mono (grantN_fit hw h5 hN ht m) (by omega)
  · simp only [cond_true]
    cases (m.kind == 1)
    · cases (m.kind == 7)
      · exact h0
      · exact shareM_fit hw h5 hN hm
    · exact grantM_fit hw h5 hN hm
theorem msgGet_U {l : List Int} (hu : ∀ x ∈ l, U x) (hz : (msgGet l).2 = 0) : (msgGet l).1.ok := by
  obtain ⟨h1, h2⟩ := msgGet_ok hu (Prod.ext rfl hz : msgGet l = ((msgGet l).1, 0))
  generalize (msgGet l).1 = m at h1 h2
  subst h2
  have hk := kind9 (may_kd h1)
  obtain ⟨k, run, a, b, nonce, box, more⟩ := m
  simp only at hk
  have z : U 0 := U0
  rcases hk with rfl | rfl | rfl | rfl | rfl | rfl | rfl | rfl | rfl
  all_goals
    simp [msgMay, tags, hasM, msgWord] at h1
    simp [msgWs, tags, hasM, msgWord] at hu
    refine ⟨?_, ?_, ?_, ?_, ?_, ?_, ?_⟩ <;> simp_all
theorem deliverM_fit {w : World} {N : Nat} (hw : w.fit N) (h5 : 21 ≤ N) (hN : N ≤ 400000000000) {to : Int} (ht : U to) {l : List Int} (hu : ∀ x ∈ l, U x) : (deliverM w to l).1.fit (N + 5) := by
  have h0 := hw.mono (show N ≤ N + 5 by omega)
  unfold deliverM
  cases decide (to.toNat < w.people.length)
  · exact h0
  cases hz : ((msgGet l).2 == 0)
  · exact h0
  · exact takeM_fit hw h5 hN ht (msgGet_U hu (by simpa using hz))
/-! what is refused changes nothing -/
theorem takeM_err {w : World} {to : Int} {m : Msg} (h : (takeM w to m).2 ≠ 0) : (takeM w to m).1 = w := by
  unfold takeM at h ⊢
  cases c0 : (to == 0)
  · rw [c0] at h
    simp only [cond_false] at h ⊢
    cases c2 : (m.kind == 2)
    · cases c3 : (m.kind == 3)
      · cases c4 : (m.kind == 4)
        · cases c5 : (m.kind == 5)
          · cases c6 : (m.kind == 6)
            · cases c8 : (m.kind == 8)
              · cases c9 : (m.kind == 9)
                · rfl
                · simp only [c2, c3, c4, c5, c6, c8, c9, cond_true, cond_false] at h ⊢; exact shareO_err h
              · simp only [c2, c3, c4, c5, c6, c8, cond_true, cond_false] at h ⊢; exact shareB_err h
            · simp only [c2, c3, c4, c5, c6, cond_true, cond_false] at h ⊢; exact firstB_err h
          · simp only [c2, c3, c4, c5, cond_true, cond_false] at h ⊢; exact backB_err h
        · simp only [c2, c3, c4, cond_true, cond_false] at h ⊢; exact echoN_err h
      · simp only [c2, c3, cond_true, cond_false] at h ⊢; exact ticketB_err h
    · simp only [c2, cond_true] at h ⊢; exact grantN_err h
  · rw [c0] at h
    simp only [cond_true] at h ⊢
    cases c1 : (m.kind == 1)
    · cases c7 : (m.kind == 7)
      · rfl
      · simp only [c1, c7, cond_true, cond_false] at h ⊢; exact shareM_err h
    · simp only [c1, cond_true] at h ⊢; exact grantM_err h
theorem deliverM_err {w : World} {to : Int} {l : List Int} (h : (deliverM w to l).2 ≠ 0) : (deliverM w to l).1 = w := by
  unfold deliverM at h ⊢
  cases c1 : decide (to.toNat < w.people.length)
  · rfl
  cases c2 : ((msgGet l).2 == 0)
  · rfl
  · simp only [c1, c2, cond_true] at h ⊢; exact takeM_err h
/-! what is taken -/
structure Took (w : World) (n : Nat) (v : World) (k : Int) (sl : List Sld) (gs : List Gram) (p : Person) (e : Event) : Prop where
  eq : v = mkT w k sl gs n p e
  k0 : 0 ≤ k
  k3 : k ≤ 3
  gs1 : gs.length ≤ 1
  inn : n < w.people.length
  name : p.name = (getP w.people n).name
  key : p.key = (getP w.people n).key
  clock : p.clock = (getP w.people n).clock
  corrupt : p.corrupt = (getP w.people n).corrupt
  okp : okP w.conf (getP w.people n) = true → okP w.conf p = true
  box : Right07 w.box = true → Right07 ⟨w.box.room, w.box.rows ++ sl⟩ = true
  net : (w.net.grams.length : Int) ≤ w.net.room → ((w.net.grams.length + gs.length : Nat) : Int) ≤ w.net.room
  words : ∀ g ∈ gs, g.words.length ≤ 64
theorem base_right {w : World} {k key label : Int} {sl : List Sld} {p : Part} (h : (sealW (baseT w k sl) key label p).2.2 = 0) (hr : Right07 ⟨w.box.room, w.box.rows ++ sl⟩ = true) : Right07 ⟨w.box.room, w.box.rows ++ (sl ++ [sld w k key label p])⟩ = true := by
  have h1 := seal_right (w := baseT w k sl) hr key label p
  rw [base_seal h] at h1
  exact h1
theorem base_right1 {w : World} {k key label : Int} {p : Part} (h : (sealW (baseT w k []) key label p).2.2 = 0) (hr : Right07 w.box = true) : Right07 ⟨w.box.room, w.box.rows ++ [sld w k key label p]⟩ = true :=
  base_right (sl := []) h (by rw [List.append_nil]; exact hr)
theorem nil_right {w : World} (hr : Right07 w.box = true) : Right07 ⟨w.box.room, w.box.rows ++ []⟩ = true := by rw [List.append_nil]; exact hr
theorem words_le (to : Int) (m : Msg) : ∀ g ∈ [(⟨to, msgWs m⟩ : Gram)], g.words.length ≤ 64 := by
  intro g hg
  simp only [List.mem_singleton] at hg
  subst hg
  have := msgWs_len m
  show (msgWs m).length ≤ 64
  omega
theorem setRun_okp {w : World} {p : Person} (i : Nat) {r : Run} (hr : May09 r = true) : okP w.conf p = true → okP w.conf (setRun p i r) = true := fun h => okP_set h hr i
theorem full_lt {w : World} {p : Person} (h : full w p = false) : (p.runs.length : Int) < w.conf.runs := by have := of_decide_eq_false h; omega
theorem push_okp {w : World} {p : Person} {r : Run} (hr : May09 r = true) (hf : full w p = false) : okP w.conf p = true → okP w.conf (pushRun p r) = true := fun h => okP_push h hr (full_lt hf)
theorem room_1 {w : World} {b : Int} (h : roomW w b 1 = true) : (w.net.grams.length : Int) ≤ w.net.room → ((w.net.grams.length + 1 : Nat) : Int) ≤ w.net.room := fun _ => by have := room_net h; omega
theorem took_form {w v : World} {n : Nat} {k : Int} {sl : List Sld} {gs : List Gram} {p : Person} {e : Event} (h : Took w n v k sl gs p e) (hf : w.form) (hn : w.draws.next + k ≤ 1048576) : v.form := by
  have hr := hf.right
  have hnm := names_of_right hr
  have hlen := right_len hr
  have hg : getP w.people n = w.people[n]'h.inn := by simp only [getP, List.getElem?_eq_getElem h.inn, Option.getD_some]
  rw [h.eq]
  have hnet := hf.net
  simp only [Right06, Bool.and_eq_true, decide_eq_true_eq] at hnet
  have k0 := h.k0
  have n0 := hf.next0
  refine ⟨hf.may, h.box hf.box, hf.broom, ?_, hf.nroom, ?_, ?_, hf.nregs, ?_, hn, ?_, hf.regs, ?_, ?_⟩
  · have h1 := h.net (by omega)
    show Right06 ⟨w.net.room, w.net.grams ++ gs, w.net.seen ++ gs.map Gram.words⟩ = true
    simp only [Right06, Bool.and_eq_true, decide_eq_true_eq]
    exact ⟨hnet.1, by rw [List.length_append]; exact h1⟩
  · refine names_right (fun i hi => ?_) (by simp only [mkT, List.length_set]; omega) (by simp only [mkT, List.length_set]; omega)
    simp only [mkT, List.length_set] at hi
    simp only [mkT, List.getElem_set]
    split
    · rename_i e; subst e
      rw [h.name, hg]; exact hnm _ h.inn
    · exact hnm i hi
  · show ((w.people.set n p).length : Int) = _
    rw [List.length_set]; exact hf.npl
  · show 0 ≤ w.draws.next + k; omega
  · intro q hq
    rcases List.mem_or_eq_of_mem_set hq with h1 | rfl
    · exact hf.okp q h1
    · exact h.okp (by rw [hg]; exact hf.okp _ (List.getElem_mem h.inn))
  · intro l hl
    rcases List.mem_append.1 hl with h1 | h1
    · exact hf.seen l h1
    · obtain ⟨g, hg, rfl⟩ := List.mem_map.1 h1
      exact h.words g hg
  · intro g hg
    rcases List.mem_append.1 hg with h1 | h1
    · exact hf.grams g h1
    · exact h.words g h1
end Ch

/- Frames, come to somebody: what is taken, and what errors there are. -/
set_option maxRecDepth 100000
set_option maxHeartbeats 4000000
set_option linter.unusedSimpArgs false
set_option linter.unusedVariables false
namespace Ch
open Go Go.Ab
theorem grantN_room {w : World} {me : Int} {m : Msg} (h : (grantN w me m).2 = 0) : roomW w 0 1 = true := by
  cases c : roomW w 0 1
  · exfalso
    revert h
    unfold grantN
    cases (aG w me m).2
    · simp
    · cases aI w me m with
      | none => simp
      | some i => simp only [c, cond_true, cond_false]; cases freshM (personW w me).clock (aG w me m).1.t w.conf.window <;> simp
  · rfl
theorem echoN_room {w : World} {me : Int} {m : Msg} (h : (echoN w me m).2 = 0) : roomW w 1 1 = true := by
  cases c : roomW w 1 1
  · exfalso
    revert h
    unfold echoN
    cases eI w me m with
    | none => simp
    | some i => simp only [c, cond_false]; cases freshM (personW w me).clock (runAt (personW w me).runs i).t w.conf.window <;> simp
  · rfl
theorem ticketB_room {w : World} {me : Int} {m : Msg} (h : (ticketB w me m).2 = 0) : roomW w 1 1 = true := by
  cases c : roomW w 1 1
  · exfalso
    have h4 := (ticketB_done h).2.2.2.1
    revert h
    unfold ticketB
    rw [h4]
    simp only [c, Bool.and_false, cond_false, beq_self_eq_true, cond_true]
    cases (tG w me m).2 <;> cases pairM w.people (tG w me m).1.a me <;> cases freshM (personW w me).clock (tG w me m).1.t w.conf.window <;> simp
  · rfl
theorem firstB_room {w : World} {me : Int} {m : Msg} (h : (firstB w me m).2 = 0) : roomW w 1 1 = true := by
  cases c : roomW w 1 1
  · exfalso
    have h4 := (firstB_done h).2.2.1
    revert h
    unfold firstB
    rw [h4]
    simp only [c, Bool.and_false, cond_false, beq_self_eq_true, cond_true]
    cases (m.b == me && pairM w.people m.a me) <;> simp
  · rfl
theorem shareB_room {w : World} {me : Int} {m : Msg} (h : (shareB w me m).2 = 0) : roomW w 0 1 = true := by
  cases c : roomW w 0 1
  · exfalso
    revert h
    unfold shareB
    cases bI w me m with
    | none => simp
    | some i =>
      simp only [c, cond_false]
      cases ((bO w me m).2 && (bO w me m).1.n == (runAt (personW w me).runs i).mine) <;> simp
  · rfl
theorem grantM_room {w : World} {m : Msg} (hr : Right10 w.people = true) (h : (grantM w m).2 = 0) : roomW w 2 1 = true := by
  cases c : roomW w 2 1
  · exfalso
    have h3 := (grantM_T hr h).2.2.1
    revert h
    unfold grantM
    rw [h3]
    simp only [c, cond_false, beq_self_eq_true, cond_true]
    cases pairM w.people m.a m.b <;> cases decide ((personW w 0).clock ≥ 1073741824) <;> simp
  · rfl
theorem shareM_room {w : World} {m : Msg} (hr : Right10 w.people = true) (h : (shareM w m).2 = 0) : roomW w 2 1 = true := by
  cases c : roomW w 2 1
  · exfalso
    have h3 := (shareM_T hr h).2.2.2.1
    revert h
    unfold shareM
    rw [h3]
    simp only [c, cond_false, beq_self_eq_true, cond_true]
    cases pairM w.people m.a m.b <;> cases ((sA w m).2 && (sB w m).2) <;> simp
  · rfl
theorem may_run {p r s : Int} (hp : p = 1 ∨ p = 2) (hr : r = 1 ∨ r = 2) (hs : s = 1 ∨ s = 2 ∨ s = 3) (a b c d e f : Int) : May09 ⟨p, r, a, b, c, d, e, f, s⟩ = true := by
  rcases hp with rfl | rfl <;> rcases hr with rfl | rfl <;> rcases hs with rfl | rfl | rfl <;> rfl
theorem takeM_took {w : World} {to : Int} {m : Msg} (hf : w.form) (ht : U to) (h : (takeM w to m).2 = 0) : ∃ k sl gs p e, Took w to.toNat (takeM w to m).1 k sl gs p e := by
  have hr := hf.right
  have hb := hf.box
  unfold takeM at h ⊢
  cases c0 : (to == 0)
  · rw [c0] at h
    simp only [cond_false] at h ⊢
    cases c2 : (m.kind == 2)
    · cases c3 : (m.kind == 3)
      · cases c4 : (m.kind == 4)
        · cases c5 : (m.kind == 5)
          · cases c6 : (m.kind == 6)
            · cases c8 : (m.kind == 8)
              · cases c9 : (m.kind == 9)
                · simp only [c2, c3, c4, c5, c6, c8, c9, cond_false] at h; exact absurd h (by decide)
                · simp only [c2, c3, c4, c5, c6, c8, c9, cond_true, cond_false] at h ⊢
                  obtain ⟨i, h1, h2, h3, h4, h5⟩ := shareO_T hr ht h
                  obtain ⟨hi, r1, r2, r3, r4⟩ := wait_run (show (personW w to).runs.findIdx? (waitM 2 1 m.run) = some i from h1)
                  rw [h5]
                  exact ⟨_, _, _, _, _, rfl, by decide, by decide, by simp, h4, rfl, rfl, rfl, rfl, setRun_okp i (done_may (.inr r1) (.inl r2)), nil_right, fun h => by simpa using h, by simp⟩
              · simp only [c2, c3, c4, c5, c6, c8, cond_true, cond_false] at h ⊢
                have hro := shareB_room h
                obtain ⟨i, h1, h2, h3, h4, h5⟩ := shareB_T hr ht h
                obtain ⟨hi, r1, r2, r3, r4⟩ := wait_run (show (personW w to).runs.findIdx? (waitM 2 2 m.run) = some i from h1)
                rw [h5]
                exact ⟨_, _, _, _, _, rfl, by decide, by decide, by simp, h4, rfl, rfl, rfl, rfl, setRun_okp i (done_may (.inr r1) (.inr r2)), nil_right, room_1 hro, words_le _ _⟩
            · simp only [c2, c3, c4, c5, c6, cond_true, cond_false] at h ⊢
              have hro := firstB_room h
              obtain ⟨h1, h2, h3, h4, h5, h6⟩ := firstB_T hr ht h
              rw [h6]
              exact ⟨_, _, _, _, _, rfl, by decide, by decide, by simp, (pair_in h2).2.2.2.2, rfl, rfl, rfl, rfl, fun h => push_okp (may_run (by decide) (by decide) (by decide) _ _ _ _ _ _) h4 (okP_used h h3), base_right1 h5, room_1 hro, words_le _ _⟩
          · simp only [c2, c3, c4, c5, cond_true, cond_false] at h ⊢
            obtain ⟨i, h1, h2, h3, h4⟩ := backB_T hr ht h
            obtain ⟨hi, r1, r2, r3, r4, r5⟩ := back_run h1
            rw [h4]
            refine ⟨_, _, _, _, _, rfl, by decide, by decide, by simp, h3, rfl, rfl, rfl, rfl, setRun_okp i ?_, nil_right, fun h => by simpa using h, by simp⟩
            rw [endR', r1, r2]; exact may_run (by decide) (by decide) (by decide) _ _ _ _ _ _
        · simp only [c2, c3, c4, cond_true, cond_false] at h ⊢
          have hro := echoN_room h
          obtain ⟨i, h1, h2, h3, h4, h5⟩ := echoN_T hr ht h
          obtain ⟨hi, r1, r2, r3, r4⟩ := echo_run h1
          rw [h5]
          refine ⟨_, _, _, _, _, rfl, by decide, by decide, by simp, h3, rfl, rfl, rfl, rfl, setRun_okp i ?_, base_right1 h4, room_1 hro, words_le _ _⟩
          rw [backR, r1, r2]; exact may_run (by decide) (by decide) (by decide) _ _ _ _ _ _
      · simp only [c2, c3, cond_true, cond_false] at h ⊢
        have hro := ticketB_room h
        obtain ⟨h1, h2, h3, h4, h5, h6, h7⟩ := ticketB_T hr ht h
        rw [h7]
        exact ⟨_, _, _, _, _, rfl, by decide, by decide, by simp, (pair_in h2).2.2.2.2, rfl, rfl, rfl, rfl, fun h => push_okp (may_run (by decide) (by decide) (by decide) _ _ _ _ _ _) h5 (okP_used h h4), base_right1 h6, room_1 hro, words_le _ _⟩
    · simp only [c2, cond_true] at h ⊢
      have hro := grantN_room h
      obtain ⟨i, h1, h2, h3, h4, h5⟩ := grantN_T hr ht h
      obtain ⟨hi, r1, r2, r3, r4, r5⟩ := grant_run h1
      rw [h5]
      refine ⟨_, _, _, _, _, rfl, by decide, by decide, by simp, h4, rfl, rfl, rfl, rfl, setRun_okp i ?_, nil_right, room_1 hro, words_le _ _⟩
      rw [tookR, r1, r2]; exact may_run (by decide) (by decide) (by decide) _ _ _ _ _ _
  · rw [c0] at h
    have hz : to = 0 := by simpa using c0
    subst hz
    have hin : 0 < w.people.length := by have := (right_len hr).1; omega
    simp only [cond_true] at h ⊢
    cases c1 : (m.kind == 1)
    · cases c7 : (m.kind == 7)
      · simp only [c1, c7, cond_false] at h; exact absurd h (by decide)
      · simp only [c1, c7, cond_true, cond_false] at h ⊢
        have hro := shareM_room hr h
        obtain ⟨h1, h2, h3, h4, h5, h6, h7⟩ := shareM_T hr h
        rw [h7]
        exact ⟨_, _, _, _, _, rfl, by decide, by decide, by simp, hin, rfl, rfl, rfl, rfl, fun h => okP_used h h4, fun hb => base_right h6 (base_right1 h5 hb), room_1 hro, words_le _ _⟩
    · simp only [c1, cond_true] at h ⊢
      have hro := grantM_room hr h
      obtain ⟨h1, h2, h3, h4, h5, h6⟩ := grantM_T hr h
      rw [h6]
      exact ⟨_, _, _, _, _, rfl, by decide, by decide, by simp, hin, rfl, rfl, rfl, rfl, fun h => okP_used h h3, fun hb => base_right h5 (base_right1 h4 hb), room_1 hro, words_le _ _⟩
theorem deliverM_ok {w : World} {to : Int} {l : List Int} (h : (deliverM w to l).2 = 0) : to.toNat < w.people.length ∧ (msgGet l).2 = 0 ∧ deliverM w to l = takeM w to (msgGet l).1 := by
  unfold deliverM at h ⊢
  cases c1 : decide (to.toNat < w.people.length)
  · rw [c1] at h; cases h
  cases c2 : ((msgGet l).2 == 0)
  · rw [c1, c2] at h
    simp only [cond_true, cond_false] at h
    rw [h] at c2; cases c2
  · exact ⟨of_decide_eq_true c1, by simpa using c2, rfl⟩
theorem deliverM_took {w : World} {to : Int} {l : List Int} (hf : w.form) (ht : U to) (h : (deliverM w to l).2 = 0) : ∃ k sl gs p e, Took w to.toNat (deliverM w to l).1 k sl gs p e := by
  obtain ⟨h1, h2, h3⟩ := deliverM_ok h
  rw [h3] at h ⊢
  exact takeM_took hf ht h
/-! the errors that there are -/
def errT (e : Int) : Prop := e = 0 ∨ e = 5 ∨ e = 6 ∨ e = 7 ∨ e = 8 ∨ e = 9 ∨ e = 10
theorem seal_errT {w : World} {key label : Int} {p : Part} (hl : label? label = true) (hp : p = partRd label (partWs label p)) : errT (sealW w key label p).2.2 := by
  have h1 : partPut label p = (partWs label p, 0) := by
    have : eqPart p (partRd label (partWs label p)) = true := by
      rw [← hp]; obtain ⟨a, b, c, d, e, f, g⟩ := p; simp [eqPart]
    rw [partPut, hl, this]; rfl
  unfold sealW
  rw [h1]
  simp only [beq_self_eq_true, cond_true]
  have h2 : decide (((partWs label p).length : Int) > 64) = false := by have := partWs_len label p; exact decide_eq_false (by omega)
  unfold boxSeal
  rw [h2]
  simp only [cond_false]
  cases (boxFind w.box (drawW w).2).isSome
  · cases decide (w.box.room - w.box.rows.length < 1)
    · exact .inl rfl
    · exact .inr (.inr (.inr (.inr (.inr (.inr rfl)))))
  · exact .inr (.inr (.inr (.inr (.inl rfl))))
theorem send_errT {w : World} {to : Int} {m : Msg} (hm : msgMay m = true) : errT (sendW w to m).2 := by
  unfold sendW msgPut netSend
  rw [hm]
  simp only [cond_true, beq_self_eq_true]
  cases decide (w.net.room - (w.net.grams.length : Int) < 1)
  · exact .inl rfl
  · exact .inr (.inr (.inr (.inr (.inr (.inr rfl)))))
theorem used_errT (l : List Int) (room x : Int) : errT (usedMay l room x) := by
  unfold usedMay
  cases decide (x ∈ l)
  · cases decide ((l.length : Int) ≥ room)
    · exact .inl rfl
    · exact .inr (.inr (.inr (.inr (.inr (.inr rfl)))))
  · exact .inr (.inr (.inr (.inr (.inl rfl))))
theorem e0 : errT 0 := .inl rfl
theorem e5 : errT 5 := .inr (.inl rfl)
theorem e6 : errT 6 := .inr (.inr (.inl rfl))
theorem e7 : errT 7 := .inr (.inr (.inr (.inl rfl)))
theorem e9 : errT 9 := .inr (.inr (.inr (.inr (.inr (.inl rfl)))))
theorem e10 : errT 10 := .inr (.inr (.inr (.inr (.inr (.inr rfl)))))
theorem takeM_errT {w : World} {to : Int} {m : Msg} (hm : msgMay m = true) (hs : (m.kind == 1 || m.kind == 7) = (to == 0)) : errT (takeM w to m).2 := by
  have hk := kind9 (may_kd hm)
  unfold takeM
  cases c0 : (to == 0)
  · rw [c0] at hs
    simp only [cond_false]
    cases c2 : (m.kind == 2)
    · cases c3 : (m.kind == 3)
      · cases c4 : (m.kind == 4)
        · cases c5 : (m.kind == 5)
          · cases c6 : (m.kind == 6)
            · cases c8 : (m.kind == 8)
              · cases c9 : (m.kind == 9)
                · exfalso
                  simp only [Bool.or_eq_false_iff, beq_eq_false_iff_ne] at hs c2 c3 c4 c5 c6 c8 c9
                  omega
                · unfold shareO
                  simp only [cond_true, cond_false]
                  cases oI w to m with
                  | none => exact e9
                  | some i => simp only; cases ((oO w to m).2 && (oO w to m).1.n == (runAt (personW w to).runs i).mine); exact e6; exact e0
              · unfold shareB
                simp only [cond_true, cond_false]
                cases bI w to m with
                | none => exact e9
                | some i =>
                  simp only
                  cases ((bO w to m).2 && (bO w to m).1.n == (runAt (personW w to).runs i).mine)
                  · exact e6
                  · cases roomW w 0 1; exact e10; exact e0
            · unfold firstB
              simp only [cond_true, cond_false]
              cases (m.b == to && pairM w.people m.a to)
              · exact e5
              cases (usedMay (personW w to).used w.conf.used m.run == 0)
              · exact used_errT _ _ _
              cases (!full w (personW w to) && roomW w 1 1)
              · exact e10
              cases ((bS w to m).2.2 == 0)
              · exact seal_errT rfl rfl
              · exact e0
          · unfold backB
            simp only [cond_true, cond_false]
            cases kI w to m with
            | none => exact e6
            | some i => simp only; cases freshM (personW w to).clock (runAt (personW w to).runs i).t w.conf.window; exact e7; exact e0
        · unfold echoN
          simp only [cond_true, cond_false]
          cases eI w to m with
          | none => exact e6
          | some i =>
            simp only
            cases freshM (personW w to).clock (runAt (personW w to).runs i).t w.conf.window
            · exact e7
            cases roomW w 1 1
            · exact e10
            simp only [cond_true]
            cases ((eS w to (eN w to m i) i).2.2 == 0)
            · exact seal_errT rfl rfl
            · exact e0
      · unfold ticketB
        simp only [cond_true, cond_false]
        cases (tG w to m).2
        · exact e6
        cases pairM w.people (tG w to m).1.a to
        · exact e5
        cases freshM (personW w to).clock (tG w to m).1.t w.conf.window
        · exact e7
        cases (usedMay (personW w to).used w.conf.used (tG w to m).1.k == 0)
        · exact used_errT _ _ _
        cases (!full w (personW w to) && roomW w 1 1)
        · exact e10
        cases ((tS w (tG w to m).1).2.2 == 0)
        · exact seal_errT rfl rfl
        · exact e0
    · unfold grantN
      simp only [cond_true]
      cases (aG w to m).2
      · exact e6
      simp only [cond_true]
      cases aI w to m with
      | none => exact e9
      | some i =>
        simp only
        cases freshM (personW w to).clock (aG w to m).1.t w.conf.window
        · exact e7
        cases roomW w 0 1; exact e10; exact e0
  · rw [c0] at hs
    simp only [cond_true]
    cases c1 : (m.kind == 1)
    · cases c7 : (m.kind == 7)
      · rw [c1, c7] at hs; cases hs
      · unfold shareM
        simp only [cond_true, cond_false]
        cases pairM w.people m.a m.b
        · exact e5
        cases ((sA w m).2 && (sB w m).2)
        · exact e6
        cases (usedMay (personW w 0).used w.conf.used m.run == 0)
        · exact used_errT _ _ _
        cases roomW w 2 1
        · exact e10
        cases ((s1 w m).2.2 == 0)
        · exact seal_errT rfl rfl
        cases ((s2 w m).2.2 == 0)
        · exact seal_errT rfl rfl
        cases ((sZ w m).2 == 0)
        · exact send_errT (by simp [msgMay, tags, hasM, msgWord])
        · exact e0
    · unfold grantM
      simp only [cond_true]
      cases pairM w.people m.a m.b
      · exact e5
      cases decide ((personW w 0).clock ≥ 1073741824)
      · cases (usedMay (personW w 0).used w.conf.used m.nonce == 0)
        · exact used_errT _ _ _
        cases roomW w 2 1
        · exact e10
        cases ((gTk w m).2.2 == 0)
        · exact seal_errT rfl rfl
        cases ((gGr w m).2.2 == 0)
        · exact seal_errT rfl rfl
        cases ((gZ w m).2 == 0)
        · exact send_errT (by simp [msgMay, tags, hasM, msgWord])
        · exact e0
      · exact e7
theorem takeM_wrong {w : World} {to : Int} {m : Msg} (hm : msgMay m = true) (hs : (m.kind == 1 || m.kind == 7) ≠ (to == 0)) : takeM w to m = (w, 4) := by
  have hk := kind9 (may_kd hm)
  obtain ⟨k, run, a, b, nonce, box, more⟩ := m
  simp only at hk hs
  unfold takeM
  cases c0 : (to == 0)
  · rw [c0] at hs
    rcases hk with rfl | rfl | rfl | rfl | rfl | rfl | rfl | rfl | rfl
    all_goals first | rfl | exact absurd rfl hs
  · rw [c0] at hs
    rcases hk with rfl | rfl | rfl | rfl | rfl | rfl | rfl | rfl | rfl
    all_goals first | rfl | exact absurd rfl hs
end Ch

/- Frames read: the program's. -/
set_option maxRecDepth 100000
set_option maxHeartbeats 4000000
set_option linter.unusedSimpArgs false
set_option linter.unusedVariables false
namespace Ch
open Go Go.Ab
theorem wGet_spec (l : List Int) (hu : ∀ x ∈ l, U x) (hl : l.length ≤ 1099511627776) : Spec PP GG 139 [wordsV l] (.tup [fieldsV (getF l).1, i64 (getF l).2]) [] := by
  refine Spec.of_runs Go.Proofs.Tryz.f139 Go.Proofs.Tryz.func139 rfl ?_
  intro w0 M0
  simp only [Go.Proofs.Tryz.f139, List.replicate, List.cons_append, List.nil_append, z, seval]
  cases c0 : decide ((l.length : Int) > 64) with
  | true =>
    simp only [c0, z, seval]
    (refine FINS_done ?_; simp only [z, seval])
    simp only [getF, c0, cond_true, List.map_nil]
  | false =>
  have hg : getF l = fieldsM 8 l := by simp only [getF, c0, cond_false]
  rw [hg]
  have h64 : l.length ≤ 64 := by have := of_decide_eq_false c0; omega
  simp only [c0, z, seval]
  (refine RUNs_row0 4 2 (h := ?_); simp only [z, seval])
  refine RUNs_rangeS (9) (fun i (s : List Int × List Field) => (∀ x ∈ s.1, U x) ∧ s.1.length ≤ 64 ∧ s.2.length = i ∧ i ≤ 8 ∧ fieldsM 8 l = extF s.2 (fieldsM (8 - i) s.1)) (fun i s => [(0, wordsV s.1), (4, .row 0 i)]) (fun i s => [(0, .row 2 (s.2.map Field.v) i false)]) (l, []) ?_ (by simp only [z, seval]; exact wk) rfl ?_
  · exact ⟨hu, h64, rfl, Nat.zero_le _, (extF_nil 8 l).symm⟩
  rintro ⟨i, ⟨l', out⟩, hi9, hu', h64', ho, hi8, hm⟩
  simp only at hu' h64' ho hi8 hm
  simp only [z, seval]
  first | refine brk (fun h => ?_) (fun h => ?_) | fail
  · have hlt : 0 < l'.length := by have := of_decide_eq_true h; omega
    have hne : l' ≠ [] := by rintro rfl; simp at hlt
    simp only [h, ho, z, seval]
    cases c1 : ((i : Int) == 8) with
    | true =>
      obtain rfl : i = 8 := by have : (i : Int) = 8 := by simpa using c1
                               omega
      simp only [c1, z, seval]
      (refine FINS_done ?_; simp only [z, seval])
      rw [hm, fieldsM_full hne]; rfl
    | false =>
    have hi7 : i < 8 := by have : (i : Int) ≠ 8 := by simpa using c1
                           omega
    obtain ⟨k, hk⟩ : ∃ k, 8 - i = k + 1 := ⟨7 - i, by omega⟩
    have hk2 : 8 - (i + 1) = k := by omega
    rw [hk] at hm
    simp only [c1, z, seval]
    cases c2 : decide ((l'.length : Int) < 2) with
    | true =>
      simp only [c2, z, seval]
      (refine FINS_done ?_; simp only [z, seval])
      rw [hm, fieldsM_bad hne (by have := of_decide_eq_true c2; simp only [fieldBad]; rw [decide_eq_true (by omega)]; rfl)]; rfl
    | false =>
    have hlt1 : 1 < l'.length := by have := of_decide_eq_false c2; omega
    have g0 : l'.getD 0 0 = l'[0] := drop_0 (l := l') (i := 0) hlt
    have g1 : l'.getD 1 0 = l'[1] := drop_1 (l := l') (i := 0) hlt1
    have u0 := hu' _ (List.getElem_mem hlt)
    have u1 := hu' _ (List.getElem_mem hlt1)
    generalize hx : l'[0] = x at g0 u0
    generalize hy : l'[1] = y at g1 u1
    have hgx : (l'.map u32)[0]? = some (u32 x) := by rw [getMap u32 l' hlt, hx]
    have hgy : (l'.map u32)[1]? = some (u32 y) := by rw [getMap u32 l' hlt1, hy]
    simp only [c2, hgx, hgy, z, seval]
    have hbad : (x < 1 ∨ x > 255 ∨ y > 16 ∨ y > (l'.length : Int) - 2) → fieldBad l' = true := by
      intro hb
      simp only [fieldBad, g0, g1, Bool.or_eq_true, decide_eq_true_eq]
      omega
    cases c3 : decide (x < 1) with
    | true =>
      simp only [c3, z, seval]
      (refine FINS_done ?_; simp only [z, seval])
      rw [hm, fieldsM_bad hne (hbad (.inl (of_decide_eq_true c3)))]; rfl
    | false =>
    simp only [c3, hgx, hgy, z, seval]
    cases c4 : decide (x > 255) with
    | true =>
      simp only [c4, z, seval]
      (refine FINS_done ?_; simp only [z, seval])
      rw [hm, fieldsM_bad hne (hbad (.inr (.inl (of_decide_eq_true c4))))]; rfl
    | false =>
    simp only [c4, hgx, hgy, z, seval]
    cases c5 : decide (y > 16) with
    | true =>
      simp only [c5, z, seval]
      (refine FINS_done ?_; simp only [z, seval])
      rw [hm, fieldsM_bad hne (hbad (.inr (.inr (.inl (of_decide_eq_true c5)))))]; rfl
    | false =>
    have hy16 := of_decide_eq_false c5
    obtain ⟨n, rfl⟩ := Int.eq_ofNat_of_zero_le u1.1
    have hw3 : IntKind.i64.wrap (n : Int) = (n : Int) := w64 (by omega) (by omega)
    have hw4 : IntKind.i64.wrap ((l'.length : Int) - 2) = (l'.length : Int) - 2 := w64 (by omega) (by omega)
    have hw5 : IntKind.i64.wrap (2 + (n : Int)) = ((2 + n : Nat) : Int) := by rw [w64 (by omega) (by omega)]; omega
    simp only [c5, hgx, hgy, hw3, hw4, hw5, z, seval]
    cases c6 : decide ((n : Int) > (l'.length : Int) - 2) with
    | true =>
      simp only [c6, z, seval]
      (refine FINS_done ?_; simp only [z, seval])
      rw [hm, fieldsM_bad hne (hbad (.inr (.inr (.inr (of_decide_eq_true c6)))))]; rfl
    | false =>
    have hle : 2 + n ≤ l'.length := by have := of_decide_eq_false c6; omega
    have hsub : (l'.take (2 + n)).drop 2 = (l'.drop 2).take n := by rw [List.drop_take, Nat.add_sub_cancel_left]
    have hlen : ((l'.drop 2).take n).length = n := by rw [List.length_take, List.length_drop]; omega
    have hOne := One_spec x ((l'.drop 2).take n) (by omega)
    have hb : fieldBad l' = false := by
      simp only [fieldBad, g0, g1, Bool.or_eq_false_iff, decide_eq_false_iff_not]
      have e3 := of_decide_eq_false c3
      have e4 := of_decide_eq_false c4
      omega
    have e : out.map Field.v ++ [Field.v ⟨x, (l'.drop 2).take n⟩] = (out ++ [(⟨x, (l'.drop 2).take n⟩ : Field)]).map Field.v := by simp
    simp only [mv] at e
    simp only [c6, hgx, hgy, hw3, hw4, hw5, z, seval]
    (refine RUNs_draw 1 (by kernel_rfl) ?_; simp only [z, seval])
    simp only [hgx, hgy, hw3, hw4, hw5, z, seval]
    refine DOC_ok (by first | exact slc_ok2 (by omega) hle (fun a => rfl) | (rw [← List.length_map (f := u32)]; exact slc_ok2 (by omega) hle (fun a => rfl))) ?_
    simp only [hsub, hgx, hgy, hw3, hw4, hw5, z, seval]
    (refine DU (hOne) (h := ?_); simp only [z, seval])
    refine DOC_ok ?_ ?_
    · simp; omega
    simp only [z, seval]
    (refine ⟨by kernel_rfl, ?_⟩)
    have hdrop : (l'.map u32).drop (2 + n) = (l'.drop (2 + n)).map u32 := by rw [List.map_drop]
    refine OPC_ok ?_ ?_
    · simp [slcB, hle, lenE']
      intro x _; rfl
    have hfull : (l'.map u32).take l'.length = l'.map u32 := List.take_of_length_le (by simp)
    simp only [List.length_map, List.take_length, hfull, hdrop, e, z, seval]
    have hlt9 : i < 9 := by omega
    (refine NX (l'.drop (2 + n), out ++ [⟨x, (l'.drop 2).take n⟩]) ?_ (by rfl) hlt9 ?_; simp only [z, seval]; exact wk)
    refine ⟨fun y hy => hu' y (List.mem_of_mem_drop hy), by show (l'.drop (2 + n)).length ≤ 64; rw [List.length_drop]; omega, by simp only [List.length_append, List.length_singleton, ho], by show i + 1 ≤ 8; omega, ?_⟩
    show fieldsM 8 l = extF (out ++ [⟨x, (l'.drop 2).take n⟩]) (fieldsM (8 - (i + 1)) (l'.drop (2 + n)))
    rw [hm, fieldsM_good hne hb, g0, g1, Int.toNat_natCast, extF_ext, hk2]
  · have : l' = [] := by have := of_decide_eq_false h; exact List.eq_nil_of_length_eq_zero (by omega)
    subst this
    simp only [h, z, seval]
    (refine FINS_done ?_; simp only [z, seval])
    rw [hm, fieldsM_nil, extF]
    simp
theorem mGet_spec (l : List Int) (hu : ∀ x ∈ l, U x) (hl : l.length ≤ 1099511627776) : Spec PP GG 98 [wordsV l] (.tup [(msgGet l).1.v, i64 (msgGet l).2]) [] := by
  have h1 := wGet_spec l hu hl
  rw [msgGet]
  cases c1 : ((getF l).2 == 0) with
  | false =>
    refine Spec.of_runs Go.Proofs.Tryz.f98 Go.Proofs.Tryz.func98 rfl ?_
    intro w0 M0
    simp only [Go.Proofs.Tryz.f98, List.replicate, List.cons_append, List.nil_append, z, seval]
    (refine CU (h1) (h := ?_); simp only [z, seval])
    simp only [c1, z, seval]
    (refine FINS_done ?_; simp only [z, seval])
    rfl
  | true =>
  have hz : (getF l).2 = 0 := by simpa using c1
  rw [hz] at h1
  have hfl : (∀ x ∈ (getF l).1, ∀ y ∈ x.data, U y) ∧ (getF l).1.length ≤ 8 := by
    unfold getF at hz ⊢
    cases c3 : decide ((l.length : Int) > 64)
    · rw [c3, cond_false] at hz
      rw [cond_false]
      obtain ⟨f1, f2, f3⟩ := fields_flat 8 l (fieldsM 8 l).1 hu (Prod.ext rfl hz)
      exact ⟨fun x hx y hy => hu y (by rw [← f1]; simp only [flatAll, List.mem_flatMap]; exact ⟨x, hx, by simp [flatOne, hy]⟩), f3⟩
    · rw [c3] at hz; cases hz
  generalize hf : (getF l).1 = f at h1 hfl
  cases c2 : headOk f with
  | false =>
    refine Spec.of_runs Go.Proofs.Tryz.f98 Go.Proofs.Tryz.func98 rfl ?_
    intro w0 M0
    simp only [Go.Proofs.Tryz.f98, List.replicate, List.cons_append, List.nil_append, z, seval]
    (refine CU (h1) (h := ?_); simp only [z, seval])
    cases f with
    | nil =>
      simp only [List.map_nil, z, seval]
      (refine FINS_done ?_; simp only [z, seval])
      rfl
    | cons g fs =>
      have h0 : 0 < (g :: fs).length := by simp
      have hg : ((g :: fs).map Field.v)[0]? = some (Field.v g) := rfl
      simp only [mv] at hg
      have hlen : (((fs.length + 1 : Nat) : Int) == 0) = false := by simp; omega
      simp only [hlen, hg, z, seval]
      cases d1 : (g.tag == 1) with
      | false =>
        simp only [d1, z, seval]
        (refine FINS_done ?_; simp only [z, seval])
        rfl
      | true =>
      simp only [d1, hg, z, seval]
      cases d2 : ((g.data.length : Int) == 1) with
      | false =>
        simp only [d2, z, seval]
        (refine FINS_done ?_; simp only [z, seval])
        rfl
      | true =>
      have d2' : (g.data.length == 1) = true := by simp at d2 ⊢; omega
      have e0 := one_of d2'
      have hk : (g.data.map u32)[0]? = some (u32 (g.data.getD 0 0)) := by rw [e0]; rfl
      simp only [d2, hg, hk, z, seval]
      simp only [headOk, d1, d2', Bool.true_and, Bool.and_eq_false_iff, decide_eq_false_iff_not] at c2
      cases d3 : decide (g.data.getD 0 0 < 1) with
      | false =>
        simp only [d3, hg, hk, z, seval]
        have d4 : decide (g.data.getD 0 0 > 9) = true := by have := of_decide_eq_false d3; exact decide_eq_true (by omega)
        simp only [d4, z, seval]
        (refine FINS_done ?_; simp only [z, seval])
        rfl
      | true =>
        simp only [d3, z, seval]
        (refine FINS_done ?_; simp only [z, seval])
        rfl
  | true =>
    obtain ⟨fs, e, k1, k2⟩ := head_form c2
    generalize hk : headK f = k at e k1 k2
    subst e
    clear c2
    have e1 : decide (k < 1) = false := decide_eq_false (by omega)
    have e2 : decide (k > 9) = false := decide_eq_false (by omega)
    have hlen : (((fs.length + 1 : Nat) : Int) == 0) = false := by simp; omega
    have hg : ((⟨1, [k]⟩ :: fs : List Field).map Field.v)[0]? = some (Field.v ⟨1, [k]⟩) := rfl
    simp only [mv] at hg
    simp only [headK_cons, List.tail_cons, cond_true]
    have kU : U k := hfl.1 _ (List.mem_cons_self) k (by simp)
    have hd : ∀ x ∈ fs, ∀ y ∈ x.data, U y := fun x hx => hfl.1 x (List.mem_cons_of_mem _ hx)
    have h8 : fs.length ≤ 8 := by have := hfl.2; simp only [List.length_cons] at this; omega
    suffices key : Spec PP GG 98 [wordsV l] (.tup [(orBad (msgSeq (kindM k) tags fs)).1.v, i64 (orBad (msgSeq (kindM k) tags fs)).2]) [] by
      exact key
    clear hfl hf hz c1 hk
    refine Spec.of_runs Go.Proofs.Tryz.f98 Go.Proofs.Tryz.func98 rfl ?_
    intro w0 M0
    simp only [Go.Proofs.Tryz.f98, List.replicate, List.cons_append, List.nil_append, z, seval]
    (refine CU (h1) (h := ?_); simp only [z, seval])
    simp only [hlen, hg, e1, e2, List.map_cons, List.map_nil, z, seval]
    refine OPC_ok ?_ ?_
    · simp [slcB, lenE']
      exact ⟨rfl, fun x _ => rfl⟩
    have hfull : ((⟨1, [k]⟩ :: fs : List Field).map Field.v).take (fs.length + 1) = (⟨1, [k]⟩ :: fs : List Field).map Field.v := List.take_of_length_le (by simp)
    simp only [List.map_cons, List.map_nil, mv] at hfull
    simp only [hfull, List.drop_succ_cons, List.drop_zero, z, seval]
    (refine CALLS_in (fn := Go.Proofs.Tryz.f140) Go.Proofs.Tryz.func140 rfl (by kernel_rfl) ?_; simp only [Go.Proofs.Tryz.f140, List.replicate, List.cons_append, List.nil_append, z, seval])
    (refine RUNs_draw 0 (by kernel_rfl) ?_; simp only [z, seval])
    (refine ⟨by kernel_rfl, ?_⟩)
    refine RUNs_rangeS (8) (fun i (s : Msg × List Field) => s.1.kind = k ∧ s.2.length ≤ 8 ∧ msgSeq (kindM k) tags fs = msgSeq s.1 (tags.drop (i - 2)) s.2) (fun i s => [(67, i64 i), (4, .sl (s.2.map Field.v) .plain)]) (fun _ s => [(1, .var [u32 s.1.kind, u32 s.1.run, u32 s.1.a, u32 s.1.b, u32 s.1.nonce, u32 s.1.box, u32 s.1.more])]) (kindM k, fs) ?_ (by simp only [z, seval]; exact wk) rfl ?_
    · exact ⟨rfl, h8, rfl⟩
    rintro ⟨i, ⟨m, f⟩, hi, hm1, hm3, hm2⟩
    simp only at hm1 hm2 hm3
    have hk9 : 1 ≤ m.kind ∧ m.kind ≤ 9 := by rw [hm1]; exact ⟨k1, k2⟩
    have hcase : i = 0 ∨ i = 1 ∨ i = 2 ∨ i = 3 ∨ i = 4 ∨ i = 5 ∨ i = 6 ∨ i = 7 ∨ i = 8 := by omega
    rcases hcase with rfl | rfl | rfl | rfl | rfl | rfl | rfl | rfl | rfl
    iterate 2
      · simp only [Int.cast_ofNat_Int, z, seval]
        refine NX (m, f) (hi := by simp) (hinv := ⟨hm1, hm3, hm2⟩)
    · simp only [Int.cast_ofNat_Int, z, seval]
      (refine CU (mpart_spec m.kind 2 hk9 (by decide)) (h := ?_); simp only [z, seval])
      cases hh : hasM m.kind 2 with
      | false =>
        simp only [hh, z, seval]
        refine NX (m, f) (hi := by simp) (hinv := ⟨hm1, hm3, hm2.trans (seq_no hh)⟩)
      | true =>
        have hq : msgSeq m (tags.drop (2 - 2)) f = seqStep m 2 (tags.drop (3 - 2)) f := seq_yes hh
        rw [hq] at hm2
        simp only [hh, z, seval]
        cases f with
        | nil =>
          simp only [List.map_nil, z, seval]
          (refine FINS_done ?_; simp only [z, seval])
          rw [hm2]; rfl
        | cons g r =>
          have hlen : (((r.length + 1 : Nat) : Int) == 0) = false := by simp; omega
          have hg : ((g :: r).map Field.v)[0]? = some (Field.v g) := rfl
          simp only [mv] at hg
          simp only [hlen, hg, List.length_cons, List.map_cons, z, seval]
          cases d1 : (g.tag == 2) with
          | false =>
            simp only [d1, z, seval]
            (refine FINS_done ?_; simp only [z, seval])
            rw [hm2, seqStep, d1]; rfl
          | true =>
          simp only [d1, hg, z, seval]
          cases d2 : ((g.data.length : Int) == 1) with
          | false =>
            simp only [d2, z, seval]
            (refine FINS_done ?_; simp only [z, seval])
            rw [hm2, seqStep, d1, show (g.data.length == 1) = false by simp at d2 ⊢; omega]; rfl
          | true =>
          have d2' : (g.data.length == 1) = true := by simp at d2 ⊢; omega
          have e0 := one_of d2'
          have hk : (g.data.map u32)[0]? = some (u32 (g.data.getD 0 0)) := by rw [e0]; rfl
          simp only [d2, hg, hk, z, seval]
          refine OPC_ok ?_ ?_
          · simp [slcB, lenE']
            exact ⟨rfl, fun x _ => rfl⟩
          have hfull : ((g :: r).map Field.v).take (r.length + 1) = (g :: r).map Field.v := List.take_of_length_le (by simp)
          simp only [List.map_cons, mv] at hfull
          simp only [hfull, List.drop_succ_cons, List.drop_zero, z, seval]
          (refine NX (setTag m 2 (g.data.getD 0 0), r) ?_ (by rfl) (by decide : (2 : Nat) < 8) ?_; simp only [setTag, Int.reduceBEq, cond_true, cond_false, z, seval]; exact wk)
          exact ⟨(setTag_kind _ _ _).trans hm1, by simp only [List.length_cons] at hm3; show r.length ≤ 8; omega, hm2.trans (by rw [seqStep, d1, d2']; rfl)⟩
    · simp only [Int.cast_ofNat_Int, z, seval]
      (refine CU (mpart_spec m.kind 3 hk9 (by decide)) (h := ?_); simp only [z, seval])
      cases hh : hasM m.kind 3 with
      | false =>
        simp only [hh, z, seval]
        refine NX (m, f) (hi := by simp) (hinv := ⟨hm1, hm3, hm2.trans (seq_no hh)⟩)
      | true =>
        have hq : msgSeq m (tags.drop (3 - 2)) f = seqStep m 3 (tags.drop (4 - 2)) f := seq_yes hh
        rw [hq] at hm2
        simp only [hh, z, seval]
        cases f with
        | nil =>
          simp only [List.map_nil, z, seval]
          (refine FINS_done ?_; simp only [z, seval])
          rw [hm2]; rfl
        | cons g r =>
          have hlen : (((r.length + 1 : Nat) : Int) == 0) = false := by simp; omega
          have hg : ((g :: r).map Field.v)[0]? = some (Field.v g) := rfl
          simp only [mv] at hg
          simp only [hlen, hg, List.length_cons, List.map_cons, z, seval]
          cases d1 : (g.tag == 3) with
          | false =>
            simp only [d1, z, seval]
            (refine FINS_done ?_; simp only [z, seval])
            rw [hm2, seqStep, d1]; rfl
          | true =>
          simp only [d1, hg, z, seval]
          cases d2 : ((g.data.length : Int) == 1) with
          | false =>
            simp only [d2, z, seval]
            (refine FINS_done ?_; simp only [z, seval])
            rw [hm2, seqStep, d1, show (g.data.length == 1) = false by simp at d2 ⊢; omega]; rfl
          | true =>
          have d2' : (g.data.length == 1) = true := by simp at d2 ⊢; omega
          have e0 := one_of d2'
          have hk : (g.data.map u32)[0]? = some (u32 (g.data.getD 0 0)) := by rw [e0]; rfl
          simp only [d2, hg, hk, z, seval]
          refine OPC_ok ?_ ?_
          · simp [slcB, lenE']
            exact ⟨rfl, fun x _ => rfl⟩
          have hfull : ((g :: r).map Field.v).take (r.length + 1) = (g :: r).map Field.v := List.take_of_length_le (by simp)
          simp only [List.map_cons, mv] at hfull
          simp only [hfull, List.drop_succ_cons, List.drop_zero, z, seval]
          (refine NX (setTag m 3 (g.data.getD 0 0), r) ?_ (by rfl) (by decide : (3 : Nat) < 8) ?_; simp only [setTag, Int.reduceBEq, cond_true, cond_false, z, seval]; exact wk)
          exact ⟨(setTag_kind _ _ _).trans hm1, by simp only [List.length_cons] at hm3; show r.length ≤ 8; omega, hm2.trans (by rw [seqStep, d1, d2']; rfl)⟩
    · simp only [Int.cast_ofNat_Int, z, seval]
      (refine CU (mpart_spec m.kind 4 hk9 (by decide)) (h := ?_); simp only [z, seval])
      cases hh : hasM m.kind 4 with
      | false =>
        simp only [hh, z, seval]
        refine NX (m, f) (hi := by simp) (hinv := ⟨hm1, hm3, hm2.trans (seq_no hh)⟩)
      | true =>
        have hq : msgSeq m (tags.drop (4 - 2)) f = seqStep m 4 (tags.drop (5 - 2)) f := seq_yes hh
        rw [hq] at hm2
        simp only [hh, z, seval]
        cases f with
        | nil =>
          simp only [List.map_nil, z, seval]
          (refine FINS_done ?_; simp only [z, seval])
          rw [hm2]; rfl
        | cons g r =>
          have hlen : (((r.length + 1 : Nat) : Int) == 0) = false := by simp; omega
          have hg : ((g :: r).map Field.v)[0]? = some (Field.v g) := rfl
          simp only [mv] at hg
          simp only [hlen, hg, List.length_cons, List.map_cons, z, seval]
          cases d1 : (g.tag == 4) with
          | false =>
            simp only [d1, z, seval]
            (refine FINS_done ?_; simp only [z, seval])
            rw [hm2, seqStep, d1]; rfl
          | true =>
          simp only [d1, hg, z, seval]
          cases d2 : ((g.data.length : Int) == 1) with
          | false =>
            simp only [d2, z, seval]
            (refine FINS_done ?_; simp only [z, seval])
            rw [hm2, seqStep, d1, show (g.data.length == 1) = false by simp at d2 ⊢; omega]; rfl
          | true =>
          have d2' : (g.data.length == 1) = true := by simp at d2 ⊢; omega
          have e0 := one_of d2'
          have hk : (g.data.map u32)[0]? = some (u32 (g.data.getD 0 0)) := by rw [e0]; rfl
          simp only [d2, hg, hk, z, seval]
          refine OPC_ok ?_ ?_
          · simp [slcB, lenE']
            exact ⟨rfl, fun x _ => rfl⟩
          have hfull : ((g :: r).map Field.v).take (r.length + 1) = (g :: r).map Field.v := List.take_of_length_le (by simp)
          simp only [List.map_cons, mv] at hfull
          simp only [hfull, List.drop_succ_cons, List.drop_zero, z, seval]
          (refine NX (setTag m 4 (g.data.getD 0 0), r) ?_ (by rfl) (by decide : (4 : Nat) < 8) ?_; simp only [setTag, Int.reduceBEq, cond_true, cond_false, z, seval]; exact wk)
          exact ⟨(setTag_kind _ _ _).trans hm1, by simp only [List.length_cons] at hm3; show r.length ≤ 8; omega, hm2.trans (by rw [seqStep, d1, d2']; rfl)⟩
    · simp only [Int.cast_ofNat_Int, z, seval]
      (refine CU (mpart_spec m.kind 5 hk9 (by decide)) (h := ?_); simp only [z, seval])
      cases hh : hasM m.kind 5 with
      | false =>
        simp only [hh, z, seval]
        refine NX (m, f) (hi := by simp) (hinv := ⟨hm1, hm3, hm2.trans (seq_no hh)⟩)
      | true =>
        have hq : msgSeq m (tags.drop (5 - 2)) f = seqStep m 5 (tags.drop (6 - 2)) f := seq_yes hh
        rw [hq] at hm2
        simp only [hh, z, seval]
        cases f with
        | nil =>
          simp only [List.map_nil, z, seval]
          (refine FINS_done ?_; simp only [z, seval])
          rw [hm2]; rfl
        | cons g r =>
          have hlen : (((r.length + 1 : Nat) : Int) == 0) = false := by simp; omega
          have hg : ((g :: r).map Field.v)[0]? = some (Field.v g) := rfl
          simp only [mv] at hg
          simp only [hlen, hg, List.length_cons, List.map_cons, z, seval]
          cases d1 : (g.tag == 5) with
          | false =>
            simp only [d1, z, seval]
            (refine FINS_done ?_; simp only [z, seval])
            rw [hm2, seqStep, d1]; rfl
          | true =>
          simp only [d1, hg, z, seval]
          cases d2 : ((g.data.length : Int) == 1) with
          | false =>
            simp only [d2, z, seval]
            (refine FINS_done ?_; simp only [z, seval])
            rw [hm2, seqStep, d1, show (g.data.length == 1) = false by simp at d2 ⊢; omega]; rfl
          | true =>
          have d2' : (g.data.length == 1) = true := by simp at d2 ⊢; omega
          have e0 := one_of d2'
          have hk : (g.data.map u32)[0]? = some (u32 (g.data.getD 0 0)) := by rw [e0]; rfl
          simp only [d2, hg, hk, z, seval]
          refine OPC_ok ?_ ?_
          · simp [slcB, lenE']
            exact ⟨rfl, fun x _ => rfl⟩
          have hfull : ((g :: r).map Field.v).take (r.length + 1) = (g :: r).map Field.v := List.take_of_length_le (by simp)
          simp only [List.map_cons, mv] at hfull
          simp only [hfull, List.drop_succ_cons, List.drop_zero, z, seval]
          (refine NX (setTag m 5 (g.data.getD 0 0), r) ?_ (by rfl) (by decide : (5 : Nat) < 8) ?_; simp only [setTag, Int.reduceBEq, cond_true, cond_false, z, seval]; exact wk)
          exact ⟨(setTag_kind _ _ _).trans hm1, by simp only [List.length_cons] at hm3; show r.length ≤ 8; omega, hm2.trans (by rw [seqStep, d1, d2']; rfl)⟩
    · simp only [Int.cast_ofNat_Int, z, seval]
      (refine CU (mpart_spec m.kind 6 hk9 (by decide)) (h := ?_); simp only [z, seval])
      cases hh : hasM m.kind 6 with
      | false =>
        simp only [hh, z, seval]
        refine NX (m, f) (hi := by simp) (hinv := ⟨hm1, hm3, hm2.trans (seq_no hh)⟩)
      | true =>
        have hq : msgSeq m (tags.drop (6 - 2)) f = seqStep m 6 (tags.drop (7 - 2)) f := seq_yes hh
        rw [hq] at hm2
        simp only [hh, z, seval]
        cases f with
        | nil =>
          simp only [List.map_nil, z, seval]
          (refine FINS_done ?_; simp only [z, seval])
          rw [hm2]; rfl
        | cons g r =>
          have hlen : (((r.length + 1 : Nat) : Int) == 0) = false := by simp; omega
          have hg : ((g :: r).map Field.v)[0]? = some (Field.v g) := rfl
          simp only [mv] at hg
          simp only [hlen, hg, List.length_cons, List.map_cons, z, seval]
          cases d1 : (g.tag == 6) with
          | false =>
            simp only [d1, z, seval]
            (refine FINS_done ?_; simp only [z, seval])
            rw [hm2, seqStep, d1]; rfl
          | true =>
          simp only [d1, hg, z, seval]
          cases d2 : ((g.data.length : Int) == 1) with
          | false =>
            simp only [d2, z, seval]
            (refine FINS_done ?_; simp only [z, seval])
            rw [hm2, seqStep, d1, show (g.data.length == 1) = false by simp at d2 ⊢; omega]; rfl
          | true =>
          have d2' : (g.data.length == 1) = true := by simp at d2 ⊢; omega
          have e0 := one_of d2'
          have hk : (g.data.map u32)[0]? = some (u32 (g.data.getD 0 0)) := by rw [e0]; rfl
          simp only [d2, hg, hk, z, seval]
          refine OPC_ok ?_ ?_
          · simp [slcB, lenE']
            exact ⟨rfl, fun x _ => rfl⟩
          have hfull : ((g :: r).map Field.v).take (r.length + 1) = (g :: r).map Field.v := List.take_of_length_le (by simp)
          simp only [List.map_cons, mv] at hfull
          simp only [hfull, List.drop_succ_cons, List.drop_zero, z, seval]
          (refine NX (setTag m 6 (g.data.getD 0 0), r) ?_ (by rfl) (by decide : (6 : Nat) < 8) ?_; simp only [setTag, Int.reduceBEq, cond_true, cond_false, z, seval]; exact wk)
          exact ⟨(setTag_kind _ _ _).trans hm1, by simp only [List.length_cons] at hm3; show r.length ≤ 8; omega, hm2.trans (by rw [seqStep, d1, d2']; rfl)⟩
    · simp only [Int.cast_ofNat_Int, z, seval]
      (refine CU (mpart_spec m.kind 7 hk9 (by decide)) (h := ?_); simp only [z, seval])
      cases hh : hasM m.kind 7 with
      | false =>
        simp only [hh, z, seval]
        refine NX (m, f) (hi := by simp) (hinv := ⟨hm1, hm3, hm2.trans (seq_no hh)⟩)
      | true =>
        have hq : msgSeq m (tags.drop (7 - 2)) f = seqStep m 7 (tags.drop (8 - 2)) f := seq_yes hh
        rw [hq] at hm2
        simp only [hh, z, seval]
        cases f with
        | nil =>
          simp only [List.map_nil, z, seval]
          (refine FINS_done ?_; simp only [z, seval])
          rw [hm2]; rfl
        | cons g r =>
          have hlen : (((r.length + 1 : Nat) : Int) == 0) = false := by simp; omega
          have hg : ((g :: r).map Field.v)[0]? = some (Field.v g) := rfl
          simp only [mv] at hg
          simp only [hlen, hg, List.length_cons, List.map_cons, z, seval]
          cases d1 : (g.tag == 7) with
          | false =>
            simp only [d1, z, seval]
            (refine FINS_done ?_; simp only [z, seval])
            rw [hm2, seqStep, d1]; rfl
          | true =>
          simp only [d1, hg, z, seval]
          cases d2 : ((g.data.length : Int) == 1) with
          | false =>
            simp only [d2, z, seval]
            (refine FINS_done ?_; simp only [z, seval])
            rw [hm2, seqStep, d1, show (g.data.length == 1) = false by simp at d2 ⊢; omega]; rfl
          | true =>
          have d2' : (g.data.length == 1) = true := by simp at d2 ⊢; omega
          have e0 := one_of d2'
          have hk : (g.data.map u32)[0]? = some (u32 (g.data.getD 0 0)) := by rw [e0]; rfl
          simp only [d2, hg, hk, z, seval]
          refine OPC_ok ?_ ?_
          · simp [slcB, lenE']
            exact ⟨rfl, fun x _ => rfl⟩
          have hfull : ((g :: r).map Field.v).take (r.length + 1) = (g :: r).map Field.v := List.take_of_length_le (by simp)
          simp only [List.map_cons, mv] at hfull
          simp only [hfull, List.drop_succ_cons, List.drop_zero, z, seval]
          (refine NX (setTag m 7 (g.data.getD 0 0), r) ?_ (by rfl) (by decide : (7 : Nat) < 8) ?_; simp only [setTag, Int.reduceBEq, cond_true, cond_false, z, seval]; exact wk)
          exact ⟨(setTag_kind _ _ _).trans hm1, by simp only [List.length_cons] at hm3; show r.length ≤ 8; omega, hm2.trans (by rw [seqStep, d1, d2']; rfl)⟩
    · simp only [Int.cast_ofNat_Int, z, seval]
      have e8 : msgSeq (kindM k) tags fs = msgSeq m [] f := hm2
      cases f with
      | nil =>
        simp only [List.map_nil, z, seval]
        (refine FINS_done ?_; simp only [z, seval])
        rw [e8]; rfl
      | cons g r =>
        have hlen : decide (((r.length + 1 : Nat) : Int) > 0) = true := decide_eq_true (by omega)
        simp only [hlen, List.map_cons, List.length_cons, z, seval]
        (refine FINS_done ?_; simp only [z, seval])
        rw [e8]; rfl
end Ch

/- The server that shares: the document's walk, and the program's. -/
set_option maxRecDepth 100000
set_option maxHeartbeats 4000000
set_option linter.unusedSimpArgs false
set_option linter.unusedVariables false
namespace Ch
open Go Go.Ab
theorem told_zero {w : World} {key label h : Int} (hl : label = 6 ∨ label = 7) (ho : (openW w key label h).2 = true) : (openW w key label h).1.k = 0 ∧ (openW w key label h).1.t = 0 ∧ (openW w key label h).1.h = 0 := by
  revert ho
  unfold openW
  cases hb : boxOpen w.box key label h with
  | none => intro ho; cases ho
  | some l =>
    simp only [partGet]
    rcases hl with rfl | rfl
    all_goals
      cases (l.length == (partWs _ zPart).length)
      · intro ho; exact absurd ho (by simp [label?])
      · intro _; exact ⟨rfl, rfl, rfl⟩
theorem told_spec (w : World) {N : Nat} (hw : w.fit N) (hN : N ≤ 500000000000) (m : Msg) (key label hh : Int) (hl : label = 6 ∨ label = 7) : Spec PP GG 199 [w.v, m.v, u32 key, u32 label, u32 hh] (.tup [u32 (toldM w m key label hh).1, .bool (toldM w m key label hh).2]) [] := by
  have hO := open_spec w hw hN key label hh
  have hz := @told_zero w key label hh hl
  cases ho : (openW w key label hh).2 with
  | false =>
    rw [ho] at hO
    have e : (toldM w m key label hh).2 = false := by simp only [toldM, ho, Bool.false_and]
    rw [e]
    refine Spec.of_runs Go.Proofs.Tryz.f199 Go.Proofs.Tryz.func199 rfl ?_
    intro w0 M0
    simp only [Go.Proofs.Tryz.f199, List.replicate, List.cons_append, List.nil_append, z, seval]
    (refine CU (hO) (h := ?_); simp only [z, seval])
    (refine RUNs_draw 0 (by kernel_rfl) ?_; simp only [z, seval])
    (refine ⟨by kernel_rfl, ?_⟩)
    (refine FINS_done ?_; simp only [z, seval])
    rfl
  | true =>
    rw [ho] at hO
    obtain ⟨z1, z2, z3⟩ := hz ho
    have e : (toldM w m key label hh).2 = ((openW w key label hh).1.m == m.run && ((openW w key label hh).1.a == m.a && (openW w key label hh).1.b == m.b)) := by simp only [toldM, ho, Bool.true_and]
    rw [e]
    have e1 : (toldM w m key label hh).1 = (openW w key label hh).1.n := rfl
    rw [e1]
    simp only [Part.v, z1, z2, z3] at hO
    refine Spec.of_runs Go.Proofs.Tryz.f199 Go.Proofs.Tryz.func199 rfl ?_
    intro w0 M0
    simp only [Go.Proofs.Tryz.f199, List.replicate, List.cons_append, List.nil_append, z, seval]
    (refine CU (hO) (h := ?_); simp only [z, seval])
    (refine RUNs_draw 0 (by kernel_rfl) ?_; simp only [z, seval])
    (refine ⟨by kernel_rfl, ?_⟩)
    (refine FINS_done ?_; simp only [z, seval])
theorem rShare_spec (w : World) (m : Msg) {N : Nat} (hw : w.fit N) (h5 : 21 ≤ N) (hN : N ≤ 400000000000) (hm : m.ok) (hr : Right10 w.people = true) (hb7 : Right07 w.box = true) : Spec PP GG 102 [w.v, m.v] (.tup [(shareM w m).1.v, i64 (shareM w m).2]) [] := by
  have hP0 := rPerson_spec w hw (by omega) hr 0 (by decide)
  have hPa := rPerson_spec w hw (by omega) hr m.a hm.2.2.1
  have hPb := rPerson_spec w hw (by omega) hr m.b hm.2.2.2.1
  have hPr := rPair_spec w.people (by have := hw.people; omega) hr m.a m.b hm.2.2.1 hm.2.2.2.1
  have hU : (personW w 0).used.length ≤ N := getP_used hw _
  have hMy := rMay08_spec (personW w 0).used w.conf.used m.run (by omega)
  have hOa := rOpen_spec w hw (by omega) hb7 (personW w m.a).key 6 m.box
  have hOb := rOpen_spec w hw (by omega) hb7 (personW w m.b).key 7 m.more
  have hRm := rRoom_spec w 2 1 hw.broom hw.nroom (by have := hw.rows; omega) (by have := hw.grams; omega)
  have hDr := rDraw_spec w hw (by omega)
  have hS1 := rSeal_spec (drawW w).1 (fit_draw hw (by omega)) (by omega) (personW w m.b).key 8 ⟨(sB w m).1, 0, 0, 0, (drawW w).2, 0, 0⟩
  have hS2 := rSeal_spec (s1 w m).1 (s1_fit hw h5 hN m) (by omega) (personW w m.a).key 9 ⟨(sA w m).1, 0, 0, 0, (drawW w).2, 0, 0⟩
  have hW := rWith_spec (s2 w m).1 (s2_fit hw h5 hN m) (by omega) (by rw [s2_people]; exact hr) (sP w m) (sP_ok hw hN hm).1
  have hL := rLog_spec (withW (s2 w m).1 (sP w m)) (sW_fit hw h5 hN hm) (by omega) (sEv w m)
  have hSn := rSend_spec (sY w m) (sY_fit hw h5 hN hm) (by omega) m.b ⟨8, m.run, 0, 0, 0, (s2 w m).2.1, (s1 w m).2.1⟩ (sM_ok hw h5 hN hm)
  rw [← s1] at hS1
  rw [← s2] at hS2
  rw [← sY] at hL
  rw [← sZ] at hSn
  have dA : (sA w m).1 = (openW w (personW w m.a).key 6 m.box).1.n := rfl
  have dB : (sB w m).1 = (openW w (personW w m.b).key 7 m.more).1.n := rfl
  have dA2 : (sA w m).2 = ((openW w (personW w m.a).key 6 m.box).2 && ((openW w (personW w m.a).key 6 m.box).1.m == m.run && ((openW w (personW w m.a).key 6 m.box).1.a == m.a && (openW w (personW w m.a).key 6 m.box).1.b == m.b))) := rfl
  have dB2 : (sB w m).2 = ((openW w (personW w m.b).key 7 m.more).2 && ((openW w (personW w m.b).key 7 m.more).1.m == m.run && ((openW w (personW w m.b).key 7 m.more).1.a == m.a && (openW w (personW w m.b).key 7 m.more).1.b == m.b))) := rfl
  rw [dB] at hS1
  rw [dA] at hS2
  have hW2 : Spec PP GG 60 [(s2 w m).1.v, Person.v ⟨(personW w 0).name, (personW w 0).key, (personW w 0).clock, (personW w 0).used ++ [m.run], (personW w 0).runs, (personW w 0).corrupt⟩] (withW (s2 w m).1 (sP w m)).v [] := hW
  have e : (personW w 0).used.map u32 ++ [u32 m.run] = ((personW w 0).used ++ [m.run]).map u32 := by simp
  generalize hA : openW w (personW w m.a).key 6 m.box = A at *
  generalize hB : openW w (personW w m.b).key 7 m.more = B at *
  obtain ⟨⟨an, am, aa, ab', ak, at', ah⟩, aok⟩ := A
  obtain ⟨⟨bn, bm, ba, bb, bk, bt, bh⟩, bok⟩ := B
  simp only at dA dB dA2 dB2 hS1 hS2 hOa hOb
  clear hw hr hb7 hm
  cases c1 : pairM w.people m.a m.b with
  | false =>
    rw [c1] at hPr
    have e : shareM w m = (w, 5) := by simp only [shareM, c1, cond_false]
    rw [e]
    refine Spec.of_runs Go.Proofs.Tryz.f102 Go.Proofs.Tryz.func102 rfl ?_
    intro w0 M0
    simp only [Go.Proofs.Tryz.f102, List.replicate, List.cons_append, List.nil_append, z, seval]
    (refine CU (hPr) (h := ?_); simp only [z, seval])
    (refine FINS_done ?_; simp only [z, seval])
  | true =>
  rw [c1] at hPr
  cases c2 : (sA w m).2 with
  | false =>
    have e : shareM w m = (w, 6) := by simp only [shareM, c1, c2, Bool.false_and, cond_true, cond_false]
    rw [e]
    rw [c2] at dA2
    refine Spec.of_runs Go.Proofs.Tryz.f102 Go.Proofs.Tryz.func102 rfl ?_
    intro w0 M0
    simp only [Go.Proofs.Tryz.f102, List.replicate, List.cons_append, List.nil_append, z, seval]
    (refine CU (hPr) (h := ?_); simp only [z, seval])
    (refine CU (hPa) (h := ?_); simp only [z, seval])
    (refine CU (hPb) (h := ?_); simp only [z, seval])
    (refine CU (hP0) (h := ?_); simp only [z, seval])
    (refine CU (hOa) (h := ?_); simp only [z, seval])
    cases aok <;> cases x1 : (am == m.run) <;> cases x2 : (aa == m.a) <;> cases x3 : (ab' == m.b)
    all_goals first
      | (exfalso; simp [x1, x2, x3] at dA2; done)
      | (simp only [x1, x2, x3, z, seval]; (refine FINS_done ?_; simp only [z, seval]); done)
  | true =>
  rw [c2] at dA2
  have dA3 := dA2.symm
  simp only [Bool.and_eq_true] at dA3
  obtain ⟨a1, a2, a3, a4⟩ := dA3
  subst a1
  cases c3 : (sB w m).2 with
  | false =>
    have e : shareM w m = (w, 6) := by simp only [shareM, c1, c2, c3, Bool.true_and, cond_true, cond_false]
    rw [e]
    rw [c3] at dB2
    refine Spec.of_runs Go.Proofs.Tryz.f102 Go.Proofs.Tryz.func102 rfl ?_
    intro w0 M0
    simp only [Go.Proofs.Tryz.f102, List.replicate, List.cons_append, List.nil_append, z, seval]
    (refine CU (hPr) (h := ?_); simp only [z, seval])
    (refine CU (hPa) (h := ?_); simp only [z, seval])
    (refine CU (hPb) (h := ?_); simp only [z, seval])
    (refine CU (hP0) (h := ?_); simp only [z, seval])
    (refine CU (hOa) (h := ?_); simp only [z, seval])
    simp only [a2, a3, a4, z, seval]
    (refine CU (hOb) (h := ?_); simp only [z, seval])
    cases bok <;> cases x1 : (bm == m.run) <;> cases x2 : (ba == m.a) <;> cases x3 : (bb == m.b)
    all_goals first
      | (exfalso; simp [x1, x2, x3] at dB2; done)
      | (simp only [x1, x2, x3, z, seval]; (refine FINS_done ?_; simp only [z, seval]); done)
  | true =>
  rw [c3] at dB2
  have dB3 := dB2.symm
  simp only [Bool.and_eq_true] at dB3
  obtain ⟨b1, b2, b3, b4⟩ := dB3
  subst b1
  cases c4 : (usedMay (personW w 0).used w.conf.used m.run == 0) with
  | false =>
    have e : shareM w m = (w, usedMay (personW w 0).used w.conf.used m.run) := by simp only [shareM, c1, c2, c3, c4, Bool.true_and, cond_true, cond_false]
    rw [e]
    refine Spec.of_runs Go.Proofs.Tryz.f102 Go.Proofs.Tryz.func102 rfl ?_
    intro w0 M0
    simp only [Go.Proofs.Tryz.f102, List.replicate, List.cons_append, List.nil_append, z, seval]
    (refine CU (hPr) (h := ?_); simp only [z, seval])
    (refine CU (hPa) (h := ?_); simp only [z, seval])
    (refine CU (hPb) (h := ?_); simp only [z, seval])
    (refine CU (hP0) (h := ?_); simp only [z, seval])
    (refine CU (hOa) (h := ?_); simp only [z, seval])
    simp only [a2, a3, a4, z, seval]
    (refine CU (hOb) (h := ?_); simp only [z, seval])
    simp only [b2, b3, b4, z, seval]
    (refine CU (hMy) (h := ?_); simp only [z, seval])
    simp only [c4, z, seval]
    (refine FINS_done ?_; simp only [z, seval])
  | true =>
  have e0 : shareM w m = (bif roomW w 2 1 then
    (bif (s1 w m).2.2 == 0 then (bif (s2 w m).2.2 == 0 then (bif (sZ w m).2 == 0 then ((sZ w m).1, 0) else (w, (sZ w m).2)) else (w, (s2 w m).2.2)) else (w, (s1 w m).2.2)) else (w, 10)) := by simp only [shareM, c1, c2, c3, c4, Bool.true_and, cond_true]
  rw [e0]
  clear e0
  refine Spec.of_runs Go.Proofs.Tryz.f102 Go.Proofs.Tryz.func102 rfl ?_
  intro w0 M0
  simp only [Go.Proofs.Tryz.f102, List.replicate, List.cons_append, List.nil_append, z, seval]
  (refine CU (hPr) (h := ?_); simp only [z, seval])
  (refine CU (hPa) (h := ?_); simp only [z, seval])
  (refine CU (hPb) (h := ?_); simp only [z, seval])
  (refine CU (hP0) (h := ?_); simp only [z, seval])
  (refine CU (hOa) (h := ?_); simp only [z, seval])
  simp only [a2, a3, a4, z, seval]
  (refine CU (hOb) (h := ?_); simp only [z, seval])
  simp only [b2, b3, b4, z, seval]
  (refine CU (hMy) (h := ?_); simp only [z, seval])
  simp only [c4, z, seval]
  (refine CU (hRm) (h := ?_); simp only [z, seval])
  cases c5 : roomW w 2 1 with
  | false =>
    simp only [c5, z, seval]
    (refine FINS_done ?_; simp only [z, seval])
  | true =>
  simp only [c5, z, seval]
  (refine CU (hDr) (h := ?_); simp only [z, seval])
  (refine CU (hS1) (h := ?_); simp only [z, seval])
  cases c6 : ((s1 w m).2.2 == 0) with
  | false =>
    simp only [c6, z, seval]
    (refine FINS_done ?_; simp only [z, seval])
  | true =>
  simp only [c6, z, seval]
  (refine CU (hS2) (h := ?_); simp only [z, seval])
  cases c7 : ((s2 w m).2.2 == 0) with
  | false =>
    simp only [c7, z, seval]
    (refine FINS_done ?_; simp only [z, seval])
  | true =>
  simp only [c7, z, seval]
  (refine RUNs_draw 4 (by kernel_rfl) ?_; simp only [z, seval])
  refine DOC_ok ?_ ?_
  · exact okMap _ (fun a => rfl) (by omega)
  simp only [z, seval]
  refine DOC_ok ?_ ?_
  · simp; omega
  simp only [z, seval]
  (refine ⟨by kernel_rfl, ?_⟩)
  simp only [e, z, seval]
  (refine RUNs_freeze 9 1 ?_ (by rfl) ?_ ?_; rotate_left 1; (simp only [z, seval]; exact rfl); simp only [z, seval])
  (refine RUNs_draw 0 (by kernel_rfl) ?_; simp only [z, seval])
  (refine DU (hW2) (h := ?_); simp only [z, seval])
  (refine DU (hL) (h := ?_); simp only [z, seval])
  (refine ⟨by kernel_rfl, ?_⟩)
  (refine CU (hSn) (h := ?_); simp only [z, seval])
  cases c8 : ((sZ w m).2 == 0) with
  | false =>
    simp only [c8, z, seval]
    (refine FINS_done ?_; simp only [z, seval])
  | true =>
    simp only [c8, z, seval]
    (refine FINS_done ?_; simp only [z, seval])
end Ch

/- The server that shares: the program's. -/
set_option maxRecDepth 100000
set_option maxHeartbeats 4000000
set_option linter.unusedSimpArgs false
set_option linter.unusedVariables false
namespace Ch
open Go Go.Ab
theorem Share_spec (w : World) (m : Msg) {N : Nat} (hw : w.fit N) (h5 : 21 ≤ N) (hN : N ≤ 400000000000) (hm : m.ok) : Spec PP GG 143 [w.v, m.v] (.tup [(shareM w m).1.v, i64 (shareM w m).2]) [] := by
  have hP0 := person_spec w hw (by omega) 0 (by decide)
  have hPa := person_spec w hw (by omega) m.a hm.2.2.1
  have hPb := person_spec w hw (by omega) m.b hm.2.2.2.1
  have hPr := pPair_spec w.people m.a m.b hm.2.2.1 hm.2.2.2.1 (by have := hw.people; omega)
  have hU : (personW w 0).used.length ≤ N := getP_used hw _
  have hNo := uNote_spec (personW w 0).used w.conf.used m.run (by omega)
  have hTa := told_spec w hw (by omega) m (personW w m.a).key 6 m.box (.inl rfl)
  have hTb := told_spec w hw (by omega) m (personW w m.b).key 7 m.more (.inr rfl)
  have hRm := room_spec' w hw (by omega) 2 1
  have hDr := draw_spec w hw (by omega)
  have hS1 := seal_spec (drawW w).1 (fit_draw hw (by omega)) (by omega) (personW w m.b).key 8 ⟨(sB w m).1, 0, 0, 0, (drawW w).2, 0, 0⟩
  have hS2 := seal_spec (s1 w m).1 (s1_fit hw h5 hN m) (by omega) (personW w m.a).key 9 ⟨(sA w m).1, 0, 0, 0, (drawW w).2, 0, 0⟩
  have hW := with_spec (s2 w m).1 (s2_fit hw h5 hN m) (by omega) (sP w m) (sP_ok hw hN hm).1
  have hL := log_spec (withW (s2 w m).1 (sP w m)) (sW_fit hw h5 hN hm) (by omega) (sEv w m)
  have hSn := send_spec (sY w m) (sY_fit hw h5 hN hm) (by omega) m.b ⟨8, m.run, 0, 0, 0, (s2 w m).2.1, (s1 w m).2.1⟩ (sM_ok hw h5 hN hm)
  rw [← s1] at hS1
  rw [← s2] at hS2
  rw [← sY] at hL
  rw [← sZ] at hSn
  rw [← sA] at hTa
  rw [← sB] at hTb
  clear hw hm
  cases c1 : pairM w.people m.a m.b with
  | false =>
    rw [c1] at hPr
    have e : shareM w m = (w, 5) := by simp only [shareM, c1, cond_false]
    rw [e]
    refine Spec.of_runs Go.Proofs.Tryz.f143 Go.Proofs.Tryz.func143 rfl ?_
    intro w0 M0
    simp only [Go.Proofs.Tryz.f143, List.replicate, List.cons_append, List.nil_append, z, seval]
    (refine RUNs_draw 1 (by kernel_rfl) ?_; simp only [z, seval])
    (refine DU (hPa) (h := ?_); simp only [z, seval])
    (refine DU (hPb) (h := ?_); simp only [z, seval])
    (refine DU (hP0) (h := ?_); simp only [z, seval])
    (refine ⟨by kernel_rfl, ?_⟩)
    (refine RUNs_unroll 5 ?_; simp only [z, seval])
    (refine CALLS_in (fn := Go.Proofs.Tryz.f168) Go.Proofs.Tryz.func168 rfl (by kernel_rfl) ?_; simp only [Go.Proofs.Tryz.f168, List.replicate, List.cons_append, List.nil_append, z, seval])
    (refine RUNs_draw 0 (by kernel_rfl) ?_; simp only [z, seval])
    (refine DU (hPr) (h := ?_); simp only [z, seval])
    (refine ⟨by kernel_rfl, ?_⟩)
    (refine FINS_done ?_; simp only [z, seval])
  | true =>
  rw [c1] at hPr
  cases c2 : (sA w m).2 with
  | false =>
    rw [c2] at hTa
    have e : shareM w m = (w, 6) := by simp only [shareM, c1, c2, Bool.false_and, cond_true, cond_false]
    rw [e]
    refine Spec.of_runs Go.Proofs.Tryz.f143 Go.Proofs.Tryz.func143 rfl ?_
    intro w0 M0
    simp only [Go.Proofs.Tryz.f143, List.replicate, List.cons_append, List.nil_append, z, seval]
    (refine RUNs_draw 1 (by kernel_rfl) ?_; simp only [z, seval])
    (refine DU (hPa) (h := ?_); simp only [z, seval])
    (refine DU (hPb) (h := ?_); simp only [z, seval])
    (refine DU (hP0) (h := ?_); simp only [z, seval])
    (refine ⟨by kernel_rfl, ?_⟩)
    (refine RUNs_unroll 5 ?_; simp only [z, seval])
    (refine CALLS_in (fn := Go.Proofs.Tryz.f168) Go.Proofs.Tryz.func168 rfl (by kernel_rfl) ?_; simp only [Go.Proofs.Tryz.f168, List.replicate, List.cons_append, List.nil_append, z, seval])
    (refine RUNs_draw 0 (by kernel_rfl) ?_; simp only [z, seval])
    (refine DU (hPr) (h := ?_); simp only [z, seval])
    (refine ⟨by kernel_rfl, ?_⟩)
    first | (refine CU (hTa) (h := ?_); simp only [z, seval]) | ((refine RUNs_draw 0 (by kernel_rfl) ?_; simp only [z, seval]); (refine DU (hTa) (h := ?_); simp only [z, seval]); (refine ⟨by kernel_rfl, ?_⟩)) | ((refine RUNs_draw 1 (by kernel_rfl) ?_; simp only [z, seval]); (refine DU (hTa) (h := ?_); simp only [z, seval]); (refine ⟨by kernel_rfl, ?_⟩)) | ((refine RUNs_draw 2 (by kernel_rfl) ?_; simp only [z, seval]); (refine DU (hTa) (h := ?_); simp only [z, seval]); (refine ⟨by kernel_rfl, ?_⟩))
    first | (refine CU (hTb) (h := ?_); simp only [z, seval]) | ((refine RUNs_draw 0 (by kernel_rfl) ?_; simp only [z, seval]); (refine DU (hTb) (h := ?_); simp only [z, seval]); (refine ⟨by kernel_rfl, ?_⟩)) | ((refine RUNs_draw 1 (by kernel_rfl) ?_; simp only [z, seval]); (refine DU (hTb) (h := ?_); simp only [z, seval]); (refine ⟨by kernel_rfl, ?_⟩)) | ((refine RUNs_draw 2 (by kernel_rfl) ?_; simp only [z, seval]); (refine DU (hTb) (h := ?_); simp only [z, seval]); (refine ⟨by kernel_rfl, ?_⟩))
    (refine FINS_done ?_; simp only [z, seval])
  | true =>
  rw [c2] at hTa
  cases c3 : (sB w m).2 with
  | false =>
    rw [c3] at hTb
    have e : shareM w m = (w, 6) := by simp only [shareM, c1, c2, c3, Bool.true_and, cond_true, cond_false]
    rw [e]
    refine Spec.of_runs Go.Proofs.Tryz.f143 Go.Proofs.Tryz.func143 rfl ?_
    intro w0 M0
    simp only [Go.Proofs.Tryz.f143, List.replicate, List.cons_append, List.nil_append, z, seval]
    (refine RUNs_draw 1 (by kernel_rfl) ?_; simp only [z, seval])
    (refine DU (hPa) (h := ?_); simp only [z, seval])
    (refine DU (hPb) (h := ?_); simp only [z, seval])
    (refine DU (hP0) (h := ?_); simp only [z, seval])
    (refine ⟨by kernel_rfl, ?_⟩)
    (refine RUNs_unroll 5 ?_; simp only [z, seval])
    (refine CALLS_in (fn := Go.Proofs.Tryz.f168) Go.Proofs.Tryz.func168 rfl (by kernel_rfl) ?_; simp only [Go.Proofs.Tryz.f168, List.replicate, List.cons_append, List.nil_append, z, seval])
    (refine RUNs_draw 0 (by kernel_rfl) ?_; simp only [z, seval])
    (refine DU (hPr) (h := ?_); simp only [z, seval])
    (refine ⟨by kernel_rfl, ?_⟩)
    first | (refine CU (hTa) (h := ?_); simp only [z, seval]) | ((refine RUNs_draw 0 (by kernel_rfl) ?_; simp only [z, seval]); (refine DU (hTa) (h := ?_); simp only [z, seval]); (refine ⟨by kernel_rfl, ?_⟩)) | ((refine RUNs_draw 1 (by kernel_rfl) ?_; simp only [z, seval]); (refine DU (hTa) (h := ?_); simp only [z, seval]); (refine ⟨by kernel_rfl, ?_⟩)) | ((refine RUNs_draw 2 (by kernel_rfl) ?_; simp only [z, seval]); (refine DU (hTa) (h := ?_); simp only [z, seval]); (refine ⟨by kernel_rfl, ?_⟩))
    first | (refine CU (hTb) (h := ?_); simp only [z, seval]) | ((refine RUNs_draw 0 (by kernel_rfl) ?_; simp only [z, seval]); (refine DU (hTb) (h := ?_); simp only [z, seval]); (refine ⟨by kernel_rfl, ?_⟩)) | ((refine RUNs_draw 1 (by kernel_rfl) ?_; simp only [z, seval]); (refine DU (hTb) (h := ?_); simp only [z, seval]); (refine ⟨by kernel_rfl, ?_⟩)) | ((refine RUNs_draw 2 (by kernel_rfl) ?_; simp only [z, seval]); (refine DU (hTb) (h := ?_); simp only [z, seval]); (refine ⟨by kernel_rfl, ?_⟩))
    (refine FINS_done ?_; simp only [z, seval])
  | true =>
  rw [c3] at hTb
  cases c4 : (usedMay (personW w 0).used w.conf.used m.run == 0) with
  | false =>
    have eN : usedNote (personW w 0).used w.conf.used m.run = ((personW w 0).used, usedMay (personW w 0).used w.conf.used m.run) := by simp only [usedNote, c4, cond_false]
    rw [eN] at hNo
    have e : shareM w m = (w, usedMay (personW w 0).used w.conf.used m.run) := by simp only [shareM, c1, c2, c3, c4, Bool.true_and, cond_true, cond_false]
    rw [e]
    refine Spec.of_runs Go.Proofs.Tryz.f143 Go.Proofs.Tryz.func143 rfl ?_
    intro w0 M0
    simp only [Go.Proofs.Tryz.f143, List.replicate, List.cons_append, List.nil_append, z, seval]
    (refine RUNs_draw 1 (by kernel_rfl) ?_; simp only [z, seval])
    (refine DU (hPa) (h := ?_); simp only [z, seval])
    (refine DU (hPb) (h := ?_); simp only [z, seval])
    (refine DU (hP0) (h := ?_); simp only [z, seval])
    (refine ⟨by kernel_rfl, ?_⟩)
    (refine RUNs_unroll 5 ?_; simp only [z, seval])
    (refine CALLS_in (fn := Go.Proofs.Tryz.f168) Go.Proofs.Tryz.func168 rfl (by kernel_rfl) ?_; simp only [Go.Proofs.Tryz.f168, List.replicate, List.cons_append, List.nil_append, z, seval])
    (refine RUNs_draw 0 (by kernel_rfl) ?_; simp only [z, seval])
    (refine DU (hPr) (h := ?_); simp only [z, seval])
    (refine ⟨by kernel_rfl, ?_⟩)
    first | (refine CU (hTa) (h := ?_); simp only [z, seval]) | ((refine RUNs_draw 0 (by kernel_rfl) ?_; simp only [z, seval]); (refine DU (hTa) (h := ?_); simp only [z, seval]); (refine ⟨by kernel_rfl, ?_⟩)) | ((refine RUNs_draw 1 (by kernel_rfl) ?_; simp only [z, seval]); (refine DU (hTa) (h := ?_); simp only [z, seval]); (refine ⟨by kernel_rfl, ?_⟩)) | ((refine RUNs_draw 2 (by kernel_rfl) ?_; simp only [z, seval]); (refine DU (hTa) (h := ?_); simp only [z, seval]); (refine ⟨by kernel_rfl, ?_⟩))
    first | (refine CU (hTb) (h := ?_); simp only [z, seval]) | ((refine RUNs_draw 0 (by kernel_rfl) ?_; simp only [z, seval]); (refine DU (hTb) (h := ?_); simp only [z, seval]); (refine ⟨by kernel_rfl, ?_⟩)) | ((refine RUNs_draw 1 (by kernel_rfl) ?_; simp only [z, seval]); (refine DU (hTb) (h := ?_); simp only [z, seval]); (refine ⟨by kernel_rfl, ?_⟩)) | ((refine RUNs_draw 2 (by kernel_rfl) ?_; simp only [z, seval]); (refine DU (hTb) (h := ?_); simp only [z, seval]); (refine ⟨by kernel_rfl, ?_⟩))
    (refine RUNs_unr ?_; simp only [z, seval])
    (refine CALLS_in (fn := Go.Proofs.Tryz.f169) Go.Proofs.Tryz.func169 rfl (by kernel_rfl) ?_; simp only [Go.Proofs.Tryz.f169, List.replicate, List.cons_append, List.nil_append, z, seval])
    first | (refine CU (hNo) (h := ?_); simp only [z, seval]) | ((refine RUNs_draw 0 (by kernel_rfl) ?_; simp only [z, seval]); (refine DU (hNo) (h := ?_); simp only [z, seval]); (refine ⟨by kernel_rfl, ?_⟩)) | ((refine RUNs_draw 1 (by kernel_rfl) ?_; simp only [z, seval]); (refine DU (hNo) (h := ?_); simp only [z, seval]); (refine ⟨by kernel_rfl, ?_⟩)) | ((refine RUNs_draw 2 (by kernel_rfl) ?_; simp only [z, seval]); (refine DU (hNo) (h := ?_); simp only [z, seval]); (refine ⟨by kernel_rfl, ?_⟩))
    simp only [c4, z, seval]
    (refine FINS_done ?_; simp only [z, seval])
  | true =>
  have eN : usedNote (personW w 0).used w.conf.used m.run = ((personW w 0).used ++ [m.run], 0) := by simp only [usedNote, c4, cond_true]
  rw [eN] at hNo
  have e0 : shareM w m = (bif roomW w 2 1 then
    (bif (s1 w m).2.2 == 0 then (bif (s2 w m).2.2 == 0 then (bif (sZ w m).2 == 0 then ((sZ w m).1, 0) else (w, (sZ w m).2)) else (w, (s2 w m).2.2)) else (w, (s1 w m).2.2)) else (w, 10)) := by simp only [shareM, c1, c2, c3, c4, Bool.true_and, cond_true]
  rw [e0]
  clear e0
  refine Spec.of_runs Go.Proofs.Tryz.f143 Go.Proofs.Tryz.func143 rfl ?_
  intro w0 M0
  simp only [Go.Proofs.Tryz.f143, List.replicate, List.cons_append, List.nil_append, z, seval]
  (refine RUNs_draw 1 (by kernel_rfl) ?_; simp only [z, seval])
  (refine DU (hPa) (h := ?_); simp only [z, seval])
  (refine DU (hPb) (h := ?_); simp only [z, seval])
  (refine DU (hP0) (h := ?_); simp only [z, seval])
  (refine ⟨by kernel_rfl, ?_⟩)
  (refine RUNs_unroll 5 ?_; simp only [z, seval])
  (refine CALLS_in (fn := Go.Proofs.Tryz.f168) Go.Proofs.Tryz.func168 rfl (by kernel_rfl) ?_; simp only [Go.Proofs.Tryz.f168, List.replicate, List.cons_append, List.nil_append, z, seval])
  (refine RUNs_draw 0 (by kernel_rfl) ?_; simp only [z, seval])
  (refine DU (hPr) (h := ?_); simp only [z, seval])
  (refine ⟨by kernel_rfl, ?_⟩)
  first | (refine CU (hTa) (h := ?_); simp only [z, seval]) | ((refine RUNs_draw 0 (by kernel_rfl) ?_; simp only [z, seval]); (refine DU (hTa) (h := ?_); simp only [z, seval]); (refine ⟨by kernel_rfl, ?_⟩)) | ((refine RUNs_draw 1 (by kernel_rfl) ?_; simp only [z, seval]); (refine DU (hTa) (h := ?_); simp only [z, seval]); (refine ⟨by kernel_rfl, ?_⟩)) | ((refine RUNs_draw 2 (by kernel_rfl) ?_; simp only [z, seval]); (refine DU (hTa) (h := ?_); simp only [z, seval]); (refine ⟨by kernel_rfl, ?_⟩))
  first | (refine CU (hTb) (h := ?_); simp only [z, seval]) | ((refine RUNs_draw 0 (by kernel_rfl) ?_; simp only [z, seval]); (refine DU (hTb) (h := ?_); simp only [z, seval]); (refine ⟨by kernel_rfl, ?_⟩)) | ((refine RUNs_draw 1 (by kernel_rfl) ?_; simp only [z, seval]); (refine DU (hTb) (h := ?_); simp only [z, seval]); (refine ⟨by kernel_rfl, ?_⟩)) | ((refine RUNs_draw 2 (by kernel_rfl) ?_; simp only [z, seval]); (refine DU (hTb) (h := ?_); simp only [z, seval]); (refine ⟨by kernel_rfl, ?_⟩))
  (refine RUNs_unr ?_; simp only [z, seval])
  (refine CALLS_in (fn := Go.Proofs.Tryz.f169) Go.Proofs.Tryz.func169 rfl (by kernel_rfl) ?_; simp only [Go.Proofs.Tryz.f169, List.replicate, List.cons_append, List.nil_append, z, seval])
  first | (refine CU (hNo) (h := ?_); simp only [z, seval]) | ((refine RUNs_draw 0 (by kernel_rfl) ?_; simp only [z, seval]); (refine DU (hNo) (h := ?_); simp only [z, seval]); (refine ⟨by kernel_rfl, ?_⟩)) | ((refine RUNs_draw 1 (by kernel_rfl) ?_; simp only [z, seval]); (refine DU (hNo) (h := ?_); simp only [z, seval]); (refine ⟨by kernel_rfl, ?_⟩)) | ((refine RUNs_draw 2 (by kernel_rfl) ?_; simp only [z, seval]); (refine DU (hNo) (h := ?_); simp only [z, seval]); (refine ⟨by kernel_rfl, ?_⟩))
  first | (refine CU (hRm) (h := ?_); simp only [z, seval]) | ((refine RUNs_draw 0 (by kernel_rfl) ?_; simp only [z, seval]); (refine DU (hRm) (h := ?_); simp only [z, seval]); (refine ⟨by kernel_rfl, ?_⟩)) | ((refine RUNs_draw 1 (by kernel_rfl) ?_; simp only [z, seval]); (refine DU (hRm) (h := ?_); simp only [z, seval]); (refine ⟨by kernel_rfl, ?_⟩)) | ((refine RUNs_draw 2 (by kernel_rfl) ?_; simp only [z, seval]); (refine DU (hRm) (h := ?_); simp only [z, seval]); (refine ⟨by kernel_rfl, ?_⟩))
  cases c5 : roomW w 2 1 with
  | false =>
    simp only [c5, z, seval]
    (refine FINS_done ?_; simp only [z, seval])
  | true =>
  simp only [c5, z, seval]
  (refine RUNs_unr ?_; simp only [z, seval])
  (refine CALLS_in (fn := Go.Proofs.Tryz.f170) Go.Proofs.Tryz.func170 rfl (by kernel_rfl) ?_; simp only [Go.Proofs.Tryz.f170, List.replicate, List.cons_append, List.nil_append, z, seval])
  first | (refine CU (hDr) (h := ?_); simp only [z, seval]) | ((refine RUNs_draw 0 (by kernel_rfl) ?_; simp only [z, seval]); (refine DU (hDr) (h := ?_); simp only [z, seval]); (refine ⟨by kernel_rfl, ?_⟩)) | ((refine RUNs_draw 1 (by kernel_rfl) ?_; simp only [z, seval]); (refine DU (hDr) (h := ?_); simp only [z, seval]); (refine ⟨by kernel_rfl, ?_⟩)) | ((refine RUNs_draw 2 (by kernel_rfl) ?_; simp only [z, seval]); (refine DU (hDr) (h := ?_); simp only [z, seval]); (refine ⟨by kernel_rfl, ?_⟩))
  first | (refine CU (hS1) (h := ?_); simp only [z, seval]) | ((refine RUNs_draw 0 (by kernel_rfl) ?_; simp only [z, seval]); (refine DU (hS1) (h := ?_); simp only [z, seval]); (refine ⟨by kernel_rfl, ?_⟩)) | ((refine RUNs_draw 1 (by kernel_rfl) ?_; simp only [z, seval]); (refine DU (hS1) (h := ?_); simp only [z, seval]); (refine ⟨by kernel_rfl, ?_⟩)) | ((refine RUNs_draw 2 (by kernel_rfl) ?_; simp only [z, seval]); (refine DU (hS1) (h := ?_); simp only [z, seval]); (refine ⟨by kernel_rfl, ?_⟩))
  cases c6 : ((s1 w m).2.2 == 0) with
  | false =>
    simp only [c6, z, seval]
    (refine FINS_done ?_; simp only [z, seval])
  | true =>
  simp only [c6, z, seval]
  first | (refine CU (hS2) (h := ?_); simp only [z, seval]) | ((refine RUNs_draw 0 (by kernel_rfl) ?_; simp only [z, seval]); (refine DU (hS2) (h := ?_); simp only [z, seval]); (refine ⟨by kernel_rfl, ?_⟩)) | ((refine RUNs_draw 1 (by kernel_rfl) ?_; simp only [z, seval]); (refine DU (hS2) (h := ?_); simp only [z, seval]); (refine ⟨by kernel_rfl, ?_⟩)) | ((refine RUNs_draw 2 (by kernel_rfl) ?_; simp only [z, seval]); (refine DU (hS2) (h := ?_); simp only [z, seval]); (refine ⟨by kernel_rfl, ?_⟩))
  cases c7 : ((s2 w m).2.2 == 0) with
  | false =>
    simp only [c7, z, seval]
    (refine FINS_done ?_; simp only [z, seval])
  | true =>
  simp only [c7, z, seval]
  (refine RUNs_unr ?_; simp only [z, seval])
  (refine CALLS_in (fn := Go.Proofs.Tryz.f171) Go.Proofs.Tryz.func171 rfl (by kernel_rfl) ?_; simp only [Go.Proofs.Tryz.f171, List.replicate, List.cons_append, List.nil_append, z, seval])
  (refine RUNs_draw 1 (by kernel_rfl) ?_; simp only [z, seval])
  (refine DU (hW) (h := ?_); simp only [z, seval])
  (refine DU (hL) (h := ?_); simp only [z, seval])
  (refine ⟨by kernel_rfl, ?_⟩)
  (refine RUNs_draw 1 (by kernel_rfl) ?_; simp only [z, seval])
  (refine DU (hSn) (h := ?_); simp only [z, seval])
  (refine ⟨by kernel_rfl, ?_⟩)
  cases c8 : ((sZ w m).2 == 0) with
  | false =>
    simp only [c8, z, seval]
    (refine FINS_done ?_; simp only [z, seval])
  | true =>
    simp only [c8, z, seval]
    (refine RUNs_unr ?_; simp only [z, seval])
    (refine FINS_done ?_; simp only [z, seval])
end Ch

/- The abstract machine: a statement of more than one order, order by order. -/
set_option linter.unusedVariables false
namespace Go.Ab
open Go Go.RowKit
theorem Oper.wpIn_exit {F : Fence} {n : Nat} {P : Program} {o : Oper} {a : Act} {w : World} {K K' : Act → World → Prop} {Q Q' : Exit → Act → World → Prop} (h : ∀ a w, K a w → K' a w) (hq : ∀ e a w, e ≠ .normal → Q e a w → Q' e a w)
    (hh : o.wpIn F n P a w K Q) : o.wpIn F n P a w K' Q' := by
  have hl : LetsOut Q → LetsOut Q' := fun ⟨a, w, x⟩ => ⟨a, w, hq _ _ _ (by simp) x⟩
  unfold Oper.wpIn at *
  refine ⟨hh.1, ?_⟩
  have hh := hh.2
  generalize (o.semAt F.round a.eval).run P w = r at *
  cases r with
  | ok x w' =>
    cases x <;> simp only [Oper.uponIn] at hh ⊢ <;>
      first
        | exact h _ _ hh
        | exact ⟨hh.1, CallsIn.mono hh.2 (fun e w'' he => by cases e <;> first | exact h _ _ he | exact hq _ _ _ (by simp) he | exact hl he)⟩
        | exact ⟨hh.1, RowsIn.mono hh.2 (fun _ _ he => h _ _ he)⟩
        | exact ⟨hh.1, RoundIn.mono hh.2 (fun e w'' he => by cases e <;> first | exact h _ _ he | exact hq _ _ _ (by simp) he | exact hl he)⟩
  | halt x w' => cases x <;> simp only [Oper.uponIn] at hh ⊢ <;> first | exact hh | exact hq _ _ _ (by simp) hh
/-- what is left of a statement whose operations may come in any order -/
def AJ (X : Ctx) (all : List Oper) (k : List It) (n : Nat) (ls : Array Bool) : List Act → Act → World → Prop :=
  fun sa a w => wpAnyIn (FR (rd k)) 0 X.P .any all.toArray (post X.P X.R k sa) n ls a w
theorem RUN_any {X : Ctx} {id : Nat} {all : List Oper} {k : List It} {fr : List V} {st : List (List V)} {H : List AB} (hm : X.P.follows .mixedOrders = true)
    (h : RUN X ⟨.inv (AJ X all k all.length (Array.replicate all.length false)) :: k, fr, st, H⟩) : RUN X ⟨.code (.region id all.toArray true) :: k, fr, st, H⟩ := by
  intro sa a E hH hR hD
  simp only at hH hR; subst hH
  simp only [DF] at hD
  simp only [post]
  refine wpIn_region_any hm ?_
  obtain ⟨d1, d2⟩ := hR.ok.drew
  have := h sa a { E with w := E.w.drew } rfl ⟨d1, RepL.mono _ d2 hR.fr, hR.st.mono d2⟩ (by simpa only [DF] using hD)
  simp only [post] at this
  simpa [AJ] using this.1
theorem RUN_any1 {X : Ctx} {all : List Oper} {k : List It} {n : Nat} {ls : Array Bool} {fr : List V} {st : List (List V)} {H : List AB} (r : List Nat) (hr : Region.ready .any all.toArray ls = r)
    (h0 : r = [] → RUN X ⟨k, fr, st, H⟩) (h1 : ∀ i ∈ r, ∃ o, all[i]? = some o ∧ RUN X ⟨.ops all [o] :: .inv (AJ X all k n (ls.setIfInBounds i true)) :: k, fr, st, H⟩) :
    RUN X ⟨.inv (AJ X all k (n + 1) ls) :: k, fr, st, H⟩ := by
  intro sa a E hH hR hD
  simp only [DF] at hD
  simp only [post]
  refine ⟨?_, by simpa only [DF] using hD⟩
  unfold AJ wpAnyIn
  rw [hr]
  refine ⟨fun hn => h0 hn sa a E hH hR hD, fun i hi => ?_⟩
  obtain ⟨o, ho, hrun⟩ := h1 i hi
  have := hrun sa a E hH hR (by simpa only [DF] using hD)
  simp only [post, wpListIn, rd] at this
  unfold Go.wpOpIn
  have ho' : all.toArray[i]? = some o := by simpa using ho
  rw [ho']
  simp only
  have hexit : ∀ (e : Exit) (a' : Act) (w' : World), e ≠ .normal → post X.P X.R (.inv (AJ X all k n (ls.setIfInBounds i true)) :: k) sa e a' w' → post X.P X.R k sa e a' w' := by
    intro e a' w' he hp
    cases e <;> first | exact absurd rfl he | simpa only [post] using hp
  split at this
  · rename_i hw
    rw [if_pos hw]
    exact Oper.wpIn_exit (fun a' w' hk => hk.1) hexit this
  · rename_i hw
    rw [if_neg hw]
    exact ⟨this.1, this.2.1⟩
theorem RUN_anyE {X : Ctx} {all : List Oper} {k : List It} {ls : Array Bool} {fr : List V} {st : List (List V)} {H : List AB} (hr : Region.ready .any all.toArray ls = [])
    (h : RUN X ⟨k, fr, st, H⟩) : RUN X ⟨.inv (AJ X all k 0 ls) :: k, fr, st, H⟩ := by
  intro sa a E hH hR hD
  simp only [DF] at hD
  simp only [post]
  refine ⟨?_, by simpa only [DF] using hD⟩
  unfold AJ wpAnyIn
  exact ⟨hr, h sa a E hH hR hD⟩
end Go.Ab

/- The abstract machine: a statement of more than one order, order by order, for 'simp'. -/
set_option linter.unusedVariables false
set_option linter.unusedSimpArgs false
namespace Go.Ab
open Go Go.RowKit
theorem RUN_anyD {X : Ctx} {all : List Oper} {k : List It} {n p : Nat} {ls : Array Bool} {fr frF : List V} {st : List (List V)} {H HF : List AB} (m : Nat) {t : List TrE} (hls : ls.toList = List.replicate p true ++ List.replicate (all.length - p) false) (hp : p ≤ all.length) (hn : all.length - p ≤ n) (hok : drawOK all t = true)
    (hs : SEQ X.P X.G all (fun k => t.getD k ⟨[], [], 0, []⟩) (List.range' p (all.length - p)) fr (H ++ List.replicate m .hole) frF HF) (h : RUN X ⟨k, frF, st, HF⟩) : RUN X ⟨.inv (AJ X all k n ls) :: k, fr, st, H⟩ := by
  intro sa a E hH hR hD
  simp only at hH hR; subst hH
  simp only [DF] at hD
  simp only [post]
  refine ⟨?_, by simpa only [DF] using hD⟩
  unfold drawOK at hok
  rw [Bool.and_eq_true] at hok
  obtain ⟨g1, g2⟩ := hR.ok.holes m
  have hR' : RelE X fr st sa a { E with H := E.H ++ List.replicate m .hole } := ⟨g1, RepL.mono _ g2 hR.fr, hR.st.mono g2⟩
  have hsz : ls.size = all.length := by
    have := congrArg List.length hls
    simp only [Array.length_toList, List.length_append, List.length_replicate] at this
    omega
  have hg : ∀ (i : Nat) (d : Bool), i < all.length → ls.getD i d = decide (i < p) := by
    intro i d hi
    rw [Array.getD_eq_getD_getElem?, ← Array.getElem?_toList, hls]
    by_cases h1 : i < p
    · rw [List.getElem?_append_left (by simpa using h1), List.getElem?_replicate, if_pos h1]; simp [h1]
    · rw [List.getElem?_append_right (by simpa using h1), List.getElem?_replicate, if_pos (by simp; omega)]; simp [h1]
  refine draw_any (st := st) (sa := sa) hok.1 (fun i j hji hi => ?_) (rd k) (ds := a.defers) (fun a' E' hH' hR' hd' => ?_) n ls (List.range' p (all.length - p)) fr a { E with H := E.H ++ List.replicate m .hole } hsz ?_ ?_ ?_ hs hR' rfl (by simpa using hn)
  · have := (List.all_eq_true.1 hok.2) i (List.mem_range.2 hi)
    have := (List.all_eq_true.1 this) j (List.mem_range.2 hji)
    simp only [Bool.or_eq_true] at this
    rcases this with this | this
    · exact .inl (ancs_sound all all [] (by simp) (by simp) (fun i j h => by simp at h) i j this)
    · exact .inr this
  · exact h sa a' E' hH' hR' (by rw [hd']; exact hD)
  · intro i o ho hl e he hb
    have hi : i < all.length := (List.getElem?_eq_some_iff.1 ho).1
    have hlt := topo_spec hok.1 ho e he hb
    rw [hg i _ hi] at hl
    rw [hg _ _ (by omega)]
    have := of_decide_eq_true hl
    exact decide_eq_true (by omega)
  · exact List.pairwise_lt_range'
  · intro i
    rw [List.mem_range'_1]
    constructor
    · rintro ⟨h1, h2⟩
      exact ⟨by omega, by rw [hg i _ (by omega)]; exact decide_eq_false (by omega)⟩
    · rintro ⟨h1, h2⟩
      rw [hg i _ h1] at h2
      have := of_decide_eq_false h2
      omega
section
variable {P : Program} {G : Glob} {w0 : World} {M0 : Nat → Nat → Prop} {R : Value → World → Prop} {all : List Oper} {k : List It} {st : List (List V)} {fr : List V} {H : List AB}
def ANY (P : Program) (G : Glob) (w0 : World) (M0 : Nat → Nat → Prop) (R : Value → World → Prop) (all : List Oper) (k : List It) (n : Nat) (ls : Array Bool) : List Act → Act → World → Prop := AJ ⟨P, G, w0, M0, R⟩ all k n ls
theorem RUNs_any (n : Nat) {id : Nat} (hn : all.length = n := by rfl) (hm : P.follows .mixedOrders = true := by kernel_rfl) (h : RUNs P G w0 M0 R ⟨.inv (ANY P G w0 M0 R all k n (Array.replicate n false)) :: k, fr, st, H⟩) :
    RUNs P G w0 M0 R ⟨.code (.region id all.toArray true) :: k, fr, st, H⟩ := by
  subst hn
  exact RUNs_stop (by rfl) (RUN_any (X := ⟨P, G, w0, M0, R⟩) hm (RUN_of_RUNs h))
theorem RUNs_any1 (i : Nat) (o : Oper) {n : Nat} {ls : Array Bool} (hr : Region.ready .any all.toArray ls = [i] := by kernel_rfl) (ho : all[i]? = some o := by rfl)
    (h : RUNs P G w0 M0 R ⟨.ops all [o] :: .inv (ANY P G w0 M0 R all k n (ls.setIfInBounds i true)) :: k, fr, st, H⟩) : RUNs P G w0 M0 R ⟨.inv (ANY P G w0 M0 R all k (n + 1) ls) :: k, fr, st, H⟩ := by
  refine RUNs_stop (by rfl) (RUN_any1 (X := ⟨P, G, w0, M0, R⟩) [i] hr (fun h => by cases h) fun j hj => ?_)
  simp only [List.mem_singleton] at hj; subst hj
  exact ⟨o, ho, RUN_of_RUNs h⟩
theorem RUNs_any2 (i j : Nat) (o o' : Oper) {n : Nat} {ls : Array Bool} (hr : Region.ready .any all.toArray ls = [i, j] := by kernel_rfl) (ho : all[i]? = some o := by rfl) (ho' : all[j]? = some o' := by rfl)
    (h : RUNs P G w0 M0 R ⟨.ops all [o] :: .inv (ANY P G w0 M0 R all k n (ls.setIfInBounds i true)) :: k, fr, st, H⟩)
    (h' : RUNs P G w0 M0 R ⟨.ops all [o'] :: .inv (ANY P G w0 M0 R all k n (ls.setIfInBounds j true)) :: k, fr, st, H⟩) : RUNs P G w0 M0 R ⟨.inv (ANY P G w0 M0 R all k (n + 1) ls) :: k, fr, st, H⟩ := by
  refine RUNs_stop (by rfl) (RUN_any1 (X := ⟨P, G, w0, M0, R⟩) [i, j] hr (fun h => by cases h) fun m hm => ?_)
  simp only [List.mem_cons, List.not_mem_nil, or_false] at hm
  rcases hm with rfl | rfl
  · exact ⟨o, ho, RUN_of_RUNs h⟩
  · exact ⟨o', ho', RUN_of_RUNs h'⟩
theorem RUNs_anyD (p m : Nat) {n : Nat} {ls : Array Bool} (hls : ls.toList = List.replicate p true ++ List.replicate (all.length - p) false := by kernel_rfl) (hp : p ≤ all.length := by decide) (hn : all.length - p ≤ n := by decide)
    (h : DRP P G w0 M0 R all k st (all.drop p) ⟨H.length, List.replicate p ⟨[], [], 0, []⟩⟩ fr (H ++ List.replicate m .hole)) : RUNs P G w0 M0 R ⟨.inv (ANY P G w0 M0 R all k n ls) :: k, fr, st, H⟩ := by
  obtain ⟨t, frF, HF, h1, h2, h3⟩ := DRP_sound (all.drop p) ⟨H.length, List.replicate p ⟨[], [], 0, []⟩⟩ _ _ (by simp only [List.length_replicate]) h
  simp only [List.length_replicate, List.length_drop] at h1
  have h4 : RUN ⟨P, G, w0, M0, R⟩ ⟨.inv (AJ ⟨P, G, w0, M0, R⟩ all k n ls) :: k, fr, st, H⟩ := RUN_anyD m hls hp hn h2 h1 (RUN_of_RUNs h3)
  exact RUNs_stop rfl h4
end
end Go.Ab

/- The abstract machine: a function's value, put into an interface. -/
set_option linter.unusedVariables false
set_option linter.unusedSimpArgs false
namespace Go.Ab
open Go Go.RowKit
def fnTy (P : Program) (t : TypeId) : Bool := match P.underlying t with
  | some (.func ..) => true
  | _ => false
theorem RUN_ifcF {X : Ctx} {t : TypeId} {x : Operand} {dst : Option Tmp} {ty : TypeId} {p : String} {af : Array Edge} {all l : List Oper} {k : List It} {fr : List V} {st : List (List V)} {H : List AB} (ht : fnTy X.P t = true)
    (h : RUN X ⟨.ops all l :: k, putV fr dst (.iface t (evalO X.G fr x)), st, H⟩) : RUN X ⟨.ops all (⟨dst, .makeInterface t x, ty, p, af, none⟩ :: l) :: k, fr, st, H⟩ := by
  intro sa a E hH hR hD
  simp only at hH hR; subst hH
  simp only [DF] at hD
  simp only [post]
  have hC : Comes X.P X.G X.w0 X.M0 E a (⟨dst, .makeInterface t x, ty, p, af, none⟩ : Oper) (.iface t (evalO X.G fr x)) E.H := by
    refine Comes.pure hR.ok (x := .iface t (a.eval x)) ?_ ?_
    · unfold fnTy at ht
      split at ht
      · rename_i g2
        simp [execOp, Instr.makeInterface, run_underlying g2]
      · cases ht
    · simp only [Rep]; exact ⟨_, rfl, evalO_sound hR.ok hR.fr x⟩
  obtain ⟨x', E', h1, h2, h3, h4, h5⟩ := hC
  have hn := h sa (a.put dst x') E' h2 (hR.put h3 h4 h5 dst) (by simpa only [DF, put_defers] using hD)
  unfold wpListIn
  rw [if_pos (by simp [Region.wanted])]
  refine ⟨fun _ _ => trivial, ?_⟩
  rw [Oper.semAt_eq _ _ _ (by intro c hc; cases hc)]
  rcases h1 with h1 | ⟨h1, rfl⟩ <;> rw [h1]
  · exact hn
  · exact hn
section
variable {P : Program} {G : Glob} {w0 : World} {M0 : Nat → Nat → Prop} {R : Value → World → Prop}
theorem OPV_ifcF {t : TypeId} {x : Operand} {v0 : Option V} {dst : Option Tmp} {ty : TypeId} {p : String} {af : Array Edge} {all l : List Oper} {k : List It} {fr : List V} {st : List (List V)} {H : List AB} (ht : fnTy P t = true) (hT : ifcT P t = false) (hs : step P G ⟨.ops all (⟨dst, .makeInterface t x, ty, p, af, none⟩ :: l) :: k, fr, st, H⟩ = none)
    (h : RUNs P G w0 M0 R ⟨.ops all l :: k, putV fr dst (.iface t (evalO G fr x)), st, H⟩) : OPV P G w0 M0 R ⟨.ops all (⟨dst, .makeInterface t x, ty, p, af, none⟩ :: l) :: k, fr, st, H⟩ (bif ifcT P t then v0 else none) dst all l k fr st H := by
  rw [hT]
  exact RUNs_stop hs (RUN_ifcF (X := ⟨P, G, w0, M0, R⟩) ht (RUN_of_RUNs h))
end
end Go.Ab
