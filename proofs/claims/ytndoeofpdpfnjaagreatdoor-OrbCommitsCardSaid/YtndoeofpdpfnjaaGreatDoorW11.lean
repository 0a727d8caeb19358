/- The initiator with run identifiers: a run that was begun. -/
import Derived.Test.YtndoeofpdpfnjaaGreatDoorW10
set_option maxRecDepth 100000
set_option maxHeartbeats 4000000
set_option linter.unusedSimpArgs false
set_option linter.unusedVariables false
namespace Ch
open Go Go.Ab
theorem lastMap' {α : Type} (f : α → V) (l : List α) (x : α) : ((l ++ [x]).map f)[l.length]? = some (f x) := by simp
theorem snocLen' {α : Type} (l : List α) (x : α) : (l ++ [x]).length = l.length + 1 := by simp
theorem setMap {α : Type} (f : α → V) {l : List α} {i : Nat} (x : α) (h : i < l.length) : ((l.set i x).map f)[i]? = some (f x) := by simp [h]
def oPart (w : World) (a b : Int) : Part := ⟨(drawW (drawW w).1).2, (drawW w).2, a, b, 0, 0, 0⟩
def oRow (w : World) (a b : Int) : Sld := sealRow (drawW (drawW w).1).1 (personW w a).key 6 (oPart w a b)
def oX (w : World) (a b : Int) : World := ⟨w.conf, ⟨w.draws.list, w.draws.next + 1 + 1 + 1⟩, ⟨w.box.room, w.box.rows ++ [oRow w a b]⟩, ⟨w.net.room, w.net.grams ++ [⟨b, msgWs (oMsg w a b)⟩], w.net.seen ++ [msgWs (oMsg w a b)]⟩, w.people.set a.toNat (oP w a b), w.log ++ [oEv w a b], w.regs, w.leaks⟩
theorem startO_err {w : World} {a b : Int} (h : (startO w a b).2 ≠ 0) : (startO w a b).1 = w := by
  unfold startO at h ⊢
  cases h1 : pairM w.people a b
  · rfl
  cases h2 : (!full w (personW w a) && roomW w 1 1)
  · rfl
  cases h3 : ((oS w a b).2.2 == 0)
  · rfl
  · rw [h1, h2, h3] at h; exact absurd rfl h
theorem startO_ok {w : World} {a b : Int} (hr : Right10 w.people = true) (ha : U a) (h : (startO w a b).2 = 0) : startO w a b = (oX w a b, 0) ∧ pairM w.people a b = true ∧ full w (personW w a) = false ∧ roomW w 1 1 = true ∧ (sealW (drawW (drawW w).1).1 (personW w a).key 6 (oPart w a b)).2.2 = 0 := by
  unfold startO at h ⊢
  cases h1 : pairM w.people a b
  · rw [h1] at h; cases h
  cases h2 : (!full w (personW w a) && roomW w 1 1)
  · rw [h1, h2] at h; cases h
  cases h3 : ((oS w a b).2.2 == 0)
  · rw [h1, h2, h3] at h
    simp only [cond_true, cond_false] at h
    rw [h] at h3; cases h3
  · simp only [Bool.and_eq_true, Bool.not_eq_true'] at h2
    have h3' : (sealW (drawW (drawW w).1).1 (personW w a).key 6 (oPart w a b)).2.2 = 0 := by (have h4 : (oS w a b).2.2 = 0 := by simpa using h3); exact h4
    refine ⟨?_, rfl, h2.1, h2.2, h3'⟩
    simp only [cond_true]
    obtain ⟨hin, _⟩ := (pair_in h1).2.2.2
    have hnm := name_of hr ha hin
    have hs : (oS w a b).1 = sealTo (drawW (drawW w).1).1 (personW w a).key 6 (oPart w a b) := by
      have := (seal_ok h3').1
      show (sealW (drawW (drawW w).1).1 (personW w a).key 6 (oPart w a b)).1 = _
      rw [this]
    have hz := send_to (oZ_ok (w := w) (a := a) (b := b) h2.2)
    have hset : (setM w.people (oP w a b)).1 = w.people.set a.toNat (oP w a b) := by
      have hn : (oP w a b).name = a := hnm
      rw [setM, hn, decide_eq_true hin]; rfl
    have : oZ w a b = oX w a b := by
      rw [oZ, hz.1, sendTo, oY, putP, logW, withW, hs]
      show World.mk _ _ _ _ _ _ _ _ = _
      simp only [sealTo, drawW, hset, oX, oRow]
    rw [this]
theorem open_box {v w : World} (h : v.box = w.box) (k l hh : Int) : openW v k l hh = openW w k l hh := by
  unfold openW; rw [h]
theorem oX_open {w : World} {a b : Int} (h : (sealW (drawW (drawW w).1).1 (personW w a).key 6 (oPart w a b)).2.2 = 0) (k l : Int) : openW (oX w a b) k l (drawW (drawW (drawW w).1).1).2 = bif (personW w a).key == k && 6 == l then (oPart w a b, true) else (zPart, false) := by
  rw [← open_new h k l]
  exact open_box rfl _ _ _
theorem oMsg_box {w : World} {a b : Int} (h : (sealW (drawW (drawW w).1).1 (personW w a).key 6 (oPart w a b)).2.2 = 0) : oMsg w a b = ⟨6, (drawW w).2, a, b, 0, (drawW (drawW (drawW w).1).1).2, 0⟩ := by
  have := (seal_ok h).1
  rw [oMsg]
  show Msg.mk 6 _ a b 0 (sealW (drawW (drawW w).1).1 (personW w a).key 6 (oPart w a b)).2.1 0 = _
  rw [this]
theorem seal_right {w : World} (h : Right07 w.box = true) (key label : Int) (p : Part) : Right07 (sealW w key label p).1.box = true := by
  unfold sealW
  cases ((partPut label p).2 == 0)
  · exact h
  · cases ((boxSeal w.box (drawW w).2 key label (partPut label p).1).2 == 0)
    · exact h
    · exact right_seal h _ _ _ _
theorem oX_right {w : World} {a b : Int} (hb : Right07 w.box = true) (h : (sealW (drawW (drawW w).1).1 (personW w a).key 6 (oPart w a b)).2.2 = 0) : Right07 (oX w a b).box = true := by
  have h1 := seal_right (w := (drawW (drawW w).1).1) hb (personW w a).key 6 (oPart w a b)
  rw [(seal_ok h).1] at h1
  exact h1
theorem has_not {m a b n h : Int} (hn : n ≥ 2147483648) (h1 : a < 10) (h2 : b < 10) (h3 : n ≠ m) (h4 : n ≠ h) : n ∉ msgWs ⟨6, m, a, b, 0, h, 0⟩ := by
  simp [msgWs, tags, hasM, msgWord]
  refine ⟨?_, ?_, ?_, ?_, ?_, ?_, ?_⟩ <;> omega
theorem get_in {l : List Person} {n : Nat} (h : n < l.length) : getP l n = l[n] := by simp only [getP, List.getElem?_eq_getElem h, Option.getD_some]
theorem OraStarts_law (w : World) (hw : w.ok) (a : Int) (ha : U a) (b : Int) (hb : U b) (key : Int) (hk : U key) : Spec PP GG 4 [w.v, u32 a, u32 b, u32 key] (.bool true) [] := by
  have hA := L17.awake_spec
  have hF1 := Few12_spec w (Lim_of_ok hw)
  have hF2 := Form12_spec w (Lim_of_ok hw)
  cases hf1 : Few12 w with
  | false =>
    rw [hf1] at hF1
    refine Spec.of_runs Go.Proofs.Tryz.f4 Go.Proofs.Tryz.func4 rfl ?_
    intro w0 M0
    simp only [Go.Proofs.Tryz.f4, List.replicate, List.cons_append, List.nil_append, z, seval]
    (refine CU (hA) (h := ?_); simp only [z, seval])
    (refine CU (hF1) (h := ?_); simp only [z, seval])
    (refine CU (hA) (h := ?_); simp only [z, seval])
    (refine FINS_done ?_; simp only [z, seval])
  | true =>
  rw [hf1] at hF1
  cases hf2 : Form12 w with
  | false =>
    rw [hf2] at hF2
    refine Spec.of_runs Go.Proofs.Tryz.f4 Go.Proofs.Tryz.func4 rfl ?_
    intro w0 M0
    simp only [Go.Proofs.Tryz.f4, List.replicate, List.cons_append, List.nil_append, z, seval]
    (refine CU (hA) (h := ?_); simp only [z, seval])
    (refine CU (hF1) (h := ?_); simp only [z, seval])
    (refine CU (hF2) (h := ?_); simp only [z, seval])
    (refine CU (hA) (h := ?_); simp only [z, seval])
    (refine FINS_done ?_; simp only [z, seval])
  | true =>
  rw [hf2] at hF2
  have hfit := fit_of_few hw hf1 hf2
  have hform := form_iff.1 hf2
  have h1 := StartO_spec w a b hfit (by decide) (by decide) ha hb hform.right
  cases he : ((startO w a b).2 == 0) with
  | false =>
    rw [startO_err (show (startO w a b).2 ≠ 0 by intro h; rw [h] at he; cases he)] at h1
    have h2 := Same12 w (hfit.toLim (by decide))
    clear hw hfit hform
    refine Spec.of_runs Go.Proofs.Tryz.f4 Go.Proofs.Tryz.func4 rfl ?_
    intro w0 M0
    simp only [Go.Proofs.Tryz.f4, List.replicate, List.cons_append, List.nil_append, z, seval]
    (refine CU (hA) (h := ?_); simp only [z, seval])
    (refine CU (hF1) (h := ?_); simp only [z, seval])
    (refine CU (hF2) (h := ?_); simp only [z, seval])
    (refine CU (h1) (h := ?_); simp only [z, seval])
    simp only [he, z, seval]
    (refine CU (h2) (h := ?_); simp only [z, seval])
    (refine FINS_done ?_; simp only [z, seval])
  | true =>
  have he' : (startO w a b).2 = 0 := by simpa using he
  obtain ⟨q1, q2, q3, q4, q5⟩ := startO_ok hform.right ha he'
  have hfa := startO_fit hfit (by decide) (by decide) ha hb
  rw [q1] at h1 hfa
  obtain ⟨p1, p2, p3, p4, p5⟩ := pair_in q2
  have hm := oMsg_ok hfit (by decide) ha hb
  have hmay : msgMay (oMsg w a b) = true := may6 _ _ _ _
  have hG := rGet03_spec (msgWs (oMsg w a b)) (by have := msgPut_U hm; rw [msgPut, hmay] at this; exact this) (by have := msgWs_len (oMsg w a b); omega)
  rw [msgGet_put hmay, oMsg_box q5] at hG
  have hbx := oX_right hform.box q5
  have hl7 := (right_len hform.right).2
  have htop1 : 2147483648 ≤ (drawW w).2 := drawW_top hfit
  have htop2 : 2147483648 ≤ (drawW (drawW w).1).2 := drawW_top (fit_draw hfit (by decide))
  have hO1 := rOpen_spec (oX w a b) hfa (by decide) hbx (personW w a).key 6 (drawW (drawW (drawW w).1).1).2
  have hO2 := rOpen_spec (oX w a b) hfa (by decide) hbx key 6 (drawW (drawW (drawW w).1).1).2
  rw [oX_open q5] at hO1 hO2
  simp only [beq_self_eq_true, Bool.and_self, Bool.and_true, cond_true] at hO1 hO2
  have hH := Has_spec (msgWs (oMsg w a b)) (drawW (drawW w).1).2 (by have := msgWs_len (oMsg w a b); omega)
  rw [oMsg_box q5] at hH
  have hno := fun h3 h4 => has_not (m := (drawW w).2) (a := a) (b := b) (n := (drawW (drawW w).1).2) (h := (drawW (drawW (drawW w).1).1).2) htop2 (by have := ha.1; omega) (by have := hb.1; omega) h3 h4
  have hws : msgWs (oMsg w a b) = msgWs ⟨6, (drawW w).2, a, b, 0, (drawW (drawW (drawW w).1).1).2, 0⟩ := by rw [oMsg_box q5]
  simp only [oX, oP, pushRun, oPart] at h1 hO1 hO2
  rw [hws] at h1 hO1 hO2 
  obtain ⟨a, rfl⟩ := Int.eq_ofNat_of_zero_le ha.1
  simp only [Int.toNat_natCast] at p4 h1 hO1 hO2
  have hpa : personW w (a : Int) = w.people[a] := get_in p4
  rw [hpa] at h1 hO1 hO2
  generalize hms : msgWs ⟨6, (drawW w).2, (a : Int), b, 0, (drawW (drawW (drawW w).1).1).2, 0⟩ = ws at *
  generalize hd1 : (drawW w).2 = d1 at *
  generalize hd2 : (drawW (drawW w).1).2 = d2 at *
  generalize hd3 : (drawW (drawW (drawW w).1).1).2 = d3 at *
  have u0 : (personW w (a : Int)).runs.length ≤ 1048576 := personW_runs hfit _
  rw [hpa] at u0
  have g1 := hfit.grams
  have g2 := hfit.log
  have hU := ha.2
  clear hw hfit hform hfa hm hbx q1 q2 q3 q4 q5 he he' hmay hws hms
  have hrun : oRun w b = ⟨2, 1, b, d2, 0, d1, 0, 0, 1⟩ := by rw [oRun, hd1, hd2]
  rw [hrun] at h1 hO1 hO2
  have b0 := getMap Person.v w.people p4
  generalize hP : w.people[a] = P at *
  have b1 := lastMap' Gram.v w.net.grams ⟨b, ws⟩
  have b2 := snocLen' w.net.grams ⟨b, ws⟩
  have b3 := snocLen' w.log (oEv w a b)
  have b4 := lastMap' Run.v P.runs ⟨2, 1, b, d2, 0, d1, 0, 0, 1⟩
  have b5 := snocLen' P.runs ⟨2, 1, b, d2, 0, d1, 0, 0, 1⟩
  have b6 := setMap Person.v ⟨P.name, P.key, P.clock, P.used, P.runs ++ [⟨2, 1, b, d2, 0, d1, 0, 0, 1⟩], P.corrupt⟩ p4
  have w1 : IntKind.i64.wrap ((w.net.grams.length : Int) + 1) = ((w.net.grams.length + 1 : Nat) : Int) := w64s (by omega)
  have w2 : IntKind.i64.wrap ((w.log.length : Int) + 1) = ((w.log.length + 1 : Nat) : Int) := w64s (by omega)
  have w3 : IntKind.i64.wrap ((P.runs.length : Int) + 1) = ((P.runs.length + 1 : Nat) : Int) := w64s (by omega)
  have w4 : (w.people.set a ⟨P.name, P.key, P.clock, P.used, P.runs ++ [⟨2, 1, b, d2, 0, d1, 0, 0, 1⟩], P.corrupt⟩).length = w.people.length := List.length_set
  simp only [mv] at b0 b1 b4 b6
  have t1 : decide (d1 ≥ 2147483648) = true := decide_eq_true htop1
  have t2 : decide (d2 ≥ 2147483648) = true := decide_eq_true htop2
  clear htop1 htop2
  cases ck : (P.key == key) with
  | true =>
    rw [ck] at hO2
    have ck' : (key == P.key) = true := by rw [beq_iff_eq] at ck ⊢; exact ck.symm
    simp only [cond_true] at hO2
    clear ck
    have ck := ck'
    cases c3 : (d2 == d1) with
    | true =>
      refine Spec.of_runs Go.Proofs.Tryz.f4 Go.Proofs.Tryz.func4 rfl ?_
      intro w0 M0
      simp only [Go.Proofs.Tryz.f4, List.replicate, List.cons_append, List.nil_append, z, seval]
      (refine CU (hA) (h := ?_); simp only [z, seval])
      (refine CU (hF1) (h := ?_); simp only [z, seval])
      (refine CU (hF2) (h := ?_); simp only [z, seval])
      (refine CU (h1) (h := ?_); simp only [z, seval])
      simp only [b0, z, seval]
      simp only [b0, b1, b2, b3, b4, b5, b6, w1, w2, w3, w4, z, seval]
      (refine CU (hG) (h := ?_); simp only [z, seval])
      (refine RUNs_draw 1 (by kernel_rfl) ?_; simp only [z, seval])
      simp only [b0, z, seval]
      (refine DU (hO1) (h := ?_); simp only [z, seval])
      (refine ⟨by kernel_rfl, ?_⟩)
      (refine CU (hO2) (h := ?_); simp only [z, seval])
      simp only [b0, b1, ck, z, seval]
      simp only [t1, t2, c3, z, seval]
      (refine RUNs_draw 0 (by kernel_rfl) ?_; simp only [z, seval])
      try simp only [t1, t2, z, seval]
      (refine ⟨by kernel_rfl, ?_⟩)
      try ((refine FINS_done ?_; simp only [z, seval]))
    | false =>
    cases c4 : (d2 == d3) with
    | true =>
      refine Spec.of_runs Go.Proofs.Tryz.f4 Go.Proofs.Tryz.func4 rfl ?_
      intro w0 M0
      simp only [Go.Proofs.Tryz.f4, List.replicate, List.cons_append, List.nil_append, z, seval]
      (refine CU (hA) (h := ?_); simp only [z, seval])
      (refine CU (hF1) (h := ?_); simp only [z, seval])
      (refine CU (hF2) (h := ?_); simp only [z, seval])
      (refine CU (h1) (h := ?_); simp only [z, seval])
      simp only [b0, z, seval]
      simp only [b0, b1, b2, b3, b4, b5, b6, w1, w2, w3, w4, z, seval]
      (refine CU (hG) (h := ?_); simp only [z, seval])
      (refine RUNs_draw 1 (by kernel_rfl) ?_; simp only [z, seval])
      simp only [b0, z, seval]
      (refine DU (hO1) (h := ?_); simp only [z, seval])
      (refine ⟨by kernel_rfl, ?_⟩)
      (refine CU (hO2) (h := ?_); simp only [z, seval])
      simp only [b0, b1, ck, z, seval]
      simp only [t1, t2, c3, z, seval]
      simp only [c4, z, seval]
      (refine RUNs_draw 0 (by kernel_rfl) ?_; simp only [z, seval])
      try simp only [t1, t2, z, seval]
      (refine ⟨by kernel_rfl, ?_⟩)
      try ((refine FINS_done ?_; simp only [z, seval]))
    | false =>
      have hn := hno (by simpa using c3) (by simpa using c4)
      rw [decide_eq_false hn] at hH
      refine Spec.of_runs Go.Proofs.Tryz.f4 Go.Proofs.Tryz.func4 rfl ?_
      intro w0 M0
      simp only [Go.Proofs.Tryz.f4, List.replicate, List.cons_append, List.nil_append, z, seval]
      (refine CU (hA) (h := ?_); simp only [z, seval])
      (refine CU (hF1) (h := ?_); simp only [z, seval])
      (refine CU (hF2) (h := ?_); simp only [z, seval])
      (refine CU (h1) (h := ?_); simp only [z, seval])
      simp only [b0, z, seval]
      simp only [b0, b1, b2, b3, b4, b5, b6, w1, w2, w3, w4, z, seval]
      (refine CU (hG) (h := ?_); simp only [z, seval])
      (refine RUNs_draw 1 (by kernel_rfl) ?_; simp only [z, seval])
      simp only [b0, z, seval]
      (refine DU (hO1) (h := ?_); simp only [z, seval])
      (refine ⟨by kernel_rfl, ?_⟩)
      (refine CU (hO2) (h := ?_); simp only [z, seval])
      simp only [b0, b1, ck, z, seval]
      simp only [t1, t2, c3, z, seval]
      simp only [c4, z, seval]
      (refine RUNs_draw 0 (by kernel_rfl) ?_; simp only [z, seval])
      try simp only [t1, t2, b1, z, seval]
      (refine DU (hH) (h := ?_); simp only [z, seval])
      (refine ⟨by kernel_rfl, ?_⟩)
      try ((refine FINS_done ?_; simp only [z, seval]))
  | false =>
    rw [ck] at hO2
    simp only [cond_false, zPart] at hO2
    cases c3 : (d2 == d1) with
    | true =>
      refine Spec.of_runs Go.Proofs.Tryz.f4 Go.Proofs.Tryz.func4 rfl ?_
      intro w0 M0
      simp only [Go.Proofs.Tryz.f4, List.replicate, List.cons_append, List.nil_append, z, seval]
      (refine CU (hA) (h := ?_); simp only [z, seval])
      (refine CU (hF1) (h := ?_); simp only [z, seval])
      (refine CU (hF2) (h := ?_); simp only [z, seval])
      (refine CU (h1) (h := ?_); simp only [z, seval])
      simp only [b0, z, seval]
      simp only [b0, b1, b2, b3, b4, b5, b6, w1, w2, w3, w4, z, seval]
      (refine CU (hG) (h := ?_); simp only [z, seval])
      (refine RUNs_draw 1 (by kernel_rfl) ?_; simp only [z, seval])
      simp only [b0, z, seval]
      (refine DU (hO1) (h := ?_); simp only [z, seval])
      (refine ⟨by kernel_rfl, ?_⟩)
      (refine CU (hO2) (h := ?_); simp only [z, seval])
      simp only [b0, b1, ck, z, seval]
      simp only [t1, t2, c3, z, seval]
      (refine RUNs_draw 0 (by kernel_rfl) ?_; simp only [z, seval])
      try simp only [t1, t2, z, seval]
      (refine ⟨by kernel_rfl, ?_⟩)
      try ((refine FINS_done ?_; simp only [z, seval]))
    | false =>
    cases c4 : (d2 == d3) with
    | true =>
      refine Spec.of_runs Go.Proofs.Tryz.f4 Go.Proofs.Tryz.func4 rfl ?_
      intro w0 M0
      simp only [Go.Proofs.Tryz.f4, List.replicate, List.cons_append, List.nil_append, z, seval]
      (refine CU (hA) (h := ?_); simp only [z, seval])
      (refine CU (hF1) (h := ?_); simp only [z, seval])
      (refine CU (hF2) (h := ?_); simp only [z, seval])
      (refine CU (h1) (h := ?_); simp only [z, seval])
      simp only [b0, z, seval]
      simp only [b0, b1, b2, b3, b4, b5, b6, w1, w2, w3, w4, z, seval]
      (refine CU (hG) (h := ?_); simp only [z, seval])
      (refine RUNs_draw 1 (by kernel_rfl) ?_; simp only [z, seval])
      simp only [b0, z, seval]
      (refine DU (hO1) (h := ?_); simp only [z, seval])
      (refine ⟨by kernel_rfl, ?_⟩)
      (refine CU (hO2) (h := ?_); simp only [z, seval])
      simp only [b0, b1, ck, z, seval]
      simp only [t1, t2, c3, z, seval]
      simp only [c4, z, seval]
      (refine RUNs_draw 0 (by kernel_rfl) ?_; simp only [z, seval])
      try simp only [t1, t2, z, seval]
      (refine ⟨by kernel_rfl, ?_⟩)
      try ((refine FINS_done ?_; simp only [z, seval]))
    | false =>
      have hn := hno (by simpa using c3) (by simpa using c4)
      rw [decide_eq_false hn] at hH
      refine Spec.of_runs Go.Proofs.Tryz.f4 Go.Proofs.Tryz.func4 rfl ?_
      intro w0 M0
      simp only [Go.Proofs.Tryz.f4, List.replicate, List.cons_append, List.nil_append, z, seval]
      (refine CU (hA) (h := ?_); simp only [z, seval])
      (refine CU (hF1) (h := ?_); simp only [z, seval])
      (refine CU (hF2) (h := ?_); simp only [z, seval])
      (refine CU (h1) (h := ?_); simp only [z, seval])
      simp only [b0, z, seval]
      simp only [b0, b1, b2, b3, b4, b5, b6, w1, w2, w3, w4, z, seval]
      (refine CU (hG) (h := ?_); simp only [z, seval])
      (refine RUNs_draw 1 (by kernel_rfl) ?_; simp only [z, seval])
      simp only [b0, z, seval]
      (refine DU (hO1) (h := ?_); simp only [z, seval])
      (refine ⟨by kernel_rfl, ?_⟩)
      (refine CU (hO2) (h := ?_); simp only [z, seval])
      simp only [b0, b1, ck, z, seval]
      simp only [t1, t2, c3, z, seval]
      simp only [c4, z, seval]
      (refine RUNs_draw 0 (by kernel_rfl) ?_; simp only [z, seval])
      try simp only [t1, t2, b1, z, seval]
      (refine DU (hH) (h := ?_); simp only [z, seval])
      (refine ⟨by kernel_rfl, ?_⟩)
      try ((refine FINS_done ?_; simp only [z, seval]))
end Ch

/- The responder with run identifiers: first words. -/
set_option maxRecDepth 100000
set_option maxHeartbeats 4000000
set_option linter.unusedSimpArgs false
set_option linter.unusedVariables false
namespace Ch
open Go Go.Ab
theorem must_spec (so : Bool) (why : Int) : Spec PP GG 117 [.bool so, i64 why] (i64 (bif so then 0 else why)) [] := by
  refine Spec.of_runs Go.Proofs.Tryz.f117 Go.Proofs.Tryz.func117 rfl ?_
  intro w0 M0
  simp only [Go.Proofs.Tryz.f117, List.replicate, List.cons_append, List.nil_append, z, seval]
  cases so with
  | true =>
    simp only [z, seval]
    (refine FINS_done ?_; simp only [z, seval])
  | false =>
    simp only [z, seval]
    (refine FINS_done ?_; simp only [z, seval])
theorem bEvent_spec (kind : Int) (p : Person) (r : Run) : Spec PP GG 122 [i64 kind, p.v, r.v] (Event.v ⟨kind, 2, 2, r.peer, p.name, r.k, 0, r.m, r.mine, p.clock⟩) [] := by
  refine Spec.of_runs Go.Proofs.Tryz.f122 Go.Proofs.Tryz.func122 rfl ?_
  intro w0 M0
  simp only [Go.Proofs.Tryz.f122, List.replicate, List.cons_append, List.nil_append, z, seval]
  (refine FINS_done ?_; simp only [z, seval])
theorem FirstB_spec (w : World) (me : Int) (m : Msg) {N : Nat} (hw : w.fit N) (h5 : 21 ≤ N) (hN : N ≤ 400000000000) (hme : U me) (hm : m.ok) (hr : Right10 w.people = true) : Spec PP GG 51 [w.v, u32 me, m.v] (.tup [(firstB w me m).1.v, i64 (firstB w me m).2]) [] := by
  have hP := person_spec w hw (by omega) me hme
  have hPr := pPair_spec w.people m.a me hm.2.2.1 hme (by have := hw.people; omega)
  have hMy := uMay_spec (personW w me).used w.conf.used m.run (by have := personW_used hw me; omega)
  have hNo := uNote_spec (personW w me).used w.conf.used m.run (by have := personW_used hw me; omega)
  have hRm := room_spec' w hw (by omega) 1 1
  have hD := draw_spec w hw (by omega)
  have hS : Spec PP GG 31 _ (.tup [(bS w me m).1.v, u32 (bS w me m).2.1, i64 (bS w me m).2.2]) [] := seal_spec (drawW w).1 (fit_draw hw (by omega)) (by omega) (personW w me).key 7 ⟨(drawW w).2, m.run, m.a, me, 0, 0, 0⟩
  have hU : (personW w me).runs.length ≤ N := personW_runs hw me
  have hAd := pAdd_spec (personW w me).runs w.conf.runs (bRun w m) (by omega)
  have hW : Spec PP GG 44 [(bS w me m).1.v, Person.v ⟨(personW w me).name, (personW w me).key, (personW w me).clock, (personW w me).used ++ [m.run], (personW w me).runs ++ [bRun w m], (personW w me).corrupt⟩] (withW (bS w me m).1 (bP w me m)).v [] := with_spec (bS w me m).1 (bS_fit hw h5 hN hme hm) (by omega) (bP w me m) (bP_ok hw hN me hm).1
  have hL : Spec PP GG 39 _ (bY w me m).v [] := log_spec (withW (bS w me m).1 (bP w me m)) (bW_fit hw h5 hN hme hm) (by omega) (bEv w me m)
  have hSn := send_spec (bY w me m) (bY_fit hw h5 hN hme hm) (by omega) 0 (bMsg w me m) (bMsg_ok hw hN hme hm)
  rw [← bZ] at hSn
  have hE := bEvent_spec 3 ⟨(personW w me).name, (personW w me).key, (personW w me).clock, (personW w me).used ++ [m.run], (personW w me).runs ++ [bRun w m], (personW w me).corrupt⟩ (bRun w m)
  have hnm := fun h => name_of hr hme h
  have hM5 := fun b => must_spec b 5
  have hM10 := fun b => must_spec b 10
  clear hw hr hm
  cases c0 : (m.b == me) with
  | false =>
    have e : firstB w me m = (w, 5) := by simp only [firstB, c0, Bool.false_and, cond_false]
    rw [e]
    refine Spec.of_runs Go.Proofs.Tryz.f51 Go.Proofs.Tryz.func51 rfl ?_
    intro w0 M0
    simp only [Go.Proofs.Tryz.f51, List.replicate, List.cons_append, List.nil_append, z, seval]
    (refine CU (hP) (h := ?_); simp only [z, seval])
    (refine CALLS_in (fn := Go.Proofs.Tryz.f115) Go.Proofs.Tryz.func115 rfl (by kernel_rfl) ?_; simp only [Go.Proofs.Tryz.f115, List.replicate, List.cons_append, List.nil_append, z, seval])
    (refine RUNs_unroll 4 ?_; simp only [z, seval])
    (refine CALLS_in (fn := Go.Proofs.Tryz.f116) Go.Proofs.Tryz.func116 rfl (by kernel_rfl) ?_; simp only [Go.Proofs.Tryz.f116, List.replicate, List.cons_append, List.nil_append, z, seval])
    simp only [c0, z, seval]
    (refine CU (hM5 false) (h := ?_); simp only [z, seval])
    (refine FINS_done ?_; simp only [z, seval])
  | true =>
  cases c1 : pairM w.people m.a me with
  | false =>
    rw [c1] at hPr
    have e : firstB w me m = (w, 5) := by simp only [firstB, c0, c1, Bool.true_and, cond_false]
    rw [e]
    refine Spec.of_runs Go.Proofs.Tryz.f51 Go.Proofs.Tryz.func51 rfl ?_
    intro w0 M0
    simp only [Go.Proofs.Tryz.f51, List.replicate, List.cons_append, List.nil_append, z, seval]
    (refine CU (hP) (h := ?_); simp only [z, seval])
    (refine CALLS_in (fn := Go.Proofs.Tryz.f115) Go.Proofs.Tryz.func115 rfl (by kernel_rfl) ?_; simp only [Go.Proofs.Tryz.f115, List.replicate, List.cons_append, List.nil_append, z, seval])
    (refine RUNs_unroll 4 ?_; simp only [z, seval])
    (refine CALLS_in (fn := Go.Proofs.Tryz.f116) Go.Proofs.Tryz.func116 rfl (by kernel_rfl) ?_; simp only [Go.Proofs.Tryz.f116, List.replicate, List.cons_append, List.nil_append, z, seval])
    simp only [c0, z, seval]
    (refine CU (hPr) (h := ?_); simp only [z, seval])
    (refine CU (hM5 false) (h := ?_); simp only [z, seval])
    (refine FINS_done ?_; simp only [z, seval])
  | true =>
  rw [c1] at hPr
  rw [hnm (pair_in c1).2.2.2.2] at hW hE
  cases c2 : (usedMay (personW w me).used w.conf.used m.run == 0) with
  | false =>
    have e : firstB w me m = (w, usedMay (personW w me).used w.conf.used m.run) := by simp only [firstB, c0, c1, c2, Bool.true_and, cond_true, cond_false]
    rw [e]
    refine Spec.of_runs Go.Proofs.Tryz.f51 Go.Proofs.Tryz.func51 rfl ?_
    intro w0 M0
    simp only [Go.Proofs.Tryz.f51, List.replicate, List.cons_append, List.nil_append, z, seval]
    (refine CU (hP) (h := ?_); simp only [z, seval])
    (refine CALLS_in (fn := Go.Proofs.Tryz.f115) Go.Proofs.Tryz.func115 rfl (by kernel_rfl) ?_; simp only [Go.Proofs.Tryz.f115, List.replicate, List.cons_append, List.nil_append, z, seval])
    (refine RUNs_unroll 4 ?_; simp only [z, seval])
    (refine CALLS_in (fn := Go.Proofs.Tryz.f116) Go.Proofs.Tryz.func116 rfl (by kernel_rfl) ?_; simp only [Go.Proofs.Tryz.f116, List.replicate, List.cons_append, List.nil_append, z, seval])
    simp only [c0, z, seval]
    (refine CU (hPr) (h := ?_); simp only [z, seval])
    (refine CU (hM5 true) (h := ?_); simp only [z, seval])
    (refine RUNs_unr ?_; simp only [z, seval])
    (refine CALLS_in (fn := Go.Proofs.Tryz.f118) Go.Proofs.Tryz.func118 rfl (by kernel_rfl) ?_; simp only [Go.Proofs.Tryz.f118, List.replicate, List.cons_append, List.nil_append, z, seval])
    (refine CU (hMy) (h := ?_); simp only [z, seval])
    simp only [c2, z, seval]
    (refine FINS_done ?_; simp only [z, seval])
  | true =>
  have c2' : usedMay (personW w me).used w.conf.used m.run = 0 := by simpa using c2
  have hno : usedNote (personW w me).used w.conf.used m.run = ((personW w me).used ++ [m.run], 0) := by rw [usedNote, c2]; rfl
  rw [hno] at hNo
  cases c3 : full w (personW w me) with
  | true =>
    have e : firstB w me m = (w, 10) := by simp only [firstB, c0, c1, c2, c3, Bool.true_and, cond_true, cond_false, Bool.not_true, Bool.false_and]
    rw [e]
    have c3' : decide (((personW w me).runs.length : Int) < w.conf.runs) = false := by simp only [full, decide_eq_true_eq] at c3; exact decide_eq_false (by omega)
    refine Spec.of_runs Go.Proofs.Tryz.f51 Go.Proofs.Tryz.func51 rfl ?_
    intro w0 M0
    simp only [Go.Proofs.Tryz.f51, List.replicate, List.cons_append, List.nil_append, z, seval]
    (refine CU (hP) (h := ?_); simp only [z, seval])
    (refine CALLS_in (fn := Go.Proofs.Tryz.f115) Go.Proofs.Tryz.func115 rfl (by kernel_rfl) ?_; simp only [Go.Proofs.Tryz.f115, List.replicate, List.cons_append, List.nil_append, z, seval])
    (refine RUNs_unroll 4 ?_; simp only [z, seval])
    (refine CALLS_in (fn := Go.Proofs.Tryz.f116) Go.Proofs.Tryz.func116 rfl (by kernel_rfl) ?_; simp only [Go.Proofs.Tryz.f116, List.replicate, List.cons_append, List.nil_append, z, seval])
    simp only [c0, z, seval]
    (refine CU (hPr) (h := ?_); simp only [z, seval])
    (refine CU (hM5 true) (h := ?_); simp only [z, seval])
    (refine RUNs_unr ?_; simp only [z, seval])
    (refine CALLS_in (fn := Go.Proofs.Tryz.f118) Go.Proofs.Tryz.func118 rfl (by kernel_rfl) ?_; simp only [Go.Proofs.Tryz.f118, List.replicate, List.cons_append, List.nil_append, z, seval])
    (refine CU (hMy) (h := ?_); simp only [z, seval])
    simp only [c2, z, seval]
    (refine RUNs_unr ?_; simp only [z, seval])
    (refine CALLS_in (fn := Go.Proofs.Tryz.f120) Go.Proofs.Tryz.func120 rfl (by kernel_rfl) ?_; simp only [Go.Proofs.Tryz.f120, List.replicate, List.cons_append, List.nil_append, z, seval])
    simp only [c3', z, seval]
    (refine CU (hM10 false) (h := ?_); simp only [z, seval])
    (refine FINS_done ?_; simp only [z, seval])
  | false =>
  have c3' : decide (((personW w me).runs.length : Int) < w.conf.runs) = true := by simp only [full, decide_eq_false_iff_not] at c3; exact decide_eq_true (by omega)
  cases c4 : roomW w 1 1 with
  | false =>
    rw [c4] at hRm
    have e : firstB w me m = (w, 10) := by simp only [firstB, c0, c1, c2, c3, c4, Bool.true_and, cond_true, cond_false, Bool.not_false]
    rw [e]
    refine Spec.of_runs Go.Proofs.Tryz.f51 Go.Proofs.Tryz.func51 rfl ?_
    intro w0 M0
    simp only [Go.Proofs.Tryz.f51, List.replicate, List.cons_append, List.nil_append, z, seval]
    (refine CU (hP) (h := ?_); simp only [z, seval])
    (refine CALLS_in (fn := Go.Proofs.Tryz.f115) Go.Proofs.Tryz.func115 rfl (by kernel_rfl) ?_; simp only [Go.Proofs.Tryz.f115, List.replicate, List.cons_append, List.nil_append, z, seval])
    (refine RUNs_unroll 4 ?_; simp only [z, seval])
    (refine CALLS_in (fn := Go.Proofs.Tryz.f116) Go.Proofs.Tryz.func116 rfl (by kernel_rfl) ?_; simp only [Go.Proofs.Tryz.f116, List.replicate, List.cons_append, List.nil_append, z, seval])
    simp only [c0, z, seval]
    (refine CU (hPr) (h := ?_); simp only [z, seval])
    (refine CU (hM5 true) (h := ?_); simp only [z, seval])
    (refine RUNs_unr ?_; simp only [z, seval])
    (refine CALLS_in (fn := Go.Proofs.Tryz.f118) Go.Proofs.Tryz.func118 rfl (by kernel_rfl) ?_; simp only [Go.Proofs.Tryz.f118, List.replicate, List.cons_append, List.nil_append, z, seval])
    (refine CU (hMy) (h := ?_); simp only [z, seval])
    simp only [c2, z, seval]
    (refine RUNs_unr ?_; simp only [z, seval])
    (refine CALLS_in (fn := Go.Proofs.Tryz.f120) Go.Proofs.Tryz.func120 rfl (by kernel_rfl) ?_; simp only [Go.Proofs.Tryz.f120, List.replicate, List.cons_append, List.nil_append, z, seval])
    simp only [c3', z, seval]
    (refine CU (hRm) (h := ?_); simp only [z, seval])
    (refine CU (hM10 false) (h := ?_); simp only [z, seval])
    (refine FINS_done ?_; simp only [z, seval])
  | true =>
  rw [c4] at hRm
  rw [bZ_ok c4] at hSn
  have e0 : firstB w me m = (bif (bS w me m).2.2 == 0 then (bZ w me m, 0) else (w, (bS w me m).2.2)) := by simp only [firstB, c0, c1, c2, c3, c4, Bool.true_and, cond_true, Bool.not_false]
  rw [e0]
  clear e0
  have hadd : runsAdd (personW w me).runs w.conf.runs (bRun w m) = ((personW w me).runs ++ [bRun w m], 0) := by
    rw [full] at c3
    rw [runsAdd, c3]; rfl
  rw [hadd] at hAd
  refine Spec.of_runs Go.Proofs.Tryz.f51 Go.Proofs.Tryz.func51 rfl ?_
  intro w0 M0
  simp only [Go.Proofs.Tryz.f51, List.replicate, List.cons_append, List.nil_append, z, seval]
  (refine CU (hP) (h := ?_); simp only [z, seval])
  simp only [hnm (pair_in c1).2.2.2.2, z, seval]
  (refine CALLS_in (fn := Go.Proofs.Tryz.f115) Go.Proofs.Tryz.func115 rfl (by kernel_rfl) ?_; simp only [Go.Proofs.Tryz.f115, List.replicate, List.cons_append, List.nil_append, z, seval])
  (refine RUNs_unroll 4 ?_; simp only [z, seval])
  (refine CALLS_in (fn := Go.Proofs.Tryz.f116) Go.Proofs.Tryz.func116 rfl (by kernel_rfl) ?_; simp only [Go.Proofs.Tryz.f116, List.replicate, List.cons_append, List.nil_append, z, seval])
  simp only [c0, z, seval]
  (refine CU (hPr) (h := ?_); simp only [z, seval])
  (refine CU (hM5 true) (h := ?_); simp only [z, seval])
  (refine RUNs_unr ?_; simp only [z, seval])
  (refine CALLS_in (fn := Go.Proofs.Tryz.f118) Go.Proofs.Tryz.func118 rfl (by kernel_rfl) ?_; simp only [Go.Proofs.Tryz.f118, List.replicate, List.cons_append, List.nil_append, z, seval])
  (refine CU (hMy) (h := ?_); simp only [z, seval])
  simp only [c2, z, seval]
  (refine RUNs_unr ?_; simp only [z, seval])
  (refine CALLS_in (fn := Go.Proofs.Tryz.f120) Go.Proofs.Tryz.func120 rfl (by kernel_rfl) ?_; simp only [Go.Proofs.Tryz.f120, List.replicate, List.cons_append, List.nil_append, z, seval])
  simp only [c3', z, seval]
  (refine CU (hRm) (h := ?_); simp only [z, seval])
  (refine CU (hM10 true) (h := ?_); simp only [z, seval])
  (refine RUNs_unr ?_; simp only [z, seval])
  (refine CU (hD) (h := ?_); simp only [z, seval])
  (refine CU (hS) (h := ?_); simp only [z, seval])
  cases c5 : ((bS w me m).2.2 == 0) with
  | false =>
    simp only [c5, z, seval]
    (refine FINS_done ?_; simp only [z, seval])
  | true =>
  simp only [c5, z, seval]
  (refine CU (hNo) (h := ?_); simp only [z, seval])
  (refine CU (hAd) (h := ?_); simp only [z, seval])
  (refine RUNs_draw 1 (by kernel_rfl) ?_; simp only [z, seval])
  (refine DU (hW) (h := ?_); simp only [z, seval])
  (refine DU (hE) (h := ?_); simp only [z, seval])
  (refine DU (hL) (h := ?_); simp only [z, seval])
  (refine ⟨by kernel_rfl, ?_⟩)
  (refine CU (hSn) (h := ?_); simp only [z, seval])
  (refine FINS_done ?_; simp only [z, seval])
end Ch

/- The responder with run identifiers: shares. -/
set_option maxRecDepth 100000
set_option maxHeartbeats 4000000
set_option linter.unusedSimpArgs false
set_option linter.unusedVariables false
namespace Ch
open Go Go.Ab
theorem bWaits_spec (l : List Run) (m : Int) (hl : l.length ≤ 1000000000000) : Spec PP GG 124 [runsV l, u32 m] (.tup [i64 ((l.findIdx? (waitM 2 2 m)).getD 0 : Nat), .bool (l.findIdx? (waitM 2 2 m)).isSome]) [] := by
  have hN := fun f => pNext_spec l f 2 2 1 (by omega)
  refine Spec.of_runs Go.Proofs.Tryz.f124 Go.Proofs.Tryz.func124 rfl ?_
  intro w0 M0
  simp only [Go.Proofs.Tryz.f124, List.replicate, List.cons_append, List.nil_append, z, seval]
  (refine CU (hN 0) (h := ?_); simp only [z, seval])
  refine RUNs_rangeS (l.length + 1) (fun j (f : Nat) => j ≤ f ∧ f ≤ l.length ∧ ∀ i, i < f → waitM 2 2 m (runAt l i) = false) (fun _ f => [(6, i64 ((nextR l f (isRun 2 2 1)).getD 0 : Nat)), (7, .bool (nextR l f (isRun 2 2 1)).isSome)]) (fun _ _ => []) 0 ?_ (by simp only [z, seval]; exact wk) rfl ?_
  · exact ⟨Nat.le_refl _, Nat.zero_le _, fun i hi => absurd hi (Nat.not_lt_zero _)⟩
  rintro ⟨j, f, hj, h1, h2, h3⟩
  have hN := fun i => hN i
  simp only [z, seval]
  cases c : nextR l f (isRun 2 2 1) with
  | none =>
    have e : l.findIdx? (waitM 2 2 m) = none := first_none (fun i hi => by
      rcases Nat.lt_or_ge i f with h | h
      · exact h3 i h
      · exact wait_not (nextR_none c i h hi))
    simp only [Option.isSome_none, Option.getD_none, z, seval]
    (refine FINS_done ?_; simp only [z, seval])
    rw [e]; rfl
  | some i =>
    obtain ⟨n1, n2, n3, n4⟩ := nextR_some c
    have h4 : ∀ k, k < i → waitM 2 2 m (runAt l k) = false := fun k hk => by
      rcases Nat.lt_or_ge k f with h | h
      · exact h3 k h
      · exact wait_not (n4 k h hk)
    have hg := runAt_get n1
    simp only [Option.isSome_some, Option.getD_some, getMap Run.v l n1, z, seval]
    cases d : (l[i].m == m) with
    | true =>
      have e : l.findIdx? (waitM 2 2 m) = some i := first_at n1 (by rw [waitM, n3, hg, d]; rfl) h4
      simp only [d, z, seval]
      (refine FINS_done ?_; simp only [z, seval])
      rw [e]; rfl
    | false =>
      simp only [d, w64s (i := i) (by omega), z, seval]
      (refine CU (hN (i + 1)) (h := ?_); simp only [z, seval])
      have hlt : j < l.length + 1 := by omega
      (refine NX (i + 1) ?_ (by rfl) hlt ?_; simp only [z, seval]; exact wk)
      refine ⟨by show j + 1 ≤ i + 1; omega, n1, fun k hk => ?_⟩
      rcases Nat.lt_or_ge k i with h | h
      · exact h4 k h
      · obtain rfl : k = i := by omega
        rw [waitM, hg, d, Bool.and_false]
theorem told8 {w : World} {key h : Int} (ho : (openW w key 8 h).2 = true) : (openW w key 8 h).1 = ⟨(openW w key 8 h).1.n, 0, 0, 0, (openW w key 8 h).1.k, 0, 0⟩ := by
  revert ho
  unfold openW
  cases hb : boxOpen w.box key 8 h with
  | none => intro ho; cases ho
  | some l =>
    simp only [partGet]
    cases (l.length == (partWs 8 zPart).length)
    · intro ho; exact absurd ho (by simp [label?])
    · intro _; rfl
theorem ShareB_spec (w : World) (me : Int) (m : Msg) {N : Nat} (hw : w.fit N) (h5 : 21 ≤ N) (hN : N ≤ 400000000000) (hme : U me) (hm : m.ok) (hr : Right10 w.people = true) : Spec PP GG 53 [w.v, u32 me, m.v] (.tup [(shareB w me m).1.v, i64 (shareB w me m).2]) [] := by
  have hP := person_spec w hw (by omega) me hme
  have hU : (personW w me).runs.length ≤ N := personW_runs hw me
  have hW := bWaits_spec (personW w me).runs m.run (by omega)
  have hO := open_spec w hw (by omega) (personW w me).key 8 m.more
  have hRm := room_spec' w hw (by omega) 0 1
  have hM6 := fun b => must_spec b 6
  have hM10 := fun b => must_spec b 10
  have hnm := fun h => name_of hr hme h
  cases c1 : bI w me m with
  | none =>
    have e : shareB w me m = (w, 9) := by simp only [shareB, c1]
    rw [e]
    rw [bI] at c1
    rw [c1] at hW
    simp only [Option.isSome_none, Option.getD_none] at hW
    clear hw hr
    refine Spec.of_runs Go.Proofs.Tryz.f53 Go.Proofs.Tryz.func53 rfl ?_
    intro w0 M0
    simp only [Go.Proofs.Tryz.f53, List.replicate, List.cons_append, List.nil_append, z, seval]
    (refine CU (hP) (h := ?_); simp only [z, seval])
    (refine CU (hW) (h := ?_); simp only [z, seval])
    (refine FINS_done ?_; simp only [z, seval])
  | some i =>
    have e : shareB w me m = bif (bO w me m).2 && (bO w me m).1.n == (runAt (personW w me).runs i).mine then (bif roomW w 0 1 then (bX w me m i (bO w me m).1.k, 0) else (w, 10)) else (w, 6) := by simp only [shareB, c1]
    rw [e]
    have c1' : (personW w me).runs.findIdx? (waitM 2 2 m.run) = some i := c1
    obtain ⟨hi, r1, r2, r3, r4⟩ := wait_run c1'
    have hg := runAt_get hi
    have hin := hnm (has_runs hi)
    rw [c1'] at hW
    simp only [Option.isSome_some, Option.getD_some] at hW
    rw [← bO] at hO
    have hS := pSetR_spec (personW w me).runs i (doneR (runAt (personW w me).runs i) (bO w me m).1.k) hi (done_may (.inr r1) (.inr r2)) (by omega)
    have hwt := with_spec w hw (by omega) (setRun (personW w me) i (doneR (runAt (personW w me).runs i) (bO w me m).1.k)) (personW_ok hw me).1
    have hk : U (bO w me m).1.k := (openW_ok hw _ _ _).2.2.2.2.1
    have hfit : (withW w (setRun (personW w me) i (doneR (runAt (personW w me).runs i) (bO w me m).1.k))).fit N := set_fit hw me i (doneR_ok (runAt_ok hw me i) hk)
    have hL : Spec PP GG 39 _ (bCom w me i (bO w me m).1.k).v [] := log_spec _ hfit (by omega) ⟨4, 2, 2, (runAt (personW w me).runs i).peer, me, (bO w me m).1.k, 0, (runAt (personW w me).runs i).m, (runAt (personW w me).runs i).mine, (personW w me).clock⟩
    have hE := bEvent_spec 4 (setRun (personW w me) i (doneR (runAt (personW w me).runs i) (bO w me m).1.k)) (doneR (runAt (personW w me).runs i) (bO w me m).1.k)
    have hSn := send_spec (bCom w me i (bO w me m).1.k) (bCom_fit hw hN hme i hk) (by omega) (runAt (personW w me).runs i).peer ⟨9, m.run, 0, 0, 0, m.box, 0⟩ (msg9_ok hm)
    rw [← bX] at hSn
    have hz := fun h => @bX_ok w me m i (bO w me m).1.k (runAt (personW w me).runs i).peer h
    simp only [setRun, doneR, hin] at hS hwt hL hE
    have ht := @told8 w (personW w me).key m.more
    rw [← bO] at ht
    clear hw hr hfit hm hk
    simp only [hg] at *
    cases c2 : (bO w me m).2 with
    | false =>
      rw [c2] at hO
      simp only [Bool.false_and, cond_false]
      refine Spec.of_runs Go.Proofs.Tryz.f53 Go.Proofs.Tryz.func53 rfl ?_
      intro w0 M0
      simp only [Go.Proofs.Tryz.f53, List.replicate, List.cons_append, List.nil_append, z, seval]
      (refine CU (hP) (h := ?_); simp only [z, seval])
      (refine CU (hW) (h := ?_); simp only [z, seval])
      simp only [getMap Run.v (personW w me).runs hi, z, seval]
      (refine CU (hO) (h := ?_); simp only [z, seval])
      (refine CALLS_in (fn := Go.Proofs.Tryz.f115) Go.Proofs.Tryz.func115 rfl (by kernel_rfl) ?_; simp only [Go.Proofs.Tryz.f115, List.replicate, List.cons_append, List.nil_append, z, seval])
      (refine RUNs_unroll 3 ?_; simp only [z, seval])
      (refine CALLS_in (fn := Go.Proofs.Tryz.f125) Go.Proofs.Tryz.func125 rfl (by kernel_rfl) ?_; simp only [Go.Proofs.Tryz.f125, List.replicate, List.cons_append, List.nil_append, z, seval])
      (refine CU (hM6 false) (h := ?_); simp only [z, seval])
      (refine FINS_done ?_; simp only [z, seval])
    | true =>
    rw [c2] at hO
    have ht := ht c2
    generalize hq : bO w me m = q at *
    obtain ⟨⟨qn, qm, qa, qb, qk, qt, qh⟩, q2⟩ := q
    simp only [Part.mk.injEq] at ht
    obtain ⟨-, rfl, rfl, rfl, -, rfl, rfl⟩ := ht
    simp only [Bool.true_and]
    cases c3 : (qn == (personW w me).runs[i].mine) with
    | false =>
      simp only [cond_false]
      refine Spec.of_runs Go.Proofs.Tryz.f53 Go.Proofs.Tryz.func53 rfl ?_
      intro w0 M0
      simp only [Go.Proofs.Tryz.f53, List.replicate, List.cons_append, List.nil_append, z, seval]
      (refine CU (hP) (h := ?_); simp only [z, seval])
      (refine CU (hW) (h := ?_); simp only [z, seval])
      simp only [getMap Run.v (personW w me).runs hi, z, seval]
      (refine CU (hO) (h := ?_); simp only [z, seval])
      (refine CALLS_in (fn := Go.Proofs.Tryz.f115) Go.Proofs.Tryz.func115 rfl (by kernel_rfl) ?_; simp only [Go.Proofs.Tryz.f115, List.replicate, List.cons_append, List.nil_append, z, seval])
      (refine RUNs_unroll 3 ?_; simp only [z, seval])
      (refine CALLS_in (fn := Go.Proofs.Tryz.f125) Go.Proofs.Tryz.func125 rfl (by kernel_rfl) ?_; simp only [Go.Proofs.Tryz.f125, List.replicate, List.cons_append, List.nil_append, z, seval])
      simp only [c3, z, seval]
      (refine CU (hM6 false) (h := ?_); simp only [z, seval])
      (refine FINS_done ?_; simp only [z, seval])
    | true =>
    cases c4 : roomW w 0 1 with
    | false =>
      rw [c4] at hRm
      simp only [cond_true, cond_false]
      refine Spec.of_runs Go.Proofs.Tryz.f53 Go.Proofs.Tryz.func53 rfl ?_
      intro w0 M0
      simp only [Go.Proofs.Tryz.f53, List.replicate, List.cons_append, List.nil_append, z, seval]
      (refine CU (hP) (h := ?_); simp only [z, seval])
      (refine CU (hW) (h := ?_); simp only [z, seval])
      simp only [getMap Run.v (personW w me).runs hi, z, seval]
      (refine CU (hO) (h := ?_); simp only [z, seval])
      (refine CALLS_in (fn := Go.Proofs.Tryz.f115) Go.Proofs.Tryz.func115 rfl (by kernel_rfl) ?_; simp only [Go.Proofs.Tryz.f115, List.replicate, List.cons_append, List.nil_append, z, seval])
      (refine RUNs_unroll 3 ?_; simp only [z, seval])
      (refine CALLS_in (fn := Go.Proofs.Tryz.f125) Go.Proofs.Tryz.func125 rfl (by kernel_rfl) ?_; simp only [Go.Proofs.Tryz.f125, List.replicate, List.cons_append, List.nil_append, z, seval])
      simp only [c3, z, seval]
      (refine CU (hM6 true) (h := ?_); simp only [z, seval])
      (refine RUNs_unr ?_; simp only [z, seval])
      (refine CALLS_in (fn := Go.Proofs.Tryz.f126) Go.Proofs.Tryz.func126 rfl (by kernel_rfl) ?_; simp only [Go.Proofs.Tryz.f126, List.replicate, List.cons_append, List.nil_append, z, seval])
      (refine CU (hRm) (h := ?_); simp only [z, seval])
      (refine CU (hM10 false) (h := ?_); simp only [z, seval])
      (refine FINS_done ?_; simp only [z, seval])
    | true =>
      rw [c4] at hRm
      rw [hz c4] at hSn
      simp only [cond_true]
      refine Spec.of_runs Go.Proofs.Tryz.f53 Go.Proofs.Tryz.func53 rfl ?_
      intro w0 M0
      simp only [Go.Proofs.Tryz.f53, List.replicate, List.cons_append, List.nil_append, z, seval]
      (refine CU (hP) (h := ?_); simp only [z, seval])
      (refine CU (hW) (h := ?_); simp only [z, seval])
      simp only [getMap Run.v (personW w me).runs hi, z, seval]
      (refine CU (hO) (h := ?_); simp only [z, seval])
      (refine CALLS_in (fn := Go.Proofs.Tryz.f115) Go.Proofs.Tryz.func115 rfl (by kernel_rfl) ?_; simp only [Go.Proofs.Tryz.f115, List.replicate, List.cons_append, List.nil_append, z, seval])
      (refine RUNs_unroll 3 ?_; simp only [z, seval])
      (refine CALLS_in (fn := Go.Proofs.Tryz.f125) Go.Proofs.Tryz.func125 rfl (by kernel_rfl) ?_; simp only [Go.Proofs.Tryz.f125, List.replicate, List.cons_append, List.nil_append, z, seval])
      simp only [c3, z, seval]
      (refine CU (hM6 true) (h := ?_); simp only [z, seval])
      (refine RUNs_unr ?_; simp only [z, seval])
      (refine CALLS_in (fn := Go.Proofs.Tryz.f126) Go.Proofs.Tryz.func126 rfl (by kernel_rfl) ?_; simp only [Go.Proofs.Tryz.f126, List.replicate, List.cons_append, List.nil_append, z, seval])
      (refine CU (hRm) (h := ?_); simp only [z, seval])
      (refine CU (hM10 true) (h := ?_); simp only [z, seval])
      (refine RUNs_unr ?_; simp only [z, seval])
      simp only [hin, z, seval]
      (refine CU (hS) (h := ?_); simp only [z, seval])
      (refine RUNs_draw 2 (by kernel_rfl) ?_; simp only [z, seval])
      (refine DU (hwt) (h := ?_); simp only [z, seval])
      (refine DU (hE) (h := ?_); simp only [z, seval])
      (refine DU (hL) (h := ?_); simp only [z, seval])
      (refine ⟨by kernel_rfl, ?_⟩)
      (refine CU (hSn) (h := ?_); simp only [z, seval])
      (refine FINS_done ?_; simp only [z, seval])
end Ch

/- The responder with run identifiers: the document's. -/
set_option maxRecDepth 100000
set_option maxHeartbeats 4000000
set_option linter.unusedSimpArgs false
set_option linter.unusedVariables false
namespace Ch
open Go Go.Ab
theorem rFirstB_spec (w : World) (me : Int) (m : Msg) {N : Nat} (hw : w.fit N) (h5 : 21 ≤ N) (hN : N ≤ 400000000000) (hme : U me) (hm : m.ok) (hr : Right10 w.people = true) : Spec PP GG 52 [w.v, u32 me, m.v] (.tup [(firstB w me m).1.v, i64 (firstB w me m).2]) [] := by
  have hP := rPerson_spec w hw (by omega) hr me hme
  have hPr := rPair_spec w.people (by have := hw.people; omega) hr m.a me hm.2.2.1 hme
  have hMy := rMay08_spec (personW w me).used w.conf.used m.run (by have := personW_used hw me; omega)
  have hRm := rRoom_spec w 1 1 hw.broom hw.nroom (by have := hw.rows; omega) (by have := hw.grams; omega)
  have hD := rDraw_spec w hw (by omega)
  have hS : Spec PP GG 32 _ (.tup [(bS w me m).1.v, u32 (bS w me m).2.1, i64 (bS w me m).2.2]) [] := rSeal_spec (drawW w).1 (fit_draw hw (by omega)) (by omega) (personW w me).key 7 ⟨(drawW w).2, m.run, m.a, me, 0, 0, 0⟩
  have hU : (personW w me).runs.length ≤ N := personW_runs hw me
  have hV : (personW w me).used.length ≤ N := personW_used hw me
  have hW : Spec PP GG 45 [(bS w me m).1.v, Person.v ⟨(personW w me).name, (personW w me).key, (personW w me).clock, (personW w me).used ++ [m.run], (personW w me).runs ++ [bRun w m], (personW w me).corrupt⟩] (withW (bS w me m).1 (bP w me m)).v [] := rWith_spec (bS w me m).1 (bS_fit hw h5 hN hme hm) (by omega) (by rw [bS, people_seal]; exact hr) (bP w me m) (bP_ok hw hN me hm).1
  have hL : Spec PP GG 40 _ (bY w me m).v [] := rLog_spec (withW (bS w me m).1 (bP w me m)) (bW_fit hw h5 hN hme hm) (by omega) (bEv w me m)
  have hSn : Spec PP GG 38 _ (.tup [(bZ w me m).v, _]) [] := rSend_spec (bY w me m) (bY_fit hw h5 hN hme hm) (by omega) 0 (bMsg w me m) (bMsg_ok hw hN hme hm)
  have e1 : (personW w me).used.map u32 ++ [u32 m.run] = ((personW w me).used ++ [m.run]).map u32 := by simp
  have e2 : (personW w me).runs.map Run.v ++ [Run.v ⟨2, 2, m.a, (drawW w).2, 0, m.run, 0, 0, 1⟩] = ((personW w me).runs ++ [bRun w m]).map Run.v := by simp [bRun]
  simp only [mv] at e2
  clear hw hr hm
  cases c0 : (m.b == me) with
  | false =>
    have e : firstB w me m = (w, 5) := by simp only [firstB, c0, Bool.false_and, cond_false]
    rw [e]
    refine Spec.of_runs Go.Proofs.Tryz.f52 Go.Proofs.Tryz.func52 rfl ?_
    intro w0 M0
    simp only [Go.Proofs.Tryz.f52, List.replicate, List.cons_append, List.nil_append, z, seval]
    (refine CU (hP) (h := ?_); simp only [z, seval])
    simp only [c0, z, seval]
    (refine FINS_done ?_; simp only [z, seval])
  | true =>
  cases c1 : pairM w.people m.a me with
  | false =>
    rw [c1] at hPr
    have e : firstB w me m = (w, 5) := by simp only [firstB, c0, c1, Bool.true_and, cond_false]
    rw [e]
    refine Spec.of_runs Go.Proofs.Tryz.f52 Go.Proofs.Tryz.func52 rfl ?_
    intro w0 M0
    simp only [Go.Proofs.Tryz.f52, List.replicate, List.cons_append, List.nil_append, z, seval]
    (refine CU (hP) (h := ?_); simp only [z, seval])
    simp only [c0, z, seval]
    (refine CU (hPr) (h := ?_); simp only [z, seval])
    (refine FINS_done ?_; simp only [z, seval])
  | true =>
  rw [c1] at hPr
  cases c2 : (usedMay (personW w me).used w.conf.used m.run == 0) with
  | false =>
    have e : firstB w me m = (w, usedMay (personW w me).used w.conf.used m.run) := by simp only [firstB, c0, c1, c2, Bool.true_and, cond_true, cond_false]
    rw [e]
    refine Spec.of_runs Go.Proofs.Tryz.f52 Go.Proofs.Tryz.func52 rfl ?_
    intro w0 M0
    simp only [Go.Proofs.Tryz.f52, List.replicate, List.cons_append, List.nil_append, z, seval]
    (refine CU (hP) (h := ?_); simp only [z, seval])
    simp only [c0, z, seval]
    (refine CU (hPr) (h := ?_); simp only [z, seval])
    (refine CU (hMy) (h := ?_); simp only [z, seval])
    simp only [c2, z, seval]
    (refine FINS_done ?_; simp only [z, seval])
  | true =>
  cases c3 : full w (personW w me) with
  | true =>
    have e : firstB w me m = (w, 10) := by simp only [firstB, c0, c1, c2, c3, Bool.true_and, cond_true, cond_false, Bool.not_true, Bool.false_and]
    rw [e]
    simp only [full] at c3
    refine Spec.of_runs Go.Proofs.Tryz.f52 Go.Proofs.Tryz.func52 rfl ?_
    intro w0 M0
    simp only [Go.Proofs.Tryz.f52, List.replicate, List.cons_append, List.nil_append, z, seval]
    (refine CU (hP) (h := ?_); simp only [z, seval])
    simp only [c0, z, seval]
    (refine CU (hPr) (h := ?_); simp only [z, seval])
    (refine CU (hMy) (h := ?_); simp only [z, seval])
    simp only [c2, c3, z, seval]
    (refine FINS_done ?_; simp only [z, seval])
  | false =>
  cases c4 : roomW w 1 1 with
  | false =>
    rw [c4] at hRm
    have e : firstB w me m = (w, 10) := by simp only [firstB, c0, c1, c2, c3, c4, Bool.true_and, cond_true, cond_false, Bool.not_false]
    rw [e]
    simp only [full] at c3
    refine Spec.of_runs Go.Proofs.Tryz.f52 Go.Proofs.Tryz.func52 rfl ?_
    intro w0 M0
    simp only [Go.Proofs.Tryz.f52, List.replicate, List.cons_append, List.nil_append, z, seval]
    (refine CU (hP) (h := ?_); simp only [z, seval])
    simp only [c0, z, seval]
    (refine CU (hPr) (h := ?_); simp only [z, seval])
    (refine CU (hMy) (h := ?_); simp only [z, seval])
    simp only [c2, c3, z, seval]
    (refine CU (hRm) (h := ?_); simp only [z, seval])
    (refine FINS_done ?_; simp only [z, seval])
  | true =>
  rw [c4] at hRm
  have e0 : firstB w me m = (bif (bS w me m).2.2 == 0 then (bZ w me m, 0) else (w, (bS w me m).2.2)) := by simp only [firstB, c0, c1, c2, c3, c4, Bool.true_and, cond_true, Bool.not_false]
  rw [e0]
  clear e0
  simp only [full] at c3
  refine Spec.of_runs Go.Proofs.Tryz.f52 Go.Proofs.Tryz.func52 rfl ?_
  intro w0 M0
  simp only [Go.Proofs.Tryz.f52, List.replicate, List.cons_append, List.nil_append, z, seval]
  (refine CU (hP) (h := ?_); simp only [z, seval])
  simp only [c0, z, seval]
  (refine CU (hPr) (h := ?_); simp only [z, seval])
  (refine CU (hMy) (h := ?_); simp only [z, seval])
  simp only [c2, c3, z, seval]
  (refine CU (hRm) (h := ?_); simp only [z, seval])
  (refine CU (hD) (h := ?_); simp only [z, seval])
  (refine CU (hS) (h := ?_); simp only [z, seval])
  cases c5 : ((bS w me m).2.2 == 0) with
  | false =>
    simp only [c5, z, seval]
    (refine FINS_done ?_; simp only [z, seval])
  | true =>
  simp only [c5, z, seval]
  first
    | (refine OPC_ok ?_ ?_
       · exact okMap _ (fun a => rfl) (by omega)
       simp only [z, seval]
       refine OPC_ok ?_ ?_
       · simp; omega
       simp only [e1, z, seval])
    | ((refine RUNs_draw 4 (by kernel_rfl) ?_; simp only [z, seval])
       refine DOC_ok ?_ ?_
       · exact okMap _ (fun a => rfl) (by omega)
       simp only [z, seval]
       refine DOC_ok ?_ ?_
       · simp; omega
       simp only [z, seval]
       (refine ⟨by kernel_rfl, ?_⟩)
       simp only [e1, z, seval])
  first
    | (refine OPC_ok ?_ ?_
       · exact okMap _ (fun a => rfl) (by omega)
       simp only [z, seval]
       refine OPC_ok ?_ ?_
       · simp; omega
       simp only [e2, z, seval])
    | ((refine RUNs_draw 4 (by kernel_rfl) ?_; simp only [z, seval])
       refine DOC_ok ?_ ?_
       · exact okMap _ (fun a => rfl) (by omega)
       simp only [z, seval]
       refine DOC_ok ?_ ?_
       · simp; omega
       simp only [z, seval]
       (refine ⟨by kernel_rfl, ?_⟩)
       simp only [e2, z, seval])
  (refine CU (hW) (h := ?_); simp only [z, seval])
  (refine CU (hL) (h := ?_); simp only [z, seval])
  (refine CU (hSn) (h := ?_); simp only [z, seval])
  (refine FINS_done ?_; simp only [z, seval])
theorem rShareB_spec (w : World) (me : Int) (m : Msg) {N : Nat} (hw : w.fit N) (h5 : 21 ≤ N) (hN : N ≤ 400000000000) (hme : U me) (hm : m.ok) (hr : Right10 w.people = true) (hb7 : Right07 w.box = true) : Spec PP GG 54 [w.v, u32 me, m.v] (.tup [(shareB w me m).1.v, i64 (shareB w me m).2]) [] := by
  have hP := rPerson_spec w hw (by omega) hr me hme
  have hU : (personW w me).runs.length ≤ N := personW_runs hw me
  have hO := rOpen_spec w hw (by omega) hb7 (personW w me).key 8 m.more
  have hRm := rRoom_spec w 0 1 hw.broom hw.nroom (by have := hw.rows; omega) (by have := hw.grams; omega)
  rw [← bO] at hO
  have hk : U (bO w me m).1.k := (openW_ok hw _ _ _).2.2.2.2.1
  have hS : ∀ i, (hi : i < (personW w me).runs.length) → Spec PP GG 64 [w.v, (personW w me).v, i64 i, Run.v ⟨(personW w me).runs[i].proto, (personW w me).runs[i].role, (personW w me).runs[i].peer, (personW w me).runs[i].mine, (personW w me).runs[i].their, (personW w me).runs[i].m, (bO w me m).1.k, (personW w me).runs[i].t, 3⟩] (withW w (setRun (personW w me) i (doneR (runAt (personW w me).runs i) (bO w me m).1.k))).v [] := fun i hi => by
    have := rWith15_spec w hw (by omega) hr (personW w me) (personW_ok hw me).1 i hi (by omega) (doneR (runAt (personW w me).runs i) (bO w me m).1.k)
    rw [runAt_get hi] at this ⊢
    exact this
  have hL : ∀ i, (hi : i < (personW w me).runs.length) → Spec PP GG 40 [(withW w (setRun (personW w me) i (doneR (runAt (personW w me).runs i) (bO w me m).1.k))).v, Event.v ⟨4, 2, 2, (personW w me).runs[i].peer, me, (bO w me m).1.k, 0, (personW w me).runs[i].m, (personW w me).runs[i].mine, (personW w me).clock⟩] (bCom w me i (bO w me m).1.k).v [] := fun i hi => by
    have hfit : (withW w (setRun (personW w me) i (doneR (runAt (personW w me).runs i) (bO w me m).1.k))).fit N := set_fit hw me i (doneR_ok (runAt_ok hw me i) hk)
    have := rLog_spec _ hfit (by omega) ⟨4, 2, 2, (runAt (personW w me).runs i).peer, me, (bO w me m).1.k, 0, (runAt (personW w me).runs i).m, (runAt (personW w me).runs i).mine, (personW w me).clock⟩
    rw [bCom]
    rw [runAt_get hi] at this ⊢
    exact this
  have hSn : ∀ i, (hi : i < (personW w me).runs.length) → Spec PP GG 38 [(bCom w me i (bO w me m).1.k).v, u32 (personW w me).runs[i].peer, Msg.v ⟨9, m.run, 0, 0, 0, m.box, 0⟩] (.tup [(bX w me m i (bO w me m).1.k).v, i64 (sendW (bCom w me i (bO w me m).1.k) (runAt (personW w me).runs i).peer ⟨9, m.run, 0, 0, 0, m.box, 0⟩).2]) [] := fun i hi => by
    have := rSend_spec (bCom w me i (bO w me m).1.k) (bCom_fit hw hN hme i hk) (by omega) (runAt (personW w me).runs i).peer ⟨9, m.run, 0, 0, 0, m.box, 0⟩ (msg9_ok hm)
    rw [← bX] at this
    rw [runAt_get hi] at this ⊢
    exact this
  have hfa := @first_at (personW w me).runs (waitM 2 2 m.run)
  have hfn := @first_none (personW w me).runs (waitM 2 2 m.run)
  have hsh : shareB w me m = match (personW w me).runs.findIdx? (waitM 2 2 m.run) with
    | none => (w, 9)
    | some i => bif (bO w me m).2 && (bO w me m).1.n == (runAt (personW w me).runs i).mine then (bif roomW w 0 1 then (bX w me m i (bO w me m).1.k, 0) else (w, 10)) else (w, 6) := rfl
  clear hw hr hb7 hm hk
  generalize hq : bO w me m = q at *
  generalize hp : personW w me = p at *
  obtain ⟨⟨qn, qm, qa, qb, qk, qt, qh⟩, q2⟩ := q
  refine Spec.of_runs Go.Proofs.Tryz.f54 Go.Proofs.Tryz.func54 rfl ?_
  intro w0 M0
  simp only [Go.Proofs.Tryz.f54, List.replicate, List.cons_append, List.nil_append, z, seval]
  (refine CU (hP) (h := ?_); simp only [z, seval])
  refine RUNs_rangeS (p.runs.length) (fun i (_ : Unit) => ∀ j, j < i → waitM 2 2 m.run (runAt p.runs j) = false) (fun i _ => [(9, i64 i)]) (fun i _ => []) () ?_ (by simp only [z, seval]; exact wk) rfl ?_
  · intro j h; exact absurd h (Nat.not_lt_zero _)
  rintro ⟨i, _, hi, hw'⟩
  simp only [z, seval]
  first | refine brk (fun h => ?_) (fun h => ?_) | fail
  · have hlt : i < p.runs.length := by have := of_decide_eq_true h; omega
    have hg := runAt_get hlt
    have hS := hS i hlt
    have hL := hL i hlt
    have hSn := hSn i hlt
    simp only [h, getMap Run.v p.runs hlt, z, seval]
    cases c : waitM 2 2 m.run p.runs[i] with
    | true =>
      have e := hfa hlt (by rw [hg]; exact c) hw'
      rw [e] at hsh
      simp only [hg] at hsh
      simp only [waitM, isRun, Bool.and_eq_true] at c
      simp only [c.1.1, c.1.2.1, c.1.2.2, c.2, z, seval]
      (refine CU (hO) (h := ?_); simp only [z, seval])
      cases d1 : q2 with
      | false =>
        rw [d1] at hsh
        simp only [d1, z, seval]
        (refine FINS_done ?_; simp only [z, seval])
        simp only [hsh, Bool.false_and, cond_false, z, seval]
      | true =>
      rw [d1] at hsh
      simp only [d1, z, seval]
      cases d2 : (qn == p.runs[i].mine) with
      | false =>
        rw [d2] at hsh
        simp only [d2, z, seval]
        (refine FINS_done ?_; simp only [z, seval])
        simp only [hsh, Bool.true_and, cond_false, z, seval]
      | true =>
        rw [d2] at hsh
        simp only [d2, z, seval]
        (refine CU (hRm) (h := ?_); simp only [z, seval])
        cases d3 : roomW w 0 1 with
        | false =>
          rw [d3] at hsh
          simp only [d3, z, seval]
          (refine FINS_done ?_; simp only [z, seval])
          simp only [hsh, Bool.true_and, cond_true, cond_false, z, seval]
        | true =>
          rw [d3] at hsh
          simp only [d3, z, seval]
          (refine CU (hS) (h := ?_); simp only [z, seval])
          (refine CU (hL) (h := ?_); simp only [z, seval])
          (refine CU (hSn) (h := ?_); simp only [z, seval])
          (refine FINS_done ?_; simp only [z, seval])
          simp only [hsh, Bool.true_and, cond_true, z, seval]
    | false =>
      have hs := findIdx_none_take hlt hw' c
      simp only [waitM, isRun] at c
      cases c1 : (p.runs[i].proto == 2) <;> cases c2 : (p.runs[i].role == 2) <;> cases c3 : (p.runs[i].state == 1) <;> cases c4 : (p.runs[i].m == m.run)
      all_goals
        simp only [c1, c2, c3, c4, z, seval]
        first
          | (exfalso; rw [c1, c2, c3, c4] at c; exact absurd c (by decide))
          | (simp only [w64s (i := i) (by omega), z, seval]
             refine NX () ?_ (by rfl) hlt hs
             first | exact wk | (simp only [z, seval]; exact wk))
  · have : i = p.runs.length := by have := of_decide_eq_false h; omega
    subst this
    simp only [h, z, seval]
    rw [hfn hw'] at hsh
    (refine FINS_done ?_; simp only [z, seval])
    simp only [hsh, z, seval]
end Ch

/- The responder with run identifiers, of whatever world. -/
set_option maxRecDepth 100000
set_option maxHeartbeats 4000000
set_option linter.unusedSimpArgs false
set_option linter.unusedVariables false
namespace Ch
open Go Go.Ab
namespace L18
def m0 : Msg := ⟨6, 5, 1, 2, 0, 77, 0⟩
def w0 : World := L17.w0
def wa : World := (firstB w0 2 m0).1
def p0 : Part := ⟨2147483661, 0, 0, 0, 70, 0, 0⟩
def wx : World := (sealW wa (getP w0.people 2).key 8 p0).1
def m1 : Msg := ⟨8, 5, 0, 0, 0, 78, 2147483663⟩
def m2 : Msg := ⟨8, 6, 0, 0, 0, 78, 2147483663⟩
def m3 : Msg := ⟨8, 5, 0, 0, 0, 2147483663, 78⟩
def wb : World := (shareB wx 2 m1).1
theorem m0_ok : m0.ok := by unfold Msg.ok; decide
theorem m1_ok : m1.ok := by unfold Msg.ok; decide
theorem m2_ok : m2.ok := by unfold Msg.ok; decide
theorem m3_ok : m3.ok := by unfold Msg.ok; decide
theorem U1 : U 1 := by decide
theorem U2 : U 2 := by decide
theorem w0_fit : w0.fit 21 := L17.w0_fit
theorem wa_fit : wa.fit 25 := firstB_fit w0_fit (by decide) (by decide) U2 m0_ok
theorem p0_ok : p0.ok := by unfold Part.ok; decide
theorem wx_fit : wx.fit 26 := fit_seal wa_fit (by decide) (by decide) (getP_ok w0_fit 2).2.1 (by decide) p0_ok
theorem g0 : firstB w0 2 m0 = (wa, 0) := by
  have : (firstB w0 2 m0).2 = 0 := by decide +kernel
  rw [← this]; rfl
theorem g1 : (firstB wa 2 m0).2 = 8 := by decide +kernel
theorem g2 : (firstB w0 1 m0).2 = 5 := by decide +kernel
theorem g3 : sealW wa (getP w0.people 2).key 8 p0 = (wx, 2147483663, 0) := by
  have : (sealW wa (getP w0.people 2).key 8 p0).2 = (2147483663, 0) := by decide +kernel
  rw [← this]; rfl
theorem g4 : shareB wx 2 m1 = (wb, 0) := by
  have : (shareB wx 2 m1).2 = 0 := by decide +kernel
  rw [← this]; rfl
theorem g5 : (shareB wx 2 m2).2 = 9 := by decide +kernel
theorem g6 : (shareB wx 2 m3).2 = 6 := by decide +kernel
theorem wb_log : ∃ e, wb.log = [e, ⟨4, 2, 2, 1, 2, 70, 0, 5, 2147483661, 0⟩] := ⟨_, rfl⟩
theorem wa_g : ∃ ws, wa.net.grams = [⟨0, ws⟩] := ⟨_, rfl⟩
theorem wb_g : ∃ g ws, wb.net.grams = [g, ⟨1, ws⟩] := ⟨_, _, rfl⟩
theorem r0 : Right10 w0.people = true := by decide +kernel
theorem ra : Right10 wa.people = true := by decide +kernel
theorem rx : Right10 wx.people = true := by decide +kernel
theorem l2 : 2 < w0.people.length := by decide +kernel
theorem k2 : (getP w0.people 2).key = (w0.people[2]'l2).key := by kernel_rfl
theorem awake_spec : Spec PP GG 49 [] (.bool true) [] := by
  have hN : Spec PP GG 55 [L17.c0.v, wordsV [11, 12, 13, 14, 15, 16, 17]] w0.v [] := New12_spec L17.c0 2 2 (by decide) (by decide) rfl rfl [11, 12, 13, 14, 15, 16, 17]
  have hA := FirstB_spec w0 2 m0 w0_fit (by decide) (by decide) U2 m0_ok r0
  have hB := FirstB_spec wa 2 m0 wa_fit (by decide) (by decide) U2 m0_ok ra
  have hC := FirstB_spec w0 1 m0 w0_fit (by decide) (by decide) U1 m0_ok r0
  have hS := rSeal_spec wa wa_fit (by decide) (getP w0.people 2).key 8 p0
  have hD := ShareB_spec wx 2 m1 wx_fit (by decide) (by decide) U2 m1_ok rx
  have hE := ShareB_spec wx 2 m2 wx_fit (by decide) (by decide) U2 m2_ok rx
  have hF := ShareB_spec wx 2 m3 wx_fit (by decide) (by decide) U2 m3_ok rx
  rw [g0] at hA
  rw [g1] at hB
  rw [g2] at hC
  rw [g3] at hS
  rw [g4] at hD
  rw [g5] at hE
  rw [g6] at hF
  rw [k2] at hS
  simp only [p0] at hS
  simp only [m0] at hA hB hC
  simp only [m1] at hD
  simp only [m2] at hE
  simp only [m3] at hF
  obtain ⟨ws, hw⟩ := wa_g
  obtain ⟨gg, ws', hw'⟩ := wb_g
  obtain ⟨e0, hl⟩ := wb_log
  refine Spec.of_runs Go.Proofs.Tryz.f49 Go.Proofs.Tryz.func49 rfl ?_
  intro w0 M0
  simp only [Go.Proofs.Tryz.f49, List.replicate, List.cons_append, List.nil_append, z, seval]
  (refine CU (hN) (h := ?_); simp only [z, seval])
  (refine CU (hA) (h := ?_); simp only [z, seval])
  (refine CU (hB) (h := ?_); simp only [z, seval])
  (refine CU (hC) (h := ?_); simp only [z, seval])
  first | simp only [getMap Person.v L18.w0.people l2, z, seval] | ((refine RUNs_draw 1 (by kernel_rfl) ?_; simp only [z, seval]); simp only [getMap Person.v L18.w0.people l2, z, seval])
  first | (refine CU (hS) (h := ?_); simp only [z, seval]) | ((refine DU (hS) (h := ?_); simp only [z, seval]); (refine ⟨by kernel_rfl, ?_⟩))
  (refine CU (hD) (h := ?_); simp only [z, seval])
  (refine CU (hE) (h := ?_); simp only [z, seval])
  (refine CU (hF) (h := ?_); simp only [z, seval])
  simp only [hl, hw, hw', List.map_cons, List.map_nil, z, seval]
  (refine FINS_done ?_; simp only [z, seval])
end L18
theorem fits18_spec (w : World) (hw : w.ok) (me : Int) (hme : U me) (m : Msg) (hm : m.ok) (kind : Int) : Spec PP GG 50 [w.v, u32 me, m.v, u32 kind] (.bool (fitsK w me m kind)) [] := by
  have hL := Lim_of_ok hw
  have h1 := Few12_spec w hL
  have h2 := Form12_spec w hL
  have h3 := rMay_spec m hm
  have q1 := hme.1
  have q2 := hme.2
  have q3 := hw.2.2.2.2.1.1
  clear hw hm hL
  refine Spec.of_runs Go.Proofs.Tryz.f50 Go.Proofs.Tryz.func50 rfl ?_
  intro w0 M0
  simp only [Go.Proofs.Tryz.f50, List.replicate, List.cons_append, List.nil_append, z, seval]
  (refine CU (h1) (h := ?_); simp only [z, seval])
  cases c1 : Few12 w with
  | false =>
    simp only [z, seval]
    (refine FINS_done ?_; simp only [z, seval])
    simp only [fitsK, c1, Bool.false_and]
  | true =>
  simp only [z, seval]
  (refine CU (h2) (h := ?_); simp only [z, seval])
  cases c2 : Form12 w with
  | false =>
    simp only [z, seval]
    (refine FINS_done ?_; simp only [z, seval])
    simp only [fitsK, c1, c2, Bool.true_and, Bool.false_and]
  | true =>
  simp only [z, seval]
  cases c3 : decide (me ≥ 1) with
  | false =>
    simp only [c3, z, seval]
    (refine FINS_done ?_; simp only [z, seval])
    simp only [fitsK, c1, c2, c3, Bool.true_and, Bool.false_and]
  | true =>
  simp only [c3, wu64 (n := me) (by omega) (by omega), wu64 (n := (w.people.length : Int)) (by omega) (by omega), z, seval]
  cases c4 : decide (me < (w.people.length : Int)) with
  | false =>
    simp only [c4, z, seval]
    (refine FINS_done ?_; simp only [z, seval])
    simp only [fitsK, c1, c2, c3, c4, Bool.true_and, Bool.false_and]
  | true =>
  simp only [c4, z, seval]
  cases c5 : (m.kind == kind) with
  | false =>
    simp only [c5, z, seval]
    (refine FINS_done ?_; simp only [z, seval])
    simp only [fitsK, c1, c2, c3, c4, c5, Bool.true_and, Bool.false_and]
  | true =>
  simp only [c5, z, seval]
  (refine CU (h3) (h := ?_); simp only [z, seval])
  (refine FINS_done ?_; simp only [z, seval])
  simp only [fitsK, c1, c2, c3, c4, c5, Bool.true_and]
theorem OrbFirsts_law (w : World) (hw : w.ok) (me : Int) (hme : U me) (m : Msg) (hm : m.ok) : Spec PP GG 12 [w.v, u32 me, m.v] (.bool true) [] := by
  have hA := L18.awake_spec
  have hF := fits18_spec w hw me hme m hm 6
  cases hf : fitsK w me m 6 with
  | false =>
    rw [hf] at hF
    refine Spec.of_runs Go.Proofs.Tryz.f12 Go.Proofs.Tryz.func12 rfl ?_
    intro w0 M0
    simp only [Go.Proofs.Tryz.f12, List.replicate, List.cons_append, List.nil_append, z, seval]
    (refine CU (hA) (h := ?_); simp only [z, seval])
    (refine CU (hF) (h := ?_); simp only [z, seval])
    (refine CU (hA) (h := ?_); simp only [z, seval])
    (refine FINS_done ?_; simp only [z, seval])
  | true =>
    rw [hf] at hF
    simp only [fitsK, Bool.and_eq_true] at hf
    have hfit := fit_of_few hw hf.1 hf.2.1
    have hform := form_iff.1 hf.2.1
    have h1 := FirstB_spec w me m hfit (by decide) (by decide) hme hm hform.right
    have h2 := rFirstB_spec w me m hfit (by decide) (by decide) hme hm hform.right
    have h3 := Same12 (firstB w me m).1 ((firstB_fit hfit (by decide) (by decide) hme hm).toLim (by decide))
    clear hw hm hfit hform
    refine Spec.of_runs Go.Proofs.Tryz.f12 Go.Proofs.Tryz.func12 rfl ?_
    intro w0 M0
    simp only [Go.Proofs.Tryz.f12, List.replicate, List.cons_append, List.nil_append, z, seval]
    (refine CU (hA) (h := ?_); simp only [z, seval])
    (refine CU (hF) (h := ?_); simp only [z, seval])
    (refine CU (h1) (h := ?_); simp only [z, seval])
    (refine CU (h2) (h := ?_); simp only [z, seval])
    (refine CU (h3) (h := ?_); simp only [z, seval])
    (refine FINS_done ?_; simp only [z, seval])
theorem OrbShares_law (w : World) (hw : w.ok) (me : Int) (hme : U me) (m : Msg) (hm : m.ok) : Spec PP GG 13 [w.v, u32 me, m.v] (.bool true) [] := by
  have hA := L18.awake_spec
  have hF := fits18_spec w hw me hme m hm 8
  cases hf : fitsK w me m 8 with
  | false =>
    rw [hf] at hF
    refine Spec.of_runs Go.Proofs.Tryz.f13 Go.Proofs.Tryz.func13 rfl ?_
    intro w0 M0
    simp only [Go.Proofs.Tryz.f13, List.replicate, List.cons_append, List.nil_append, z, seval]
    (refine CU (hA) (h := ?_); simp only [z, seval])
    (refine CU (hF) (h := ?_); simp only [z, seval])
    (refine CU (hA) (h := ?_); simp only [z, seval])
    (refine FINS_done ?_; simp only [z, seval])
  | true =>
    rw [hf] at hF
    simp only [fitsK, Bool.and_eq_true] at hf
    have hfit := fit_of_few hw hf.1 hf.2.1
    have hform := form_iff.1 hf.2.1
    have h1 := ShareB_spec w me m hfit (by decide) (by decide) hme hm hform.right
    have h2 := rShareB_spec w me m hfit (by decide) (by decide) hme hm hform.right hform.box
    have h3 := Same12 (shareB w me m).1 ((shareB_fit hfit (by decide) (by decide) hme hm).toLim (by decide))
    clear hw hm hfit hform
    refine Spec.of_runs Go.Proofs.Tryz.f13 Go.Proofs.Tryz.func13 rfl ?_
    intro w0 M0
    simp only [Go.Proofs.Tryz.f13, List.replicate, List.cons_append, List.nil_append, z, seval]
    (refine CU (hA) (h := ?_); simp only [z, seval])
    (refine CU (hF) (h := ?_); simp only [z, seval])
    (refine CU (h1) (h := ?_); simp only [z, seval])
    (refine CU (h2) (h := ?_); simp only [z, seval])
    (refine CU (h3) (h := ?_); simp only [z, seval])
    (refine FINS_done ?_; simp only [z, seval])
theorem OrbKeeps_law (w : World) (hw : w.ok) (me : Int) (hme : U me) (m : Msg) (hm : m.ok) : Spec PP GG 15 [w.v, u32 me, m.v] (.bool true) [] := by
  have hA := L18.awake_spec
  have hF := fits18_spec w hw me hme m hm m.kind
  cases hf : fitsK w me m m.kind with
  | false =>
    rw [hf] at hF
    refine Spec.of_runs Go.Proofs.Tryz.f15 Go.Proofs.Tryz.func15 rfl ?_
    intro w0 M0
    simp only [Go.Proofs.Tryz.f15, List.replicate, List.cons_append, List.nil_append, z, seval]
    (refine CU (hA) (h := ?_); simp only [z, seval])
    (refine CU (hF) (h := ?_); simp only [z, seval])
    (refine CU (hA) (h := ?_); simp only [z, seval])
    (refine FINS_done ?_; simp only [z, seval])
  | true =>
    rw [hf] at hF
    simp only [fitsK, Bool.and_eq_true] at hf
    have hfit := fit_of_few hw hf.1 hf.2.1
    have hform := form_iff.1 hf.2.1
    have hC := Copied_spec w (hfit.toLim (by decide))
    have h1 := FirstB_spec w me m hfit (by decide) (by decide) hme hm hform.right
    have h2 := ShareB_spec w me m hfit (by decide) (by decide) hme hm hform.right
    have h3 := Same12 w (hfit.toLim (by decide))
    clear hw hm hfit hform
    cases c1 : (m.kind == 6) with
    | true =>
      refine Spec.of_runs Go.Proofs.Tryz.f15 Go.Proofs.Tryz.func15 rfl ?_
      intro w0 M0
      simp only [Go.Proofs.Tryz.f15, List.replicate, List.cons_append, List.nil_append, z, seval]
      (refine CU (hA) (h := ?_); simp only [z, seval])
      (refine CU (hF) (h := ?_); simp only [z, seval])
      simp only [c1, z, seval]
      (refine CU (hC) (h := ?_); simp only [z, seval])
      simp only [c1, z, seval]
      (refine CU (h1) (h := ?_); simp only [z, seval])
      (refine CU (h3) (h := ?_); simp only [z, seval])
      (refine FINS_done ?_; simp only [z, seval])
    | false =>
    cases c2 : (m.kind == 8) with
    | true =>
      refine Spec.of_runs Go.Proofs.Tryz.f15 Go.Proofs.Tryz.func15 rfl ?_
      intro w0 M0
      simp only [Go.Proofs.Tryz.f15, List.replicate, List.cons_append, List.nil_append, z, seval]
      (refine CU (hA) (h := ?_); simp only [z, seval])
      (refine CU (hF) (h := ?_); simp only [z, seval])
      simp only [c1, c2, z, seval]
      (refine CU (hC) (h := ?_); simp only [z, seval])
      simp only [c1, z, seval]
      (refine CU (h2) (h := ?_); simp only [z, seval])
      (refine CU (h3) (h := ?_); simp only [z, seval])
      (refine FINS_done ?_; simp only [z, seval])
    | false =>
      refine Spec.of_runs Go.Proofs.Tryz.f15 Go.Proofs.Tryz.func15 rfl ?_
      intro w0 M0
      simp only [Go.Proofs.Tryz.f15, List.replicate, List.cons_append, List.nil_append, z, seval]
      (refine CU (hA) (h := ?_); simp only [z, seval])
      (refine CU (hF) (h := ?_); simp only [z, seval])
      simp only [c1, c2, z, seval]
      (refine CU (hA) (h := ?_); simp only [z, seval])
      (refine FINS_done ?_; simp only [z, seval])
end Ch

/- All texts so far, in one order, go on. -/

/- The initiator with run identifiers: a commit. -/
set_option maxRecDepth 100000
set_option maxHeartbeats 4000000
set_option linter.unusedSimpArgs false
set_option linter.unusedVariables false
namespace Ch
open Go Go.Ab
theorem setMap9 {α : Type} (f : α → V) {l : List α} {i : Nat} (x : α) (h : i < l.length) : ((l.set i x).map f)[i]? = some (f x) := by simp [h]
theorem lastMap9 {α : Type} (f : α → V) (l : List α) (x : α) : ((l ++ [x]).map f)[l.length]? = some (f x) := by simp
theorem get_in9 {l : List Person} {n : Nat} (h : n < l.length) : getP l n = l[n] := by simp only [getP, List.getElem?_eq_getElem h, Option.getD_some]
theorem shareO_err {w : World} {me : Int} {m : Msg} (h : (shareO w me m).2 ≠ 0) : (shareO w me m).1 = w := by
  unfold shareO at h ⊢
  cases h1 : oI w me m with
  | none => rfl
  | some i =>
    rw [h1] at h
    cases h2 : ((oO w me m).2 && (oO w me m).1.n == (runAt (personW w me).runs i).mine)
    · simp only [h2, cond_false]
    · simp only [h2] at h; exact absurd rfl h
theorem shareO_ok {w : World} {me : Int} {m : Msg} (h : (shareO w me m).2 = 0) : ∃ i, oI w me m = some i ∧ (oO w me m).2 = true ∧ (oO w me m).1.n = (runAt (personW w me).runs i).mine ∧ shareO w me m = (oCom w me i (oO w me m).1.k, 0) := by
  unfold shareO at h ⊢
  cases h1 : oI w me m with
  | none => rw [h1] at h; cases h
  | some i =>
    rw [h1] at h
    cases h2 : ((oO w me m).2 && (oO w me m).1.n == (runAt (personW w me).runs i).mine)
    · simp only [h2] at h; cases h
    · simp only [h2, cond_true]
      rw [Bool.and_eq_true, beq_iff_eq] at h2
      exact ⟨i, rfl, h2.1, h2.2, rfl⟩
/-- the people behind a commit -/
theorem com_people {w : World} {me : Int} (hr : Right10 w.people = true) (hme : U me) (hin : me.toNat < w.people.length) (i : Nat) (r : Run) (e : Event) : (putP w (setRun (personW w me) i r) e).people = w.people.set me.toNat (setRun (personW w me) i r) := by
  have hn : (setRun (personW w me) i r).name = me := name_of hr hme hin
  show (setM w.people (setRun (personW w me) i r)).1 = _
  rw [setM, hn, decide_eq_true hin]; rfl
theorem shareO_keeps {w : World} {me : Int} (m : Msg) (hr : Right10 w.people = true) (hme : U me) {n : Nat} (hn : me = n) (hin : n < w.people.length) {i : Nat} (hi : i < (personW w me).runs.length) (hs : (runAt (personW w me).runs i).state ≠ 1) :
    ∃ h1 : n < (shareO w me m).1.people.length, (shareO w me m).1.people.length = w.people.length ∧ (shareO w me m).1.people[n].runs.length = (personW w me).runs.length ∧ ∃ h2 : i < (shareO w me m).1.people[n].runs.length, (shareO w me m).1.people[n].runs[i] = runAt (personW w me).runs i := by
  subst hn
  have hp : personW w (n : Int) = w.people[n] := get_in9 hin
  by_cases h : (shareO w n m).2 = 0
  · obtain ⟨j, h1, h2, h3, h4⟩ := shareO_ok h
    have hj := wait_run (show (personW w n).runs.findIdx? (waitM 2 1 m.run) = some j from h1)
    have hij : i ≠ j := by rintro rfl; exact hs hj.2.2.2.1
    have e : (shareO w n m).1.people = w.people.set n (setRun (personW w n) j (doneR (runAt (personW w n).runs j) (oO w n m).1.k)) := by
      rw [h4]; exact com_people hr hme hin j _ _
    have e2 : ∀ h1 : n < (shareO w n m).1.people.length, (shareO w n m).1.people[n] = setRun (personW w n) j (doneR (runAt (personW w n).runs j) (oO w n m).1.k) := by
      intro h1; simp only [e, List.getElem_set_self]
    have h5 : n < (shareO w n m).1.people.length := by rw [e, List.length_set]; exact hin
    refine ⟨h5, by rw [e, List.length_set], by rw [e2 h5]; simp only [setRun, List.length_set], by rw [e2 h5]; simp only [setRun, List.length_set]; exact hi, ?_⟩
    simp only [e2 h5, setRun, List.getElem_set, runAt_get hi]
    rw [if_neg (fun e => hij e.symm)]
  · have e := shareO_err h
    have e2 : ∀ h1 : n < (shareO w n m).1.people.length, (shareO w n m).1.people[n] = personW w n := by
      intro h1; simp only [e, hp]
    have h5 : n < (shareO w n m).1.people.length := by rw [e]; exact hin
    exact ⟨h5, by rw [e], by rw [e2 h5], by rw [e2 h5]; exact hi, by simp only [e2 h5, runAt_get hi]⟩
theorem set_back {l : List Person} {n : Nat} (h : n < l.length) (P : Person) : (l.set n P).set n l[n] = l := by
  rw [List.set_set, List.set_getElem_self]
theorem OraCommits_law (w : World) (hw : w.ok) (me : Int) (hme : U me) (m : Msg) (hm : m.ok) : Spec PP GG 5 [w.v, u32 me, m.v] (.bool true) [] := by
  have hA := L17.awake_spec
  have hF := fits17_spec w hw me hme m hm
  cases hf : fitsK w me m 9 with
  | false =>
    rw [hf] at hF
    refine Spec.of_runs Go.Proofs.Tryz.f5 Go.Proofs.Tryz.func5 rfl ?_
    intro w0 M0
    simp only [Go.Proofs.Tryz.f5, List.replicate, List.cons_append, List.nil_append, z, seval]
    (refine CU (hA) (h := ?_); simp only [z, seval])
    (refine CU (hF) (h := ?_); simp only [z, seval])
    (refine CU (hA) (h := ?_); simp only [z, seval])
    (refine FINS_done ?_; simp only [z, seval])
  | true =>
  rw [hf] at hF
  simp only [fitsK, Bool.and_eq_true, decide_eq_true_eq] at hf
  obtain ⟨hf1, hf2, hf3, hf4, -⟩ := hf
  have hfit := fit_of_few hw hf1 hf2
  have hform := form_iff.1 hf2
  have h1 := ShareO_spec w me m hfit (by decide) hme hform.right
  cases he : ((shareO w me m).2 == 0) with
  | false =>
    rw [shareO_err (show (shareO w me m).2 ≠ 0 by intro h; rw [h] at he; cases he)] at h1
    have h2 := Same12 w (hfit.toLim (by decide))
    clear hw hfit hform
    refine Spec.of_runs Go.Proofs.Tryz.f5 Go.Proofs.Tryz.func5 rfl ?_
    intro w0 M0
    simp only [Go.Proofs.Tryz.f5, List.replicate, List.cons_append, List.nil_append, z, seval]
    (refine CU (hA) (h := ?_); simp only [z, seval])
    (refine CU (hF) (h := ?_); simp only [z, seval])
    (refine CU (h1) (h := ?_); simp only [z, seval])
    simp only [he, z, seval]
    (refine CU (h2) (h := ?_); simp only [z, seval])
    (refine FINS_done ?_; simp only [z, seval])
  | true =>
  have he' : (shareO w me m).2 = 0 := by simpa using he
  obtain ⟨i, o1, o2, o3, o4⟩ := shareO_ok he'
  obtain ⟨hi, r1, r2, r3, r4⟩ := wait_run (show (personW w me).runs.findIdx? (waitM 2 1 m.run) = some i from o1)
  have hfa := shareO_fit hfit (by decide) hme m
  have hSame := Same12 w (hfit.toLim (by decide))
  have hO := rOpen_spec w hfit (by decide) hform.box (personW w me).key 9 m.box
  rw [← oO] at hO
  obtain ⟨n, rfl⟩ := Int.eq_ofNat_of_zero_le hme.1
  have hin : n < w.people.length := by omega
  have hp : personW w (n : Int) = w.people[n] := get_in9 hin
  have hnm := name_of hform.right hme (show ((n : Int)).toNat < w.people.length from hin)
  have hpe := com_people hform.right hme (show ((n : Int)).toNat < w.people.length from hin) i (doneR (runAt (personW w n).runs i) (oO w n m).1.k) ⟨4, 2, 1, n, (runAt (personW w n).runs i).peer, (oO w n m).1.k, 0, (runAt (personW w n).runs i).m, (runAt (personW w n).runs i).mine, (personW w n).clock⟩
  rw [o4] at h1 hfa
  have hra : Right10 (oCom w n i (oO w n m).1.k).people = true := right_set hform.right _ (personW_ok hfit _).1
  have h2 := ShareO_spec (oCom w n i (oO w n m).1.k) n m hfa (by decide) hme hra
  have hap : personW (oCom w n i (oO w n m).1.k) (n : Int) = setRun (personW w n) i (doneR (runAt (personW w n).runs i) (oO w n m).1.k) := by
    have h5 : n < (oCom w n i (oO w n m).1.k).people.length := by rw [oCom, hpe, List.length_set]; exact hin
    have : personW (oCom w n i (oO w n m).1.k) (n : Int) = (oCom w n i (oO w n m).1.k).people[n] := get_in9 h5
    rw [this]
    simp only [oCom, hpe, Int.toNat_natCast, List.getElem_set_self]
  have hsi : i < (personW (oCom w n i (oO w n m).1.k) (n : Int)).runs.length := by rw [hap]; simp only [setRun, List.length_set]; exact hi
  have hst : runAt (personW (oCom w n i (oO w n m).1.k) (n : Int)).runs i = doneR (runAt (personW w n).runs i) (oO w n m).1.k := by
    rw [runAt_get hsi]
    simp only [hap, setRun, List.getElem_set_self]
  obtain ⟨c1, c2, c3, c4, c5⟩ := shareO_keeps m hra hme rfl (by rw [oCom, hpe, List.length_set]; exact hin) hsi (by rw [hst]; exact (by decide : (3 : Int) ≠ 1))
  rw [hst] at c5
  have c2' : (shareO (oCom w n i (oO w n m).1.k) n m).1.people.length = w.people.length := by rw [c2, oCom, hpe, List.length_set]
  have c3' : (shareO (oCom w n i (oO w n m).1.k) n m).1.people[n].runs.length = (personW w n).runs.length := by rw [c3, hap]; simp only [setRun, List.length_set]
  have hX : oCom w n i (oO w n m).1.k = ⟨w.conf, w.draws, w.box, w.net, w.people.set n (setRun (personW w n) i (doneR (runAt (personW w n).runs i) (oO w n m).1.k)), w.log ++ [⟨4, 2, 1, n, (runAt (personW w n).runs i).peer, (oO w n m).1.k, 0, (runAt (personW w n).runs i).m, (runAt (personW w n).runs i).mine, (personW w n).clock⟩], w.regs, w.leaks⟩ := by
    have e : oCom w n i (oO w n m).1.k = ⟨w.conf, w.draws, w.box, w.net, (oCom w n i (oO w n m).1.k).people, w.log ++ [⟨4, 2, 1, n, (runAt (personW w n).runs i).peer, (oO w n m).1.k, 0, (runAt (personW w n).runs i).m, (runAt (personW w n).runs i).mine, (personW w n).clock⟩], w.regs, w.leaks⟩ := rfl
    rw [e]
    congr 1
  have u0 : (personW w (n : Int)).runs.length ≤ 1048576 := personW_runs hfit _
  have g2 := hfit.log
  have g3 := hfit.people
  clear hw hfit hform hfa hra hap hsi hst hpe hf1 hf2 hf4 o4 he he' c2 c3 hnm o1
  generalize (shareO (oCom w n i (oO w n m).1.k) n m).2 = c2e at h2
  generalize (shareO (oCom w n i (oO w n m).1.k) n m).1 = cW at *
  rw [hX] at h1 h2
  have hbk := set_back hin (setRun (personW w n) i (doneR (runAt (personW w n).runs i) (oO w n m).1.k))
  rw [← hp] at hbk
  have b0 := getMap Person.v w.people hin
  rw [← hp] at b0
  have hg := runAt_get hi
  rw [hg] at r1 r2 r3 r4 o3 h1 h2 c5 hbk
  clear hp hX hg
  generalize hq : oO w n m = q at *
  obtain ⟨⟨qn, qm, qa, qb, qk, qt, qh⟩, q2⟩ := q
  simp only at o2 o3 h1 h2 c5 hbk
  subst o2
  generalize hP : personW w (n : Int) = P at *
  obtain ⟨pn, pk, pc, pu, pr, pcor⟩ := P
  simp only at hi u0 r1 r2 r3 r4 o3 c3' hO
  have bi := getMap Run.v pr hi
  generalize hr0 : pr[i] = r0 at *
  obtain ⟨rproto, rrole, rpeer, rmine, rtheir, rm, rk, rt, rstate⟩ := r0
  simp only at r1 r2 r3 r4 o3
  subst r1 r2 r3 r4 o3
  simp only [setRun, doneR] at h1 h2 c5 hbk
  have w4 : (w.people.set n ⟨pn, pk, pc, pu, pr.set i ⟨2, 1, rpeer, qn, rtheir, m.run, qk, rt, 3⟩, pcor⟩).length = w.people.length := List.length_set
  have w5 : (pr.set i ⟨2, 1, rpeer, qn, rtheir, m.run, qk, rt, 3⟩).length = pr.length := List.length_set
  have w6 : (w.log ++ [(⟨4, 2, 1, n, rpeer, qk, 0, m.run, qn, pc⟩ : Event)]).length = w.log.length + 1 := by simp
  have w2 : IntKind.i64.wrap ((w.log.length : Int) + 1) = ((w.log.length + 1 : Nat) : Int) := w64s (by omega)
  have b6 := setMap9 Person.v ⟨pn, pk, pc, pu, pr.set i ⟨2, 1, rpeer, qn, rtheir, m.run, qk, rt, 3⟩, pcor⟩ hin
  have b7 := setMap9 Run.v (⟨2, 1, rpeer, qn, rtheir, m.run, qk, rt, 3⟩ : Run) hi
  have b8 := lastMap9 Event.v w.log ⟨4, 2, 1, n, rpeer, qk, 0, m.run, qn, pc⟩
  have hb7 : ∀ j, j ≠ i → (hj : j < pr.length) → ((pr.set i ⟨2, 1, rpeer, qn, rtheir, m.run, qk, rt, 3⟩).map Run.v)[j]? = some (Run.v pr[j]) := fun j hji hj => by
    rw [getMap Run.v _ (by rw [List.length_set]; exact hj), List.getElem_set, if_neg (fun e => hji e.symm)]
  have d1 := getMap Person.v cW.people c1
  have d2 := getMap Run.v cW.people[n].runs c4
  rw [c5] at d2
  have e9 : ((w.people.set n ⟨pn, pk, pc, pu, pr.set i ⟨2, 1, rpeer, qn, rtheir, m.run, qk, rt, 3⟩, pcor⟩).map Person.v).set n (Person.v ⟨pn, pk, pc, pu, pr, pcor⟩) = w.people.map Person.v := by rw [← List.map_set, hbk]
  simp only [mv] at b0 bi b6 b7 b8 hb7 d1 d2 e9
  refine Spec.of_runs Go.Proofs.Tryz.f5 Go.Proofs.Tryz.func5 rfl ?_
  intro w0 M0
  simp only [Go.Proofs.Tryz.f5, List.replicate, List.cons_append, List.nil_append, z, seval]
  (refine CU (hA) (h := ?_); simp only [z, seval])
  (refine CU (hF) (h := ?_); simp only [z, seval])
  (refine CU (h1) (h := ?_); simp only [z, seval])
  (refine RUNs_draw 0 (by kernel_rfl) ?_; simp only [z, seval])
  simp only [b0, b6, w2, w4, w5, w6, z, seval]
  (refine ⟨by kernel_rfl, ?_⟩)
  have hst : ((1 : Int) == 3) = false := rfl
  have hd1' := getMap Person.v cW.people c1
  refine RUNs_rangeS (pr.length) (fun j (a : Int) => a = if i < j then (i : Int) else -1) (fun j a => [(11, i64 a), (12, i64 j)]) (fun _ _ => []) (-1) ?_ (by simp only [z, seval]; exact wk) rfl ?_
  · rfl
  rintro ⟨j, a, hj, ha⟩
  simp only [z, seval]
  first | refine brk (fun h => ?_) (fun h => ?_) | fail
  · have hlt : j < pr.length := by have := of_decide_eq_true h; omega
    have bj := getMap Run.v pr hlt
    simp only [mv] at bj
    simp only [h, z, seval]
    (refine RUNs_draw 0 (by kernel_rfl) ?_; simp only [z, seval])
    rcases Nat.lt_trichotomy j i with hji | rfl | hji
    · have bj' := hb7 j (by omega) hlt
      simp only [bj, bj', z, seval]
      (refine ⟨by kernel_rfl, ?_⟩)
      simp only [w64s (i := j) (by omega), z, seval]
      (refine NX a ?_ (by rfl) hlt ?_; simp only [z, seval]; exact wk)
      show a = if i < j + 1 then (i : Int) else -1
      rw [ha, if_neg (by omega), if_neg (by omega)]
    · rw [if_neg (by omega)] at ha
      subst ha
      simp only [bi, b7, z, seval]
      (refine ⟨by kernel_rfl, ?_⟩)
      simp only [hst, Bool.and_false, Bool.not_false, w64s (i := j) (by omega), z, seval]
      (refine NX (j : Int) ?_ (by rfl) hlt ?_; simp only [z, seval]; exact wk)
      show (j : Int) = if j < j + 1 then (j : Int) else -1
      rw [if_pos (by omega)]
    · have bj' := hb7 j (by omega) hlt
      simp only [bj, bj', z, seval]
      (refine ⟨by kernel_rfl, ?_⟩)
      simp only [w64s (i := j) (by omega), z, seval]
      (refine NX a ?_ (by rfl) hlt ?_; simp only [z, seval]; exact wk)
      show a = if i < j + 1 then (i : Int) else -1
      rw [ha, if_pos (by omega), if_pos (by omega)]
  · have hjl : j = pr.length := by have := of_decide_eq_false h; omega
    rw [if_pos (by omega)] at ha
    subst ha
    have n0 : decide ((i : Int) < 0) = false := decide_eq_false (by omega)
    simp only [h, n0, z, seval]
    (refine RUNs_draw 1 (by kernel_rfl) ?_; simp only [z, seval])
    simp only [b0, z, seval]
    (refine DU (hO) (h := ?_); simp only [z, seval])
    (refine ⟨by kernel_rfl, ?_⟩)
    simp only [b8, z, seval]
    (refine RUNs_draw 0 (by kernel_rfl) ?_; simp only [z, seval])
    simp only [bi, b7, z, seval]
    (refine ⟨by kernel_rfl, ?_⟩)
    refine OPC_ok ?_ ?_
    · exact okMap _ (fun a => rfl) (by rw [List.length_set]; omega)
    have h5 : n < (w.people.set n ⟨pn, pk, pc, pu, pr.set i ⟨2, 1, rpeer, qn, rtheir, m.run, qk, rt, 3⟩, pcor⟩).length := by rw [w4]; exact hin
    simp only [b6, h5, if_true, z, seval]
    simp only [e9, z, seval]
    (refine CU (h2) (h := ?_); simp only [z, seval])
    (refine RUNs_freeze 6 0 ?_ (by rfl) ?_ ?_; rotate_left 1; (simp only [z, seval]; exact rfl); simp only [z, seval])
    (refine RUNs_draw 0 (by kernel_rfl) ?_; simp only [z, seval])
    (refine DU (hSame) (h := ?_); simp only [z, seval])
    simp only [c2', c3', d1, d2, b7, w5, z, seval]
    (refine ⟨by kernel_rfl, ?_⟩)
    (refine FINS_done ?_; simp only [z, seval])
end Ch

/- The responder with run identifiers: a commit. -/
set_option maxRecDepth 100000
set_option maxHeartbeats 4000000
set_option linter.unusedSimpArgs false
set_option linter.unusedVariables false
namespace Ch
open Go Go.Ab
theorem shareB_err {w : World} {me : Int} {m : Msg} (h : (shareB w me m).2 ≠ 0) : (shareB w me m).1 = w := by
  unfold shareB at h ⊢
  cases h1 : bI w me m with
  | none => rfl
  | some i =>
    rw [h1] at h
    cases h2 : ((bO w me m).2 && (bO w me m).1.n == (runAt (personW w me).runs i).mine)
    · simp only [h2, cond_false]
    · cases h3 : roomW w 0 1
      · simp only [h2, h3, cond_true, cond_false]
      · simp only [h2, h3] at h; exact absurd rfl h
def bM9 (m : Msg) : Msg := ⟨9, m.run, 0, 0, 0, m.box, 0⟩
theorem shareB_ok {w : World} {me : Int} {m : Msg} (h : (shareB w me m).2 = 0) : ∃ i, bI w me m = some i ∧ (bO w me m).2 = true ∧ (bO w me m).1.n = (runAt (personW w me).runs i).mine ∧ shareB w me m = (sendTo (bCom w me i (bO w me m).1.k) (runAt (personW w me).runs i).peer (bM9 m), 0) := by
  unfold shareB at h ⊢
  cases h1 : bI w me m with
  | none => rw [h1] at h; cases h
  | some i =>
    rw [h1] at h
    cases h2 : ((bO w me m).2 && (bO w me m).1.n == (runAt (personW w me).runs i).mine)
    · simp only [h2] at h; cases h
    · cases h3 : roomW w 0 1
      · simp only [h2, h3] at h; cases h
      · have hz := (send_to (bX_ok (me := me) (m := m) (i := i) (k := (bO w me m).1.k) (to := (runAt (personW w me).runs i).peer) h3)).1
        have hz' : bX w me m i (bO w me m).1.k = sendTo (bCom w me i (bO w me m).1.k) (runAt (personW w me).runs i).peer (bM9 m) := by rw [bX, hz]; rfl
        simp only [h2, h3, cond_true, hz']
        rw [Bool.and_eq_true, beq_iff_eq] at h2
        exact ⟨i, rfl, h2.1, h2.2, rfl⟩
theorem shareB_keeps {w : World} {me : Int} (m : Msg) (hr : Right10 w.people = true) (hme : U me) {n : Nat} (hn : me = n) (hin : n < w.people.length) {i : Nat} (hi : i < (personW w me).runs.length) (hs : (runAt (personW w me).runs i).state ≠ 1) :
    ∃ h1 : n < (shareB w me m).1.people.length, (shareB w me m).1.people.length = w.people.length ∧ (shareB w me m).1.people[n].runs.length = (personW w me).runs.length ∧ ∃ h2 : i < (shareB w me m).1.people[n].runs.length, (shareB w me m).1.people[n].runs[i] = runAt (personW w me).runs i := by
  subst hn
  have hp : personW w (n : Int) = w.people[n] := get_in9 hin
  by_cases h : (shareB w n m).2 = 0
  · obtain ⟨j, h1, h2, h3, h4⟩ := shareB_ok h
    have hj := wait_run (show (personW w n).runs.findIdx? (waitM 2 2 m.run) = some j from h1)
    have hij : i ≠ j := by rintro rfl; exact hs hj.2.2.2.1
    have e : (shareB w n m).1.people = w.people.set n (setRun (personW w n) j (doneR (runAt (personW w n).runs j) (bO w n m).1.k)) := by
      rw [h4]; exact com_people hr hme hin j (doneR (runAt (personW w n).runs j) (bO w n m).1.k) ⟨4, 2, 2, (runAt (personW w n).runs j).peer, n, (bO w n m).1.k, 0, (runAt (personW w n).runs j).m, (runAt (personW w n).runs j).mine, (personW w n).clock⟩
    have e2 : ∀ h1 : n < (shareB w n m).1.people.length, (shareB w n m).1.people[n] = setRun (personW w n) j (doneR (runAt (personW w n).runs j) (bO w n m).1.k) := by
      intro h1; simp only [e, List.getElem_set_self]
    have h5 : n < (shareB w n m).1.people.length := by rw [e, List.length_set]; exact hin
    refine ⟨h5, by rw [e, List.length_set], by rw [e2 h5]; simp only [setRun, List.length_set], by rw [e2 h5]; simp only [setRun, List.length_set]; exact hi, ?_⟩
    simp only [e2 h5, setRun, List.getElem_set, runAt_get hi]
    rw [if_neg (fun e => hij e.symm)]
  · have e := shareB_err h
    have e2 : ∀ h1 : n < (shareB w n m).1.people.length, (shareB w n m).1.people[n] = personW w n := by
      intro h1; simp only [e, hp]
    have h5 : n < (shareB w n m).1.people.length := by rw [e]; exact hin
    exact ⟨h5, by rw [e], by rw [e2 h5], by rw [e2 h5]; exact hi, by simp only [e2 h5, runAt_get hi]⟩
theorem OrbCommits_law (w : World) (hw : w.ok) (me : Int) (hme : U me) (m : Msg) (hm : m.ok) : Spec PP GG 14 [w.v, u32 me, m.v] (.bool true) [] := by
  have hA := L18.awake_spec
  have hF := fits18_spec w hw me hme m hm 8
  cases hf : fitsK w me m 8 with
  | false =>
    rw [hf] at hF
    refine Spec.of_runs Go.Proofs.Tryz.f14 Go.Proofs.Tryz.func14 rfl ?_
    intro w0 M0
    simp only [Go.Proofs.Tryz.f14, List.replicate, List.cons_append, List.nil_append, z, seval]
    (refine CU (hA) (h := ?_); simp only [z, seval])
    (refine CU (hF) (h := ?_); simp only [z, seval])
    (refine CU (hA) (h := ?_); simp only [z, seval])
    (refine FINS_done ?_; simp only [z, seval])
  | true =>
  rw [hf] at hF
  simp only [fitsK, Bool.and_eq_true, decide_eq_true_eq] at hf
  obtain ⟨hf1, hf2, hf3, hf4, -⟩ := hf
  have hfit := fit_of_few hw hf1 hf2
  have hform := form_iff.1 hf2
  have h1 := ShareB_spec w me m hfit (by decide) (by decide) hme hm hform.right
  cases he : ((shareB w me m).2 == 0) with
  | false =>
    rw [shareB_err (show (shareB w me m).2 ≠ 0 by intro h; rw [h] at he; cases he)] at h1
    have h2 := Same12 w (hfit.toLim (by decide))
    clear hw hfit hform
    refine Spec.of_runs Go.Proofs.Tryz.f14 Go.Proofs.Tryz.func14 rfl ?_
    intro w0 M0
    simp only [Go.Proofs.Tryz.f14, List.replicate, List.cons_append, List.nil_append, z, seval]
    (refine CU (hA) (h := ?_); simp only [z, seval])
    (refine CU (hF) (h := ?_); simp only [z, seval])
    (refine CU (h1) (h := ?_); simp only [z, seval])
    simp only [he, z, seval]
    (refine CU (h2) (h := ?_); simp only [z, seval])
    (refine FINS_done ?_; simp only [z, seval])
  | true =>
  have he' : (shareB w me m).2 = 0 := by simpa using he
  obtain ⟨i, o1, o2, o3, o4⟩ := shareB_ok he'
  obtain ⟨hi, r1, r2, r3, r4⟩ := wait_run (show (personW w me).runs.findIdx? (waitM 2 2 m.run) = some i from o1)
  have hfa := shareB_fit hfit (by decide) (by decide) hme hm
  have hO := rOpen_spec w hfit (by decide) hform.box (personW w me).key 8 m.more
  rw [← bO] at hO
  obtain ⟨n, rfl⟩ := Int.eq_ofNat_of_zero_le hme.1
  have hin : n < w.people.length := by omega
  have hp : personW w (n : Int) = w.people[n] := get_in9 hin
  have hpe := com_people hform.right hme (show ((n : Int)).toNat < w.people.length from hin) i (doneR (runAt (personW w n).runs i) (bO w n m).1.k) ⟨4, 2, 2, (runAt (personW w n).runs i).peer, n, (bO w n m).1.k, 0, (runAt (personW w n).runs i).m, (runAt (personW w n).runs i).mine, (personW w n).clock⟩
  have hpe2 : (sendTo (bCom w n i (bO w n m).1.k) (runAt (personW w n).runs i).peer (bM9 m)).people = w.people.set n (setRun (personW w n) i (doneR (runAt (personW w n).runs i) (bO w n m).1.k)) := hpe
  rw [o4] at h1 hfa
  have hra : Right10 (sendTo (bCom w n i (bO w n m).1.k) (runAt (personW w n).runs i).peer (bM9 m)).people = true := right_set hform.right _ (personW_ok hfit _).1
  have h2 := ShareB_spec (sendTo (bCom w n i (bO w n m).1.k) (runAt (personW w n).runs i).peer (bM9 m)) n m hfa (by decide) (by decide) hme hm hra
  have hap : personW (sendTo (bCom w n i (bO w n m).1.k) (runAt (personW w n).runs i).peer (bM9 m)) (n : Int) = setRun (personW w n) i (doneR (runAt (personW w n).runs i) (bO w n m).1.k) := by
    have h5 : n < (sendTo (bCom w n i (bO w n m).1.k) (runAt (personW w n).runs i).peer (bM9 m)).people.length := by rw [hpe2, List.length_set]; exact hin
    have : personW (sendTo (bCom w n i (bO w n m).1.k) (runAt (personW w n).runs i).peer (bM9 m)) (n : Int) = (sendTo (bCom w n i (bO w n m).1.k) (runAt (personW w n).runs i).peer (bM9 m)).people[n] := get_in9 h5
    rw [this]
    simp only [hpe2, List.getElem_set_self]
  have hsi : i < (personW (sendTo (bCom w n i (bO w n m).1.k) (runAt (personW w n).runs i).peer (bM9 m)) (n : Int)).runs.length := by rw [hap]; simp only [setRun, List.length_set]; exact hi
  have hst : runAt (personW (sendTo (bCom w n i (bO w n m).1.k) (runAt (personW w n).runs i).peer (bM9 m)) (n : Int)).runs i = doneR (runAt (personW w n).runs i) (bO w n m).1.k := by
    rw [runAt_get hsi]
    simp only [hap, setRun, List.getElem_set_self]
  obtain ⟨c1, c2, c3, c4, c5⟩ := shareB_keeps m hra hme rfl (by rw [hpe2, List.length_set]; exact hin) hsi (by rw [hst]; exact (by decide : (3 : Int) ≠ 1))
  rw [hst] at c5
  have c2' : (shareB (sendTo (bCom w n i (bO w n m).1.k) (runAt (personW w n).runs i).peer (bM9 m)) n m).1.people.length = w.people.length := by rw [c2, hpe2, List.length_set]
  have c3' : (shareB (sendTo (bCom w n i (bO w n m).1.k) (runAt (personW w n).runs i).peer (bM9 m)) n m).1.people[n].runs.length = (personW w n).runs.length := by rw [c3, hap]; simp only [setRun, List.length_set]
  have hX : sendTo (bCom w n i (bO w n m).1.k) (runAt (personW w n).runs i).peer (bM9 m) = ⟨w.conf, w.draws, w.box, ⟨w.net.room, w.net.grams ++ [⟨(runAt (personW w n).runs i).peer, msgWs (bM9 m)⟩], w.net.seen ++ [msgWs (bM9 m)]⟩, w.people.set n (setRun (personW w n) i (doneR (runAt (personW w n).runs i) (bO w n m).1.k)), w.log ++ [⟨4, 2, 2, (runAt (personW w n).runs i).peer, n, (bO w n m).1.k, 0, (runAt (personW w n).runs i).m, (runAt (personW w n).runs i).mine, (personW w n).clock⟩], w.regs, w.leaks⟩ := by
    have e : sendTo (bCom w n i (bO w n m).1.k) (runAt (personW w n).runs i).peer (bM9 m) = ⟨w.conf, w.draws, w.box, ⟨w.net.room, w.net.grams ++ [⟨(runAt (personW w n).runs i).peer, msgWs (bM9 m)⟩], w.net.seen ++ [msgWs (bM9 m)]⟩, (sendTo (bCom w n i (bO w n m).1.k) (runAt (personW w n).runs i).peer (bM9 m)).people, w.log ++ [⟨4, 2, 2, (runAt (personW w n).runs i).peer, n, (bO w n m).1.k, 0, (runAt (personW w n).runs i).m, (runAt (personW w n).runs i).mine, (personW w n).clock⟩], w.regs, w.leaks⟩ := rfl
    rw [e]
    congr 1
  have u0 : (personW w (n : Int)).runs.length ≤ 1048576 := personW_runs hfit _
  have g2 := hfit.log
  have g3 := hfit.people
  have g4 := hfit.grams
  have hmay : msgMay (bM9 m) = true := may9 _ _
  have hG := rGet03_spec (msgWs (bM9 m)) (by have := msgPut_U (msg9_ok hm); rw [msgPut, show msgMay ⟨9, m.run, 0, 0, 0, m.box, 0⟩ = true from hmay] at this; exact this) (by have := msgWs_len (bM9 m); omega)
  rw [msgGet_put hmay] at hG
  simp only [bM9] at hG
  generalize hws : msgWs (bM9 m) = ws at hX
  have hws' : msgWs ⟨9, m.run, 0, 0, 0, m.box, 0⟩ = ws := hws
  rw [hws'] at hG
  clear hw hfit hform hfa hra hap hsi hst hpe hpe2 hf1 hf2 hf4 o4 he he' c2 c3 o1 hmay hm
  generalize (shareB (sendTo (bCom w n i (bO w n m).1.k) (runAt (personW w n).runs i).peer (bM9 m)) n m).2 = c2e at h2
  generalize (shareB (sendTo (bCom w n i (bO w n m).1.k) (runAt (personW w n).runs i).peer (bM9 m)) n m).1 = cW at *
  rw [hX] at h1 h2
  have b0 := getMap Person.v w.people hin
  rw [← hp] at b0
  have hg := runAt_get hi
  rw [hg] at r1 r2 r3 r4 o3 h1 h2 c5
  clear hp hX hg hws hws'
  generalize hq : bO w n m = q at *
  obtain ⟨⟨qn, qm, qa, qb, qk, qt, qh⟩, q2⟩ := q
  simp only at o2 o3 h1 h2 c5
  subst o2
  generalize hP : personW w (n : Int) = P at *
  obtain ⟨pn, pk, pc, pu, pr, pcor⟩ := P
  simp only at hi u0 r1 r2 r3 r4 o3 c3' hO
  have bi := getMap Run.v pr hi
  generalize hr0 : pr[i] = r0 at *
  obtain ⟨rproto, rrole, rpeer, rmine, rtheir, rm, rk, rt, rstate⟩ := r0
  simp only at r1 r2 r3 r4 o3
  subst r1 r2 r3 r4 o3
  simp only [setRun, doneR] at h1 h2 c5
  have w4 : (w.people.set n ⟨pn, pk, pc, pu, pr.set i ⟨2, 2, rpeer, qn, rtheir, m.run, qk, rt, 3⟩, pcor⟩).length = w.people.length := List.length_set
  have w5 : (pr.set i ⟨2, 2, rpeer, qn, rtheir, m.run, qk, rt, 3⟩).length = pr.length := List.length_set
  have w6 : (w.log ++ [(⟨4, 2, 2, rpeer, n, qk, 0, m.run, qn, pc⟩ : Event)]).length = w.log.length + 1 := by simp
  have w7 : (w.net.grams ++ [(⟨rpeer, ws⟩ : Gram)]).length = w.net.grams.length + 1 := by simp
  have w2 : IntKind.i64.wrap ((w.log.length : Int) + 1) = ((w.log.length + 1 : Nat) : Int) := w64s (by omega)
  have w3 : IntKind.i64.wrap ((w.net.grams.length : Int) + 1) = ((w.net.grams.length + 1 : Nat) : Int) := w64s (by omega)
  have b6 := setMap9 Person.v ⟨pn, pk, pc, pu, pr.set i ⟨2, 2, rpeer, qn, rtheir, m.run, qk, rt, 3⟩, pcor⟩ hin
  have b7 := setMap9 Run.v (⟨2, 2, rpeer, qn, rtheir, m.run, qk, rt, 3⟩ : Run) hi
  have b8 := lastMap9 Event.v w.log ⟨4, 2, 2, rpeer, n, qk, 0, m.run, qn, pc⟩
  have b9 := lastMap9 Gram.v w.net.grams ⟨rpeer, ws⟩
  have hb7 : ∀ j, j ≠ i → (hj : j < pr.length) → ((pr.set i ⟨2, 2, rpeer, qn, rtheir, m.run, qk, rt, 3⟩).map Run.v)[j]? = some (Run.v pr[j]) := fun j hji hj => by
    rw [getMap Run.v _ (by rw [List.length_set]; exact hj), List.getElem_set, if_neg (fun e => hji e.symm)]
  have d1 := getMap Person.v cW.people c1
  have d2 := getMap Run.v cW.people[n].runs c4
  rw [c5] at d2
  simp only [mv] at b0 bi b6 b7 b8 b9 hb7 d1 d2
  refine Spec.of_runs Go.Proofs.Tryz.f14 Go.Proofs.Tryz.func14 rfl ?_
  intro w0 M0
  simp only [Go.Proofs.Tryz.f14, List.replicate, List.cons_append, List.nil_append, z, seval]
  (refine CU (hA) (h := ?_); simp only [z, seval])
  (refine CU (hF) (h := ?_); simp only [z, seval])
  (refine CU (h1) (h := ?_); simp only [z, seval])
  (refine RUNs_draw 0 (by kernel_rfl) ?_; simp only [z, seval])
  simp only [b0, b6, w2, w3, w4, w5, w6, w7, z, seval]
  (refine ⟨by kernel_rfl, ?_⟩)
  have hst : ((1 : Int) == 3) = false := rfl
  refine RUNs_rangeS (pr.length) (fun j (a : Int) => a = if i < j then (i : Int) else -1) (fun j a => [(11, i64 a), (12, i64 j)]) (fun _ _ => []) (-1) ?_ (by simp only [z, seval]; exact wk) rfl ?_
  · rfl
  rintro ⟨j, a, hj, ha⟩
  simp only [z, seval]
  first | refine brk (fun h => ?_) (fun h => ?_) | fail
  · have hlt : j < pr.length := by have := of_decide_eq_true h; omega
    have bj := getMap Run.v pr hlt
    simp only [mv] at bj
    simp only [h, z, seval]
    (refine RUNs_draw 0 (by kernel_rfl) ?_; simp only [z, seval])
    rcases Nat.lt_trichotomy j i with hji | rfl | hji
    · have bj' := hb7 j (by omega) hlt
      simp only [bj, bj', z, seval]
      (refine ⟨by kernel_rfl, ?_⟩)
      simp only [w64s (i := j) (by omega), z, seval]
      (refine NX a ?_ (by rfl) hlt ?_; simp only [z, seval]; exact wk)
      show a = if i < j + 1 then (i : Int) else -1
      rw [ha, if_neg (by omega), if_neg (by omega)]
    · rw [if_neg (by omega)] at ha
      subst ha
      simp only [bi, b7, z, seval]
      (refine ⟨by kernel_rfl, ?_⟩)
      simp only [hst, Bool.and_false, Bool.not_false, w64s (i := j) (by omega), z, seval]
      (refine NX (j : Int) ?_ (by rfl) hlt ?_; simp only [z, seval]; exact wk)
      show (j : Int) = if j < j + 1 then (j : Int) else -1
      rw [if_pos (by omega)]
    · have bj' := hb7 j (by omega) hlt
      simp only [bj, bj', z, seval]
      (refine ⟨by kernel_rfl, ?_⟩)
      simp only [w64s (i := j) (by omega), z, seval]
      (refine NX a ?_ (by rfl) hlt ?_; simp only [z, seval]; exact wk)
      show a = if i < j + 1 then (i : Int) else -1
      rw [ha, if_pos (by omega), if_pos (by omega)]
  · have hjl : j = pr.length := by have := of_decide_eq_false h; omega
    rw [if_pos (by omega)] at ha
    subst ha
    have n0 : decide ((i : Int) < 0) = false := decide_eq_false (by omega)
    simp only [h, n0, z, seval]
    (refine RUNs_draw 1 (by kernel_rfl) ?_; simp only [z, seval])
    simp only [b0, z, seval]
    (refine DU (hO) (h := ?_); simp only [z, seval])
    (refine ⟨by kernel_rfl, ?_⟩)
    simp only [b8, b9, z, seval]
    (refine CU (hG) (h := ?_); simp only [z, seval])
    (refine RUNs_draw 0 (by kernel_rfl) ?_; simp only [z, seval])
    simp only [bi, b7, z, seval]
    (refine ⟨by kernel_rfl, ?_⟩)
    (refine CU (h2) (h := ?_); simp only [z, seval])
    (refine RUNs_draw 0 (by kernel_rfl) ?_; simp only [z, seval])
    simp only [bi, c2', c3', d1, d2, b7, w5, z, seval]
    (refine ⟨by kernel_rfl, ?_⟩)
    (refine FINS_done ?_; simp only [z, seval])
end Ch

/- All texts so far, in one order, to the end. -/
