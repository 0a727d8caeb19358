/- The document's parts. -/
import Derived.Test.YtpmllihgejohcaaGreatDoorW8
set_option maxRecDepth 100000
set_option maxHeartbeats 4000000
set_option linter.unusedSimpArgs false
set_option linter.unusedVariables false
namespace Ch
open Go Go.Ab
theorem rwords_spec (label : Int) (p : Part) : Spec PP GG 124 [u32 label, p.v] (wordsV (partWs label p)) [] := by
  refine Spec.of_runs Go.Proofs.Tryz.f124 Go.Proofs.Tryz.func124 rfl ?_
  intro w0 M0
  simp only [Go.Proofs.Tryz.f124, List.replicate, List.cons_append, List.nil_append, z, seval]
  repeat' ((first | refine brk (fun h => ?_) (fun h => ?_) | fail) <;> simp only [h, z, seval])
  all_goals (refine FINS_done ?_; simp only [z, seval])
  all_goals (first | (simp only [partWs, *, cond_true, cond_false, Bool.true_and, Bool.and_true, Bool.false_and, Bool.and_false, Bool.true_or, Bool.or_true, Bool.false_or, Bool.or_false, Bool.not_true, Bool.not_false, beq_self_eq_true, Option.getD_some, Option.getD_none, Option.isSome_some, Option.isSome_none, List.map_nil]; done) | (simp only [partWs, *, cond_true, cond_false, Bool.true_and, Bool.and_true, Bool.false_and, Bool.and_false, Bool.true_or, Bool.or_true, Bool.false_or, Bool.or_false, Bool.not_true, Bool.not_false, beq_self_eq_true, Option.getD_some, Option.getD_none, Option.isSome_some, Option.isSome_none, List.map_nil]; rfl) | (simp [partWs, *]; done) | (simp_all [partWs]; done))
theorem rGet11_spec (label : Int) (l : List Int) : Spec PP GG 75 [u32 label, wordsV l] (.tup [(partGet label l).1.v, i64 (partGet label l).2]) [] := by
  cases hl : label? label with
  | true =>
    have hW := rwords_spec label zPart
    have hl' := hl
    rcases label_cases hl with rfl | rfl | rfl | rfl | rfl | rfl | rfl | rfl
    all_goals
      refine Spec.of_runs Go.Proofs.Tryz.f75 Go.Proofs.Tryz.func75 rfl ?_
      intro w0 M0
      simp only [Go.Proofs.Tryz.f75, List.replicate, List.cons_append, List.nil_append, z, seval]
      (refine CU (hW) (h := ?_); simp only [z, seval])
      simp only [partWs, Int.reduceBEq, cond_true, cond_false, Bool.true_or, Bool.or_true, Bool.or_false, Bool.false_or, z, seval]
      first | refine brk (fun h => ?_) (fun h => ?_) | fail
      · have hq := h
        rcases l with _ | ⟨x0, _ | ⟨x1, _ | ⟨x2, _ | ⟨x3, _ | ⟨x4, _ | ⟨x5, l⟩⟩⟩⟩⟩⟩
        all_goals first
          | (exfalso; simp at hq; done)
          | (exfalso; simp at hq; omega)
          | (simp only [h, List.map_cons, List.map_nil, z, seval]
             try ((refine RUNs_draw 0 (by kernel_rfl) ?_; simp only [z, seval]); (refine ⟨by kernel_rfl, ?_⟩))
             (refine FINS_done ?_; simp only [z, seval])
             simp only [partGet, hl, partRd, partWs, Int.reduceBEq, cond_true, cond_false, beq_self_eq_true, Bool.true_and, Bool.or_true, Bool.or_false, Bool.true_or, List.getD_cons_zero, List.getD_cons_succ, List.length_cons, List.length_nil, z, seval])
      · simp only [h, z, seval]
        (refine FINS_done ?_; simp only [z, seval])
        have hq := h
        rw [partGet_ne hl' (by intro hh; simp [partWs] at hh; simp [hh] at hq)]; rfl
  | false =>
    have e : partGet label l = (zPart, 1) := by simp [partGet, hl]
    rw [e]
    refine Spec.of_runs Go.Proofs.Tryz.f75 Go.Proofs.Tryz.func75 rfl ?_
    intro w0 M0
    simp only [Go.Proofs.Tryz.f75, List.replicate, List.cons_append, List.nil_append, z, seval]
    repeat' ((first | refine brk (fun h => ?_) (fun h => ?_) | fail) <;> simp only [h, z, seval])
    all_goals first | ((refine FINS_done ?_; simp only [z, seval]); rfl) | (exfalso; simp [label?] at hl; simp at *; omega)
theorem rPut11_spec (label : Int) (p : Part) : Spec PP GG 70 [u32 label, p.v] (.tup [wordsV (partPut label p).1, i64 (partPut label p).2]) [] := by
  have hl0 : (partWs label p).length = (partWs label zPart).length := by
    unfold partWs
    cases (label == 2) <;> cases (label == 3) <;> cases (label == 4 || label == 5) <;> cases (label == 6 || label == 7) <;> cases (label == 8 || label == 9) <;> rfl
  have hG : partGet label (partWs label p) = bif label? label then (partRd label (partWs label p), 0) else (zPart, 1) := by
    rw [partGet, hl0]; simp
  have hS := rGet11_spec label (partWs label p)
  rw [hG] at hS
  refine Spec.of_runs Go.Proofs.Tryz.f70 Go.Proofs.Tryz.func70 rfl ?_
  intro w0 M0
  simp only [Go.Proofs.Tryz.f70, List.replicate, List.cons_append, List.nil_append, z, seval]
  (refine CU (rwords_spec label p) (h := ?_); simp only [z, seval])
  (refine CU (hS) (h := ?_); simp only [z, seval])
  cases hl : label? label with
  | false =>
    simp only [hl, cond_false, z, seval]
    (refine FINS_done ?_; simp only [z, seval])
    simp [partPut, hl]
  | true =>
    simp only [hl, cond_true, z, seval]
    have hs : ∀ q : Part, (q.n == p.n && (q.m == p.m && (q.a == p.a && (q.b == p.b && (q.k == p.k && (q.t == p.t && q.h == p.h)))))) = eqPart p q := by
      intro q
      have hb : ∀ x y : Int, (x == y) = (y == x) := fun x y => by rw [Bool.eq_iff_iff]; simp; exact eq_comm
      simp only [eqPart, hb q.n, hb q.m, hb q.a, hb q.b, hb q.k, hb q.t, hb q.h]
    first | refine brk (fun h => ?_) (fun h => ?_) | fail
    · have h2 := h
      rw [hs] at h2
      simp only [h, z, seval]
      (refine FINS_done ?_; simp only [z, seval])
      simp only [partPut, hl, h2, Bool.true_and, cond_true]
    · have h2 := h
      rw [hs] at h2
      simp only [h, z, seval]
      (refine FINS_done ?_; simp only [z, seval])
      simp only [partPut, hl, h2, Bool.true_and, cond_false, List.map_nil]
end Ch

/- The document's desk. -/
set_option maxRecDepth 100000
set_option maxHeartbeats 4000000
set_option linter.unusedSimpArgs false
set_option linter.unusedVariables false
namespace Ch
open Go Go.Ab
theorem rDraw_spec (w : World) {N : Nat} (hw : w.fit N) (hN : N ≤ 500000000000) : Spec PP GG 29 [w.v] (.tup [(drawW w).1.v, u32 (drawW w).2]) [] := by
  have hT := rTake_spec w.draws hw.next0 (by have := hw.nextN; omega)
  refine Spec.of_runs Go.Proofs.Tryz.f29 Go.Proofs.Tryz.func29 rfl ?_
  intro w0 M0
  simp only [Go.Proofs.Tryz.f29, List.replicate, List.cons_append, List.nil_append, z, seval]
  (refine CU (hT) (h := ?_); simp only [z, seval])
  (refine FINS_done ?_; simp only [z, seval])
  simp only [drawW]
theorem rSeal_spec (w : World) {N : Nat} (hw : w.fit N) (hN : N ≤ 500000000000) (key label : Int) (p : Part) : Spec PP GG 25 [w.v, u32 key, u32 label, p.v] (.tup [(sealW w key label p).1.v, u32 (sealW w key label p).2.1, i64 (sealW w key label p).2.2]) [] := by
  have hr := hw.rows
  have hp := partPut_len label p
  refine Spec.of_runs Go.Proofs.Tryz.f25 Go.Proofs.Tryz.func25 rfl ?_
  intro w0 M0
  simp only [Go.Proofs.Tryz.f25, List.replicate, List.cons_append, List.nil_append, z, seval]
  (refine CU (rPut11_spec label p) (h := ?_); simp only [z, seval])
  cases h1 : ((partPut label p).2 == 0) with
  | false =>
    simp only [h1, z, seval]
    (refine FINS_done ?_; simp only [z, seval])
    simp only [sealW, h1, cond_false]
  | true =>
    simp only [h1, z, seval]
    (refine CU (rDraw_spec w hw hN) (h := ?_); simp only [z, seval])
    (refine CU (rSeal07_spec w.box (drawW w).2 key label (partPut label p).1 (by omega) (by omega)) (h := ?_); simp only [z, seval])
    cases h2 : ((boxSeal w.box (drawW w).2 key label (partPut label p).1).2 == 0) with
    | false =>
      simp only [h2, z, seval]
      (refine FINS_done ?_; simp only [z, seval])
      simp only [sealW, h1, h2, cond_true, cond_false]
    | true =>
      simp only [h2, z, seval]
      (refine FINS_done ?_; simp only [z, seval])
      simp only [sealW, h1, h2, cond_true]
theorem rSend_spec (w : World) {N : Nat} (hw : w.fit N) (hN : N ≤ 500000000000) (to : Int) (m : Msg) (hm : m.ok) : Spec PP GG 32 [w.v, u32 to, m.v] (.tup [(sendW w to m).1.v, i64 (sendW w to m).2]) [] := by
  have hr := hw.grams
  have hs := hw.seen
  refine Spec.of_runs Go.Proofs.Tryz.f32 Go.Proofs.Tryz.func32 rfl ?_
  intro w0 M0
  simp only [Go.Proofs.Tryz.f32, List.replicate, List.cons_append, List.nil_append, z, seval]
  (refine CU (rPut_spec m hm) (h := ?_); simp only [z, seval])
  cases h1 : ((msgPut m).2 == 0) with
  | false =>
    simp only [h1, z, seval]
    (refine FINS_done ?_; simp only [z, seval])
    simp only [sendW, h1, cond_false]
  | true =>
    simp only [h1, z, seval]
    (refine CU (rNSend_spec w.net ⟨to, (msgPut m).1⟩ (by omega) (by omega)) (h := ?_); simp only [z, seval])
    (refine FINS_done ?_; simp only [z, seval])
    cases d : decide (w.net.room - (w.net.grams.length : Int) < 1) <;> simp [sendW, h1, netSend, d]
theorem rLog_spec (w : World) {N : Nat} (hw : w.fit N) (hN : N ≤ 500000000000) (e : Event) : Spec PP GG 34 [w.v, e.v] (logW w e).v [] := by
  have hr := hw.log
  refine Spec.of_runs Go.Proofs.Tryz.f34 Go.Proofs.Tryz.func34 rfl ?_
  intro w0 M0
  simp only [Go.Proofs.Tryz.f34, List.replicate, List.cons_append, List.nil_append, z, seval]
  (refine RUNs_draw 4 (by kernel_rfl) ?_; simp only [z, seval])
  refine DOC_ok ?_ ?_
  · exact okMap _ (fun a => rfl) (by omega)
  simp only [z, seval]
  refine DOC_ok ?_ ?_
  · simp; omega
  simp only [z, seval]
  (refine ⟨by kernel_rfl, ?_⟩)
  (refine FINS_done ?_; simp only [z, seval])
  simp only [logW, List.map_append, List.map_cons, List.map_nil, z, seval]
theorem rRoom_spec (w : World) (b f : Int) (hb : 0 ≤ w.box.room ∧ w.box.room ≤ 1099511627776) (hn : 0 ≤ w.net.room ∧ w.net.room ≤ 1099511627776) (h1 : w.box.rows.length ≤ 500000000000) (h2 : w.net.grams.length ≤ 500000000000) : Spec PP GG 53 [w.v, i64 b, i64 f] (.bool (roomW w b f)) [] := by
  refine Spec.of_runs Go.Proofs.Tryz.f53 Go.Proofs.Tryz.func53 rfl ?_
  intro w0 M0
  simp only [Go.Proofs.Tryz.f53, List.replicate, List.cons_append, List.nil_append, z, seval]
  simp only [w64 (n := w.box.room - w.box.rows.length) (by omega) (by omega), w64 (n := w.net.room - w.net.grams.length) (by omega) (by omega), z, seval]
  repeat' ((first | refine brk (fun h => ?_) (fun h => ?_) | fail) <;> simp only [h, w64 (n := w.net.room - w.net.grams.length) (by omega) (by omega), z, seval])
  all_goals (refine FINS_done ?_; simp only [z, seval])
  all_goals (first | (simp only [roomW, *, cond_true, cond_false, Bool.true_and, Bool.and_true, Bool.false_and, Bool.and_false, Bool.true_or, Bool.or_true, Bool.false_or, Bool.or_false, Bool.not_true, Bool.not_false, beq_self_eq_true, Option.getD_some, Option.getD_none, Option.isSome_some, Option.isSome_none, List.map_nil]; done) | (simp only [roomW, *, cond_true, cond_false, Bool.true_and, Bool.and_true, Bool.false_and, Bool.and_false, Bool.true_or, Bool.or_true, Bool.false_or, Bool.or_false, Bool.not_true, Bool.not_false, beq_self_eq_true, Option.getD_some, Option.getD_none, Option.isSome_some, Option.isSome_none, List.map_nil]; rfl) | (simp [roomW, *]; done) | (simp_all [roomW]; done))
theorem rPerson_spec (w : World) {N : Nat} (hw : w.fit N) (hN : N ≤ 500000000000) (hr : Right10 w.people = true) (n : Int) (hn : U n) : Spec PP GG 37 [w.v, u32 n] (personW w n).v [] := by
  have hl := hw.people
  have h1 := rGet_spec w.people n (by omega)
  rw [rGetD_right hr hn] at h1
  clear hr
  refine Spec.of_runs Go.Proofs.Tryz.f37 Go.Proofs.Tryz.func37 rfl ?_
  intro w0 M0
  simp only [Go.Proofs.Tryz.f37, List.replicate, List.cons_append, List.nil_append, z, seval]
  (refine CU (h1) (h := ?_); simp only [z, seval])
  (refine FINS_done ?_; simp only [z, seval])
  simp only [personW]
theorem setL_right {l : List Person} (h : Right10 l = true) {p : Person} (hp : U p.name) (hlt : p.name.toNat < l.length) : setL l p = (setM l p).1 := by
  have hn := names_of_right h
  rw [setM, decide_eq_true hlt, cond_true]
  apply List.ext_getElem
  · simp [setL]
  intro i h1 h2
  simp only [setL, List.getElem_map, List.getElem_set]
  simp only [setL, List.length_map] at h1
  have := hn i h1
  have := hp.1
  by_cases hi : p.name.toNat = i
  · rw [if_pos hi, show (l[i].name == p.name) = true by simp; omega]; rfl
  · rw [if_neg hi, show (l[i].name == p.name) = false by simp; omega]; rfl
theorem setE_right {l : List Person} (h : Right10 l = true) {p : Person} (hp : U p.name) : setE l p = bif decide (p.name.toNat < l.length) then 0 else 1 := by
  have hn := names_of_right h
  have := hp.1
  rw [setE]
  congr 1
  rw [Bool.eq_iff_iff, List.any_eq_true, decide_eq_true_eq]
  constructor
  · rintro ⟨q, hq, hqe⟩
    obtain ⟨i, hi, rfl⟩ := List.mem_iff_getElem.1 hq
    have := hn i hi
    simp only [beq_iff_eq] at hqe
    omega
  · intro hlt
    exact ⟨_, List.getElem_mem hlt, by have := hn _ hlt; simp only [beq_iff_eq]; omega⟩
theorem rWith_spec (w : World) {N : Nat} (hw : w.fit N) (hN : N ≤ 500000000000) (hr : Right10 w.people = true) (p : Person) (hp : U p.name) : Spec PP GG 39 [w.v, p.v] (withW w p).v [] := by
  have hl := hw.people
  have hE := setE_right hr hp
  have hS := fun h => setL_right hr hp h
  have h1 := rSet_spec w.people p (by omega)
  rw [hE] at h1
  cases hlt : decide (p.name.toNat < w.people.length) with
  | true =>
    rw [hlt, cond_true, hS (of_decide_eq_true hlt)] at h1
    have h2 := h1.fz (r' := .tup [peopleV (setM w.people p).1, i64 0]) (by simp only [z, seval])
    clear h1 hS hE hr
    refine Spec.of_runs Go.Proofs.Tryz.f39 Go.Proofs.Tryz.func39 rfl ?_
    intro w0 M0
    simp only [Go.Proofs.Tryz.f39, List.replicate, List.cons_append, List.nil_append, z, seval]
    (refine CU (h2) (h := ?_); simp only [z, seval])
    (refine FINS_done ?_; simp only [z, seval])
    simp only [withW]
  | false =>
    rw [hlt, cond_false] at h1
    have h2 := h1.fz (r' := .tup [peopleV (setL w.people p), i64 1]) (by simp only [z, seval])
    clear h1 hS hE hr
    refine Spec.of_runs Go.Proofs.Tryz.f39 Go.Proofs.Tryz.func39 rfl ?_
    intro w0 M0
    simp only [Go.Proofs.Tryz.f39, List.replicate, List.cons_append, List.nil_append, z, seval]
    (refine CU (h2) (h := ?_); simp only [z, seval])
    (refine FINS_done ?_; simp only [z, seval])
    simp only [withW, setM, hlt, cond_false]
end Ch

/- The server that grants. -/
set_option maxRecDepth 100000
set_option maxHeartbeats 4000000
set_option linter.unusedSimpArgs false
set_option linter.unusedVariables false
namespace Ch
open Go Go.Ab
def gTk (w : World) (m : Msg) : World × Int × Int := sealW (drawW w).1 (personW w m.b).key 3 ⟨0, 0, m.a, 0, (drawW w).2, (personW w 0).clock, 0⟩
def gGr (w : World) (m : Msg) : World × Int × Int := sealW (gTk w m).1 (personW w m.a).key 2 ⟨m.nonce, 0, 0, m.b, (drawW w).2, (personW w 0).clock, (gTk w m).2.1⟩
def gP (w : World) (m : Msg) : Person := { personW w 0 with used := (usedNote (personW w 0).used w.conf.used m.nonce).1 }
def gEv (w : World) (m : Msg) : Event := ⟨2, 1, 0, m.a, m.b, (drawW w).2, (personW w 0).clock, 0, m.nonce, (personW w 0).clock⟩
def gY (w : World) (m : Msg) : World := logW (withW (gGr w m).1 (gP w m)) (gEv w m)
def gZ (w : World) (m : Msg) : World × Int := sendW (gY w m) m.a ⟨2, 0, 0, 0, 0, (gGr w m).2.1, 0⟩
def grantM (w : World) (m : Msg) : World × Int :=
  bif pairM w.people m.a m.b then (bif decide ((personW w 0).clock ≥ 1073741824) then (w, 7) else (bif usedMay (personW w 0).used w.conf.used m.nonce == 0 then (bif roomW w 2 1 then
    (bif (gTk w m).2.2 == 0 then (bif (gGr w m).2.2 == 0 then (bif (gZ w m).2 == 0 then ((gZ w m).1, 0) else (w, (gZ w m).2)) else (w, (gGr w m).2.2)) else (w, (gTk w m).2.2)) else (w, 10))
    else (w, usedMay (personW w 0).used w.conf.used m.nonce))) else (w, 5)
theorem U0 : U 0 := by decide
theorem U2 : U 2 := by decide
theorem personW_ok {w : World} {N : Nat} (hw : w.fit N) (n : Int) : (personW w n).ok := getP_ok hw _
theorem usedMay_le {l : List Int} {room w : Int} : (usedNote l room w).1.length ≤ l.length + 1 := by
  unfold usedNote; cases (usedMay l room w == 0) <;> simp
theorem gP_ok {w : World} {N : Nat} (hw : w.fit N) (hN : N ≤ 400000000000) {m : Msg} (hm : m.ok) : (gP w m).ok := by
  obtain ⟨h1, h2, h3, h4, h5⟩ := personW_ok hw 0
  refine ⟨h1, h2, h3, ?_, h5⟩
  simp only [gP, usedNote]
  cases (usedMay (personW w 0).used w.conf.used m.nonce == 0)
  · exact h4
  · exact LL.app h4 (getP_used hw _) (by omega) hm.2.2.2.2.1
theorem gTk_fit {w : World} {N : Nat} (hw : w.fit N) (h5 : 21 ≤ N) (hN : N ≤ 400000000000) {m : Msg} (hm : m.ok) : (gTk w m).1.fit (N + 2) := by
  refine fit_seal (fit_draw hw (by omega)) (by omega) (by omega) (personW_ok hw _).2.1 (by decide) ?_
  exact ⟨U0, U0, hm.2.2.1, U0, drawW_U hw, (personW_ok hw 0).2.2.1, U0⟩
theorem gTk_U {w : World} {N : Nat} (hw : w.fit N) (hN : N ≤ 400000000000) (m : Msg) : U (gTk w m).2.1 := sealW_U (fit_draw hw (by omega)) _ _ _
theorem gGr_fit {w : World} {N : Nat} (hw : w.fit N) (h5 : 21 ≤ N) (hN : N ≤ 400000000000) {m : Msg} (hm : m.ok) : (gGr w m).1.fit (N + 3) := by
  refine fit_seal (gTk_fit hw h5 hN hm) (by omega) (by omega) (personW_ok hw _).2.1 (by decide) ?_
  exact ⟨hm.2.2.2.2.1, U0, U0, hm.2.2.2.1, drawW_U hw, (personW_ok hw 0).2.2.1, gTk_U hw hN m⟩
theorem gGr_U {w : World} {N : Nat} (hw : w.fit N) (h5 : 21 ≤ N) (hN : N ≤ 400000000000) {m : Msg} (hm : m.ok) : U (gGr w m).2.1 := sealW_U (gTk_fit hw h5 hN hm) _ _ _
theorem gP_used {w : World} {N : Nat} (hw : w.fit N) (m : Msg) : (gP w m).used.length ≤ N + 1 := by
  have := getP_used hw (0 : Int).toNat
  have h2 := @usedMay_le (personW w 0).used w.conf.used m.nonce
  simp only [gP, personW] at h2 ⊢
  omega
theorem gP_runs {w : World} {N : Nat} (hw : w.fit N) (m : Msg) : (gP w m).runs.length ≤ N := getP_runs hw _
theorem gW_fit {w x : World} {N K : Nat} (hw : w.fit N) (hx : x.fit K) (hK : N + 1 ≤ K) (hN : N ≤ 400000000000) {m : Msg} (hm : m.ok) : (withW x (gP w m)).fit K :=
  fit_with hx (gP_ok hw hN hm) (by have := gP_used hw m; omega) (by have := gP_runs hw m; omega)
theorem gEv_ok {w : World} {N : Nat} (hw : w.fit N) {m : Msg} (hm : m.ok) : (gEv w m).ok := by
  refine ⟨?_, ?_, ?_, ?_, ?_, ?_, ?_, ?_, ?_, ?_⟩ <;> first | exact U0 | exact (by decide : I 0) | exact (by decide : I 1) | exact (by decide : I 2) | exact hm.2.2.1 | exact hm.2.2.2.1 | exact drawW_U hw | exact (personW_ok hw 0).2.2.1 | exact hm.2.2.2.2.1
theorem gY_fit {w : World} {N : Nat} (hw : w.fit N) (h5 : 21 ≤ N) (hN : N ≤ 400000000000) {m : Msg} (hm : m.ok) : (gY w m).fit (N + 4) :=
  fit_log (gW_fit hw (gGr_fit hw h5 hN hm) (by omega) hN hm) (by omega) (gEv_ok hw hm)
theorem over_end {c : Int} : overM c 1073741824 0 = decide (c ≥ 1073741824) := by
  rw [overM, Bool.eq_iff_iff]; simp; omega
theorem people_draw (w : World) : (drawW w).1.people = w.people := rfl
theorem people_seal (w : World) (k l : Int) (p : Part) : (sealW w k l p).1.people = w.people := by
  unfold sealW
  cases ((partPut l p).2 == 0)
  · rfl
  · cases ((boxSeal w.box (drawW w).2 k l (partPut l p).1).2 == 0) <;> rfl
theorem gGr_people (w : World) (m : Msg) : (gGr w m).1.people = w.people := by rw [gGr, people_seal, gTk, people_seal, people_draw]
theorem rGrant_spec (w : World) (m : Msg) {N : Nat} (hw : w.fit N) (h5 : 21 ≤ N) (hN : N ≤ 400000000000) (hm : m.ok) (hr : Right10 w.people = true) : Spec PP GG 15 [w.v, m.v] (.tup [(grantM w m).1.v, i64 (grantM w m).2]) [] := by
  have hP0 := rPerson_spec w hw (by omega) hr 0 (by decide)
  have hPa := rPerson_spec w hw (by omega) hr m.a hm.2.2.1
  have hPb := rPerson_spec w hw (by omega) hr m.b hm.2.2.2.1
  have hPr := rPair_spec w.people (by have := hw.people; omega) hr m.a m.b hm.2.2.1 hm.2.2.2.1
  have hMy := rMay08_spec (personW w 0).used w.conf.used m.nonce (by have := getP_used hw (0 : Int).toNat; simp only [personW]; omega)
  have hRm := rRoom_spec w 2 1 hw.broom hw.nroom (by have := hw.rows; omega) (by have := hw.grams; omega)
  have hDr := rDraw_spec w hw (by omega)
  have hS1 := rSeal_spec (drawW w).1 (fit_draw hw (by omega)) (by omega) (personW w m.b).key 3 ⟨0, 0, m.a, 0, (drawW w).2, (personW w 0).clock, 0⟩
  have hS2 := rSeal_spec (gTk w m).1 (gTk_fit hw h5 hN hm) (by omega) (personW w m.a).key 2 ⟨m.nonce, 0, 0, m.b, (drawW w).2, (personW w 0).clock, (gTk w m).2.1⟩
  have hW := rWith_spec (gGr w m).1 (gGr_fit hw h5 hN hm) (by omega) (by rw [gGr_people]; exact hr) (gP w m) (gP_ok hw hN hm).1
  have hL := rLog_spec (withW (gGr w m).1 (gP w m)) (gW_fit hw (gGr_fit hw h5 hN hm) (by omega) hN hm) (by omega) (gEv w m)
  have hSn := rSend_spec (gY w m) (gY_fit hw h5 hN hm) (by omega) m.a ⟨2, 0, 0, 0, 0, (gGr w m).2.1, 0⟩ ⟨U2, U0, U0, U0, U0, gGr_U hw h5 hN hm, U0⟩
  rw [← gTk] at hS1
  rw [← gGr] at hS2
  rw [← gY] at hL
  rw [← gZ] at hSn
  have hU : (personW w 0).used.length ≤ N := getP_used hw _
  clear hw hr hm
  cases c1 : pairM w.people m.a m.b with
  | false =>
    rw [c1] at hPr
    have e : grantM w m = (w, 5) := by simp only [grantM, c1, cond_false]
    rw [e]
    refine Spec.of_runs Go.Proofs.Tryz.f15 Go.Proofs.Tryz.func15 rfl ?_
    intro w0 M0
    simp only [Go.Proofs.Tryz.f15, List.replicate, List.cons_append, List.nil_append, z, seval]
    (refine CU (hP0) (h := ?_); simp only [z, seval])
    (refine CU (hPr) (h := ?_); simp only [z, seval])
    (refine FINS_done ?_; simp only [z, seval])
  | true =>
  rw [c1] at hPr
  cases c2 : decide ((personW w 0).clock ≥ 1073741824) with
  | true =>
    have e : grantM w m = (w, 7) := by simp only [grantM, c1, c2, cond_true]
    rw [e]
    refine Spec.of_runs Go.Proofs.Tryz.f15 Go.Proofs.Tryz.func15 rfl ?_
    intro w0 M0
    simp only [Go.Proofs.Tryz.f15, List.replicate, List.cons_append, List.nil_append, z, seval]
    (refine CU (hP0) (h := ?_); simp only [z, seval])
    (refine CU (hPr) (h := ?_); simp only [z, seval])
    simp only [c2, z, seval]
    (refine FINS_done ?_; simp only [z, seval])
  | false =>
  cases c3 : (usedMay (personW w 0).used w.conf.used m.nonce == 0) with
  | false =>
    have e : grantM w m = (w, usedMay (personW w 0).used w.conf.used m.nonce) := by simp only [grantM, c1, c2, c3, cond_true, cond_false]
    rw [e]
    refine Spec.of_runs Go.Proofs.Tryz.f15 Go.Proofs.Tryz.func15 rfl ?_
    intro w0 M0
    simp only [Go.Proofs.Tryz.f15, List.replicate, List.cons_append, List.nil_append, z, seval]
    (refine CU (hP0) (h := ?_); simp only [z, seval])
    (refine CU (hPr) (h := ?_); simp only [z, seval])
    simp only [c2, z, seval]
    (refine CU (hMy) (h := ?_); simp only [z, seval])
    simp only [c3, z, seval]
    (refine FINS_done ?_; simp only [z, seval])
  | true =>
  cases c4 : roomW w 2 1 with
  | false =>
    rw [c4] at hRm
    have e : grantM w m = (w, 10) := by simp only [grantM, c1, c2, c3, c4, cond_true, cond_false]
    rw [e]
    refine Spec.of_runs Go.Proofs.Tryz.f15 Go.Proofs.Tryz.func15 rfl ?_
    intro w0 M0
    simp only [Go.Proofs.Tryz.f15, List.replicate, List.cons_append, List.nil_append, z, seval]
    (refine CU (hP0) (h := ?_); simp only [z, seval])
    (refine CU (hPr) (h := ?_); simp only [z, seval])
    simp only [c2, z, seval]
    (refine CU (hMy) (h := ?_); simp only [z, seval])
    simp only [c3, z, seval]
    (refine CU (hRm) (h := ?_); simp only [z, seval])
    (refine FINS_done ?_; simp only [z, seval])
  | true =>
  rw [c4] at hRm
  have e0 : grantM w m = (bif (gTk w m).2.2 == 0 then (bif (gGr w m).2.2 == 0 then (bif (gZ w m).2 == 0 then ((gZ w m).1, 0) else (w, (gZ w m).2)) else (w, (gGr w m).2.2)) else (w, (gTk w m).2.2)) := by simp only [grantM, c1, c2, c3, c4, cond_true, cond_false]
  rw [e0]
  clear e0
  have hg : (gP w m) = ⟨(personW w 0).name, (personW w 0).key, (personW w 0).clock, (personW w 0).used ++ [m.nonce], (personW w 0).runs, (personW w 0).corrupt⟩ := by
    simp only [gP, usedNote, c3, cond_true]
  have hW2 : Spec PP GG 39 [(gGr w m).1.v, Person.v ⟨(personW w 0).name, (personW w 0).key, (personW w 0).clock, (personW w 0).used ++ [m.nonce], (personW w 0).runs, (personW w 0).corrupt⟩] (withW (gGr w m).1 (gP w m)).v [] := by rw [← hg]; exact hW
  have e : (personW w 0).used.map u32 ++ [u32 m.nonce] = ((personW w 0).used ++ [m.nonce]).map u32 := by simp
  refine Spec.of_runs Go.Proofs.Tryz.f15 Go.Proofs.Tryz.func15 rfl ?_
  intro w0 M0
  simp only [Go.Proofs.Tryz.f15, List.replicate, List.cons_append, List.nil_append, z, seval]
  (refine CU (hP0) (h := ?_); simp only [z, seval])
  (refine CU (hPr) (h := ?_); simp only [z, seval])
  simp only [c2, z, seval]
  (refine CU (hMy) (h := ?_); simp only [z, seval])
  simp only [c3, z, seval]
  (refine CU (hRm) (h := ?_); simp only [z, seval])
  (refine CU (hDr) (h := ?_); simp only [z, seval])
  (refine RUNs_draw 1 (by kernel_rfl) ?_; simp only [z, seval])
  (refine DU (hPb) (h := ?_); simp only [z, seval])
  (refine DU (hS1) (h := ?_); simp only [z, seval])
  (refine ⟨by kernel_rfl, ?_⟩)
  cases c5 : ((gTk w m).2.2 == 0) with
  | false =>
    simp only [c5, z, seval]
    (refine FINS_done ?_; simp only [z, seval])
  | true =>
  simp only [c5, z, seval]
  (refine RUNs_draw 1 (by kernel_rfl) ?_; simp only [z, seval])
  (refine DU (hPa) (h := ?_); simp only [z, seval])
  (refine DU (hS2) (h := ?_); simp only [z, seval])
  (refine ⟨by kernel_rfl, ?_⟩)
  cases c6 : ((gGr w m).2.2 == 0) with
  | false =>
    simp only [c6, z, seval]
    (refine FINS_done ?_; simp only [z, seval])
  | true =>
  simp only [c6, z, seval]
  (refine RUNs_draw 4 (by kernel_rfl) ?_; simp only [z, seval])
  refine DOC_ok ?_ ?_
  · exact okMap _ (fun a => rfl) (by omega)
  simp only [z, seval]
  refine DOC_ok ?_ ?_
  · simp; omega
  simp only [z, seval]
  (refine ⟨by kernel_rfl, ?_⟩)
  simp only [e, z, seval]
  (refine CU (hW2) (h := ?_); simp only [z, seval])
  (refine CU (hL) (h := ?_); simp only [z, seval])
  (refine CU (hSn) (h := ?_); simp only [z, seval])
  cases c7 : ((gZ w m).2 == 0) with
  | false =>
    simp only [c7, z, seval]
    (refine FINS_done ?_; simp only [z, seval])
  | true =>
    simp only [c7, z, seval]
    (refine FINS_done ?_; simp only [z, seval])
end Ch

/- The server that grants: the program's. -/
set_option maxRecDepth 100000
set_option maxHeartbeats 4000000
set_option linter.unusedSimpArgs false
set_option linter.unusedVariables false
namespace Ch
open Go Go.Ab
theorem Grant_spec (w : World) (m : Msg) {N : Nat} (hw : w.fit N) (h5 : 21 ≤ N) (hN : N ≤ 400000000000) (hm : m.ok) : Spec PP GG 14 [w.v, m.v] (.tup [(grantM w m).1.v, i64 (grantM w m).2]) [] := by
  have hP0 := person_spec w hw (by omega) 0 (by decide)
  have hPa := person_spec w hw (by omega) m.a hm.2.2.1
  have hPb := person_spec w hw (by omega) m.b hm.2.2.2.1
  have hPr := pPair_spec w.people m.a m.b hm.2.2.1 hm.2.2.2.1 (by have := hw.people; omega)
  have hU : (personW w 0).used.length ≤ N := getP_used hw _
  have hMy := uMay_spec (personW w 0).used w.conf.used m.nonce (by omega)
  have hNo := uNote_spec (personW w 0).used w.conf.used m.nonce (by omega)
  have hOv := over_spec (personW w 0).clock 1073741824 0 (personW_ok hw 0).2.2.1 (by decide) (by decide)
  rw [over_end] at hOv
  have hRm := room_spec' w hw (by omega) 2 1
  have hDr := draw_spec w hw (by omega)
  have hS1 := seal_spec (drawW w).1 (fit_draw hw (by omega)) (by omega) (personW w m.b).key 3 ⟨0, 0, m.a, 0, (drawW w).2, (personW w 0).clock, 0⟩
  have hS2 := seal_spec (gTk w m).1 (gTk_fit hw h5 hN hm) (by omega) (personW w m.a).key 2 ⟨m.nonce, 0, 0, m.b, (drawW w).2, (personW w 0).clock, (gTk w m).2.1⟩
  have hW := with_spec (gGr w m).1 (gGr_fit hw h5 hN hm) (by omega) (gP w m) (gP_ok hw hN hm).1
  have hW1 := with_spec (gTk w m).1 (gTk_fit hw h5 hN hm) (by omega) (gP w m) (gP_ok hw hN hm).1
  have hL := log_spec (withW (gGr w m).1 (gP w m)) (gW_fit hw (gGr_fit hw h5 hN hm) (by omega) hN hm) (by omega) (gEv w m)
  have hL1 := log_spec (withW (gTk w m).1 (gP w m)) (gW_fit hw (gTk_fit hw h5 hN hm) (by omega) hN hm) (by omega) (gEv w m)
  have hSn := send_spec (gY w m) (gY_fit hw h5 hN hm) (by omega) m.a ⟨2, 0, 0, 0, 0, (gGr w m).2.1, 0⟩ ⟨U2, U0, U0, U0, U0, gGr_U hw h5 hN hm, U0⟩
  rw [← gTk] at hS1
  rw [← gGr] at hS2
  rw [← gY] at hL
  rw [← gZ] at hSn
  clear hw hm
  cases c1 : pairM w.people m.a m.b with
  | false =>
    rw [c1] at hPr
    have e : grantM w m = (w, 5) := by simp only [grantM, c1, cond_false]
    rw [e]
    refine Spec.of_runs Go.Proofs.Tryz.f14 Go.Proofs.Tryz.func14 rfl ?_
    intro w0 M0
    simp only [Go.Proofs.Tryz.f14, List.replicate, List.cons_append, List.nil_append, z, seval]
    (refine CU (hP0) (h := ?_); simp only [z, seval])
    (refine CALLS_in (fn := Go.Proofs.Tryz.f47) Go.Proofs.Tryz.func47 rfl (by kernel_rfl) ?_; simp only [Go.Proofs.Tryz.f47, List.replicate, List.cons_append, List.nil_append, z, seval])
    (refine CU (hPr) (h := ?_); simp only [z, seval])
    (refine FINS_done ?_; simp only [z, seval])
  | true =>
  rw [c1] at hPr
  cases c2 : decide ((personW w 0).clock ≥ 1073741824) with
  | true =>
    rw [c2] at hOv
    have e : grantM w m = (w, 7) := by simp only [grantM, c1, c2, cond_true]
    rw [e]
    refine Spec.of_runs Go.Proofs.Tryz.f14 Go.Proofs.Tryz.func14 rfl ?_
    intro w0 M0
    simp only [Go.Proofs.Tryz.f14, List.replicate, List.cons_append, List.nil_append, z, seval]
    (refine CU (hP0) (h := ?_); simp only [z, seval])
    (refine CALLS_in (fn := Go.Proofs.Tryz.f47) Go.Proofs.Tryz.func47 rfl (by kernel_rfl) ?_; simp only [Go.Proofs.Tryz.f47, List.replicate, List.cons_append, List.nil_append, z, seval])
    (refine CU (hPr) (h := ?_); simp only [z, seval])
    (refine CU (hOv) (h := ?_); simp only [z, seval])
    (refine FINS_done ?_; simp only [z, seval])
  | false =>
  rw [c2] at hOv
  cases c3 : (usedMay (personW w 0).used w.conf.used m.nonce == 0) with
  | false =>
    have e : grantM w m = (w, usedMay (personW w 0).used w.conf.used m.nonce) := by simp only [grantM, c1, c2, c3, cond_true, cond_false]
    rw [e]
    refine Spec.of_runs Go.Proofs.Tryz.f14 Go.Proofs.Tryz.func14 rfl ?_
    intro w0 M0
    simp only [Go.Proofs.Tryz.f14, List.replicate, List.cons_append, List.nil_append, z, seval]
    (refine CU (hP0) (h := ?_); simp only [z, seval])
    (refine CALLS_in (fn := Go.Proofs.Tryz.f47) Go.Proofs.Tryz.func47 rfl (by kernel_rfl) ?_; simp only [Go.Proofs.Tryz.f47, List.replicate, List.cons_append, List.nil_append, z, seval])
    (refine CU (hPr) (h := ?_); simp only [z, seval])
    (refine CU (hOv) (h := ?_); simp only [z, seval])
    (refine CU (hMy) (h := ?_); simp only [z, seval])
    simp only [c3, z, seval]
    (refine FINS_done ?_; simp only [z, seval])
  | true =>
  cases c4 : roomW w 2 1 with
  | false =>
    rw [c4] at hRm
    have e : grantM w m = (w, 10) := by simp only [grantM, c1, c2, c3, c4, cond_true, cond_false]
    rw [e]
    refine Spec.of_runs Go.Proofs.Tryz.f14 Go.Proofs.Tryz.func14 rfl ?_
    intro w0 M0
    simp only [Go.Proofs.Tryz.f14, List.replicate, List.cons_append, List.nil_append, z, seval]
    (refine CU (hP0) (h := ?_); simp only [z, seval])
    (refine CALLS_in (fn := Go.Proofs.Tryz.f47) Go.Proofs.Tryz.func47 rfl (by kernel_rfl) ?_; simp only [Go.Proofs.Tryz.f47, List.replicate, List.cons_append, List.nil_append, z, seval])
    (refine CU (hPr) (h := ?_); simp only [z, seval])
    (refine CU (hOv) (h := ?_); simp only [z, seval])
    (refine CU (hMy) (h := ?_); simp only [z, seval])
    simp only [c3, z, seval]
    (refine CU (hRm) (h := ?_); simp only [z, seval])
    (refine FINS_done ?_; simp only [z, seval])
  | true =>
  rw [c4] at hRm
  have e0 : grantM w m = (bif (gTk w m).2.2 == 0 then (bif (gGr w m).2.2 == 0 then (bif (gZ w m).2 == 0 then ((gZ w m).1, 0) else (w, (gZ w m).2)) else (w, (gGr w m).2.2)) else (w, (gTk w m).2.2)) := by simp only [grantM, c1, c2, c3, c4, cond_true, cond_false]
  rw [e0]
  clear e0
  refine Spec.of_runs Go.Proofs.Tryz.f14 Go.Proofs.Tryz.func14 rfl ?_
  intro w0 M0
  simp only [Go.Proofs.Tryz.f14, List.replicate, List.cons_append, List.nil_append, z, seval]
  (refine CU (hP0) (h := ?_); simp only [z, seval])
  (refine CALLS_in (fn := Go.Proofs.Tryz.f47) Go.Proofs.Tryz.func47 rfl (by kernel_rfl) ?_; simp only [Go.Proofs.Tryz.f47, List.replicate, List.cons_append, List.nil_append, z, seval])
  (refine CU (hPr) (h := ?_); simp only [z, seval])
  (refine CU (hOv) (h := ?_); simp only [z, seval])
  (refine CU (hMy) (h := ?_); simp only [z, seval])
  simp only [c3, z, seval]
  (refine CU (hRm) (h := ?_); simp only [z, seval])
  (refine RUNs_draw 2 (by kernel_rfl) ?_; simp only [z, seval])
  (refine DU (hPa) (h := ?_); simp only [z, seval])
  (refine DU (hPb) (h := ?_); simp only [z, seval])
  (refine ⟨by kernel_rfl, ?_⟩)
  (refine CU (hDr) (h := ?_); simp only [z, seval])
  (refine CALLS_in (fn := Go.Proofs.Tryz.f48) Go.Proofs.Tryz.func48 rfl (by kernel_rfl) ?_; simp only [Go.Proofs.Tryz.f48, List.replicate, List.cons_append, List.nil_append, z, seval])
  (refine RUNs_draw 1 (by kernel_rfl) ?_; simp only [z, seval])
  (refine DU (hS1) (h := ?_); simp only [z, seval])
  (refine ⟨by kernel_rfl, ?_⟩)
  (refine CALLS_in (fn := Go.Proofs.Tryz.f48) Go.Proofs.Tryz.func48 rfl (by kernel_rfl) ?_; simp only [Go.Proofs.Tryz.f48, List.replicate, List.cons_append, List.nil_append, z, seval])
  cases c5 : ((gTk w m).2.2 == 0) with
  | false =>
    simp only [c5, z, seval]
    (refine CU (hNo) (h := ?_); simp only [z, seval])
    (refine RUNs_draw 0 (by kernel_rfl) ?_; simp only [z, seval])
    (refine DU (hW1) (h := ?_); simp only [z, seval])
    (refine DU (hL1) (h := ?_); simp only [z, seval])
    (refine ⟨by kernel_rfl, ?_⟩)
    (refine CALLS_in (fn := Go.Proofs.Tryz.f49) Go.Proofs.Tryz.func49 rfl (by kernel_rfl) ?_; simp only [Go.Proofs.Tryz.f49, List.replicate, List.cons_append, List.nil_append, z, seval])
    simp only [c5, z, seval]
    (refine RUNs_draw 0 (by kernel_rfl) ?_; simp only [z, seval])
    (refine ⟨by kernel_rfl, ?_⟩)
    (refine FINS_done ?_; simp only [z, seval])
  | true =>
  simp only [c5, z, seval]
  (refine RUNs_draw 1 (by kernel_rfl) ?_; simp only [z, seval])
  (refine DU (hS2) (h := ?_); simp only [z, seval])
  (refine ⟨by kernel_rfl, ?_⟩)
  (refine CU (hNo) (h := ?_); simp only [z, seval])
  (refine RUNs_draw 0 (by kernel_rfl) ?_; simp only [z, seval])
  (refine DU (hW) (h := ?_); simp only [z, seval])
  (refine DU (hL) (h := ?_); simp only [z, seval])
  (refine ⟨by kernel_rfl, ?_⟩)
  (refine CALLS_in (fn := Go.Proofs.Tryz.f49) Go.Proofs.Tryz.func49 rfl (by kernel_rfl) ?_; simp only [Go.Proofs.Tryz.f49, List.replicate, List.cons_append, List.nil_append, z, seval])
  cases c6 : ((gGr w m).2.2 == 0) with
  | false =>
    simp only [c6, z, seval]
    (refine RUNs_draw 0 (by kernel_rfl) ?_; simp only [z, seval])
    (refine ⟨by kernel_rfl, ?_⟩)
    (refine FINS_done ?_; simp only [z, seval])
  | true =>
  simp only [c6, z, seval]
  (refine RUNs_draw 0 (by kernel_rfl) ?_; simp only [z, seval])
  (refine DU (hSn) (h := ?_); simp only [z, seval])
  (refine ⟨by kernel_rfl, ?_⟩)
  cases c7 : ((gZ w m).2 == 0) with
  | false =>
    simp only [c7, z, seval]
    (refine RUNs_draw 0 (by kernel_rfl) ?_; simp only [z, seval])
    (refine ⟨by kernel_rfl, ?_⟩)
    (refine FINS_done ?_; simp only [z, seval])
  | true =>
    simp only [c7, z, seval]
    (refine FINS_done ?_; simp only [z, seval])
end Ch

/- What the server grants, of whatever world. -/
set_option maxRecDepth 100000
set_option maxHeartbeats 4000000
set_option linter.unusedSimpArgs false
set_option linter.unusedVariables false
namespace Ch
open Go Go.Ab
theorem World.fit.toLim {w : World} {N : Nat} (h : w.fit N) (hN : N ≤ 1099511627776) : w.lim :=
  ⟨by have := h.list; omega, by have := h.rows; omega, fun s hs => by have := h.plain s hs; omega, by have := h.grams; omega, fun s hs => by have := h.words s hs; omega, by have := h.seen; omega, fun s hs => by have := h.seens s hs; omega, by have := h.people; omega, fun s hs => by have := h.used s hs; omega, fun s hs => by have := h.runs s hs; omega,
    by have := h.log; omega, by have := h.regs; omega, fun s hs => by have := h.reg s hs; omega, by have := h.leaks; omega⟩
theorem right_of_form {w : World} (h : Form12 w = true) : Right10 w.people = true := by
  simp only [Form12, Bool.and_eq_true] at h
  obtain ⟨⟨⟨⟨⟨⟨⟨⟨⟨⟨⟨⟨⟨_, _⟩, _⟩, _⟩, _⟩, h⟩, _⟩, _⟩, _⟩, _⟩, _⟩, _⟩, _⟩, _⟩ := h
  exact h
theorem fit_of_few {w : World} (hw : w.ok) (h1 : Few12 w = true) (h2 : Form12 w = true) : w.fit 1048576 := by
  have h3 := lim_of_few h1
  simp only [Few12, Few07, Few06, Few10, Bool.and_eq_true, decide_eq_true_eq] at h1
  obtain ⟨⟨⟨⟨⟨⟨⟨f1, f2, f3⟩, ⟨⟨f4, f5⟩, f6⟩, f7⟩, f8, f9⟩, f10⟩, f11⟩, f12⟩, f13⟩ := h1
  have L : ∀ l : List Int, few l = true → l.length ≤ 1048576 := fun l hl => by simp only [few, decide_eq_true_eq] at hl; omega
  have Q := few_len f8 (by omega)
  simp only [Bool.and_eq_true, decide_eq_true_eq] at Q
  simp only [Form12, Right07, Right06, Bool.and_eq_true, decide_eq_true_eq] at h2
  obtain ⟨⟨⟨⟨⟨⟨⟨⟨⟨⟨⟨⟨⟨_, g1⟩, _⟩, g2⟩, _⟩, _⟩, _⟩, _⟩, n1⟩, n2⟩, _⟩, _⟩, _⟩, _⟩ := h2
  exact ⟨hw, n1, by omega, ⟨g1.1.1.1, by omega⟩, ⟨g2.1.1, by omega⟩, by omega, by omega, fun s hs => L _ (few_len f2 (by omega) s hs), by omega, fun s hs => L _ (few_len f4 (by omega) s hs), by omega, fun s hs => L _ (few_len f5 (by omega) s hs), by omega,
    fun p hp => L _ (Q p hp).1, fun p hp => by have := (Q p hp).2; omega, by omega, by omega, fun s hs => L _ (few_len f1 (by omega) s hs), by omega⟩
theorem grantM_fit {w : World} {N : Nat} (hw : w.fit N) (h5 : 21 ≤ N) (hN : N ≤ 400000000000) {m : Msg} (hm : m.ok) : (grantM w m).1.fit (N + 5) := by
  have h0 := hw.mono (show N ≤ N + 5 by omega)
  have hz : (gZ w m).1.fit (N + 5) := fit_send (gY_fit hw h5 hN hm) (by omega) (by omega) hm.2.2.1 ⟨U2, U0, U0, U0, U0, gGr_U hw h5 hN hm, U0⟩
  unfold grantM
  cases pairM w.people m.a m.b
  · exact h0
  cases decide ((personW w 0).clock ≥ 1073741824)
  · cases (usedMay (personW w 0).used w.conf.used m.nonce == 0)
    · exact h0
    cases roomW w 2 1
    · exact h0
    cases ((gTk w m).2.2 == 0)
    · exact h0
    cases ((gGr w m).2.2 == 0)
    · exact h0
    cases ((gZ w m).2 == 0)
    · exact h0
    · exact hz
  · exact h0
namespace L13
def c0 : Conf := ⟨5, 2, 4, 4, 4, 4, 2⟩
def ww : World := newWorld c0 [11, 12, 13, 14, 15, 16, 17] 2 2
def m0 : Msg := ⟨1, 0, 1, 2, 9, 0, 0⟩
def m1 : Msg := ⟨1, 0, 1, 1, 9, 0, 0⟩
def wa : World := (grantM ww m0).1
theorem m0_ok : m0.ok := by unfold Msg.ok U; decide
theorem m1_ok : m1.ok := by unfold Msg.ok U; decide
instance {α : Type} {p : α → Prop} [DecidablePred p] (l : List α) : Decidable (LL p l) := inferInstanceAs (Decidable (_ ∧ _))
instance : DecidablePred Sld.ok := fun s => inferInstanceAs (Decidable (U s.handle ∧ U s.key ∧ U s.label ∧ LL U s.plain))
instance : DecidablePred Gram.ok := fun s => inferInstanceAs (Decidable (U s.to ∧ LL U s.words))
instance : DecidablePred Run.ok := fun r => inferInstanceAs (Decidable (I r.proto ∧ I r.role ∧ U r.peer ∧ U r.mine ∧ U r.their ∧ U r.m ∧ U r.k ∧ U r.t ∧ I r.state))
instance : DecidablePred Person.ok := fun p => inferInstanceAs (Decidable (U p.name ∧ U p.key ∧ U p.clock ∧ LL U p.used ∧ LL Run.ok p.runs))
theorem ww_ok : ww.ok := ⟨by unfold Conf.ok; decide +kernel, ⟨by decide +kernel, by decide +kernel⟩, ⟨by decide +kernel, by decide +kernel⟩, ⟨by decide +kernel, by decide +kernel, ⟨by decide +kernel, fun l hl => by cases hl⟩⟩, by decide +kernel, ⟨by decide +kernel, fun l hl => by cases hl⟩, ⟨by decide +kernel, fun l hl => by
  have : l = [] := by
    have hl' : l ∈ List.replicate 2 ([] : List Int) := hl
    exact (List.mem_replicate.1 hl').2
  subst this; exact ⟨by decide, fun x hx => by cases hx⟩⟩, ⟨by decide +kernel, fun l hl => by cases hl⟩⟩
theorem ww_fit : ww.fit 21 := ⟨ww_ok, by decide +kernel, by decide +kernel, by decide +kernel, by decide +kernel, by decide +kernel, by decide +kernel, by decide +kernel, by decide +kernel, by decide +kernel, by decide +kernel, by decide +kernel, by decide +kernel, by decide +kernel, by decide +kernel, by decide +kernel, by decide +kernel, by decide +kernel, by decide +kernel⟩
theorem wa_fit : wa.fit 26 := grantM_fit ww_fit (by decide) (by decide) m0_ok
theorem g0 : grantM ww m0 = (wa, 0) := by
  have : (grantM ww m0).2 = 0 := by decide +kernel
  rw [← this]; rfl
theorem g1 : (grantM wa m0).2 = 8 := by decide +kernel
theorem g2 : (grantM ww m1).2 = 5 := by decide +kernel
theorem wa_log : wa.log = [⟨2, 1, 0, 1, 2, 2147483661, 0, 0, 9, 0⟩] := by kernel_rfl
theorem wa_box : wa.box.rows.length = 2 := by decide +kernel
theorem wa_net : wa.net.grams.length = 1 := by decide +kernel
theorem wa_g : ∃ ws, wa.net.grams = [⟨1, ws⟩] := ⟨_, rfl⟩
theorem awake_spec : Spec PP GG 12 [] (.bool true) [] := by
  have hN := New12_spec c0 2 2 (by decide) (by decide) rfl rfl [11, 12, 13, 14, 15, 16, 17]
  have hA := Grant_spec ww m0 ww_fit (by decide) (by decide) m0_ok
  have hB := Grant_spec wa m0 wa_fit (by decide) (by decide) m0_ok
  have hC := Grant_spec ww m1 ww_fit (by decide) (by decide) m1_ok
  rw [g0] at hA
  rw [g1] at hB
  rw [g2] at hC
  obtain ⟨ws, hw⟩ := wa_g
  have hb := wa_box
  refine Spec.of_runs Go.Proofs.Tryz.f12 Go.Proofs.Tryz.func12 rfl ?_
  intro w0 M0
  simp only [Go.Proofs.Tryz.f12, List.replicate, List.cons_append, List.nil_append, z, seval]
  (refine CALLS_in (fn := Go.Proofs.Tryz.f44) Go.Proofs.Tryz.func44 rfl (by kernel_rfl) ?_; simp only [Go.Proofs.Tryz.f44, List.replicate, List.cons_append, List.nil_append, z, seval])
  (refine CU (hN) (h := ?_); simp only [z, seval])
  (refine CU (hA) (h := ?_); simp only [z, seval])
  (refine CU (hB) (h := ?_); simp only [z, seval])
  (refine CU (hC) (h := ?_); simp only [z, seval])
  simp only [wa_log, hb, hw, List.map_cons, List.map_nil, z, seval]
  (refine FINS_done ?_; simp only [z, seval])
end L13
def fits13 (w : World) (m : Msg) : Bool := Few12 w && (Form12 w && (m.kind == 1 && msgMay m))
theorem fits13_spec (w : World) (hw : w.ok) (m : Msg) (hm : m.ok) : Spec PP GG 13 [w.v, m.v] (.bool (fits13 w m)) [] := by
  have hL := Lim_of_ok hw
  have h1 := Few12_spec w hL
  have h2 := Form12_spec w hL
  have h3 := rMay_spec m hm
  clear hw hm hL
  refine Spec.of_runs Go.Proofs.Tryz.f13 Go.Proofs.Tryz.func13 rfl ?_
  intro w0 M0
  simp only [Go.Proofs.Tryz.f13, List.replicate, List.cons_append, List.nil_append, z, seval]
  (refine CU (h1) (h := ?_); simp only [z, seval])
  cases c1 : Few12 w with
  | false =>
    simp only [z, seval]
    (refine FINS_done ?_; simp only [z, seval])
    simp only [fits13, c1, Bool.false_and]
  | true =>
  simp only [z, seval]
  (refine CU (h2) (h := ?_); simp only [z, seval])
  cases c2 : Form12 w with
  | false =>
    simp only [z, seval]
    (refine FINS_done ?_; simp only [z, seval])
    simp only [fits13, c1, c2, Bool.true_and, Bool.false_and]
  | true =>
  simp only [z, seval]
  cases c3 : (m.kind == 1) with
  | false =>
    simp only [c3, z, seval]
    (refine FINS_done ?_; simp only [z, seval])
    simp only [fits13, c1, c2, c3, Bool.true_and, Bool.false_and]
  | true =>
  simp only [c3, z, seval]
  (refine CU (h3) (h := ?_); simp only [z, seval])
  (refine FINS_done ?_; simp only [z, seval])
  simp only [fits13, c1, c2, c3, Bool.true_and]
theorem KsnGrants_spec (w : World) (hw : w.ok) (m : Msg) (hm : m.ok) : Spec PP GG 3 [w.v, m.v] (.bool true) [] := by
  have hA := L13.awake_spec
  have hF := fits13_spec w hw m hm
  cases hf : fits13 w m with
  | false =>
    rw [hf] at hF
    refine Spec.of_runs Go.Proofs.Tryz.f3 Go.Proofs.Tryz.func3 rfl ?_
    intro w0 M0
    simp only [Go.Proofs.Tryz.f3, List.replicate, List.cons_append, List.nil_append, z, seval]
    (refine CU (hA) (h := ?_); simp only [z, seval])
    (refine CU (hF) (h := ?_); simp only [z, seval])
    (refine CU (hA) (h := ?_); simp only [z, seval])
    (refine FINS_done ?_; simp only [z, seval])
  | true =>
    rw [hf] at hF
    simp only [fits13, Bool.and_eq_true] at hf
    have hfit := fit_of_few hw hf.1 hf.2.1
    have hr := right_of_form hf.2.1
    have h1 := Grant_spec w m hfit (by decide) (by decide) hm
    have h2 := rGrant_spec w m hfit (by decide) (by decide) hm hr
    have h3 := Same12 (grantM w m).1 ((grantM_fit hfit (by decide) (by decide) hm).toLim (by decide))
    clear hw hm hr
    refine Spec.of_runs Go.Proofs.Tryz.f3 Go.Proofs.Tryz.func3 rfl ?_
    intro w0 M0
    simp only [Go.Proofs.Tryz.f3, List.replicate, List.cons_append, List.nil_append, z, seval]
    (refine CU (hA) (h := ?_); simp only [z, seval])
    (refine CU (hF) (h := ?_); simp only [z, seval])
    (refine CU (h1) (h := ?_); simp only [z, seval])
    (refine CU (h2) (h := ?_); simp only [z, seval])
    (refine CU (h3) (h := ?_); simp only [z, seval])
    (refine FINS_done ?_; simp only [z, seval])
end Ch

/- The server that shares: the document's. -/
set_option maxRecDepth 100000
set_option maxHeartbeats 4000000
set_option linter.unusedSimpArgs false
set_option linter.unusedVariables false
namespace Ch
open Go Go.Ab
def rOpenF (b : Box) (key label h : Int) : Option Sld := b.rows.find? fun s => s.handle == h && (s.key == key && s.label == label)
theorem rOpen07_H (b : Box) (key label hh : Int) (hl : b.rows.length ≤ 1099511627776) (hp : ∀ s ∈ b.rows, s.plain.length ≤ 1099511627776) : Spec PP GG 74 [b.v, u32 key, u32 label, u32 hh] (.tup [wordsV (((rOpenF b key label hh).map Sld.plain).getD []), .bool (rOpenF b key label hh).isSome]) [] := by
  refine Spec.of_runs Go.Proofs.Tryz.f74 Go.Proofs.Tryz.func74 rfl ?_
  intro w0 M0
  simp only [Go.Proofs.Tryz.f74, List.replicate, List.cons_append, List.nil_append, z, seval]
  refine RUNs_rangeS (b.rows.length) (fun i (_ : Unit) => (b.rows.take i).find? (fun s => s.handle == hh && (s.key == key && s.label == label)) = none) (fun i _ => [(10, i64 i)]) (fun i _ => []) () ?_ (by simp only [z, seval]; exact wk) rfl ?_
  · simp
  rintro ⟨i, _, hi, hw⟩
  simp only [z, seval]
  first | refine brk (fun h => ?_) (fun h => ?_) | fail
  · have hlt : i < b.rows.length := by have := of_decide_eq_true h; omega
    simp only [h, getMap Sld.v b.rows hlt, z, seval]
    cases c : (b.rows[i].handle == hh && (b.rows[i].key == key && b.rows[i].label == label)) with
    | true =>
      have e : rOpenF b key label hh = some b.rows[i] := find_at hlt hw c
      rw [e]
      simp only [Bool.and_eq_true] at c
      simp only [c.1, c.2.1, c.2.2, z, seval]
      refine OPC_ok ?_ ?_
      · exact okMap _ (fun a => rfl) (hp _ (List.getElem_mem hlt))
      simp only [z, seval]
      (refine FINS_done ?_; simp only [z, seval])
      simp
    | false =>
      have hs := find_none_succ hlt hw c
      cases c1 : (b.rows[i].handle == hh) <;> cases c2 : (b.rows[i].key == key) <;> cases c3 : (b.rows[i].label == label)
      all_goals
        simp only [c1, c2, c3, z, seval]
        first
          | (exfalso; simp [c1, c2, c3] at c; done)
          | (simp only [w64s (i := i) (by omega), z, seval]
             refine NX () ?_ (by rfl) hlt hs
             simp only [z, seval]
             exact wk)
  · obtain rfl : i = b.rows.length := by have := of_decide_eq_false h; omega
    rw [List.take_length] at hw
    have e : rOpenF b key label hh = none := hw
    rw [e]
    simp only [h, z, seval]
    (refine FINS_done ?_; simp only [z, seval])
    simp
theorem uniq07 {b : Box} (h : Right07 b = true) {i j : Nat} (hi : i < b.rows.length) (hj : j < b.rows.length) (e : b.rows[i].handle = b.rows[j].handle) : i = j := by
  simp only [Right07, Bool.and_eq_true] at h
  have key : ∀ i j (hi : i < b.rows.length) (hj : j < b.rows.length), i < j → b.rows[i].handle ≠ b.rows[j].handle := by
    intro i j hi hj hij e
    have hc : (decide (b.rows[j].plain.length ≤ 64) && !There07 (b.rows.take j) b.rows[j].handle) = false := by
      have : There07 (b.rows.take j) b.rows[j].handle = true := by
        rw [There07, List.any_eq_true]
        exact ⟨b.rows[i], List.mem_take_iff_getElem.2 ⟨i, by omega, rfl⟩, by simpa using e⟩
      rw [this]; simp
    have := allIx_false (f := fun l s => decide (s.plain.length ≤ 64) && !There07 l s.handle) hj hc
    rw [this] at h; exact absurd h.2 (by simp)
  rcases Nat.lt_trichotomy i j with h1 | h1 | h1
  · exact absurd e (key i j hi hj h1)
  · exact h1
  · exact absurd e.symm (key j i hj hi h1)
theorem open_right {b : Box} (h : Right07 b = true) (key label hh : Int) : (rOpenF b key label hh).map Sld.plain = boxOpen b key label hh := by
  rw [boxOpen]
  cases hf : boxFind b hh with
  | none =>
    have : rOpenF b key label hh = none := by
      rw [boxFind, List.find?_eq_none] at hf
      rw [rOpenF, List.find?_eq_none]
      intro s hs
      have := hf s hs
      simp only [Bool.not_eq_true] at this ⊢
      rw [this]; rfl
    rw [this]; rfl
  | some s =>
    have hm : s ∈ b.rows := List.mem_of_find?_eq_some hf
    have hs : (s.handle == hh) = true := by have := List.find?_some hf; simpa using this
    obtain ⟨i, hi, rfl⟩ := List.mem_iff_getElem.1 hm
    simp only
    cases c : (b.rows[i].key == key && b.rows[i].label == label) with
    | true =>
      have hno : (b.rows.take i).find? (fun s => s.handle == hh && (s.key == key && s.label == label)) = none := by
        rw [List.find?_eq_none]
        intro t ht hc
        simp only [Bool.and_eq_true] at hc
        obtain ⟨j, hj, rfl⟩ := List.mem_take_iff_getElem.1 ht
        have := uniq07 h hi (show j < b.rows.length by omega) (by have h1 := hc.1; simp only [beq_iff_eq] at h1 hs; omega)
        omega
      have : rOpenF b key label hh = some b.rows[i] := find_at hi hno (by simp only [hs, c, Bool.and_true])
      rw [this]; rfl
    | false =>
      have : rOpenF b key label hh = none := by
        rw [rOpenF, List.find?_eq_none]
        intro t ht hc
        simp only [Bool.and_eq_true] at hc
        obtain ⟨j, hj, rfl⟩ := List.mem_iff_getElem.1 ht
        have := uniq07 h hi hj (by have h1 := hc.1; simp only [beq_iff_eq] at h1 hs; omega)
        subst this
        simp [hc.2.1, hc.2.2] at c
      rw [this]; rfl
theorem rOpen07_spec (b : Box) (hr : Right07 b = true) (key label hh : Int) (hl : b.rows.length ≤ 1099511627776) (hp : ∀ s ∈ b.rows, s.plain.length ≤ 1099511627776) : Spec PP GG 74 [b.v, u32 key, u32 label, u32 hh] (.tup [wordsV ((boxOpen b key label hh).getD []), .bool (boxOpen b key label hh).isSome]) [] := by
  have h := rOpen07_H b key label hh hl hp
  rw [← Option.isSome_map (f := Sld.plain), open_right hr] at h
  exact h
theorem rOpen_spec (w : World) {N : Nat} (hw : w.fit N) (hN : N ≤ 500000000000) (hr : Right07 w.box = true) (key label hh : Int) : Spec PP GG 27 [w.v, u32 key, u32 label, u32 hh] (.tup [(openW w key label hh).1.v, .bool (openW w key label hh).2]) [] := by
  have hl := hw.rows
  have h1 := rOpen07_spec w.box hr key label hh (by omega) (fun s hs => by have := hw.plain s hs; omega)
  clear hr
  cases hb : boxOpen w.box key label hh with
  | none =>
    rw [hb] at h1
    simp only [Option.isSome_none, Option.getD_none] at h1
    have e : openW w key label hh = (zPart, false) := by simp only [openW, hb]
    rw [e]
    have h2 := rGet11_spec label []
    refine Spec.of_runs Go.Proofs.Tryz.f27 Go.Proofs.Tryz.func27 rfl ?_
    intro w0 M0
    simp only [Go.Proofs.Tryz.f27, List.replicate, List.cons_append, List.nil_append, z, seval]
    (refine CU (h1) (h := ?_); simp only [z, seval])
    (refine CU (h2) (h := ?_); simp only [z, seval])
    (refine FINS_done ?_; simp only [z, seval])
    rfl
  | some l =>
    rw [hb] at h1
    have e : openW w key label hh = ((partGet label l).1, (partGet label l).2 == 0) := by simp only [openW, hb]
    rw [e]
    have h2 := rGet11_spec label l
    cases c : ((partGet label l).2 == 0) with
    | true =>
      refine Spec.of_runs Go.Proofs.Tryz.f27 Go.Proofs.Tryz.func27 rfl ?_
      intro w0 M0
      simp only [Go.Proofs.Tryz.f27, List.replicate, List.cons_append, List.nil_append, z, seval]
      (refine CU (h1) (h := ?_); simp only [z, seval])
      (refine CU (h2) (h := ?_); simp only [z, seval])
      simp only [c, z, seval]
      (refine FINS_done ?_; simp only [z, seval])
    | false =>
      have e2 : (partGet label l).1 = zPart := by
        revert c; unfold partGet
        cases label? label
        · intro _; rfl
        · cases (l.length == (partWs label zPart).length)
          · intro _; rfl
          · intro c; exact absurd c (by simp)
      rw [e2]
      refine Spec.of_runs Go.Proofs.Tryz.f27 Go.Proofs.Tryz.func27 rfl ?_
      intro w0 M0
      simp only [Go.Proofs.Tryz.f27, List.replicate, List.cons_append, List.nil_append, z, seval]
      (refine CU (h1) (h := ?_); simp only [z, seval])
      (refine CU (h2) (h := ?_); simp only [z, seval])
      simp only [c, z, seval]
      (refine FINS_done ?_; simp only [z, seval])
      rfl
end Ch

/- The server that shares. -/
set_option maxRecDepth 100000
set_option maxHeartbeats 4000000
set_option linter.unusedSimpArgs false
set_option linter.unusedVariables false
namespace Ch
open Go Go.Ab
def toldM (w : World) (m : Msg) (key label h : Int) : Int × Bool := ((openW w key label h).1.n, (openW w key label h).2 && ((openW w key label h).1.m == m.run && ((openW w key label h).1.a == m.a && (openW w key label h).1.b == m.b)))
def sA (w : World) (m : Msg) : Int × Bool := toldM w m (personW w m.a).key 6 m.box
def sB (w : World) (m : Msg) : Int × Bool := toldM w m (personW w m.b).key 7 m.more
def s1 (w : World) (m : Msg) : World × Int × Int := sealW (drawW w).1 (personW w m.b).key 8 ⟨(sB w m).1, 0, 0, 0, (drawW w).2, 0, 0⟩
def s2 (w : World) (m : Msg) : World × Int × Int := sealW (s1 w m).1 (personW w m.a).key 9 ⟨(sA w m).1, 0, 0, 0, (drawW w).2, 0, 0⟩
def sP (w : World) (m : Msg) : Person := { personW w 0 with used := (personW w 0).used ++ [m.run] }
def sEv (w : World) (m : Msg) : Event := ⟨2, 2, 0, m.a, m.b, (drawW w).2, 0, m.run, 0, (personW w 0).clock⟩
def sY (w : World) (m : Msg) : World := logW (withW (s2 w m).1 (sP w m)) (sEv w m)
def sZ (w : World) (m : Msg) : World × Int := sendW (sY w m) m.b ⟨8, m.run, 0, 0, 0, (s2 w m).2.1, (s1 w m).2.1⟩
def shareM (w : World) (m : Msg) : World × Int :=
  bif pairM w.people m.a m.b then (bif (sA w m).2 && (sB w m).2 then (bif usedMay (personW w 0).used w.conf.used m.run == 0 then (bif roomW w 2 1 then
    (bif (s1 w m).2.2 == 0 then (bif (s2 w m).2.2 == 0 then (bif (sZ w m).2 == 0 then ((sZ w m).1, 0) else (w, (sZ w m).2)) else (w, (s2 w m).2.2)) else (w, (s1 w m).2.2)) else (w, 10))
    else (w, usedMay (personW w 0).used w.conf.used m.run)) else (w, 6)) else (w, 5)
theorem U8 : U 8 := by decide
theorem partRd_ok {label : Int} {l : List Int} (h : ∀ x ∈ l, U x) : (partRd label l).ok := by
  have hg : ∀ i, U (l.getD i 0) := fun i => by
    rw [List.getD_eq_getElem?_getD]
    cases hi : l[i]? with
    | none => exact U0
    | some x => exact h x (List.mem_of_getElem? hi)
  unfold partRd
  cases (label == 2) <;> cases (label == 3) <;> cases (label == 4 || label == 5) <;> cases (label == 6 || label == 7) <;> exact ⟨by first | exact hg _ | exact U0, by first | exact hg _ | exact U0, by first | exact hg _ | exact U0, by first | exact hg _ | exact U0, by first | exact hg _ | exact U0, by first | exact hg _ | exact U0, by first | exact hg _ | exact U0⟩
theorem openW_ok {w : World} {N : Nat} (hw : w.fit N) (key label h : Int) : (openW w key label h).1.ok := by
  unfold openW
  cases hb : boxOpen w.box key label h with
  | none => exact ⟨U0, U0, U0, U0, U0, U0, U0⟩
  | some l =>
    have hl : ∀ x ∈ l, U x := by
      rw [boxOpen] at hb
      cases hf : boxFind w.box h with
      | none => rw [hf] at hb; cases hb
      | some s =>
        rw [hf] at hb
        simp only at hb
        cases c : (s.key == key && s.label == label) with
        | false => rw [c] at hb; cases hb
        | true => rw [c] at hb; cases hb; exact (hw.ok.2.2.1.2.2 s (List.mem_of_find?_eq_some hf)).2.2.2.2
    simp only [partGet]
    cases label? label
    · exact ⟨U0, U0, U0, U0, U0, U0, U0⟩
    · cases (l.length == (partWs label zPart).length)
      · exact ⟨U0, U0, U0, U0, U0, U0, U0⟩
      · exact partRd_ok hl
theorem sP_ok {w : World} {N : Nat} (hw : w.fit N) (hN : N ≤ 400000000000) {m : Msg} (hm : m.ok) : (sP w m).ok := by
  obtain ⟨h1, h2, h3, h4, h5⟩ := personW_ok hw 0
  exact ⟨h1, h2, h3, LL.app h4 (getP_used hw _) (by omega) hm.2.1, h5⟩
theorem s1_fit {w : World} {N : Nat} (hw : w.fit N) (h5 : 21 ≤ N) (hN : N ≤ 400000000000) (m : Msg) : (s1 w m).1.fit (N + 2) :=
  fit_seal (fit_draw hw (by omega)) (by omega) (by omega) (personW_ok hw _).2.1 U8 ⟨(openW_ok hw _ _ _).1, U0, U0, U0, drawW_U hw, U0, U0⟩
theorem s1_U {w : World} {N : Nat} (hw : w.fit N) (hN : N ≤ 400000000000) (m : Msg) : U (s1 w m).2.1 := sealW_U (fit_draw hw (by omega)) _ _ _
theorem s2_fit {w : World} {N : Nat} (hw : w.fit N) (h5 : 21 ≤ N) (hN : N ≤ 400000000000) (m : Msg) : (s2 w m).1.fit (N + 3) :=
  fit_seal (s1_fit hw h5 hN m) (by omega) (by omega) (personW_ok hw _).2.1 (by decide) ⟨(openW_ok hw _ _ _).1, U0, U0, U0, drawW_U hw, U0, U0⟩
theorem s2_U {w : World} {N : Nat} (hw : w.fit N) (h5 : 21 ≤ N) (hN : N ≤ 400000000000) (m : Msg) : U (s2 w m).2.1 := sealW_U (s1_fit hw h5 hN m) _ _ _
theorem sW_fit {w : World} {N : Nat} (hw : w.fit N) (h5 : 21 ≤ N) (hN : N ≤ 400000000000) {m : Msg} (hm : m.ok) : (withW (s2 w m).1 (sP w m)).fit (N + 3) :=
  fit_with (s2_fit hw h5 hN m) (sP_ok hw hN hm) (by have := getP_used hw (0 : Int).toNat; simp only [sP, personW, List.length_append, List.length_singleton]; omega) (by have : (sP w m).runs.length ≤ N := getP_runs hw _; omega)
theorem sEv_ok {w : World} {N : Nat} (hw : w.fit N) {m : Msg} (hm : m.ok) : (sEv w m).ok :=
  ⟨(by decide : I 2), (by decide : I 2), (by decide : I 0), hm.2.2.1, hm.2.2.2.1, drawW_U hw, U0, hm.2.1, U0, (personW_ok hw 0).2.2.1⟩
theorem sY_fit {w : World} {N : Nat} (hw : w.fit N) (h5 : 21 ≤ N) (hN : N ≤ 400000000000) {m : Msg} (hm : m.ok) : (sY w m).fit (N + 4) :=
  fit_log (sW_fit hw h5 hN hm) (by omega) (sEv_ok hw hm)
theorem sM_ok {w : World} {N : Nat} (hw : w.fit N) (h5 : 21 ≤ N) (hN : N ≤ 400000000000) {m : Msg} (hm : m.ok) : Msg.ok ⟨8, m.run, 0, 0, 0, (s2 w m).2.1, (s1 w m).2.1⟩ := ⟨U8, hm.2.1, U0, U0, U0, s2_U hw h5 hN m, s1_U hw hN m⟩
theorem s2_people (w : World) (m : Msg) : (s2 w m).1.people = w.people := by rw [s2, people_seal, s1, people_seal, people_draw]
theorem shareM_fit {w : World} {N : Nat} (hw : w.fit N) (h5 : 21 ≤ N) (hN : N ≤ 400000000000) {m : Msg} (hm : m.ok) : (shareM w m).1.fit (N + 5) := by
  have h0 := hw.mono (show N ≤ N + 5 by omega)
  have hz : (sZ w m).1.fit (N + 5) := fit_send (sY_fit hw h5 hN hm) (by omega) (by omega) hm.2.2.2.1 (sM_ok hw h5 hN hm)
  unfold shareM
  cases pairM w.people m.a m.b
  · exact h0
  cases ((sA w m).2 && (sB w m).2)
  · exact h0
  cases (usedMay (personW w 0).used w.conf.used m.run == 0)
  · exact h0
  cases roomW w 2 1
  · exact h0
  cases ((s1 w m).2.2 == 0)
  · exact h0
  cases ((s2 w m).2.2 == 0)
  · exact h0
  cases ((sZ w m).2 == 0)
  · exact h0
  · exact hz
end Ch

/- The server that shares: the document's walk, and the program's. -/
set_option maxRecDepth 100000
set_option maxHeartbeats 4000000
set_option linter.unusedSimpArgs false
set_option linter.unusedVariables false
namespace Ch
open Go Go.Ab
theorem told_zero {w : World} {key label h : Int} (hl : label = 6 ∨ label = 7) (ho : (openW w key label h).2 = true) : (openW w key label h).1.k = 0 ∧ (openW w key label h).1.t = 0 ∧ (openW w key label h).1.h = 0 := by
  revert ho
  unfold openW
  cases hb : boxOpen w.box key label h with
  | none => intro ho; cases ho
  | some l =>
    simp only [partGet]
    rcases hl with rfl | rfl
    all_goals
      cases (l.length == (partWs _ zPart).length)
      · intro ho; exact absurd ho (by simp [label?])
      · intro _; exact ⟨rfl, rfl, rfl⟩
theorem told_spec (w : World) {N : Nat} (hw : w.fit N) (hN : N ≤ 500000000000) (m : Msg) (key label hh : Int) (hl : label = 6 ∨ label = 7) : Spec PP GG 117 [w.v, m.v, u32 key, u32 label, u32 hh] (.tup [u32 (toldM w m key label hh).1, .bool (toldM w m key label hh).2]) [] := by
  have hO := open_spec w hw hN key label hh
  have hz := @told_zero w key label hh hl
  cases ho : (openW w key label hh).2 with
  | false =>
    rw [ho] at hO
    have e : (toldM w m key label hh).2 = false := by simp only [toldM, ho, Bool.false_and]
    rw [e]
    refine Spec.of_runs Go.Proofs.Tryz.f117 Go.Proofs.Tryz.func117 rfl ?_
    intro w0 M0
    simp only [Go.Proofs.Tryz.f117, List.replicate, List.cons_append, List.nil_append, z, seval]
    (refine CU (hO) (h := ?_); simp only [z, seval])
    (refine RUNs_draw 0 (by kernel_rfl) ?_; simp only [z, seval])
    (refine ⟨by kernel_rfl, ?_⟩)
    (refine FINS_done ?_; simp only [z, seval])
    rfl
  | true =>
    rw [ho] at hO
    obtain ⟨z1, z2, z3⟩ := hz ho
    have e : (toldM w m key label hh).2 = ((openW w key label hh).1.m == m.run && ((openW w key label hh).1.a == m.a && (openW w key label hh).1.b == m.b)) := by simp only [toldM, ho, Bool.true_and]
    rw [e]
    have e1 : (toldM w m key label hh).1 = (openW w key label hh).1.n := rfl
    rw [e1]
    simp only [Part.v, z1, z2, z3] at hO
    refine Spec.of_runs Go.Proofs.Tryz.f117 Go.Proofs.Tryz.func117 rfl ?_
    intro w0 M0
    simp only [Go.Proofs.Tryz.f117, List.replicate, List.cons_append, List.nil_append, z, seval]
    (refine CU (hO) (h := ?_); simp only [z, seval])
    (refine RUNs_draw 0 (by kernel_rfl) ?_; simp only [z, seval])
    (refine ⟨by kernel_rfl, ?_⟩)
    (refine FINS_done ?_; simp only [z, seval])
theorem rShare_spec (w : World) (m : Msg) {N : Nat} (hw : w.fit N) (h5 : 21 ≤ N) (hN : N ≤ 400000000000) (hm : m.ok) (hr : Right10 w.people = true) (hb7 : Right07 w.box = true) : Spec PP GG 21 [w.v, m.v] (.tup [(shareM w m).1.v, i64 (shareM w m).2]) [] := by
  have hP0 := rPerson_spec w hw (by omega) hr 0 (by decide)
  have hPa := rPerson_spec w hw (by omega) hr m.a hm.2.2.1
  have hPb := rPerson_spec w hw (by omega) hr m.b hm.2.2.2.1
  have hPr := rPair_spec w.people (by have := hw.people; omega) hr m.a m.b hm.2.2.1 hm.2.2.2.1
  have hU : (personW w 0).used.length ≤ N := getP_used hw _
  have hMy := rMay08_spec (personW w 0).used w.conf.used m.run (by omega)
  have hOa := rOpen_spec w hw (by omega) hb7 (personW w m.a).key 6 m.box
  have hOb := rOpen_spec w hw (by omega) hb7 (personW w m.b).key 7 m.more
  have hRm := rRoom_spec w 2 1 hw.broom hw.nroom (by have := hw.rows; omega) (by have := hw.grams; omega)
  have hDr := rDraw_spec w hw (by omega)
  have hS1 := rSeal_spec (drawW w).1 (fit_draw hw (by omega)) (by omega) (personW w m.b).key 8 ⟨(sB w m).1, 0, 0, 0, (drawW w).2, 0, 0⟩
  have hS2 := rSeal_spec (s1 w m).1 (s1_fit hw h5 hN m) (by omega) (personW w m.a).key 9 ⟨(sA w m).1, 0, 0, 0, (drawW w).2, 0, 0⟩
  have hW := rWith_spec (s2 w m).1 (s2_fit hw h5 hN m) (by omega) (by rw [s2_people]; exact hr) (sP w m) (sP_ok hw hN hm).1
  have hL := rLog_spec (withW (s2 w m).1 (sP w m)) (sW_fit hw h5 hN hm) (by omega) (sEv w m)
  have hSn := rSend_spec (sY w m) (sY_fit hw h5 hN hm) (by omega) m.b ⟨8, m.run, 0, 0, 0, (s2 w m).2.1, (s1 w m).2.1⟩ (sM_ok hw h5 hN hm)
  rw [← s1] at hS1
  rw [← s2] at hS2
  rw [← sY] at hL
  rw [← sZ] at hSn
  have dA : (sA w m).1 = (openW w (personW w m.a).key 6 m.box).1.n := rfl
  have dB : (sB w m).1 = (openW w (personW w m.b).key 7 m.more).1.n := rfl
  have dA2 : (sA w m).2 = ((openW w (personW w m.a).key 6 m.box).2 && ((openW w (personW w m.a).key 6 m.box).1.m == m.run && ((openW w (personW w m.a).key 6 m.box).1.a == m.a && (openW w (personW w m.a).key 6 m.box).1.b == m.b))) := rfl
  have dB2 : (sB w m).2 = ((openW w (personW w m.b).key 7 m.more).2 && ((openW w (personW w m.b).key 7 m.more).1.m == m.run && ((openW w (personW w m.b).key 7 m.more).1.a == m.a && (openW w (personW w m.b).key 7 m.more).1.b == m.b))) := rfl
  rw [dB] at hS1
  rw [dA] at hS2
  have hW2 : Spec PP GG 39 [(s2 w m).1.v, Person.v ⟨(personW w 0).name, (personW w 0).key, (personW w 0).clock, (personW w 0).used ++ [m.run], (personW w 0).runs, (personW w 0).corrupt⟩] (withW (s2 w m).1 (sP w m)).v [] := hW
  have e : (personW w 0).used.map u32 ++ [u32 m.run] = ((personW w 0).used ++ [m.run]).map u32 := by simp
  generalize hA : openW w (personW w m.a).key 6 m.box = A at *
  generalize hB : openW w (personW w m.b).key 7 m.more = B at *
  obtain ⟨⟨an, am, aa, ab', ak, at', ah⟩, aok⟩ := A
  obtain ⟨⟨bn, bm, ba, bb, bk, bt, bh⟩, bok⟩ := B
  simp only at dA dB dA2 dB2 hS1 hS2 hOa hOb
  clear hw hr hb7 hm
  cases c1 : pairM w.people m.a m.b with
  | false =>
    rw [c1] at hPr
    have e : shareM w m = (w, 5) := by simp only [shareM, c1, cond_false]
    rw [e]
    refine Spec.of_runs Go.Proofs.Tryz.f21 Go.Proofs.Tryz.func21 rfl ?_
    intro w0 M0
    simp only [Go.Proofs.Tryz.f21, List.replicate, List.cons_append, List.nil_append, z, seval]
    (refine CU (hPr) (h := ?_); simp only [z, seval])
    (refine FINS_done ?_; simp only [z, seval])
  | true =>
  rw [c1] at hPr
  cases c2 : (sA w m).2 with
  | false =>
    have e : shareM w m = (w, 6) := by simp only [shareM, c1, c2, Bool.false_and, cond_true, cond_false]
    rw [e]
    rw [c2] at dA2
    refine Spec.of_runs Go.Proofs.Tryz.f21 Go.Proofs.Tryz.func21 rfl ?_
    intro w0 M0
    simp only [Go.Proofs.Tryz.f21, List.replicate, List.cons_append, List.nil_append, z, seval]
    (refine CU (hPr) (h := ?_); simp only [z, seval])
    (refine CU (hPa) (h := ?_); simp only [z, seval])
    (refine CU (hPb) (h := ?_); simp only [z, seval])
    (refine CU (hP0) (h := ?_); simp only [z, seval])
    (refine CU (hOa) (h := ?_); simp only [z, seval])
    cases aok <;> cases x1 : (am == m.run) <;> cases x2 : (aa == m.a) <;> cases x3 : (ab' == m.b)
    all_goals first
      | (exfalso; simp [x1, x2, x3] at dA2; done)
      | (simp only [x1, x2, x3, z, seval]; (refine FINS_done ?_; simp only [z, seval]); done)
  | true =>
  rw [c2] at dA2
  have dA3 := dA2.symm
  simp only [Bool.and_eq_true] at dA3
  obtain ⟨a1, a2, a3, a4⟩ := dA3
  subst a1
  cases c3 : (sB w m).2 with
  | false =>
    have e : shareM w m = (w, 6) := by simp only [shareM, c1, c2, c3, Bool.true_and, cond_true, cond_false]
    rw [e]
    rw [c3] at dB2
    refine Spec.of_runs Go.Proofs.Tryz.f21 Go.Proofs.Tryz.func21 rfl ?_
    intro w0 M0
    simp only [Go.Proofs.Tryz.f21, List.replicate, List.cons_append, List.nil_append, z, seval]
    (refine CU (hPr) (h := ?_); simp only [z, seval])
    (refine CU (hPa) (h := ?_); simp only [z, seval])
    (refine CU (hPb) (h := ?_); simp only [z, seval])
    (refine CU (hP0) (h := ?_); simp only [z, seval])
    (refine CU (hOa) (h := ?_); simp only [z, seval])
    simp only [a2, a3, a4, z, seval]
    (refine CU (hOb) (h := ?_); simp only [z, seval])
    cases bok <;> cases x1 : (bm == m.run) <;> cases x2 : (ba == m.a) <;> cases x3 : (bb == m.b)
    all_goals first
      | (exfalso; simp [x1, x2, x3] at dB2; done)
      | (simp only [x1, x2, x3, z, seval]; (refine FINS_done ?_; simp only [z, seval]); done)
  | true =>
  rw [c3] at dB2
  have dB3 := dB2.symm
  simp only [Bool.and_eq_true] at dB3
  obtain ⟨b1, b2, b3, b4⟩ := dB3
  subst b1
  cases c4 : (usedMay (personW w 0).used w.conf.used m.run == 0) with
  | false =>
    have e : shareM w m = (w, usedMay (personW w 0).used w.conf.used m.run) := by simp only [shareM, c1, c2, c3, c4, Bool.true_and, cond_true, cond_false]
    rw [e]
    refine Spec.of_runs Go.Proofs.Tryz.f21 Go.Proofs.Tryz.func21 rfl ?_
    intro w0 M0
    simp only [Go.Proofs.Tryz.f21, List.replicate, List.cons_append, List.nil_append, z, seval]
    (refine CU (hPr) (h := ?_); simp only [z, seval])
    (refine CU (hPa) (h := ?_); simp only [z, seval])
    (refine CU (hPb) (h := ?_); simp only [z, seval])
    (refine CU (hP0) (h := ?_); simp only [z, seval])
    (refine CU (hOa) (h := ?_); simp only [z, seval])
    simp only [a2, a3, a4, z, seval]
    (refine CU (hOb) (h := ?_); simp only [z, seval])
    simp only [b2, b3, b4, z, seval]
    (refine CU (hMy) (h := ?_); simp only [z, seval])
    simp only [c4, z, seval]
    (refine FINS_done ?_; simp only [z, seval])
  | true =>
  have e0 : shareM w m = (bif roomW w 2 1 then
    (bif (s1 w m).2.2 == 0 then (bif (s2 w m).2.2 == 0 then (bif (sZ w m).2 == 0 then ((sZ w m).1, 0) else (w, (sZ w m).2)) else (w, (s2 w m).2.2)) else (w, (s1 w m).2.2)) else (w, 10)) := by simp only [shareM, c1, c2, c3, c4, Bool.true_and, cond_true]
  rw [e0]
  clear e0
  refine Spec.of_runs Go.Proofs.Tryz.f21 Go.Proofs.Tryz.func21 rfl ?_
  intro w0 M0
  simp only [Go.Proofs.Tryz.f21, List.replicate, List.cons_append, List.nil_append, z, seval]
  (refine CU (hPr) (h := ?_); simp only [z, seval])
  (refine CU (hPa) (h := ?_); simp only [z, seval])
  (refine CU (hPb) (h := ?_); simp only [z, seval])
  (refine CU (hP0) (h := ?_); simp only [z, seval])
  (refine CU (hOa) (h := ?_); simp only [z, seval])
  simp only [a2, a3, a4, z, seval]
  (refine CU (hOb) (h := ?_); simp only [z, seval])
  simp only [b2, b3, b4, z, seval]
  (refine CU (hMy) (h := ?_); simp only [z, seval])
  simp only [c4, z, seval]
  (refine CU (hRm) (h := ?_); simp only [z, seval])
  cases c5 : roomW w 2 1 with
  | false =>
    simp only [c5, z, seval]
    (refine FINS_done ?_; simp only [z, seval])
  | true =>
  simp only [c5, z, seval]
  (refine CU (hDr) (h := ?_); simp only [z, seval])
  (refine CU (hS1) (h := ?_); simp only [z, seval])
  cases c6 : ((s1 w m).2.2 == 0) with
  | false =>
    simp only [c6, z, seval]
    (refine FINS_done ?_; simp only [z, seval])
  | true =>
  simp only [c6, z, seval]
  (refine CU (hS2) (h := ?_); simp only [z, seval])
  cases c7 : ((s2 w m).2.2 == 0) with
  | false =>
    simp only [c7, z, seval]
    (refine FINS_done ?_; simp only [z, seval])
  | true =>
  simp only [c7, z, seval]
  (refine RUNs_draw 4 (by kernel_rfl) ?_; simp only [z, seval])
  refine DOC_ok ?_ ?_
  · exact okMap _ (fun a => rfl) (by omega)
  simp only [z, seval]
  refine DOC_ok ?_ ?_
  · simp; omega
  simp only [z, seval]
  (refine ⟨by kernel_rfl, ?_⟩)
  simp only [e, z, seval]
  (refine RUNs_freeze 9 1 ?_ (by rfl) ?_ ?_; rotate_left 1; (simp only [z, seval]; exact rfl); simp only [z, seval])
  (refine RUNs_draw 0 (by kernel_rfl) ?_; simp only [z, seval])
  (refine DU (hW2) (h := ?_); simp only [z, seval])
  (refine DU (hL) (h := ?_); simp only [z, seval])
  (refine ⟨by kernel_rfl, ?_⟩)
  (refine CU (hSn) (h := ?_); simp only [z, seval])
  cases c8 : ((sZ w m).2 == 0) with
  | false =>
    simp only [c8, z, seval]
    (refine FINS_done ?_; simp only [z, seval])
  | true =>
    simp only [c8, z, seval]
    (refine FINS_done ?_; simp only [z, seval])
end Ch

/- The server that shares: the program's. -/
set_option maxRecDepth 100000
set_option maxHeartbeats 4000000
set_option linter.unusedSimpArgs false
set_option linter.unusedVariables false
namespace Ch
open Go Go.Ab
theorem Share_spec (w : World) (m : Msg) {N : Nat} (hw : w.fit N) (h5 : 21 ≤ N) (hN : N ≤ 400000000000) (hm : m.ok) : Spec PP GG 20 [w.v, m.v] (.tup [(shareM w m).1.v, i64 (shareM w m).2]) [] := by
  have hP0 := person_spec w hw (by omega) 0 (by decide)
  have hPa := person_spec w hw (by omega) m.a hm.2.2.1
  have hPb := person_spec w hw (by omega) m.b hm.2.2.2.1
  have hPr := pPair_spec w.people m.a m.b hm.2.2.1 hm.2.2.2.1 (by have := hw.people; omega)
  have hU : (personW w 0).used.length ≤ N := getP_used hw _
  have hNo := uNote_spec (personW w 0).used w.conf.used m.run (by omega)
  have hTa := told_spec w hw (by omega) m (personW w m.a).key 6 m.box (.inl rfl)
  have hTb := told_spec w hw (by omega) m (personW w m.b).key 7 m.more (.inr rfl)
  have hRm := room_spec' w hw (by omega) 2 1
  have hDr := draw_spec w hw (by omega)
  have hS1 := seal_spec (drawW w).1 (fit_draw hw (by omega)) (by omega) (personW w m.b).key 8 ⟨(sB w m).1, 0, 0, 0, (drawW w).2, 0, 0⟩
  have hS2 := seal_spec (s1 w m).1 (s1_fit hw h5 hN m) (by omega) (personW w m.a).key 9 ⟨(sA w m).1, 0, 0, 0, (drawW w).2, 0, 0⟩
  have hW := with_spec (s2 w m).1 (s2_fit hw h5 hN m) (by omega) (sP w m) (sP_ok hw hN hm).1
  have hL := log_spec (withW (s2 w m).1 (sP w m)) (sW_fit hw h5 hN hm) (by omega) (sEv w m)
  have hSn := send_spec (sY w m) (sY_fit hw h5 hN hm) (by omega) m.b ⟨8, m.run, 0, 0, 0, (s2 w m).2.1, (s1 w m).2.1⟩ (sM_ok hw h5 hN hm)
  rw [← s1] at hS1
  rw [← s2] at hS2
  rw [← sY] at hL
  rw [← sZ] at hSn
  rw [← sA] at hTa
  rw [← sB] at hTb
  clear hw hm
  cases c1 : pairM w.people m.a m.b with
  | false =>
    rw [c1] at hPr
    have e : shareM w m = (w, 5) := by simp only [shareM, c1, cond_false]
    rw [e]
    refine Spec.of_runs Go.Proofs.Tryz.f20 Go.Proofs.Tryz.func20 rfl ?_
    intro w0 M0
    simp only [Go.Proofs.Tryz.f20, List.replicate, List.cons_append, List.nil_append, z, seval]
    (refine RUNs_draw 1 (by kernel_rfl) ?_; simp only [z, seval])
    (refine DU (hPa) (h := ?_); simp only [z, seval])
    (refine DU (hPb) (h := ?_); simp only [z, seval])
    (refine DU (hP0) (h := ?_); simp only [z, seval])
    (refine ⟨by kernel_rfl, ?_⟩)
    (refine RUNs_unroll 5 ?_; simp only [z, seval])
    (refine CALLS_in (fn := Go.Proofs.Tryz.f61) Go.Proofs.Tryz.func61 rfl (by kernel_rfl) ?_; simp only [Go.Proofs.Tryz.f61, List.replicate, List.cons_append, List.nil_append, z, seval])
    (refine RUNs_draw 0 (by kernel_rfl) ?_; simp only [z, seval])
    (refine DU (hPr) (h := ?_); simp only [z, seval])
    (refine ⟨by kernel_rfl, ?_⟩)
    (refine FINS_done ?_; simp only [z, seval])
  | true =>
  rw [c1] at hPr
  cases c2 : (sA w m).2 with
  | false =>
    rw [c2] at hTa
    have e : shareM w m = (w, 6) := by simp only [shareM, c1, c2, Bool.false_and, cond_true, cond_false]
    rw [e]
    refine Spec.of_runs Go.Proofs.Tryz.f20 Go.Proofs.Tryz.func20 rfl ?_
    intro w0 M0
    simp only [Go.Proofs.Tryz.f20, List.replicate, List.cons_append, List.nil_append, z, seval]
    (refine RUNs_draw 1 (by kernel_rfl) ?_; simp only [z, seval])
    (refine DU (hPa) (h := ?_); simp only [z, seval])
    (refine DU (hPb) (h := ?_); simp only [z, seval])
    (refine DU (hP0) (h := ?_); simp only [z, seval])
    (refine ⟨by kernel_rfl, ?_⟩)
    (refine RUNs_unroll 5 ?_; simp only [z, seval])
    (refine CALLS_in (fn := Go.Proofs.Tryz.f61) Go.Proofs.Tryz.func61 rfl (by kernel_rfl) ?_; simp only [Go.Proofs.Tryz.f61, List.replicate, List.cons_append, List.nil_append, z, seval])
    (refine RUNs_draw 0 (by kernel_rfl) ?_; simp only [z, seval])
    (refine DU (hPr) (h := ?_); simp only [z, seval])
    (refine ⟨by kernel_rfl, ?_⟩)
    first | (refine CU (hTa) (h := ?_); simp only [z, seval]) | ((refine RUNs_draw 0 (by kernel_rfl) ?_; simp only [z, seval]); (refine DU (hTa) (h := ?_); simp only [z, seval]); (refine ⟨by kernel_rfl, ?_⟩)) | ((refine RUNs_draw 1 (by kernel_rfl) ?_; simp only [z, seval]); (refine DU (hTa) (h := ?_); simp only [z, seval]); (refine ⟨by kernel_rfl, ?_⟩)) | ((refine RUNs_draw 2 (by kernel_rfl) ?_; simp only [z, seval]); (refine DU (hTa) (h := ?_); simp only [z, seval]); (refine ⟨by kernel_rfl, ?_⟩))
    first | (refine CU (hTb) (h := ?_); simp only [z, seval]) | ((refine RUNs_draw 0 (by kernel_rfl) ?_; simp only [z, seval]); (refine DU (hTb) (h := ?_); simp only [z, seval]); (refine ⟨by kernel_rfl, ?_⟩)) | ((refine RUNs_draw 1 (by kernel_rfl) ?_; simp only [z, seval]); (refine DU (hTb) (h := ?_); simp only [z, seval]); (refine ⟨by kernel_rfl, ?_⟩)) | ((refine RUNs_draw 2 (by kernel_rfl) ?_; simp only [z, seval]); (refine DU (hTb) (h := ?_); simp only [z, seval]); (refine ⟨by kernel_rfl, ?_⟩))
    (refine FINS_done ?_; simp only [z, seval])
  | true =>
  rw [c2] at hTa
  cases c3 : (sB w m).2 with
  | false =>
    rw [c3] at hTb
    have e : shareM w m = (w, 6) := by simp only [shareM, c1, c2, c3, Bool.true_and, cond_true, cond_false]
    rw [e]
    refine Spec.of_runs Go.Proofs.Tryz.f20 Go.Proofs.Tryz.func20 rfl ?_
    intro w0 M0
    simp only [Go.Proofs.Tryz.f20, List.replicate, List.cons_append, List.nil_append, z, seval]
    (refine RUNs_draw 1 (by kernel_rfl) ?_; simp only [z, seval])
    (refine DU (hPa) (h := ?_); simp only [z, seval])
    (refine DU (hPb) (h := ?_); simp only [z, seval])
    (refine DU (hP0) (h := ?_); simp only [z, seval])
    (refine ⟨by kernel_rfl, ?_⟩)
    (refine RUNs_unroll 5 ?_; simp only [z, seval])
    (refine CALLS_in (fn := Go.Proofs.Tryz.f61) Go.Proofs.Tryz.func61 rfl (by kernel_rfl) ?_; simp only [Go.Proofs.Tryz.f61, List.replicate, List.cons_append, List.nil_append, z, seval])
    (refine RUNs_draw 0 (by kernel_rfl) ?_; simp only [z, seval])
    (refine DU (hPr) (h := ?_); simp only [z, seval])
    (refine ⟨by kernel_rfl, ?_⟩)
    first | (refine CU (hTa) (h := ?_); simp only [z, seval]) | ((refine RUNs_draw 0 (by kernel_rfl) ?_; simp only [z, seval]); (refine DU (hTa) (h := ?_); simp only [z, seval]); (refine ⟨by kernel_rfl, ?_⟩)) | ((refine RUNs_draw 1 (by kernel_rfl) ?_; simp only [z, seval]); (refine DU (hTa) (h := ?_); simp only [z, seval]); (refine ⟨by kernel_rfl, ?_⟩)) | ((refine RUNs_draw 2 (by kernel_rfl) ?_; simp only [z, seval]); (refine DU (hTa) (h := ?_); simp only [z, seval]); (refine ⟨by kernel_rfl, ?_⟩))
    first | (refine CU (hTb) (h := ?_); simp only [z, seval]) | ((refine RUNs_draw 0 (by kernel_rfl) ?_; simp only [z, seval]); (refine DU (hTb) (h := ?_); simp only [z, seval]); (refine ⟨by kernel_rfl, ?_⟩)) | ((refine RUNs_draw 1 (by kernel_rfl) ?_; simp only [z, seval]); (refine DU (hTb) (h := ?_); simp only [z, seval]); (refine ⟨by kernel_rfl, ?_⟩)) | ((refine RUNs_draw 2 (by kernel_rfl) ?_; simp only [z, seval]); (refine DU (hTb) (h := ?_); simp only [z, seval]); (refine ⟨by kernel_rfl, ?_⟩))
    (refine FINS_done ?_; simp only [z, seval])
  | true =>
  rw [c3] at hTb
  cases c4 : (usedMay (personW w 0).used w.conf.used m.run == 0) with
  | false =>
    have eN : usedNote (personW w 0).used w.conf.used m.run = ((personW w 0).used, usedMay (personW w 0).used w.conf.used m.run) := by simp only [usedNote, c4, cond_false]
    rw [eN] at hNo
    have e : shareM w m = (w, usedMay (personW w 0).used w.conf.used m.run) := by simp only [shareM, c1, c2, c3, c4, Bool.true_and, cond_true, cond_false]
    rw [e]
    refine Spec.of_runs Go.Proofs.Tryz.f20 Go.Proofs.Tryz.func20 rfl ?_
    intro w0 M0
    simp only [Go.Proofs.Tryz.f20, List.replicate, List.cons_append, List.nil_append, z, seval]
    (refine RUNs_draw 1 (by kernel_rfl) ?_; simp only [z, seval])
    (refine DU (hPa) (h := ?_); simp only [z, seval])
    (refine DU (hPb) (h := ?_); simp only [z, seval])
    (refine DU (hP0) (h := ?_); simp only [z, seval])
    (refine ⟨by kernel_rfl, ?_⟩)
    (refine RUNs_unroll 5 ?_; simp only [z, seval])
    (refine CALLS_in (fn := Go.Proofs.Tryz.f61) Go.Proofs.Tryz.func61 rfl (by kernel_rfl) ?_; simp only [Go.Proofs.Tryz.f61, List.replicate, List.cons_append, List.nil_append, z, seval])
    (refine RUNs_draw 0 (by kernel_rfl) ?_; simp only [z, seval])
    (refine DU (hPr) (h := ?_); simp only [z, seval])
    (refine ⟨by kernel_rfl, ?_⟩)
    first | (refine CU (hTa) (h := ?_); simp only [z, seval]) | ((refine RUNs_draw 0 (by kernel_rfl) ?_; simp only [z, seval]); (refine DU (hTa) (h := ?_); simp only [z, seval]); (refine ⟨by kernel_rfl, ?_⟩)) | ((refine RUNs_draw 1 (by kernel_rfl) ?_; simp only [z, seval]); (refine DU (hTa) (h := ?_); simp only [z, seval]); (refine ⟨by kernel_rfl, ?_⟩)) | ((refine RUNs_draw 2 (by kernel_rfl) ?_; simp only [z, seval]); (refine DU (hTa) (h := ?_); simp only [z, seval]); (refine ⟨by kernel_rfl, ?_⟩))
    first | (refine CU (hTb) (h := ?_); simp only [z, seval]) | ((refine RUNs_draw 0 (by kernel_rfl) ?_; simp only [z, seval]); (refine DU (hTb) (h := ?_); simp only [z, seval]); (refine ⟨by kernel_rfl, ?_⟩)) | ((refine RUNs_draw 1 (by kernel_rfl) ?_; simp only [z, seval]); (refine DU (hTb) (h := ?_); simp only [z, seval]); (refine ⟨by kernel_rfl, ?_⟩)) | ((refine RUNs_draw 2 (by kernel_rfl) ?_; simp only [z, seval]); (refine DU (hTb) (h := ?_); simp only [z, seval]); (refine ⟨by kernel_rfl, ?_⟩))
    (refine RUNs_unr ?_; simp only [z, seval])
    (refine CALLS_in (fn := Go.Proofs.Tryz.f62) Go.Proofs.Tryz.func62 rfl (by kernel_rfl) ?_; simp only [Go.Proofs.Tryz.f62, List.replicate, List.cons_append, List.nil_append, z, seval])
    first | (refine CU (hNo) (h := ?_); simp only [z, seval]) | ((refine RUNs_draw 0 (by kernel_rfl) ?_; simp only [z, seval]); (refine DU (hNo) (h := ?_); simp only [z, seval]); (refine ⟨by kernel_rfl, ?_⟩)) | ((refine RUNs_draw 1 (by kernel_rfl) ?_; simp only [z, seval]); (refine DU (hNo) (h := ?_); simp only [z, seval]); (refine ⟨by kernel_rfl, ?_⟩)) | ((refine RUNs_draw 2 (by kernel_rfl) ?_; simp only [z, seval]); (refine DU (hNo) (h := ?_); simp only [z, seval]); (refine ⟨by kernel_rfl, ?_⟩))
    simp only [c4, z, seval]
    (refine FINS_done ?_; simp only [z, seval])
  | true =>
  have eN : usedNote (personW w 0).used w.conf.used m.run = ((personW w 0).used ++ [m.run], 0) := by simp only [usedNote, c4, cond_true]
  rw [eN] at hNo
  have e0 : shareM w m = (bif roomW w 2 1 then
    (bif (s1 w m).2.2 == 0 then (bif (s2 w m).2.2 == 0 then (bif (sZ w m).2 == 0 then ((sZ w m).1, 0) else (w, (sZ w m).2)) else (w, (s2 w m).2.2)) else (w, (s1 w m).2.2)) else (w, 10)) := by simp only [shareM, c1, c2, c3, c4, Bool.true_and, cond_true]
  rw [e0]
  clear e0
  refine Spec.of_runs Go.Proofs.Tryz.f20 Go.Proofs.Tryz.func20 rfl ?_
  intro w0 M0
  simp only [Go.Proofs.Tryz.f20, List.replicate, List.cons_append, List.nil_append, z, seval]
  (refine RUNs_draw 1 (by kernel_rfl) ?_; simp only [z, seval])
  (refine DU (hPa) (h := ?_); simp only [z, seval])
  (refine DU (hPb) (h := ?_); simp only [z, seval])
  (refine DU (hP0) (h := ?_); simp only [z, seval])
  (refine ⟨by kernel_rfl, ?_⟩)
  (refine RUNs_unroll 5 ?_; simp only [z, seval])
  (refine CALLS_in (fn := Go.Proofs.Tryz.f61) Go.Proofs.Tryz.func61 rfl (by kernel_rfl) ?_; simp only [Go.Proofs.Tryz.f61, List.replicate, List.cons_append, List.nil_append, z, seval])
  (refine RUNs_draw 0 (by kernel_rfl) ?_; simp only [z, seval])
  (refine DU (hPr) (h := ?_); simp only [z, seval])
  (refine ⟨by kernel_rfl, ?_⟩)
  first | (refine CU (hTa) (h := ?_); simp only [z, seval]) | ((refine RUNs_draw 0 (by kernel_rfl) ?_; simp only [z, seval]); (refine DU (hTa) (h := ?_); simp only [z, seval]); (refine ⟨by kernel_rfl, ?_⟩)) | ((refine RUNs_draw 1 (by kernel_rfl) ?_; simp only [z, seval]); (refine DU (hTa) (h := ?_); simp only [z, seval]); (refine ⟨by kernel_rfl, ?_⟩)) | ((refine RUNs_draw 2 (by kernel_rfl) ?_; simp only [z, seval]); (refine DU (hTa) (h := ?_); simp only [z, seval]); (refine ⟨by kernel_rfl, ?_⟩))
  first | (refine CU (hTb) (h := ?_); simp only [z, seval]) | ((refine RUNs_draw 0 (by kernel_rfl) ?_; simp only [z, seval]); (refine DU (hTb) (h := ?_); simp only [z, seval]); (refine ⟨by kernel_rfl, ?_⟩)) | ((refine RUNs_draw 1 (by kernel_rfl) ?_; simp only [z, seval]); (refine DU (hTb) (h := ?_); simp only [z, seval]); (refine ⟨by kernel_rfl, ?_⟩)) | ((refine RUNs_draw 2 (by kernel_rfl) ?_; simp only [z, seval]); (refine DU (hTb) (h := ?_); simp only [z, seval]); (refine ⟨by kernel_rfl, ?_⟩))
  (refine RUNs_unr ?_; simp only [z, seval])
  (refine CALLS_in (fn := Go.Proofs.Tryz.f62) Go.Proofs.Tryz.func62 rfl (by kernel_rfl) ?_; simp only [Go.Proofs.Tryz.f62, List.replicate, List.cons_append, List.nil_append, z, seval])
  first | (refine CU (hNo) (h := ?_); simp only [z, seval]) | ((refine RUNs_draw 0 (by kernel_rfl) ?_; simp only [z, seval]); (refine DU (hNo) (h := ?_); simp only [z, seval]); (refine ⟨by kernel_rfl, ?_⟩)) | ((refine RUNs_draw 1 (by kernel_rfl) ?_; simp only [z, seval]); (refine DU (hNo) (h := ?_); simp only [z, seval]); (refine ⟨by kernel_rfl, ?_⟩)) | ((refine RUNs_draw 2 (by kernel_rfl) ?_; simp only [z, seval]); (refine DU (hNo) (h := ?_); simp only [z, seval]); (refine ⟨by kernel_rfl, ?_⟩))
  first | (refine CU (hRm) (h := ?_); simp only [z, seval]) | ((refine RUNs_draw 0 (by kernel_rfl) ?_; simp only [z, seval]); (refine DU (hRm) (h := ?_); simp only [z, seval]); (refine ⟨by kernel_rfl, ?_⟩)) | ((refine RUNs_draw 1 (by kernel_rfl) ?_; simp only [z, seval]); (refine DU (hRm) (h := ?_); simp only [z, seval]); (refine ⟨by kernel_rfl, ?_⟩)) | ((refine RUNs_draw 2 (by kernel_rfl) ?_; simp only [z, seval]); (refine DU (hRm) (h := ?_); simp only [z, seval]); (refine ⟨by kernel_rfl, ?_⟩))
  cases c5 : roomW w 2 1 with
  | false =>
    simp only [c5, z, seval]
    (refine FINS_done ?_; simp only [z, seval])
  | true =>
  simp only [c5, z, seval]
  (refine RUNs_unr ?_; simp only [z, seval])
  (refine CALLS_in (fn := Go.Proofs.Tryz.f63) Go.Proofs.Tryz.func63 rfl (by kernel_rfl) ?_; simp only [Go.Proofs.Tryz.f63, List.replicate, List.cons_append, List.nil_append, z, seval])
  first | (refine CU (hDr) (h := ?_); simp only [z, seval]) | ((refine RUNs_draw 0 (by kernel_rfl) ?_; simp only [z, seval]); (refine DU (hDr) (h := ?_); simp only [z, seval]); (refine ⟨by kernel_rfl, ?_⟩)) | ((refine RUNs_draw 1 (by kernel_rfl) ?_; simp only [z, seval]); (refine DU (hDr) (h := ?_); simp only [z, seval]); (refine ⟨by kernel_rfl, ?_⟩)) | ((refine RUNs_draw 2 (by kernel_rfl) ?_; simp only [z, seval]); (refine DU (hDr) (h := ?_); simp only [z, seval]); (refine ⟨by kernel_rfl, ?_⟩))
  first | (refine CU (hS1) (h := ?_); simp only [z, seval]) | ((refine RUNs_draw 0 (by kernel_rfl) ?_; simp only [z, seval]); (refine DU (hS1) (h := ?_); simp only [z, seval]); (refine ⟨by kernel_rfl, ?_⟩)) | ((refine RUNs_draw 1 (by kernel_rfl) ?_; simp only [z, seval]); (refine DU (hS1) (h := ?_); simp only [z, seval]); (refine ⟨by kernel_rfl, ?_⟩)) | ((refine RUNs_draw 2 (by kernel_rfl) ?_; simp only [z, seval]); (refine DU (hS1) (h := ?_); simp only [z, seval]); (refine ⟨by kernel_rfl, ?_⟩))
  cases c6 : ((s1 w m).2.2 == 0) with
  | false =>
    simp only [c6, z, seval]
    (refine FINS_done ?_; simp only [z, seval])
  | true =>
  simp only [c6, z, seval]
  first | (refine CU (hS2) (h := ?_); simp only [z, seval]) | ((refine RUNs_draw 0 (by kernel_rfl) ?_; simp only [z, seval]); (refine DU (hS2) (h := ?_); simp only [z, seval]); (refine ⟨by kernel_rfl, ?_⟩)) | ((refine RUNs_draw 1 (by kernel_rfl) ?_; simp only [z, seval]); (refine DU (hS2) (h := ?_); simp only [z, seval]); (refine ⟨by kernel_rfl, ?_⟩)) | ((refine RUNs_draw 2 (by kernel_rfl) ?_; simp only [z, seval]); (refine DU (hS2) (h := ?_); simp only [z, seval]); (refine ⟨by kernel_rfl, ?_⟩))
  cases c7 : ((s2 w m).2.2 == 0) with
  | false =>
    simp only [c7, z, seval]
    (refine FINS_done ?_; simp only [z, seval])
  | true =>
  simp only [c7, z, seval]
  (refine RUNs_unr ?_; simp only [z, seval])
  (refine CALLS_in (fn := Go.Proofs.Tryz.f64) Go.Proofs.Tryz.func64 rfl (by kernel_rfl) ?_; simp only [Go.Proofs.Tryz.f64, List.replicate, List.cons_append, List.nil_append, z, seval])
  (refine RUNs_draw 1 (by kernel_rfl) ?_; simp only [z, seval])
  (refine DU (hW) (h := ?_); simp only [z, seval])
  (refine DU (hL) (h := ?_); simp only [z, seval])
  (refine ⟨by kernel_rfl, ?_⟩)
  (refine RUNs_draw 1 (by kernel_rfl) ?_; simp only [z, seval])
  (refine DU (hSn) (h := ?_); simp only [z, seval])
  (refine ⟨by kernel_rfl, ?_⟩)
  cases c8 : ((sZ w m).2 == 0) with
  | false =>
    simp only [c8, z, seval]
    (refine FINS_done ?_; simp only [z, seval])
  | true =>
    simp only [c8, z, seval]
    (refine RUNs_unr ?_; simp only [z, seval])
    (refine FINS_done ?_; simp only [z, seval])
end Ch

/- What the server is handed stays. -/
set_option maxRecDepth 100000
set_option maxHeartbeats 4000000
set_option linter.unusedSimpArgs false
set_option linter.unusedVariables false
namespace Ch
open Go Go.Ab
theorem Copied_spec (w : World) (hL : w.lim) : Spec PP GG 17 [w.v] w.v [] := by
  refine (Copied_H w hL).fz ?_
  simp only [cpV, cpH, cpCells, z, seval]
theorem KsnKeeps_spec (w : World) (hw : w.ok) (m : Msg) (hm : m.ok) : Spec PP GG 4 [w.v, m.v] (.bool true) [] := by
  have hA := L13.awake_spec
  have hF := fits13_spec w hw m hm
  cases hf : fits13 w m with
  | false =>
    rw [hf] at hF
    refine Spec.of_runs Go.Proofs.Tryz.f4 Go.Proofs.Tryz.func4 rfl ?_
    intro w0 M0
    simp only [Go.Proofs.Tryz.f4, List.replicate, List.cons_append, List.nil_append, z, seval]
    (refine CU (hA) (h := ?_); simp only [z, seval])
    (refine CU (hF) (h := ?_); simp only [z, seval])
    (refine CU (hA) (h := ?_); simp only [z, seval])
    (refine FINS_done ?_; simp only [z, seval])
  | true =>
    rw [hf] at hF
    simp only [fits13, Bool.and_eq_true] at hf
    have hfit := fit_of_few hw hf.1 hf.2.1
    have hr := right_of_form hf.2.1
    have hC := Copied_spec w (hfit.toLim (by decide))
    have h1 := Grant_spec w m hfit (by decide) (by decide) hm
    have h2 := rGrant_spec w m hfit (by decide) (by decide) hm hr
    have h0 := Same12 w (hfit.toLim (by decide))
    have h3 := Same12 (grantM w m).1 ((grantM_fit hfit (by decide) (by decide) hm).toLim (by decide))
    clear hw hm hr
    refine Spec.of_runs Go.Proofs.Tryz.f4 Go.Proofs.Tryz.func4 rfl ?_
    intro w0 M0
    simp only [Go.Proofs.Tryz.f4, List.replicate, List.cons_append, List.nil_append, z, seval]
    (refine CU (hA) (h := ?_); simp only [z, seval])
    (refine CU (hF) (h := ?_); simp only [z, seval])
    (refine CU (hC) (h := ?_); simp only [z, seval])
    (refine CU (h1) (h := ?_); simp only [z, seval])
    (refine CU (h2) (h := ?_); simp only [z, seval])
    (refine CU (h0) (h := ?_); simp only [z, seval])
    (refine CU (h3) (h := ?_); simp only [z, seval])
    (refine FINS_done ?_; simp only [z, seval])
end Ch

/- What the server shares, of whatever world. -/
set_option maxRecDepth 100000
set_option maxHeartbeats 4000000
set_option linter.unusedSimpArgs false
set_option linter.unusedVariables false
namespace Ch
open Go Go.Ab
namespace L14
def c0 : Conf := ⟨5, 2, 6, 4, 4, 4, 2⟩
def w0 : World := newWorld c0 [11, 12, 13, 14, 15, 16, 17] 2 2
def pA : Part := ⟨3, 9, 1, 2, 0, 0, 0⟩
def pB : Part := ⟨4, 9, 1, 2, 0, 0, 0⟩
def q1 : World × Int × Int := sealW w0 (getP w0.people 1).key 6 pA
def q2 : World × Int × Int := sealW q1.1 (getP w0.people 2).key 7 pB
def m0 : Msg := ⟨7, 9, 1, 2, 0, q1.2.1, q2.2.1⟩
def m1 : Msg := ⟨7, 8, 1, 2, 0, q1.2.1, q2.2.1⟩
def m2 : Msg := ⟨7, 9, 1, 1, 0, q1.2.1, q2.2.1⟩
def wa : World := (shareM q2.1 m0).1
theorem w0_ok : w0.ok := ⟨by unfold Conf.ok; decide +kernel, ⟨by decide +kernel, by decide +kernel⟩, ⟨by decide +kernel, by decide +kernel⟩, ⟨by decide +kernel, by decide +kernel, ⟨by decide +kernel, fun l hl => by cases hl⟩⟩, by decide +kernel, ⟨by decide +kernel, fun l hl => by cases hl⟩, ⟨by decide +kernel, fun l hl => by
  have : l = [] := by
    have hl' : l ∈ List.replicate 2 ([] : List Int) := hl
    exact (List.mem_replicate.1 hl').2
  subst this; exact ⟨by decide, fun x hx => by cases hx⟩⟩, ⟨by decide +kernel, fun l hl => by cases hl⟩⟩
theorem w0_fit : w0.fit 21 := ⟨w0_ok, by decide +kernel, by decide +kernel, by decide +kernel, by decide +kernel, by decide +kernel, by decide +kernel, by decide +kernel, by decide +kernel, by decide +kernel, by decide +kernel, by decide +kernel, by decide +kernel, by decide +kernel, by decide +kernel, by decide +kernel, by decide +kernel, by decide +kernel, by decide +kernel⟩
theorem pA_ok : pA.ok := by unfold Part.ok; decide
theorem pB_ok : pB.ok := by unfold Part.ok; decide
theorem q1_fit : q1.1.fit 22 := fit_seal w0_fit (by decide) (by decide) (getP_ok w0_fit 1).2.1 (by decide) pA_ok
theorem q2_fit : q2.1.fit 23 := fit_seal q1_fit (by decide) (by decide) (getP_ok w0_fit 2).2.1 (by decide) pB_ok
theorem q1_U : U q1.2.1 := sealW_U w0_fit _ _ _
theorem q2_U : U q2.2.1 := sealW_U q1_fit _ _ _
theorem m0_ok : m0.ok := ⟨by decide, by decide, by decide, by decide, by decide, q1_U, q2_U⟩
theorem m1_ok : m1.ok := ⟨by decide, by decide, by decide, by decide, by decide, q1_U, q2_U⟩
theorem m2_ok : m2.ok := ⟨by decide, by decide, by decide, by decide, by decide, q1_U, q2_U⟩
theorem wa_fit : wa.fit 28 := shareM_fit q2_fit (by decide) (by decide) m0_ok
theorem g0 : shareM q2.1 m0 = (wa, 0) := by
  have : (shareM q2.1 m0).2 = 0 := by decide +kernel
  rw [← this]; rfl
theorem g1 : (shareM wa m0).2 = 8 := by decide +kernel
theorem g2 : (shareM q2.1 m1).2 = 6 := by decide +kernel
theorem g3 : (shareM q2.1 m2).2 = 5 := by decide +kernel
theorem wa_log : wa.log = [⟨2, 2, 0, 1, 2, 2147483663, 0, 9, 0, 0⟩] := by kernel_rfl
theorem wa_box : wa.box.rows.length = 4 := by decide +kernel
theorem wa_g : ∃ ws, wa.net.grams = [⟨2, ws⟩] := ⟨_, rfl⟩
theorem l1 : 1 < w0.people.length := by decide +kernel
theorem l2 : 2 < w0.people.length := by decide +kernel
theorem k1 : (getP w0.people 1).key = (w0.people[1]'l1).key := by kernel_rfl
theorem k2 : (getP w0.people 2).key = (w0.people[2]'l2).key := by kernel_rfl
theorem awake_spec : Spec PP GG 18 [] (.bool true) [] := by
  have hN : Spec PP GG 102 [c0.v, wordsV [11, 12, 13, 14, 15, 16, 17]] w0.v [] := New12_spec c0 2 2 (by decide) (by decide) rfl rfl [11, 12, 13, 14, 15, 16, 17]
  have hS1 : Spec PP GG 25 [w0.v, u32 (getP w0.people 1).key, u32 6, pA.v] (.tup [q1.1.v, u32 q1.2.1, i64 q1.2.2]) [] := rSeal_spec w0 w0_fit (by decide) _ 6 pA
  have hS2 : Spec PP GG 25 [q1.1.v, u32 (getP w0.people 2).key, u32 7, pB.v] (.tup [q2.1.v, u32 q2.2.1, i64 q2.2.2]) [] := rSeal_spec q1.1 q1_fit (by decide) _ 7 pB
  have hA := Share_spec q2.1 m0 q2_fit (by decide) (by decide) m0_ok
  have hB := Share_spec wa m0 wa_fit (by decide) (by decide) m0_ok
  have hC := Share_spec q2.1 m1 q2_fit (by decide) (by decide) m1_ok
  have hD := Share_spec q2.1 m2 q2_fit (by decide) (by decide) m2_ok
  rw [g0] at hA
  rw [g1] at hB
  rw [g2] at hC
  rw [g3] at hD
  rw [k1] at hS1
  rw [k2] at hS2
  obtain ⟨ws, hw⟩ := wa_g
  have hb := wa_box
  refine Spec.of_runs Go.Proofs.Tryz.f18 Go.Proofs.Tryz.func18 rfl ?_
  intro w0 M0
  simp only [Go.Proofs.Tryz.f18, List.replicate, List.cons_append, List.nil_append, z, seval]
  (refine CALLS_in (fn := Go.Proofs.Tryz.f60) Go.Proofs.Tryz.func60 rfl (by kernel_rfl) ?_; simp only [Go.Proofs.Tryz.f60, List.replicate, List.cons_append, List.nil_append, z, seval])
  (refine CU (hN) (h := ?_); simp only [z, seval])
  first | simp only [getMap Person.v L14.w0.people l1, z, seval] | ((refine RUNs_draw 1 (by kernel_rfl) ?_; simp only [z, seval]); simp only [getMap Person.v L14.w0.people l1, z, seval])
  first | (refine CU (hS1) (h := ?_); simp only [z, seval]) | ((refine DU (hS1) (h := ?_); simp only [z, seval]); (refine ⟨by kernel_rfl, ?_⟩))
  first | simp only [getMap Person.v L14.w0.people l2, z, seval] | ((refine RUNs_draw 1 (by kernel_rfl) ?_; simp only [z, seval]); simp only [getMap Person.v L14.w0.people l2, z, seval])
  first | (refine CU (hS2) (h := ?_); simp only [z, seval]) | ((refine DU (hS2) (h := ?_); simp only [z, seval]); (refine ⟨by kernel_rfl, ?_⟩))
  (refine CU (hA) (h := ?_); simp only [z, seval])
  (refine CU (hB) (h := ?_); simp only [z, seval])
  (refine CU (hC) (h := ?_); simp only [z, seval])
  (refine CU (hD) (h := ?_); simp only [z, seval])
  simp only [wa_log, hb, hw, List.map_cons, List.map_nil, z, seval]
  (refine FINS_done ?_; simp only [z, seval])
end L14
def fits14 (w : World) (m : Msg) : Bool := Few12 w && (Form12 w && (m.kind == 7 && msgMay m))
theorem fits14_spec (w : World) (hw : w.ok) (m : Msg) (hm : m.ok) : Spec PP GG 19 [w.v, m.v] (.bool (fits14 w m)) [] := by
  have hL := Lim_of_ok hw
  have h1 := Few12_spec w hL
  have h2 := Form12_spec w hL
  have h3 := rMay_spec m hm
  clear hw hm hL
  refine Spec.of_runs Go.Proofs.Tryz.f19 Go.Proofs.Tryz.func19 rfl ?_
  intro w0 M0
  simp only [Go.Proofs.Tryz.f19, List.replicate, List.cons_append, List.nil_append, z, seval]
  (refine CU (h1) (h := ?_); simp only [z, seval])
  cases c1 : Few12 w with
  | false =>
    simp only [z, seval]
    (refine FINS_done ?_; simp only [z, seval])
    simp only [fits14, c1, Bool.false_and]
  | true =>
  simp only [z, seval]
  (refine CU (h2) (h := ?_); simp only [z, seval])
  cases c2 : Form12 w with
  | false =>
    simp only [z, seval]
    (refine FINS_done ?_; simp only [z, seval])
    simp only [fits14, c1, c2, Bool.true_and, Bool.false_and]
  | true =>
  simp only [z, seval]
  cases c3 : (m.kind == 7) with
  | false =>
    simp only [c3, z, seval]
    (refine FINS_done ?_; simp only [z, seval])
    simp only [fits14, c1, c2, c3, Bool.true_and, Bool.false_and]
  | true =>
  simp only [c3, z, seval]
  (refine CU (h3) (h := ?_); simp only [z, seval])
  (refine FINS_done ?_; simp only [z, seval])
  simp only [fits14, c1, c2, c3, Bool.true_and]
theorem box_of_form {w : World} (h : Form12 w = true) : Right07 w.box = true := by
  simp only [Form12, Bool.and_eq_true] at h
  obtain ⟨⟨⟨⟨⟨⟨⟨⟨⟨⟨⟨⟨⟨_, h⟩, _⟩, _⟩, _⟩, _⟩, _⟩, _⟩, _⟩, _⟩, _⟩, _⟩, _⟩, _⟩ := h
  exact h
theorem KsoDoes_spec (w : World) (hw : w.ok) (m : Msg) (hm : m.ok) : Spec PP GG 5 [w.v, m.v] (.bool true) [] := by
  have hA := L14.awake_spec
  have hF := fits14_spec w hw m hm
  cases hf : fits14 w m with
  | false =>
    rw [hf] at hF
    refine Spec.of_runs Go.Proofs.Tryz.f5 Go.Proofs.Tryz.func5 rfl ?_
    intro w0 M0
    simp only [Go.Proofs.Tryz.f5, List.replicate, List.cons_append, List.nil_append, z, seval]
    (refine CU (hA) (h := ?_); simp only [z, seval])
    (refine CU (hF) (h := ?_); simp only [z, seval])
    (refine CU (hA) (h := ?_); simp only [z, seval])
    (refine FINS_done ?_; simp only [z, seval])
  | true =>
    rw [hf] at hF
    simp only [fits14, Bool.and_eq_true] at hf
    have hfit := fit_of_few hw hf.1 hf.2.1
    have h1 := Share_spec w m hfit (by decide) (by decide) hm
    have h2 := rShare_spec w m hfit (by decide) (by decide) hm (right_of_form hf.2.1) (box_of_form hf.2.1)
    have h3 := Same12 (shareM w m).1 ((shareM_fit hfit (by decide) (by decide) hm).toLim (by decide))
    clear hw hm
    refine Spec.of_runs Go.Proofs.Tryz.f5 Go.Proofs.Tryz.func5 rfl ?_
    intro w0 M0
    simp only [Go.Proofs.Tryz.f5, List.replicate, List.cons_append, List.nil_append, z, seval]
    (refine CU (hA) (h := ?_); simp only [z, seval])
    (refine CU (hF) (h := ?_); simp only [z, seval])
    (refine CU (h1) (h := ?_); simp only [z, seval])
    (refine CU (h2) (h := ?_); simp only [z, seval])
    (refine CU (h3) (h := ?_); simp only [z, seval])
    (refine FINS_done ?_; simp only [z, seval])
theorem KsoKeeps_spec (w : World) (hw : w.ok) (m : Msg) (hm : m.ok) : Spec PP GG 6 [w.v, m.v] (.bool true) [] := by
  have hA := L14.awake_spec
  have hF := fits14_spec w hw m hm
  cases hf : fits14 w m with
  | false =>
    rw [hf] at hF
    refine Spec.of_runs Go.Proofs.Tryz.f6 Go.Proofs.Tryz.func6 rfl ?_
    intro w0 M0
    simp only [Go.Proofs.Tryz.f6, List.replicate, List.cons_append, List.nil_append, z, seval]
    (refine CU (hA) (h := ?_); simp only [z, seval])
    (refine CU (hF) (h := ?_); simp only [z, seval])
    (refine CU (hA) (h := ?_); simp only [z, seval])
    (refine FINS_done ?_; simp only [z, seval])
  | true =>
    rw [hf] at hF
    simp only [fits14, Bool.and_eq_true] at hf
    have hfit := fit_of_few hw hf.1 hf.2.1
    have hC := Copied_spec w (hfit.toLim (by decide))
    have h1 := Share_spec w m hfit (by decide) (by decide) hm
    have h2 := rShare_spec w m hfit (by decide) (by decide) hm (right_of_form hf.2.1) (box_of_form hf.2.1)
    have h0 := Same12 w (hfit.toLim (by decide))
    have h3 := Same12 (shareM w m).1 ((shareM_fit hfit (by decide) (by decide) hm).toLim (by decide))
    clear hw hm
    refine Spec.of_runs Go.Proofs.Tryz.f6 Go.Proofs.Tryz.func6 rfl ?_
    intro w0 M0
    simp only [Go.Proofs.Tryz.f6, List.replicate, List.cons_append, List.nil_append, z, seval]
    (refine CU (hA) (h := ?_); simp only [z, seval])
    (refine CU (hF) (h := ?_); simp only [z, seval])
    (refine CU (hC) (h := ?_); simp only [z, seval])
    (refine CU (h1) (h := ?_); simp only [z, seval])
    (refine CU (h2) (h := ?_); simp only [z, seval])
    (refine CU (h0) (h := ?_); simp only [z, seval])
    (refine CU (h3) (h := ?_); simp only [z, seval])
    (refine FINS_done ?_; simp only [z, seval])
end Ch
