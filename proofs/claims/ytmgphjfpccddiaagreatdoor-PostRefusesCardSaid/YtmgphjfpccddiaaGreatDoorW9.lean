/- The document's parts. -/
import Derived.Test.YtmgphjfpccddiaaGreatDoorW8
set_option maxRecDepth 100000
set_option maxHeartbeats 4000000
set_option linter.unusedSimpArgs false
set_option linter.unusedVariables false
namespace Ch
open Go Go.Ab
theorem rwords_spec (label : Int) (p : Part) : Spec PP GG 131 [u32 label, p.v] (wordsV (partWs label p)) [] := by
  refine Spec.of_runs Go.Proofs.Tryz.f131 Go.Proofs.Tryz.func131 rfl ?_
  intro w0 M0
  simp only [Go.Proofs.Tryz.f131, List.replicate, List.cons_append, List.nil_append, z, seval]
  repeat' ((first | refine brk (fun h => ?_) (fun h => ?_) | fail) <;> simp only [h, z, seval])
  all_goals (refine FINS_done ?_; simp only [z, seval])
  all_goals (first | (simp only [partWs, *, cond_true, cond_false, Bool.true_and, Bool.and_true, Bool.false_and, Bool.and_false, Bool.true_or, Bool.or_true, Bool.false_or, Bool.or_false, Bool.not_true, Bool.not_false, beq_self_eq_true, Option.getD_some, Option.getD_none, Option.isSome_some, Option.isSome_none, List.map_nil]; done) | (simp only [partWs, *, cond_true, cond_false, Bool.true_and, Bool.and_true, Bool.false_and, Bool.and_false, Bool.true_or, Bool.or_true, Bool.false_or, Bool.or_false, Bool.not_true, Bool.not_false, beq_self_eq_true, Option.getD_some, Option.getD_none, Option.isSome_some, Option.isSome_none, List.map_nil]; rfl) | (simp [partWs, *]; done) | (simp_all [partWs]; done))
theorem rGet11_spec (label : Int) (l : List Int) : Spec PP GG 74 [u32 label, wordsV l] (.tup [(partGet label l).1.v, i64 (partGet label l).2]) [] := by
  cases hl : label? label with
  | true =>
    have hW := rwords_spec label zPart
    have hl' := hl
    rcases label_cases hl with rfl | rfl | rfl | rfl | rfl | rfl | rfl | rfl
    all_goals
      refine Spec.of_runs Go.Proofs.Tryz.f74 Go.Proofs.Tryz.func74 rfl ?_
      intro w0 M0
      simp only [Go.Proofs.Tryz.f74, List.replicate, List.cons_append, List.nil_append, z, seval]
      (refine CU (hW) (h := ?_); simp only [z, seval])
      simp only [partWs, Int.reduceBEq, cond_true, cond_false, Bool.true_or, Bool.or_true, Bool.or_false, Bool.false_or, z, seval]
      first | refine brk (fun h => ?_) (fun h => ?_) | fail
      · have hq := h
        rcases l with _ | ⟨x0, _ | ⟨x1, _ | ⟨x2, _ | ⟨x3, _ | ⟨x4, _ | ⟨x5, l⟩⟩⟩⟩⟩⟩
        all_goals first
          | (exfalso; simp at hq; done)
          | (exfalso; simp at hq; omega)
          | (simp only [h, List.map_cons, List.map_nil, z, seval]
             try ((refine RUNs_draw 0 (by kernel_rfl) ?_; simp only [z, seval]); (refine ⟨by kernel_rfl, ?_⟩))
             (refine FINS_done ?_; simp only [z, seval])
             simp only [partGet, hl, partRd, partWs, Int.reduceBEq, cond_true, cond_false, beq_self_eq_true, Bool.true_and, Bool.or_true, Bool.or_false, Bool.true_or, List.getD_cons_zero, List.getD_cons_succ, List.length_cons, List.length_nil, z, seval])
      · simp only [h, z, seval]
        (refine FINS_done ?_; simp only [z, seval])
        have hq := h
        rw [partGet_ne hl' (by intro hh; simp [partWs] at hh; simp [hh] at hq)]; rfl
  | false =>
    have e : partGet label l = (zPart, 1) := by simp [partGet, hl]
    rw [e]
    refine Spec.of_runs Go.Proofs.Tryz.f74 Go.Proofs.Tryz.func74 rfl ?_
    intro w0 M0
    simp only [Go.Proofs.Tryz.f74, List.replicate, List.cons_append, List.nil_append, z, seval]
    repeat' ((first | refine brk (fun h => ?_) (fun h => ?_) | fail) <;> simp only [h, z, seval])
    all_goals first | ((refine FINS_done ?_; simp only [z, seval]); rfl) | (exfalso; simp [label?] at hl; simp at *; omega)
theorem rPut11_spec (label : Int) (p : Part) : Spec PP GG 108 [u32 label, p.v] (.tup [wordsV (partPut label p).1, i64 (partPut label p).2]) [] := by
  have hl0 : (partWs label p).length = (partWs label zPart).length := by
    unfold partWs
    cases (label == 2) <;> cases (label == 3) <;> cases (label == 4 || label == 5) <;> cases (label == 6 || label == 7) <;> cases (label == 8 || label == 9) <;> rfl
  have hG : partGet label (partWs label p) = bif label? label then (partRd label (partWs label p), 0) else (zPart, 1) := by
    rw [partGet, hl0]; simp
  have hS := rGet11_spec label (partWs label p)
  rw [hG] at hS
  refine Spec.of_runs Go.Proofs.Tryz.f108 Go.Proofs.Tryz.func108 rfl ?_
  intro w0 M0
  simp only [Go.Proofs.Tryz.f108, List.replicate, List.cons_append, List.nil_append, z, seval]
  (refine CU (rwords_spec label p) (h := ?_); simp only [z, seval])
  (refine CU (hS) (h := ?_); simp only [z, seval])
  cases hl : label? label with
  | false =>
    simp only [hl, cond_false, z, seval]
    (refine FINS_done ?_; simp only [z, seval])
    simp [partPut, hl]
  | true =>
    simp only [hl, cond_true, z, seval]
    have hs : ∀ q : Part, (q.n == p.n && (q.m == p.m && (q.a == p.a && (q.b == p.b && (q.k == p.k && (q.t == p.t && q.h == p.h)))))) = eqPart p q := by
      intro q
      have hb : ∀ x y : Int, (x == y) = (y == x) := fun x y => by rw [Bool.eq_iff_iff]; simp; exact eq_comm
      simp only [eqPart, hb q.n, hb q.m, hb q.a, hb q.b, hb q.k, hb q.t, hb q.h]
    first | refine brk (fun h => ?_) (fun h => ?_) | fail
    · have h2 := h
      rw [hs] at h2
      simp only [h, z, seval]
      (refine FINS_done ?_; simp only [z, seval])
      simp only [partPut, hl, h2, Bool.true_and, cond_true]
    · have h2 := h
      rw [hs] at h2
      simp only [h, z, seval]
      (refine FINS_done ?_; simp only [z, seval])
      simp only [partPut, hl, h2, Bool.true_and, cond_false, List.map_nil]
end Ch

/- The document's desk. -/
set_option maxRecDepth 100000
set_option maxHeartbeats 4000000
set_option linter.unusedSimpArgs false
set_option linter.unusedVariables false
namespace Ch
open Go Go.Ab
theorem rDraw_spec (w : World) {N : Nat} (hw : w.fit N) (hN : N ≤ 500000000000) : Spec PP GG 59 [w.v] (.tup [(drawW w).1.v, u32 (drawW w).2]) [] := by
  have hT := rTake_spec w.draws hw.next0 (by have := hw.nextN; omega)
  refine Spec.of_runs Go.Proofs.Tryz.f59 Go.Proofs.Tryz.func59 rfl ?_
  intro w0 M0
  simp only [Go.Proofs.Tryz.f59, List.replicate, List.cons_append, List.nil_append, z, seval]
  (refine CU (hT) (h := ?_); simp only [z, seval])
  (refine FINS_done ?_; simp only [z, seval])
  simp only [drawW]
theorem rSeal_spec (w : World) {N : Nat} (hw : w.fit N) (hN : N ≤ 500000000000) (key label : Int) (p : Part) : Spec PP GG 44 [w.v, u32 key, u32 label, p.v] (.tup [(sealW w key label p).1.v, u32 (sealW w key label p).2.1, i64 (sealW w key label p).2.2]) [] := by
  have hr := hw.rows
  have hp := partPut_len label p
  refine Spec.of_runs Go.Proofs.Tryz.f44 Go.Proofs.Tryz.func44 rfl ?_
  intro w0 M0
  simp only [Go.Proofs.Tryz.f44, List.replicate, List.cons_append, List.nil_append, z, seval]
  (refine CU (rPut11_spec label p) (h := ?_); simp only [z, seval])
  cases h1 : ((partPut label p).2 == 0) with
  | false =>
    simp only [h1, z, seval]
    (refine FINS_done ?_; simp only [z, seval])
    simp only [sealW, h1, cond_false]
  | true =>
    simp only [h1, z, seval]
    (refine CU (rDraw_spec w hw hN) (h := ?_); simp only [z, seval])
    (refine CU (rSeal07_spec w.box (drawW w).2 key label (partPut label p).1 (by omega) (by omega)) (h := ?_); simp only [z, seval])
    cases h2 : ((boxSeal w.box (drawW w).2 key label (partPut label p).1).2 == 0) with
    | false =>
      simp only [h2, z, seval]
      (refine FINS_done ?_; simp only [z, seval])
      simp only [sealW, h1, h2, cond_true, cond_false]
    | true =>
      simp only [h2, z, seval]
      (refine FINS_done ?_; simp only [z, seval])
      simp only [sealW, h1, h2, cond_true]
theorem rSend_spec (w : World) {N : Nat} (hw : w.fit N) (hN : N ≤ 500000000000) (to : Int) (m : Msg) (hm : m.ok) : Spec PP GG 62 [w.v, u32 to, m.v] (.tup [(sendW w to m).1.v, i64 (sendW w to m).2]) [] := by
  have hr := hw.grams
  have hs := hw.seen
  refine Spec.of_runs Go.Proofs.Tryz.f62 Go.Proofs.Tryz.func62 rfl ?_
  intro w0 M0
  simp only [Go.Proofs.Tryz.f62, List.replicate, List.cons_append, List.nil_append, z, seval]
  (refine CU (rPut_spec m hm) (h := ?_); simp only [z, seval])
  cases h1 : ((msgPut m).2 == 0) with
  | false =>
    simp only [h1, z, seval]
    (refine FINS_done ?_; simp only [z, seval])
    simp only [sendW, h1, cond_false]
  | true =>
    simp only [h1, z, seval]
    (refine CU (rNSend_spec w.net ⟨to, (msgPut m).1⟩ (by omega) (by omega)) (h := ?_); simp only [z, seval])
    (refine FINS_done ?_; simp only [z, seval])
    cases d : decide (w.net.room - (w.net.grams.length : Int) < 1) <;> simp [sendW, h1, netSend, d]
theorem rLog_spec (w : World) {N : Nat} (hw : w.fit N) (hN : N ≤ 500000000000) (e : Event) : Spec PP GG 61 [w.v, e.v] (logW w e).v [] := by
  have hr := hw.log
  refine Spec.of_runs Go.Proofs.Tryz.f61 Go.Proofs.Tryz.func61 rfl ?_
  intro w0 M0
  simp only [Go.Proofs.Tryz.f61, List.replicate, List.cons_append, List.nil_append, z, seval]
  (refine RUNs_draw 4 (by kernel_rfl) ?_; simp only [z, seval])
  refine DOC_ok ?_ ?_
  · exact okMap _ (fun a => rfl) (by omega)
  simp only [z, seval]
  refine DOC_ok ?_ ?_
  · simp; omega
  simp only [z, seval]
  (refine ⟨by kernel_rfl, ?_⟩)
  (refine FINS_done ?_; simp only [z, seval])
  simp only [logW, List.map_append, List.map_cons, List.map_nil, z, seval]
theorem rRoom_spec (w : World) (b f : Int) (hb : 0 ≤ w.box.room ∧ w.box.room ≤ 1099511627776) (hn : 0 ≤ w.net.room ∧ w.net.room ≤ 1099511627776) (h1 : w.box.rows.length ≤ 500000000000) (h2 : w.net.grams.length ≤ 500000000000) : Spec PP GG 58 [w.v, i64 b, i64 f] (.bool (roomW w b f)) [] := by
  refine Spec.of_runs Go.Proofs.Tryz.f58 Go.Proofs.Tryz.func58 rfl ?_
  intro w0 M0
  simp only [Go.Proofs.Tryz.f58, List.replicate, List.cons_append, List.nil_append, z, seval]
  simp only [w64 (n := w.box.room - w.box.rows.length) (by omega) (by omega), w64 (n := w.net.room - w.net.grams.length) (by omega) (by omega), z, seval]
  repeat' ((first | refine brk (fun h => ?_) (fun h => ?_) | fail) <;> simp only [h, w64 (n := w.net.room - w.net.grams.length) (by omega) (by omega), z, seval])
  all_goals (refine FINS_done ?_; simp only [z, seval])
  all_goals (first | (simp only [roomW, *, cond_true, cond_false, Bool.true_and, Bool.and_true, Bool.false_and, Bool.and_false, Bool.true_or, Bool.or_true, Bool.false_or, Bool.or_false, Bool.not_true, Bool.not_false, beq_self_eq_true, Option.getD_some, Option.getD_none, Option.isSome_some, Option.isSome_none, List.map_nil]; done) | (simp only [roomW, *, cond_true, cond_false, Bool.true_and, Bool.and_true, Bool.false_and, Bool.and_false, Bool.true_or, Bool.or_true, Bool.false_or, Bool.or_false, Bool.not_true, Bool.not_false, beq_self_eq_true, Option.getD_some, Option.getD_none, Option.isSome_some, Option.isSome_none, List.map_nil]; rfl) | (simp [roomW, *]; done) | (simp_all [roomW]; done))
theorem rPerson_spec (w : World) {N : Nat} (hw : w.fit N) (hN : N ≤ 500000000000) (hr : Right10 w.people = true) (n : Int) (hn : U n) : Spec PP GG 55 [w.v, u32 n] (personW w n).v [] := by
  have hl := hw.people
  have h1 := rGet_spec w.people n (by omega)
  rw [rGetD_right hr hn] at h1
  clear hr
  refine Spec.of_runs Go.Proofs.Tryz.f55 Go.Proofs.Tryz.func55 rfl ?_
  intro w0 M0
  simp only [Go.Proofs.Tryz.f55, List.replicate, List.cons_append, List.nil_append, z, seval]
  (refine CU (h1) (h := ?_); simp only [z, seval])
  (refine FINS_done ?_; simp only [z, seval])
  simp only [personW]
theorem setL_right {l : List Person} (h : Right10 l = true) {p : Person} (hp : U p.name) (hlt : p.name.toNat < l.length) : setL l p = (setM l p).1 := by
  have hn := names_of_right h
  rw [setM, decide_eq_true hlt, cond_true]
  apply List.ext_getElem
  · simp [setL]
  intro i h1 h2
  simp only [setL, List.getElem_map, List.getElem_set]
  simp only [setL, List.length_map] at h1
  have := hn i h1
  have := hp.1
  by_cases hi : p.name.toNat = i
  · rw [if_pos hi, show (l[i].name == p.name) = true by simp; omega]; rfl
  · rw [if_neg hi, show (l[i].name == p.name) = false by simp; omega]; rfl
theorem setE_right {l : List Person} (h : Right10 l = true) {p : Person} (hp : U p.name) : setE l p = bif decide (p.name.toNat < l.length) then 0 else 1 := by
  have hn := names_of_right h
  have := hp.1
  rw [setE]
  congr 1
  rw [Bool.eq_iff_iff, List.any_eq_true, decide_eq_true_eq]
  constructor
  · rintro ⟨q, hq, hqe⟩
    obtain ⟨i, hi, rfl⟩ := List.mem_iff_getElem.1 hq
    have := hn i hi
    simp only [beq_iff_eq] at hqe
    omega
  · intro hlt
    exact ⟨_, List.getElem_mem hlt, by have := hn _ hlt; simp only [beq_iff_eq]; omega⟩
theorem rWith_spec (w : World) {N : Nat} (hw : w.fit N) (hN : N ≤ 500000000000) (hr : Right10 w.people = true) (p : Person) (hp : U p.name) : Spec PP GG 60 [w.v, p.v] (withW w p).v [] := by
  have hl := hw.people
  have hE := setE_right hr hp
  have hS := fun h => setL_right hr hp h
  have h1 := rSet_spec w.people p (by omega)
  rw [hE] at h1
  cases hlt : decide (p.name.toNat < w.people.length) with
  | true =>
    rw [hlt, cond_true, hS (of_decide_eq_true hlt)] at h1
    have h2 := h1.fz (r' := .tup [peopleV (setM w.people p).1, i64 0]) (by simp only [z, seval])
    clear h1 hS hE hr
    refine Spec.of_runs Go.Proofs.Tryz.f60 Go.Proofs.Tryz.func60 rfl ?_
    intro w0 M0
    simp only [Go.Proofs.Tryz.f60, List.replicate, List.cons_append, List.nil_append, z, seval]
    (refine CU (h2) (h := ?_); simp only [z, seval])
    (refine FINS_done ?_; simp only [z, seval])
    simp only [withW]
  | false =>
    rw [hlt, cond_false] at h1
    have h2 := h1.fz (r' := .tup [peopleV (setL w.people p), i64 1]) (by simp only [z, seval])
    clear h1 hS hE hr
    refine Spec.of_runs Go.Proofs.Tryz.f60 Go.Proofs.Tryz.func60 rfl ?_
    intro w0 M0
    simp only [Go.Proofs.Tryz.f60, List.replicate, List.cons_append, List.nil_append, z, seval]
    (refine CU (h2) (h := ?_); simp only [z, seval])
    (refine FINS_done ?_; simp only [z, seval])
    simp only [withW, setM, hlt, cond_false]
end Ch

/- The server that grants. -/
set_option maxRecDepth 100000
set_option maxHeartbeats 4000000
set_option linter.unusedSimpArgs false
set_option linter.unusedVariables false
namespace Ch
open Go Go.Ab
def gTk (w : World) (m : Msg) : World × Int × Int := sealW (drawW w).1 (personW w m.b).key 3 ⟨0, 0, m.a, 0, (drawW w).2, (personW w 0).clock, 0⟩
def gGr (w : World) (m : Msg) : World × Int × Int := sealW (gTk w m).1 (personW w m.a).key 2 ⟨m.nonce, 0, 0, m.b, (drawW w).2, (personW w 0).clock, (gTk w m).2.1⟩
def gP (w : World) (m : Msg) : Person := { personW w 0 with used := (usedNote (personW w 0).used w.conf.used m.nonce).1 }
def gEv (w : World) (m : Msg) : Event := ⟨2, 1, 0, m.a, m.b, (drawW w).2, (personW w 0).clock, 0, m.nonce, (personW w 0).clock⟩
def gY (w : World) (m : Msg) : World := logW (withW (gGr w m).1 (gP w m)) (gEv w m)
def gZ (w : World) (m : Msg) : World × Int := sendW (gY w m) m.a ⟨2, 0, 0, 0, 0, (gGr w m).2.1, 0⟩
def grantM (w : World) (m : Msg) : World × Int :=
  bif pairM w.people m.a m.b then (bif decide ((personW w 0).clock ≥ 1073741824) then (w, 7) else (bif usedMay (personW w 0).used w.conf.used m.nonce == 0 then (bif roomW w 2 1 then
    (bif (gTk w m).2.2 == 0 then (bif (gGr w m).2.2 == 0 then (bif (gZ w m).2 == 0 then ((gZ w m).1, 0) else (w, (gZ w m).2)) else (w, (gGr w m).2.2)) else (w, (gTk w m).2.2)) else (w, 10))
    else (w, usedMay (personW w 0).used w.conf.used m.nonce))) else (w, 5)
theorem U0 : U 0 := by decide
theorem U2 : U 2 := by decide
theorem personW_ok {w : World} {N : Nat} (hw : w.fit N) (n : Int) : (personW w n).ok := getP_ok hw _
theorem usedMay_le {l : List Int} {room w : Int} : (usedNote l room w).1.length ≤ l.length + 1 := by
  unfold usedNote; cases (usedMay l room w == 0) <;> simp
theorem gP_ok {w : World} {N : Nat} (hw : w.fit N) (hN : N ≤ 400000000000) {m : Msg} (hm : m.ok) : (gP w m).ok := by
  obtain ⟨h1, h2, h3, h4, h5⟩ := personW_ok hw 0
  refine ⟨h1, h2, h3, ?_, h5⟩
  simp only [gP, usedNote]
  cases (usedMay (personW w 0).used w.conf.used m.nonce == 0)
  · exact h4
  · exact LL.app h4 (getP_used hw _) (by omega) hm.2.2.2.2.1
theorem gTk_fit {w : World} {N : Nat} (hw : w.fit N) (h5 : 21 ≤ N) (hN : N ≤ 400000000000) {m : Msg} (hm : m.ok) : (gTk w m).1.fit (N + 2) := by
  refine fit_seal (fit_draw hw (by omega)) (by omega) (by omega) (personW_ok hw _).2.1 (by decide) ?_
  exact ⟨U0, U0, hm.2.2.1, U0, drawW_U hw, (personW_ok hw 0).2.2.1, U0⟩
theorem gTk_U {w : World} {N : Nat} (hw : w.fit N) (hN : N ≤ 400000000000) (m : Msg) : U (gTk w m).2.1 := sealW_U (fit_draw hw (by omega)) _ _ _
theorem gGr_fit {w : World} {N : Nat} (hw : w.fit N) (h5 : 21 ≤ N) (hN : N ≤ 400000000000) {m : Msg} (hm : m.ok) : (gGr w m).1.fit (N + 3) := by
  refine fit_seal (gTk_fit hw h5 hN hm) (by omega) (by omega) (personW_ok hw _).2.1 (by decide) ?_
  exact ⟨hm.2.2.2.2.1, U0, U0, hm.2.2.2.1, drawW_U hw, (personW_ok hw 0).2.2.1, gTk_U hw hN m⟩
theorem gGr_U {w : World} {N : Nat} (hw : w.fit N) (h5 : 21 ≤ N) (hN : N ≤ 400000000000) {m : Msg} (hm : m.ok) : U (gGr w m).2.1 := sealW_U (gTk_fit hw h5 hN hm) _ _ _
theorem gP_used {w : World} {N : Nat} (hw : w.fit N) (m : Msg) : (gP w m).used.length ≤ N + 1 := by
  have := getP_used hw (0 : Int).toNat
  have h2 := @usedMay_le (personW w 0).used w.conf.used m.nonce
  simp only [gP, personW] at h2 ⊢
  omega
theorem gP_runs {w : World} {N : Nat} (hw : w.fit N) (m : Msg) : (gP w m).runs.length ≤ N := getP_runs hw _
theorem gW_fit {w x : World} {N K : Nat} (hw : w.fit N) (hx : x.fit K) (hK : N + 1 ≤ K) (hN : N ≤ 400000000000) {m : Msg} (hm : m.ok) : (withW x (gP w m)).fit K :=
  fit_with hx (gP_ok hw hN hm) (by have := gP_used hw m; omega) (by have := gP_runs hw m; omega)
theorem gEv_ok {w : World} {N : Nat} (hw : w.fit N) {m : Msg} (hm : m.ok) : (gEv w m).ok := by
  refine ⟨?_, ?_, ?_, ?_, ?_, ?_, ?_, ?_, ?_, ?_⟩ <;> first | exact U0 | exact (by decide : I 0) | exact (by decide : I 1) | exact (by decide : I 2) | exact hm.2.2.1 | exact hm.2.2.2.1 | exact drawW_U hw | exact (personW_ok hw 0).2.2.1 | exact hm.2.2.2.2.1
theorem gY_fit {w : World} {N : Nat} (hw : w.fit N) (h5 : 21 ≤ N) (hN : N ≤ 400000000000) {m : Msg} (hm : m.ok) : (gY w m).fit (N + 4) :=
  fit_log (gW_fit hw (gGr_fit hw h5 hN hm) (by omega) hN hm) (by omega) (gEv_ok hw hm)
theorem over_end {c : Int} : overM c 1073741824 0 = decide (c ≥ 1073741824) := by
  rw [overM, Bool.eq_iff_iff]; simp; omega
theorem people_draw (w : World) : (drawW w).1.people = w.people := rfl
theorem people_seal (w : World) (k l : Int) (p : Part) : (sealW w k l p).1.people = w.people := by
  unfold sealW
  cases ((partPut l p).2 == 0)
  · rfl
  · cases ((boxSeal w.box (drawW w).2 k l (partPut l p).1).2 == 0) <;> rfl
theorem gGr_people (w : World) (m : Msg) : (gGr w m).1.people = w.people := by rw [gGr, people_seal, gTk, people_seal, people_draw]
theorem rGrant_spec (w : World) (m : Msg) {N : Nat} (hw : w.fit N) (h5 : 21 ≤ N) (hN : N ≤ 400000000000) (hm : m.ok) (hr : Right10 w.people = true) : Spec PP GG 101 [w.v, m.v] (.tup [(grantM w m).1.v, i64 (grantM w m).2]) [] := by
  have hP0 := rPerson_spec w hw (by omega) hr 0 (by decide)
  have hPa := rPerson_spec w hw (by omega) hr m.a hm.2.2.1
  have hPb := rPerson_spec w hw (by omega) hr m.b hm.2.2.2.1
  have hPr := rPair_spec w.people (by have := hw.people; omega) hr m.a m.b hm.2.2.1 hm.2.2.2.1
  have hMy := rMay08_spec (personW w 0).used w.conf.used m.nonce (by have := getP_used hw (0 : Int).toNat; simp only [personW]; omega)
  have hRm := rRoom_spec w 2 1 hw.broom hw.nroom (by have := hw.rows; omega) (by have := hw.grams; omega)
  have hDr := rDraw_spec w hw (by omega)
  have hS1 := rSeal_spec (drawW w).1 (fit_draw hw (by omega)) (by omega) (personW w m.b).key 3 ⟨0, 0, m.a, 0, (drawW w).2, (personW w 0).clock, 0⟩
  have hS2 := rSeal_spec (gTk w m).1 (gTk_fit hw h5 hN hm) (by omega) (personW w m.a).key 2 ⟨m.nonce, 0, 0, m.b, (drawW w).2, (personW w 0).clock, (gTk w m).2.1⟩
  have hW := rWith_spec (gGr w m).1 (gGr_fit hw h5 hN hm) (by omega) (by rw [gGr_people]; exact hr) (gP w m) (gP_ok hw hN hm).1
  have hL := rLog_spec (withW (gGr w m).1 (gP w m)) (gW_fit hw (gGr_fit hw h5 hN hm) (by omega) hN hm) (by omega) (gEv w m)
  have hSn := rSend_spec (gY w m) (gY_fit hw h5 hN hm) (by omega) m.a ⟨2, 0, 0, 0, 0, (gGr w m).2.1, 0⟩ ⟨U2, U0, U0, U0, U0, gGr_U hw h5 hN hm, U0⟩
  rw [← gTk] at hS1
  rw [← gGr] at hS2
  rw [← gY] at hL
  rw [← gZ] at hSn
  have hU : (personW w 0).used.length ≤ N := getP_used hw _
  clear hw hr hm
  cases c1 : pairM w.people m.a m.b with
  | false =>
    rw [c1] at hPr
    have e : grantM w m = (w, 5) := by simp only [grantM, c1, cond_false]
    rw [e]
    refine Spec.of_runs Go.Proofs.Tryz.f101 Go.Proofs.Tryz.func101 rfl ?_
    intro w0 M0
    simp only [Go.Proofs.Tryz.f101, List.replicate, List.cons_append, List.nil_append, z, seval]
    (refine CU (hP0) (h := ?_); simp only [z, seval])
    (refine CU (hPr) (h := ?_); simp only [z, seval])
    (refine FINS_done ?_; simp only [z, seval])
  | true =>
  rw [c1] at hPr
  cases c2 : decide ((personW w 0).clock ≥ 1073741824) with
  | true =>
    have e : grantM w m = (w, 7) := by simp only [grantM, c1, c2, cond_true]
    rw [e]
    refine Spec.of_runs Go.Proofs.Tryz.f101 Go.Proofs.Tryz.func101 rfl ?_
    intro w0 M0
    simp only [Go.Proofs.Tryz.f101, List.replicate, List.cons_append, List.nil_append, z, seval]
    (refine CU (hP0) (h := ?_); simp only [z, seval])
    (refine CU (hPr) (h := ?_); simp only [z, seval])
    simp only [c2, z, seval]
    (refine FINS_done ?_; simp only [z, seval])
  | false =>
  cases c3 : (usedMay (personW w 0).used w.conf.used m.nonce == 0) with
  | false =>
    have e : grantM w m = (w, usedMay (personW w 0).used w.conf.used m.nonce) := by simp only [grantM, c1, c2, c3, cond_true, cond_false]
    rw [e]
    refine Spec.of_runs Go.Proofs.Tryz.f101 Go.Proofs.Tryz.func101 rfl ?_
    intro w0 M0
    simp only [Go.Proofs.Tryz.f101, List.replicate, List.cons_append, List.nil_append, z, seval]
    (refine CU (hP0) (h := ?_); simp only [z, seval])
    (refine CU (hPr) (h := ?_); simp only [z, seval])
    simp only [c2, z, seval]
    (refine CU (hMy) (h := ?_); simp only [z, seval])
    simp only [c3, z, seval]
    (refine FINS_done ?_; simp only [z, seval])
  | true =>
  cases c4 : roomW w 2 1 with
  | false =>
    rw [c4] at hRm
    have e : grantM w m = (w, 10) := by simp only [grantM, c1, c2, c3, c4, cond_true, cond_false]
    rw [e]
    refine Spec.of_runs Go.Proofs.Tryz.f101 Go.Proofs.Tryz.func101 rfl ?_
    intro w0 M0
    simp only [Go.Proofs.Tryz.f101, List.replicate, List.cons_append, List.nil_append, z, seval]
    (refine CU (hP0) (h := ?_); simp only [z, seval])
    (refine CU (hPr) (h := ?_); simp only [z, seval])
    simp only [c2, z, seval]
    (refine CU (hMy) (h := ?_); simp only [z, seval])
    simp only [c3, z, seval]
    (refine CU (hRm) (h := ?_); simp only [z, seval])
    (refine FINS_done ?_; simp only [z, seval])
  | true =>
  rw [c4] at hRm
  have e0 : grantM w m = (bif (gTk w m).2.2 == 0 then (bif (gGr w m).2.2 == 0 then (bif (gZ w m).2 == 0 then ((gZ w m).1, 0) else (w, (gZ w m).2)) else (w, (gGr w m).2.2)) else (w, (gTk w m).2.2)) := by simp only [grantM, c1, c2, c3, c4, cond_true, cond_false]
  rw [e0]
  clear e0
  have hg : (gP w m) = ⟨(personW w 0).name, (personW w 0).key, (personW w 0).clock, (personW w 0).used ++ [m.nonce], (personW w 0).runs, (personW w 0).corrupt⟩ := by
    simp only [gP, usedNote, c3, cond_true]
  have hW2 : Spec PP GG 60 [(gGr w m).1.v, Person.v ⟨(personW w 0).name, (personW w 0).key, (personW w 0).clock, (personW w 0).used ++ [m.nonce], (personW w 0).runs, (personW w 0).corrupt⟩] (withW (gGr w m).1 (gP w m)).v [] := by rw [← hg]; exact hW
  have e : (personW w 0).used.map u32 ++ [u32 m.nonce] = ((personW w 0).used ++ [m.nonce]).map u32 := by simp
  refine Spec.of_runs Go.Proofs.Tryz.f101 Go.Proofs.Tryz.func101 rfl ?_
  intro w0 M0
  simp only [Go.Proofs.Tryz.f101, List.replicate, List.cons_append, List.nil_append, z, seval]
  (refine CU (hP0) (h := ?_); simp only [z, seval])
  (refine CU (hPr) (h := ?_); simp only [z, seval])
  simp only [c2, z, seval]
  (refine CU (hMy) (h := ?_); simp only [z, seval])
  simp only [c3, z, seval]
  (refine CU (hRm) (h := ?_); simp only [z, seval])
  (refine CU (hDr) (h := ?_); simp only [z, seval])
  (refine RUNs_draw 1 (by kernel_rfl) ?_; simp only [z, seval])
  (refine DU (hPb) (h := ?_); simp only [z, seval])
  (refine DU (hS1) (h := ?_); simp only [z, seval])
  (refine ⟨by kernel_rfl, ?_⟩)
  cases c5 : ((gTk w m).2.2 == 0) with
  | false =>
    simp only [c5, z, seval]
    (refine FINS_done ?_; simp only [z, seval])
  | true =>
  simp only [c5, z, seval]
  (refine RUNs_draw 1 (by kernel_rfl) ?_; simp only [z, seval])
  (refine DU (hPa) (h := ?_); simp only [z, seval])
  (refine DU (hS2) (h := ?_); simp only [z, seval])
  (refine ⟨by kernel_rfl, ?_⟩)
  cases c6 : ((gGr w m).2.2 == 0) with
  | false =>
    simp only [c6, z, seval]
    (refine FINS_done ?_; simp only [z, seval])
  | true =>
  simp only [c6, z, seval]
  (refine RUNs_draw 4 (by kernel_rfl) ?_; simp only [z, seval])
  refine DOC_ok ?_ ?_
  · exact okMap _ (fun a => rfl) (by omega)
  simp only [z, seval]
  refine DOC_ok ?_ ?_
  · simp; omega
  simp only [z, seval]
  (refine ⟨by kernel_rfl, ?_⟩)
  simp only [e, z, seval]
  (refine CU (hW2) (h := ?_); simp only [z, seval])
  (refine CU (hL) (h := ?_); simp only [z, seval])
  (refine CU (hSn) (h := ?_); simp only [z, seval])
  cases c7 : ((gZ w m).2 == 0) with
  | false =>
    simp only [c7, z, seval]
    (refine FINS_done ?_; simp only [z, seval])
  | true =>
    simp only [c7, z, seval]
    (refine FINS_done ?_; simp only [z, seval])
end Ch

/- The server that grants: the program's. -/
set_option maxRecDepth 100000
set_option maxHeartbeats 4000000
set_option linter.unusedSimpArgs false
set_option linter.unusedVariables false
namespace Ch
open Go Go.Ab
theorem Grant_spec (w : World) (m : Msg) {N : Nat} (hw : w.fit N) (h5 : 21 ≤ N) (hN : N ≤ 400000000000) (hm : m.ok) : Spec PP GG 142 [w.v, m.v] (.tup [(grantM w m).1.v, i64 (grantM w m).2]) [] := by
  have hP0 := person_spec w hw (by omega) 0 (by decide)
  have hPa := person_spec w hw (by omega) m.a hm.2.2.1
  have hPb := person_spec w hw (by omega) m.b hm.2.2.2.1
  have hPr := pPair_spec w.people m.a m.b hm.2.2.1 hm.2.2.2.1 (by have := hw.people; omega)
  have hU : (personW w 0).used.length ≤ N := getP_used hw _
  have hMy := uMay_spec (personW w 0).used w.conf.used m.nonce (by omega)
  have hNo := uNote_spec (personW w 0).used w.conf.used m.nonce (by omega)
  have hOv := over_spec (personW w 0).clock 1073741824 0 (personW_ok hw 0).2.2.1 (by decide) (by decide)
  rw [over_end] at hOv
  have hRm := room_spec' w hw (by omega) 2 1
  have hDr := draw_spec w hw (by omega)
  have hS1 := seal_spec (drawW w).1 (fit_draw hw (by omega)) (by omega) (personW w m.b).key 3 ⟨0, 0, m.a, 0, (drawW w).2, (personW w 0).clock, 0⟩
  have hS2 := seal_spec (gTk w m).1 (gTk_fit hw h5 hN hm) (by omega) (personW w m.a).key 2 ⟨m.nonce, 0, 0, m.b, (drawW w).2, (personW w 0).clock, (gTk w m).2.1⟩
  have hW := with_spec (gGr w m).1 (gGr_fit hw h5 hN hm) (by omega) (gP w m) (gP_ok hw hN hm).1
  have hW1 := with_spec (gTk w m).1 (gTk_fit hw h5 hN hm) (by omega) (gP w m) (gP_ok hw hN hm).1
  have hL := log_spec (withW (gGr w m).1 (gP w m)) (gW_fit hw (gGr_fit hw h5 hN hm) (by omega) hN hm) (by omega) (gEv w m)
  have hL1 := log_spec (withW (gTk w m).1 (gP w m)) (gW_fit hw (gTk_fit hw h5 hN hm) (by omega) hN hm) (by omega) (gEv w m)
  have hSn := send_spec (gY w m) (gY_fit hw h5 hN hm) (by omega) m.a ⟨2, 0, 0, 0, 0, (gGr w m).2.1, 0⟩ ⟨U2, U0, U0, U0, U0, gGr_U hw h5 hN hm, U0⟩
  rw [← gTk] at hS1
  rw [← gGr] at hS2
  rw [← gY] at hL
  rw [← gZ] at hSn
  clear hw hm
  cases c1 : pairM w.people m.a m.b with
  | false =>
    rw [c1] at hPr
    have e : grantM w m = (w, 5) := by simp only [grantM, c1, cond_false]
    rw [e]
    refine Spec.of_runs Go.Proofs.Tryz.f142 Go.Proofs.Tryz.func142 rfl ?_
    intro w0 M0
    simp only [Go.Proofs.Tryz.f142, List.replicate, List.cons_append, List.nil_append, z, seval]
    (refine CU (hP0) (h := ?_); simp only [z, seval])
    (refine CALLS_in (fn := Go.Proofs.Tryz.f165) Go.Proofs.Tryz.func165 rfl (by kernel_rfl) ?_; simp only [Go.Proofs.Tryz.f165, List.replicate, List.cons_append, List.nil_append, z, seval])
    (refine CU (hPr) (h := ?_); simp only [z, seval])
    (refine FINS_done ?_; simp only [z, seval])
  | true =>
  rw [c1] at hPr
  cases c2 : decide ((personW w 0).clock ≥ 1073741824) with
  | true =>
    rw [c2] at hOv
    have e : grantM w m = (w, 7) := by simp only [grantM, c1, c2, cond_true]
    rw [e]
    refine Spec.of_runs Go.Proofs.Tryz.f142 Go.Proofs.Tryz.func142 rfl ?_
    intro w0 M0
    simp only [Go.Proofs.Tryz.f142, List.replicate, List.cons_append, List.nil_append, z, seval]
    (refine CU (hP0) (h := ?_); simp only [z, seval])
    (refine CALLS_in (fn := Go.Proofs.Tryz.f165) Go.Proofs.Tryz.func165 rfl (by kernel_rfl) ?_; simp only [Go.Proofs.Tryz.f165, List.replicate, List.cons_append, List.nil_append, z, seval])
    (refine CU (hPr) (h := ?_); simp only [z, seval])
    (refine CU (hOv) (h := ?_); simp only [z, seval])
    (refine FINS_done ?_; simp only [z, seval])
  | false =>
  rw [c2] at hOv
  cases c3 : (usedMay (personW w 0).used w.conf.used m.nonce == 0) with
  | false =>
    have e : grantM w m = (w, usedMay (personW w 0).used w.conf.used m.nonce) := by simp only [grantM, c1, c2, c3, cond_true, cond_false]
    rw [e]
    refine Spec.of_runs Go.Proofs.Tryz.f142 Go.Proofs.Tryz.func142 rfl ?_
    intro w0 M0
    simp only [Go.Proofs.Tryz.f142, List.replicate, List.cons_append, List.nil_append, z, seval]
    (refine CU (hP0) (h := ?_); simp only [z, seval])
    (refine CALLS_in (fn := Go.Proofs.Tryz.f165) Go.Proofs.Tryz.func165 rfl (by kernel_rfl) ?_; simp only [Go.Proofs.Tryz.f165, List.replicate, List.cons_append, List.nil_append, z, seval])
    (refine CU (hPr) (h := ?_); simp only [z, seval])
    (refine CU (hOv) (h := ?_); simp only [z, seval])
    (refine CU (hMy) (h := ?_); simp only [z, seval])
    simp only [c3, z, seval]
    (refine FINS_done ?_; simp only [z, seval])
  | true =>
  cases c4 : roomW w 2 1 with
  | false =>
    rw [c4] at hRm
    have e : grantM w m = (w, 10) := by simp only [grantM, c1, c2, c3, c4, cond_true, cond_false]
    rw [e]
    refine Spec.of_runs Go.Proofs.Tryz.f142 Go.Proofs.Tryz.func142 rfl ?_
    intro w0 M0
    simp only [Go.Proofs.Tryz.f142, List.replicate, List.cons_append, List.nil_append, z, seval]
    (refine CU (hP0) (h := ?_); simp only [z, seval])
    (refine CALLS_in (fn := Go.Proofs.Tryz.f165) Go.Proofs.Tryz.func165 rfl (by kernel_rfl) ?_; simp only [Go.Proofs.Tryz.f165, List.replicate, List.cons_append, List.nil_append, z, seval])
    (refine CU (hPr) (h := ?_); simp only [z, seval])
    (refine CU (hOv) (h := ?_); simp only [z, seval])
    (refine CU (hMy) (h := ?_); simp only [z, seval])
    simp only [c3, z, seval]
    (refine CU (hRm) (h := ?_); simp only [z, seval])
    (refine FINS_done ?_; simp only [z, seval])
  | true =>
  rw [c4] at hRm
  have e0 : grantM w m = (bif (gTk w m).2.2 == 0 then (bif (gGr w m).2.2 == 0 then (bif (gZ w m).2 == 0 then ((gZ w m).1, 0) else (w, (gZ w m).2)) else (w, (gGr w m).2.2)) else (w, (gTk w m).2.2)) := by simp only [grantM, c1, c2, c3, c4, cond_true, cond_false]
  rw [e0]
  clear e0
  refine Spec.of_runs Go.Proofs.Tryz.f142 Go.Proofs.Tryz.func142 rfl ?_
  intro w0 M0
  simp only [Go.Proofs.Tryz.f142, List.replicate, List.cons_append, List.nil_append, z, seval]
  (refine CU (hP0) (h := ?_); simp only [z, seval])
  (refine CALLS_in (fn := Go.Proofs.Tryz.f165) Go.Proofs.Tryz.func165 rfl (by kernel_rfl) ?_; simp only [Go.Proofs.Tryz.f165, List.replicate, List.cons_append, List.nil_append, z, seval])
  (refine CU (hPr) (h := ?_); simp only [z, seval])
  (refine CU (hOv) (h := ?_); simp only [z, seval])
  (refine CU (hMy) (h := ?_); simp only [z, seval])
  simp only [c3, z, seval]
  (refine CU (hRm) (h := ?_); simp only [z, seval])
  (refine RUNs_draw 2 (by kernel_rfl) ?_; simp only [z, seval])
  (refine DU (hPa) (h := ?_); simp only [z, seval])
  (refine DU (hPb) (h := ?_); simp only [z, seval])
  (refine ⟨by kernel_rfl, ?_⟩)
  (refine CU (hDr) (h := ?_); simp only [z, seval])
  (refine CALLS_in (fn := Go.Proofs.Tryz.f166) Go.Proofs.Tryz.func166 rfl (by kernel_rfl) ?_; simp only [Go.Proofs.Tryz.f166, List.replicate, List.cons_append, List.nil_append, z, seval])
  (refine RUNs_draw 1 (by kernel_rfl) ?_; simp only [z, seval])
  (refine DU (hS1) (h := ?_); simp only [z, seval])
  (refine ⟨by kernel_rfl, ?_⟩)
  (refine CALLS_in (fn := Go.Proofs.Tryz.f166) Go.Proofs.Tryz.func166 rfl (by kernel_rfl) ?_; simp only [Go.Proofs.Tryz.f166, List.replicate, List.cons_append, List.nil_append, z, seval])
  cases c5 : ((gTk w m).2.2 == 0) with
  | false =>
    simp only [c5, z, seval]
    (refine CU (hNo) (h := ?_); simp only [z, seval])
    (refine RUNs_draw 0 (by kernel_rfl) ?_; simp only [z, seval])
    (refine DU (hW1) (h := ?_); simp only [z, seval])
    (refine DU (hL1) (h := ?_); simp only [z, seval])
    (refine ⟨by kernel_rfl, ?_⟩)
    (refine CALLS_in (fn := Go.Proofs.Tryz.f167) Go.Proofs.Tryz.func167 rfl (by kernel_rfl) ?_; simp only [Go.Proofs.Tryz.f167, List.replicate, List.cons_append, List.nil_append, z, seval])
    simp only [c5, z, seval]
    (refine RUNs_draw 0 (by kernel_rfl) ?_; simp only [z, seval])
    (refine ⟨by kernel_rfl, ?_⟩)
    (refine FINS_done ?_; simp only [z, seval])
  | true =>
  simp only [c5, z, seval]
  (refine RUNs_draw 1 (by kernel_rfl) ?_; simp only [z, seval])
  (refine DU (hS2) (h := ?_); simp only [z, seval])
  (refine ⟨by kernel_rfl, ?_⟩)
  (refine CU (hNo) (h := ?_); simp only [z, seval])
  (refine RUNs_draw 0 (by kernel_rfl) ?_; simp only [z, seval])
  (refine DU (hW) (h := ?_); simp only [z, seval])
  (refine DU (hL) (h := ?_); simp only [z, seval])
  (refine ⟨by kernel_rfl, ?_⟩)
  (refine CALLS_in (fn := Go.Proofs.Tryz.f167) Go.Proofs.Tryz.func167 rfl (by kernel_rfl) ?_; simp only [Go.Proofs.Tryz.f167, List.replicate, List.cons_append, List.nil_append, z, seval])
  cases c6 : ((gGr w m).2.2 == 0) with
  | false =>
    simp only [c6, z, seval]
    (refine RUNs_draw 0 (by kernel_rfl) ?_; simp only [z, seval])
    (refine ⟨by kernel_rfl, ?_⟩)
    (refine FINS_done ?_; simp only [z, seval])
  | true =>
  simp only [c6, z, seval]
  (refine RUNs_draw 0 (by kernel_rfl) ?_; simp only [z, seval])
  (refine DU (hSn) (h := ?_); simp only [z, seval])
  (refine ⟨by kernel_rfl, ?_⟩)
  cases c7 : ((gZ w m).2 == 0) with
  | false =>
    simp only [c7, z, seval]
    (refine RUNs_draw 0 (by kernel_rfl) ?_; simp only [z, seval])
    (refine ⟨by kernel_rfl, ?_⟩)
    (refine FINS_done ?_; simp only [z, seval])
  | true =>
    simp only [c7, z, seval]
    (refine FINS_done ?_; simp only [z, seval])
end Ch

/- What the server grants, of whatever world. -/
set_option maxRecDepth 100000
set_option maxHeartbeats 4000000
set_option linter.unusedSimpArgs false
set_option linter.unusedVariables false
namespace Ch
open Go Go.Ab
theorem World.fit.toLim {w : World} {N : Nat} (h : w.fit N) (hN : N ≤ 1099511627776) : w.lim :=
  ⟨by have := h.list; omega, by have := h.rows; omega, fun s hs => by have := h.plain s hs; omega, by have := h.grams; omega, fun s hs => by have := h.words s hs; omega, by have := h.seen; omega, fun s hs => by have := h.seens s hs; omega, by have := h.people; omega, fun s hs => by have := h.used s hs; omega, fun s hs => by have := h.runs s hs; omega,
    by have := h.log; omega, by have := h.regs; omega, fun s hs => by have := h.reg s hs; omega, by have := h.leaks; omega⟩
theorem right_of_form {w : World} (h : Form12 w = true) : Right10 w.people = true := by
  simp only [Form12, Bool.and_eq_true] at h
  obtain ⟨⟨⟨⟨⟨⟨⟨⟨⟨⟨⟨⟨⟨_, _⟩, _⟩, _⟩, _⟩, h⟩, _⟩, _⟩, _⟩, _⟩, _⟩, _⟩, _⟩, _⟩ := h
  exact h
theorem fit_of_few {w : World} (hw : w.ok) (h1 : Few12 w = true) (h2 : Form12 w = true) : w.fit 1048576 := by
  have h3 := lim_of_few h1
  simp only [Few12, Few07, Few06, Few10, Bool.and_eq_true, decide_eq_true_eq] at h1
  obtain ⟨⟨⟨⟨⟨⟨⟨f1, f2, f3⟩, ⟨⟨f4, f5⟩, f6⟩, f7⟩, f8, f9⟩, f10⟩, f11⟩, f12⟩, f13⟩ := h1
  have L : ∀ l : List Int, few l = true → l.length ≤ 1048576 := fun l hl => by simp only [few, decide_eq_true_eq] at hl; omega
  have Q := few_len f8 (by omega)
  simp only [Bool.and_eq_true, decide_eq_true_eq] at Q
  simp only [Form12, Right07, Right06, Bool.and_eq_true, decide_eq_true_eq] at h2
  obtain ⟨⟨⟨⟨⟨⟨⟨⟨⟨⟨⟨⟨⟨_, g1⟩, _⟩, g2⟩, _⟩, _⟩, _⟩, _⟩, n1⟩, n2⟩, _⟩, _⟩, _⟩, _⟩ := h2
  exact ⟨hw, n1, by omega, ⟨g1.1.1.1, by omega⟩, ⟨g2.1.1, by omega⟩, by omega, by omega, fun s hs => L _ (few_len f2 (by omega) s hs), by omega, fun s hs => L _ (few_len f4 (by omega) s hs), by omega, fun s hs => L _ (few_len f5 (by omega) s hs), by omega,
    fun p hp => L _ (Q p hp).1, fun p hp => by have := (Q p hp).2; omega, by omega, by omega, fun s hs => L _ (few_len f1 (by omega) s hs), by omega⟩
theorem grantM_fit {w : World} {N : Nat} (hw : w.fit N) (h5 : 21 ≤ N) (hN : N ≤ 400000000000) {m : Msg} (hm : m.ok) : (grantM w m).1.fit (N + 5) := by
  have h0 := hw.mono (show N ≤ N + 5 by omega)
  have hz : (gZ w m).1.fit (N + 5) := fit_send (gY_fit hw h5 hN hm) (by omega) (by omega) hm.2.2.1 ⟨U2, U0, U0, U0, U0, gGr_U hw h5 hN hm, U0⟩
  unfold grantM
  cases pairM w.people m.a m.b
  · exact h0
  cases decide ((personW w 0).clock ≥ 1073741824)
  · cases (usedMay (personW w 0).used w.conf.used m.nonce == 0)
    · exact h0
    cases roomW w 2 1
    · exact h0
    cases ((gTk w m).2.2 == 0)
    · exact h0
    cases ((gGr w m).2.2 == 0)
    · exact h0
    cases ((gZ w m).2 == 0)
    · exact h0
    · exact hz
  · exact h0
namespace L13
def c0 : Conf := ⟨5, 2, 4, 4, 4, 4, 2⟩
def ww : World := newWorld c0 [11, 12, 13, 14, 15, 16, 17] 2 2
def m0 : Msg := ⟨1, 0, 1, 2, 9, 0, 0⟩
def m1 : Msg := ⟨1, 0, 1, 1, 9, 0, 0⟩
def wa : World := (grantM ww m0).1
theorem m0_ok : m0.ok := by unfold Msg.ok U; decide
theorem m1_ok : m1.ok := by unfold Msg.ok U; decide
instance {α : Type} {p : α → Prop} [DecidablePred p] (l : List α) : Decidable (LL p l) := inferInstanceAs (Decidable (_ ∧ _))
instance : DecidablePred Sld.ok := fun s => inferInstanceAs (Decidable (U s.handle ∧ U s.key ∧ U s.label ∧ LL U s.plain))
instance : DecidablePred Gram.ok := fun s => inferInstanceAs (Decidable (U s.to ∧ LL U s.words))
instance : DecidablePred Run.ok := fun r => inferInstanceAs (Decidable (I r.proto ∧ I r.role ∧ U r.peer ∧ U r.mine ∧ U r.their ∧ U r.m ∧ U r.k ∧ U r.t ∧ I r.state))
instance : DecidablePred Person.ok := fun p => inferInstanceAs (Decidable (U p.name ∧ U p.key ∧ U p.clock ∧ LL U p.used ∧ LL Run.ok p.runs))
theorem ww_ok : ww.ok := ⟨by unfold Conf.ok; decide +kernel, ⟨by decide +kernel, by decide +kernel⟩, ⟨by decide +kernel, by decide +kernel⟩, ⟨by decide +kernel, by decide +kernel, ⟨by decide +kernel, fun l hl => by cases hl⟩⟩, by decide +kernel, ⟨by decide +kernel, fun l hl => by cases hl⟩, ⟨by decide +kernel, fun l hl => by
  have : l = [] := by
    have hl' : l ∈ List.replicate 2 ([] : List Int) := hl
    exact (List.mem_replicate.1 hl').2
  subst this; exact ⟨by decide, fun x hx => by cases hx⟩⟩, ⟨by decide +kernel, fun l hl => by cases hl⟩⟩
theorem ww_fit : ww.fit 21 := ⟨ww_ok, by decide +kernel, by decide +kernel, by decide +kernel, by decide +kernel, by decide +kernel, by decide +kernel, by decide +kernel, by decide +kernel, by decide +kernel, by decide +kernel, by decide +kernel, by decide +kernel, by decide +kernel, by decide +kernel, by decide +kernel, by decide +kernel, by decide +kernel, by decide +kernel⟩
theorem wa_fit : wa.fit 26 := grantM_fit ww_fit (by decide) (by decide) m0_ok
theorem g0 : grantM ww m0 = (wa, 0) := by
  have : (grantM ww m0).2 = 0 := by decide +kernel
  rw [← this]; rfl
theorem g1 : (grantM wa m0).2 = 8 := by decide +kernel
theorem g2 : (grantM ww m1).2 = 5 := by decide +kernel
theorem wa_log : wa.log = [⟨2, 1, 0, 1, 2, 2147483661, 0, 0, 9, 0⟩] := by kernel_rfl
theorem wa_box : wa.box.rows.length = 2 := by decide +kernel
theorem wa_net : wa.net.grams.length = 1 := by decide +kernel
theorem wa_g : ∃ ws, wa.net.grams = [⟨1, ws⟩] := ⟨_, rfl⟩
end L13
end Ch

/- The server that shares: the document's. -/
set_option maxRecDepth 100000
set_option maxHeartbeats 4000000
set_option linter.unusedSimpArgs false
set_option linter.unusedVariables false
namespace Ch
open Go Go.Ab
def rOpenF (b : Box) (key label h : Int) : Option Sld := b.rows.find? fun s => s.handle == h && (s.key == key && s.label == label)
theorem rOpen07_H (b : Box) (key label hh : Int) (hl : b.rows.length ≤ 1099511627776) (hp : ∀ s ∈ b.rows, s.plain.length ≤ 1099511627776) : Spec PP GG 73 [b.v, u32 key, u32 label, u32 hh] (.tup [wordsV (((rOpenF b key label hh).map Sld.plain).getD []), .bool (rOpenF b key label hh).isSome]) [] := by
  refine Spec.of_runs Go.Proofs.Tryz.f73 Go.Proofs.Tryz.func73 rfl ?_
  intro w0 M0
  simp only [Go.Proofs.Tryz.f73, List.replicate, List.cons_append, List.nil_append, z, seval]
  refine RUNs_rangeS (b.rows.length) (fun i (_ : Unit) => (b.rows.take i).find? (fun s => s.handle == hh && (s.key == key && s.label == label)) = none) (fun i _ => [(10, i64 i)]) (fun i _ => []) () ?_ (by simp only [z, seval]; exact wk) rfl ?_
  · simp
  rintro ⟨i, _, hi, hw⟩
  simp only [z, seval]
  first | refine brk (fun h => ?_) (fun h => ?_) | fail
  · have hlt : i < b.rows.length := by have := of_decide_eq_true h; omega
    simp only [h, getMap Sld.v b.rows hlt, z, seval]
    cases c : (b.rows[i].handle == hh && (b.rows[i].key == key && b.rows[i].label == label)) with
    | true =>
      have e : rOpenF b key label hh = some b.rows[i] := find_at hlt hw c
      rw [e]
      simp only [Bool.and_eq_true] at c
      simp only [c.1, c.2.1, c.2.2, z, seval]
      refine OPC_ok ?_ ?_
      · exact okMap _ (fun a => rfl) (hp _ (List.getElem_mem hlt))
      simp only [z, seval]
      (refine FINS_done ?_; simp only [z, seval])
      simp
    | false =>
      have hs := find_none_succ hlt hw c
      cases c1 : (b.rows[i].handle == hh) <;> cases c2 : (b.rows[i].key == key) <;> cases c3 : (b.rows[i].label == label)
      all_goals
        simp only [c1, c2, c3, z, seval]
        first
          | (exfalso; simp [c1, c2, c3] at c; done)
          | (simp only [w64s (i := i) (by omega), z, seval]
             refine NX () ?_ (by rfl) hlt hs
             simp only [z, seval]
             exact wk)
  · obtain rfl : i = b.rows.length := by have := of_decide_eq_false h; omega
    rw [List.take_length] at hw
    have e : rOpenF b key label hh = none := hw
    rw [e]
    simp only [h, z, seval]
    (refine FINS_done ?_; simp only [z, seval])
    simp
theorem uniq07 {b : Box} (h : Right07 b = true) {i j : Nat} (hi : i < b.rows.length) (hj : j < b.rows.length) (e : b.rows[i].handle = b.rows[j].handle) : i = j := by
  simp only [Right07, Bool.and_eq_true] at h
  have key : ∀ i j (hi : i < b.rows.length) (hj : j < b.rows.length), i < j → b.rows[i].handle ≠ b.rows[j].handle := by
    intro i j hi hj hij e
    have hc : (decide (b.rows[j].plain.length ≤ 64) && !There07 (b.rows.take j) b.rows[j].handle) = false := by
      have : There07 (b.rows.take j) b.rows[j].handle = true := by
        rw [There07, List.any_eq_true]
        exact ⟨b.rows[i], List.mem_take_iff_getElem.2 ⟨i, by omega, rfl⟩, by simpa using e⟩
      rw [this]; simp
    have := allIx_false (f := fun l s => decide (s.plain.length ≤ 64) && !There07 l s.handle) hj hc
    rw [this] at h; exact absurd h.2 (by simp)
  rcases Nat.lt_trichotomy i j with h1 | h1 | h1
  · exact absurd e (key i j hi hj h1)
  · exact h1
  · exact absurd e.symm (key j i hj hi h1)
theorem open_right {b : Box} (h : Right07 b = true) (key label hh : Int) : (rOpenF b key label hh).map Sld.plain = boxOpen b key label hh := by
  rw [boxOpen]
  cases hf : boxFind b hh with
  | none =>
    have : rOpenF b key label hh = none := by
      rw [boxFind, List.find?_eq_none] at hf
      rw [rOpenF, List.find?_eq_none]
      intro s hs
      have := hf s hs
      simp only [Bool.not_eq_true] at this ⊢
      rw [this]; rfl
    rw [this]; rfl
  | some s =>
    have hm : s ∈ b.rows := List.mem_of_find?_eq_some hf
    have hs : (s.handle == hh) = true := by have := List.find?_some hf; simpa using this
    obtain ⟨i, hi, rfl⟩ := List.mem_iff_getElem.1 hm
    simp only
    cases c : (b.rows[i].key == key && b.rows[i].label == label) with
    | true =>
      have hno : (b.rows.take i).find? (fun s => s.handle == hh && (s.key == key && s.label == label)) = none := by
        rw [List.find?_eq_none]
        intro t ht hc
        simp only [Bool.and_eq_true] at hc
        obtain ⟨j, hj, rfl⟩ := List.mem_take_iff_getElem.1 ht
        have := uniq07 h hi (show j < b.rows.length by omega) (by have h1 := hc.1; simp only [beq_iff_eq] at h1 hs; omega)
        omega
      have : rOpenF b key label hh = some b.rows[i] := find_at hi hno (by simp only [hs, c, Bool.and_true])
      rw [this]; rfl
    | false =>
      have : rOpenF b key label hh = none := by
        rw [rOpenF, List.find?_eq_none]
        intro t ht hc
        simp only [Bool.and_eq_true] at hc
        obtain ⟨j, hj, rfl⟩ := List.mem_iff_getElem.1 ht
        have := uniq07 h hi hj (by have h1 := hc.1; simp only [beq_iff_eq] at h1 hs; omega)
        subst this
        simp [hc.2.1, hc.2.2] at c
      rw [this]; rfl
theorem rOpen07_spec (b : Box) (hr : Right07 b = true) (key label hh : Int) (hl : b.rows.length ≤ 1099511627776) (hp : ∀ s ∈ b.rows, s.plain.length ≤ 1099511627776) : Spec PP GG 73 [b.v, u32 key, u32 label, u32 hh] (.tup [wordsV ((boxOpen b key label hh).getD []), .bool (boxOpen b key label hh).isSome]) [] := by
  have h := rOpen07_H b key label hh hl hp
  rw [← Option.isSome_map (f := Sld.plain), open_right hr] at h
  exact h
theorem rOpen_spec (w : World) {N : Nat} (hw : w.fit N) (hN : N ≤ 500000000000) (hr : Right07 w.box = true) (key label hh : Int) : Spec PP GG 23 [w.v, u32 key, u32 label, u32 hh] (.tup [(openW w key label hh).1.v, .bool (openW w key label hh).2]) [] := by
  have hl := hw.rows
  have h1 := rOpen07_spec w.box hr key label hh (by omega) (fun s hs => by have := hw.plain s hs; omega)
  clear hr
  cases hb : boxOpen w.box key label hh with
  | none =>
    rw [hb] at h1
    simp only [Option.isSome_none, Option.getD_none] at h1
    have e : openW w key label hh = (zPart, false) := by simp only [openW, hb]
    rw [e]
    have h2 := rGet11_spec label []
    refine Spec.of_runs Go.Proofs.Tryz.f23 Go.Proofs.Tryz.func23 rfl ?_
    intro w0 M0
    simp only [Go.Proofs.Tryz.f23, List.replicate, List.cons_append, List.nil_append, z, seval]
    (refine CU (h1) (h := ?_); simp only [z, seval])
    (refine CU (h2) (h := ?_); simp only [z, seval])
    (refine FINS_done ?_; simp only [z, seval])
    rfl
  | some l =>
    rw [hb] at h1
    have e : openW w key label hh = ((partGet label l).1, (partGet label l).2 == 0) := by simp only [openW, hb]
    rw [e]
    have h2 := rGet11_spec label l
    cases c : ((partGet label l).2 == 0) with
    | true =>
      refine Spec.of_runs Go.Proofs.Tryz.f23 Go.Proofs.Tryz.func23 rfl ?_
      intro w0 M0
      simp only [Go.Proofs.Tryz.f23, List.replicate, List.cons_append, List.nil_append, z, seval]
      (refine CU (h1) (h := ?_); simp only [z, seval])
      (refine CU (h2) (h := ?_); simp only [z, seval])
      simp only [c, z, seval]
      (refine FINS_done ?_; simp only [z, seval])
    | false =>
      have e2 : (partGet label l).1 = zPart := by
        revert c; unfold partGet
        cases label? label
        · intro _; rfl
        · cases (l.length == (partWs label zPart).length)
          · intro _; rfl
          · intro c; exact absurd c (by simp)
      rw [e2]
      refine Spec.of_runs Go.Proofs.Tryz.f23 Go.Proofs.Tryz.func23 rfl ?_
      intro w0 M0
      simp only [Go.Proofs.Tryz.f23, List.replicate, List.cons_append, List.nil_append, z, seval]
      (refine CU (h1) (h := ?_); simp only [z, seval])
      (refine CU (h2) (h := ?_); simp only [z, seval])
      simp only [c, z, seval]
      (refine FINS_done ?_; simp only [z, seval])
      rfl
end Ch

/- The server that shares. -/
set_option maxRecDepth 100000
set_option maxHeartbeats 4000000
set_option linter.unusedSimpArgs false
set_option linter.unusedVariables false
namespace Ch
open Go Go.Ab
def toldM (w : World) (m : Msg) (key label h : Int) : Int × Bool := ((openW w key label h).1.n, (openW w key label h).2 && ((openW w key label h).1.m == m.run && ((openW w key label h).1.a == m.a && (openW w key label h).1.b == m.b)))
def sA (w : World) (m : Msg) : Int × Bool := toldM w m (personW w m.a).key 6 m.box
def sB (w : World) (m : Msg) : Int × Bool := toldM w m (personW w m.b).key 7 m.more
def s1 (w : World) (m : Msg) : World × Int × Int := sealW (drawW w).1 (personW w m.b).key 8 ⟨(sB w m).1, 0, 0, 0, (drawW w).2, 0, 0⟩
def s2 (w : World) (m : Msg) : World × Int × Int := sealW (s1 w m).1 (personW w m.a).key 9 ⟨(sA w m).1, 0, 0, 0, (drawW w).2, 0, 0⟩
def sP (w : World) (m : Msg) : Person := { personW w 0 with used := (personW w 0).used ++ [m.run] }
def sEv (w : World) (m : Msg) : Event := ⟨2, 2, 0, m.a, m.b, (drawW w).2, 0, m.run, 0, (personW w 0).clock⟩
def sY (w : World) (m : Msg) : World := logW (withW (s2 w m).1 (sP w m)) (sEv w m)
def sZ (w : World) (m : Msg) : World × Int := sendW (sY w m) m.b ⟨8, m.run, 0, 0, 0, (s2 w m).2.1, (s1 w m).2.1⟩
def shareM (w : World) (m : Msg) : World × Int :=
  bif pairM w.people m.a m.b then (bif (sA w m).2 && (sB w m).2 then (bif usedMay (personW w 0).used w.conf.used m.run == 0 then (bif roomW w 2 1 then
    (bif (s1 w m).2.2 == 0 then (bif (s2 w m).2.2 == 0 then (bif (sZ w m).2 == 0 then ((sZ w m).1, 0) else (w, (sZ w m).2)) else (w, (s2 w m).2.2)) else (w, (s1 w m).2.2)) else (w, 10))
    else (w, usedMay (personW w 0).used w.conf.used m.run)) else (w, 6)) else (w, 5)
theorem U8 : U 8 := by decide
theorem partRd_ok {label : Int} {l : List Int} (h : ∀ x ∈ l, U x) : (partRd label l).ok := by
  have hg : ∀ i, U (l.getD i 0) := fun i => by
    rw [List.getD_eq_getElem?_getD]
    cases hi : l[i]? with
    | none => exact U0
    | some x => exact h x (List.mem_of_getElem? hi)
  unfold partRd
  cases (label == 2) <;> cases (label == 3) <;> cases (label == 4 || label == 5) <;> cases (label == 6 || label == 7) <;> exact ⟨by first | exact hg _ | exact U0, by first | exact hg _ | exact U0, by first | exact hg _ | exact U0, by first | exact hg _ | exact U0, by first | exact hg _ | exact U0, by first | exact hg _ | exact U0, by first | exact hg _ | exact U0⟩
theorem openW_ok {w : World} {N : Nat} (hw : w.fit N) (key label h : Int) : (openW w key label h).1.ok := by
  unfold openW
  cases hb : boxOpen w.box key label h with
  | none => exact ⟨U0, U0, U0, U0, U0, U0, U0⟩
  | some l =>
    have hl : ∀ x ∈ l, U x := by
      rw [boxOpen] at hb
      cases hf : boxFind w.box h with
      | none => rw [hf] at hb; cases hb
      | some s =>
        rw [hf] at hb
        simp only at hb
        cases c : (s.key == key && s.label == label) with
        | false => rw [c] at hb; cases hb
        | true => rw [c] at hb; cases hb; exact (hw.ok.2.2.1.2.2 s (List.mem_of_find?_eq_some hf)).2.2.2.2
    simp only [partGet]
    cases label? label
    · exact ⟨U0, U0, U0, U0, U0, U0, U0⟩
    · cases (l.length == (partWs label zPart).length)
      · exact ⟨U0, U0, U0, U0, U0, U0, U0⟩
      · exact partRd_ok hl
theorem sP_ok {w : World} {N : Nat} (hw : w.fit N) (hN : N ≤ 400000000000) {m : Msg} (hm : m.ok) : (sP w m).ok := by
  obtain ⟨h1, h2, h3, h4, h5⟩ := personW_ok hw 0
  exact ⟨h1, h2, h3, LL.app h4 (getP_used hw _) (by omega) hm.2.1, h5⟩
theorem s1_fit {w : World} {N : Nat} (hw : w.fit N) (h5 : 21 ≤ N) (hN : N ≤ 400000000000) (m : Msg) : (s1 w m).1.fit (N + 2) :=
  fit_seal (fit_draw hw (by omega)) (by omega) (by omega) (personW_ok hw _).2.1 U8 ⟨(openW_ok hw _ _ _).1, U0, U0, U0, drawW_U hw, U0, U0⟩
theorem s1_U {w : World} {N : Nat} (hw : w.fit N) (hN : N ≤ 400000000000) (m : Msg) : U (s1 w m).2.1 := sealW_U (fit_draw hw (by omega)) _ _ _
theorem s2_fit {w : World} {N : Nat} (hw : w.fit N) (h5 : 21 ≤ N) (hN : N ≤ 400000000000) (m : Msg) : (s2 w m).1.fit (N + 3) :=
  fit_seal (s1_fit hw h5 hN m) (by omega) (by omega) (personW_ok hw _).2.1 (by decide) ⟨(openW_ok hw _ _ _).1, U0, U0, U0, drawW_U hw, U0, U0⟩
theorem s2_U {w : World} {N : Nat} (hw : w.fit N) (h5 : 21 ≤ N) (hN : N ≤ 400000000000) (m : Msg) : U (s2 w m).2.1 := sealW_U (s1_fit hw h5 hN m) _ _ _
theorem sW_fit {w : World} {N : Nat} (hw : w.fit N) (h5 : 21 ≤ N) (hN : N ≤ 400000000000) {m : Msg} (hm : m.ok) : (withW (s2 w m).1 (sP w m)).fit (N + 3) :=
  fit_with (s2_fit hw h5 hN m) (sP_ok hw hN hm) (by have := getP_used hw (0 : Int).toNat; simp only [sP, personW, List.length_append, List.length_singleton]; omega) (by have : (sP w m).runs.length ≤ N := getP_runs hw _; omega)
theorem sEv_ok {w : World} {N : Nat} (hw : w.fit N) {m : Msg} (hm : m.ok) : (sEv w m).ok :=
  ⟨(by decide : I 2), (by decide : I 2), (by decide : I 0), hm.2.2.1, hm.2.2.2.1, drawW_U hw, U0, hm.2.1, U0, (personW_ok hw 0).2.2.1⟩
theorem sY_fit {w : World} {N : Nat} (hw : w.fit N) (h5 : 21 ≤ N) (hN : N ≤ 400000000000) {m : Msg} (hm : m.ok) : (sY w m).fit (N + 4) :=
  fit_log (sW_fit hw h5 hN hm) (by omega) (sEv_ok hw hm)
theorem sM_ok {w : World} {N : Nat} (hw : w.fit N) (h5 : 21 ≤ N) (hN : N ≤ 400000000000) {m : Msg} (hm : m.ok) : Msg.ok ⟨8, m.run, 0, 0, 0, (s2 w m).2.1, (s1 w m).2.1⟩ := ⟨U8, hm.2.1, U0, U0, U0, s2_U hw h5 hN m, s1_U hw hN m⟩
theorem s2_people (w : World) (m : Msg) : (s2 w m).1.people = w.people := by rw [s2, people_seal, s1, people_seal, people_draw]
theorem shareM_fit {w : World} {N : Nat} (hw : w.fit N) (h5 : 21 ≤ N) (hN : N ≤ 400000000000) {m : Msg} (hm : m.ok) : (shareM w m).1.fit (N + 5) := by
  have h0 := hw.mono (show N ≤ N + 5 by omega)
  have hz : (sZ w m).1.fit (N + 5) := fit_send (sY_fit hw h5 hN hm) (by omega) (by omega) hm.2.2.2.1 (sM_ok hw h5 hN hm)
  unfold shareM
  cases pairM w.people m.a m.b
  · exact h0
  cases ((sA w m).2 && (sB w m).2)
  · exact h0
  cases (usedMay (personW w 0).used w.conf.used m.run == 0)
  · exact h0
  cases roomW w 2 1
  · exact h0
  cases ((s1 w m).2.2 == 0)
  · exact h0
  cases ((s2 w m).2.2 == 0)
  · exact h0
  cases ((sZ w m).2 == 0)
  · exact h0
  · exact hz
end Ch

/- The principals: what they do, in plain Lean. -/
set_option maxRecDepth 100000
set_option maxHeartbeats 4000000
set_option linter.unusedSimpArgs false
set_option linter.unusedVariables false
namespace Ch
open Go Go.Ab
def zRun : Run := ⟨0, 0, 0, 0, 0, 0, 0, 0, 0⟩
def runAt (l : List Run) (i : Nat) : Run := (l[i]?).getD zRun
def pushRun (p : Person) (r : Run) : Person := { p with runs := p.runs ++ [r] }
def setRun (p : Person) (i : Nat) (r : Run) : Person := { p with runs := p.runs.set i r }
def putP (v : World) (p : Person) (e : Event) : World := logW (withW v p) e
def full (w : World) (p : Person) : Bool := decide ((p.runs.length : Int) ≥ w.conf.runs)
def waitM (proto role m : Int) (r : Run) : Bool := isRun proto role 1 r && r.m == m
/-! the initiator with run identifiers -/
def oS (w : World) (a b : Int) : World × Int × Int := sealW (drawW (drawW w).1).1 (personW w a).key 6 ⟨(drawW (drawW w).1).2, (drawW w).2, a, b, 0, 0, 0⟩
def oRun (w : World) (b : Int) : Run := ⟨2, 1, b, (drawW (drawW w).1).2, 0, (drawW w).2, 0, 0, 1⟩
def oP (w : World) (a b : Int) : Person := pushRun (personW w a) (oRun w b)
def oEv (w : World) (a b : Int) : Event := ⟨1, 2, 1, a, b, 0, 0, (drawW w).2, (drawW (drawW w).1).2, (personW w a).clock⟩
def oY (w : World) (a b : Int) : World := putP (oS w a b).1 (oP w a b) (oEv w a b)
def oMsg (w : World) (a b : Int) : Msg := ⟨6, (drawW w).2, a, b, 0, (oS w a b).2.1, 0⟩
def oZ (w : World) (a b : Int) : World := (sendW (oY w a b) b (oMsg w a b)).1
def startO (w : World) (a b : Int) : World × Int :=
  bif pairM w.people a b then (bif !full w (personW w a) && roomW w 1 1 then (bif (oS w a b).2.2 == 0 then (oZ w a b, 0) else (w, (oS w a b).2.2)) else (w, 10)) else (w, 5)
def oI (w : World) (me : Int) (m : Msg) : Option Nat := (personW w me).runs.findIdx? (waitM 2 1 m.run)
def oO (w : World) (me : Int) (m : Msg) : Part × Bool := openW w (personW w me).key 9 m.box
def doneR (r : Run) (k : Int) : Run := { r with k := k, state := 3 }
def oCom (w : World) (me : Int) (i : Nat) (k : Int) : World :=
  putP w (setRun (personW w me) i (doneR (runAt (personW w me).runs i) k)) ⟨4, 2, 1, me, (runAt (personW w me).runs i).peer, k, 0, (runAt (personW w me).runs i).m, (runAt (personW w me).runs i).mine, (personW w me).clock⟩
def shareO (w : World) (me : Int) (m : Msg) : World × Int := match oI w me m with
  | none => (w, 9)
  | some i => bif (oO w me m).2 && (oO w me m).1.n == (runAt (personW w me).runs i).mine then (oCom w me i (oO w me m).1.k, 0) else (w, 6)
/-! the responder with run identifiers -/
def bS (w : World) (me : Int) (m : Msg) : World × Int × Int := sealW (drawW w).1 (personW w me).key 7 ⟨(drawW w).2, m.run, m.a, me, 0, 0, 0⟩
def bRun (w : World) (m : Msg) : Run := ⟨2, 2, m.a, (drawW w).2, 0, m.run, 0, 0, 1⟩
def bP (w : World) (me : Int) (m : Msg) : Person := pushRun { personW w me with used := (personW w me).used ++ [m.run] } (bRun w m)
def bEv (w : World) (me : Int) (m : Msg) : Event := ⟨3, 2, 2, m.a, me, 0, 0, m.run, (drawW w).2, (personW w me).clock⟩
def bY (w : World) (me : Int) (m : Msg) : World := putP (bS w me m).1 (bP w me m) (bEv w me m)
def bMsg (w : World) (me : Int) (m : Msg) : Msg := ⟨7, m.run, m.a, me, 0, m.box, (bS w me m).2.1⟩
def bZ (w : World) (me : Int) (m : Msg) : World := (sendW (bY w me m) 0 (bMsg w me m)).1
def firstB (w : World) (me : Int) (m : Msg) : World × Int :=
  bif m.b == me && pairM w.people m.a me then (bif usedMay (personW w me).used w.conf.used m.run == 0 then (bif !full w (personW w me) && roomW w 1 1 then
    (bif (bS w me m).2.2 == 0 then (bZ w me m, 0) else (w, (bS w me m).2.2)) else (w, 10)) else (w, usedMay (personW w me).used w.conf.used m.run)) else (w, 5)
def bI (w : World) (me : Int) (m : Msg) : Option Nat := (personW w me).runs.findIdx? (waitM 2 2 m.run)
def bO (w : World) (me : Int) (m : Msg) : Part × Bool := openW w (personW w me).key 8 m.more
def bCom (w : World) (me : Int) (i : Nat) (k : Int) : World :=
  putP w (setRun (personW w me) i (doneR (runAt (personW w me).runs i) k)) ⟨4, 2, 2, (runAt (personW w me).runs i).peer, me, k, 0, (runAt (personW w me).runs i).m, (runAt (personW w me).runs i).mine, (personW w me).clock⟩
def bX (w : World) (me : Int) (m : Msg) (i : Nat) (k : Int) : World := (sendW (bCom w me i k) (runAt (personW w me).runs i).peer ⟨9, m.run, 0, 0, 0, m.box, 0⟩).1
def shareB (w : World) (me : Int) (m : Msg) : World × Int := match bI w me m with
  | none => (w, 9)
  | some i => bif (bO w me m).2 && (bO w me m).1.n == (runAt (personW w me).runs i).mine then (bif roomW w 0 1 then (bX w me m i (bO w me m).1.k, 0) else (w, 10)) else (w, 6)
/-! what they leave as it is -/
theorem net_seal (w : World) (k l : Int) (p : Part) : (sealW w k l p).1.net = w.net := by
  unfold sealW
  cases ((partPut l p).2 == 0)
  · rfl
  · cases ((boxSeal w.box (drawW w).2 k l (partPut l p).1).2 == 0) <;> rfl
theorem conf_seal (w : World) (k l : Int) (p : Part) : (sealW w k l p).1.conf = w.conf := by
  unfold sealW
  cases ((partPut l p).2 == 0)
  · rfl
  · cases ((boxSeal w.box (drawW w).2 k l (partPut l p).1).2 == 0) <;> rfl
theorem log_seal (w : World) (k l : Int) (p : Part) : (sealW w k l p).1.log = w.log := by
  unfold sealW
  cases ((partPut l p).2 == 0)
  · rfl
  · cases ((boxSeal w.box (drawW w).2 k l (partPut l p).1).2 == 0) <;> rfl
theorem net_put (v : World) (p : Person) (e : Event) : (putP v p e).net = v.net := rfl
theorem sendW_ok {w : World} {to : Int} {m : Msg} (hm : msgMay m = true) (hr : 1 ≤ w.net.room - w.net.grams.length) : (sendW w to m).2 = 0 := by
  have e : decide (w.net.room - (w.net.grams.length : Int) < 1) = false := decide_eq_false (by omega)
  simp only [sendW, msgPut, hm, netSend, e, cond_true, cond_false, beq_self_eq_true]
theorem room_net {w : World} {b f : Int} (h : roomW w b f = true) : f ≤ w.net.room - w.net.grams.length := by
  simp only [roomW, Bool.and_eq_true, decide_eq_true_eq] at h; exact h.2
theorem room_box {w : World} {b f : Int} (h : roomW w b f = true) : b ≤ w.box.room - w.box.rows.length := by
  simp only [roomW, Bool.and_eq_true, decide_eq_true_eq] at h; exact h.1
theorem may6 (m a b h : Int) : msgMay ⟨6, m, a, b, 0, h, 0⟩ = true := by simp [msgMay, tags, hasM, msgWord]
theorem may7 (m a b h g : Int) : msgMay ⟨7, m, a, b, 0, h, g⟩ = true := by simp [msgMay, tags, hasM, msgWord]
theorem may9 (m h : Int) : msgMay ⟨9, m, 0, 0, 0, h, 0⟩ = true := by simp [msgMay, tags, hasM, msgWord]
theorem oZ_ok {w : World} {a b : Int} (h : roomW w 1 1 = true) : (sendW (oY w a b) b (oMsg w a b)).2 = 0 :=
  sendW_ok (may6 _ _ _ _) (by have := room_net h; rw [oY, net_put, oS, net_seal]; exact this)
theorem bZ_ok {w : World} {me : Int} {m : Msg} (h : roomW w 1 1 = true) : (sendW (bY w me m) 0 (bMsg w me m)).2 = 0 :=
  sendW_ok (may7 _ _ _ _ _) (by have := room_net h; rw [bY, net_put, bS, net_seal]; exact this)
theorem bX_ok {w : World} {me : Int} {m : Msg} {i : Nat} {k to : Int} (h : roomW w 0 1 = true) : (sendW (bCom w me i k) to ⟨9, m.run, 0, 0, 0, m.box, 0⟩).2 = 0 :=
  sendW_ok (may9 _ _) (by have := room_net h; rw [bCom, net_put]; exact this)
theorem pair_in {l : List Person} {a b : Int} (h : pairM l a b = true) : a ≠ b ∧ a ≠ 0 ∧ b ≠ 0 ∧ a.toNat < l.length ∧ b.toNat < l.length := by
  simp only [pairM, Bool.and_eq_true, Bool.not_eq_true', beq_eq_false_iff_ne, decide_eq_true_eq] at h; exact h
theorem name_of {w : World} (h : Right10 w.people = true) {a : Int} (ha : U a) (hl : a.toNat < w.people.length) : (personW w a).name = a := by
  have := names_of_right h a.toNat hl
  simp only [personW, getP, List.getElem?_eq_getElem hl, Option.getD_some, this]
  have := ha.1; omega
theorem runAt_mem {l : List Run} {i : Nat} (h : i < l.length) : runAt l i ∈ l := by
  simp only [runAt, List.getElem?_eq_getElem h, Option.getD_some]; exact List.getElem_mem h
theorem runAt_get {l : List Run} {i : Nat} (h : i < l.length) : runAt l i = l[i] := by simp only [runAt, List.getElem?_eq_getElem h, Option.getD_some]
theorem has_runs {w : World} {me : Int} {i : Nat} (h : i < (personW w me).runs.length) : me.toNat < w.people.length := by
  rcases Nat.lt_or_ge me.toNat w.people.length with h1 | h1
  · exact h1
  · simp only [personW, getP, List.getElem?_eq_none h1, Option.getD_none, zeroP, List.length_nil] at h; omega
theorem find_runs {l : List Run} {p : Run → Bool} {i : Nat} (h : l.findIdx? p = some i) : i < l.length ∧ p (runAt l i) = true := by
  rw [List.findIdx?_eq_some_iff_getElem] at h
  obtain ⟨h1, h2, _⟩ := h
  exact ⟨h1, by rw [runAt_get h1]; exact h2⟩
/-! and that numbers and lists stay in their bounds -/
theorem runAt_ok {w : World} {N : Nat} (hw : w.fit N) (me : Int) (i : Nat) : (runAt (personW w me).runs i).ok := by
  unfold runAt
  cases h : (personW w me).runs[i]? with
  | none => simp only [Option.getD_none, zRun]; exact ⟨by decide, by decide, by decide, by decide, by decide, by decide, by decide, by decide, by decide⟩
  | some r => exact (personW_ok hw me).2.2.2.2.2 r (List.mem_of_getElem? h)
theorem push_ok {p : Person} {r : Run} {N : Nat} (hp : p.ok) (hr : r.ok) (hl : p.runs.length ≤ N) (hN : N ≤ 400000000000) : (pushRun p r).ok :=
  ⟨hp.1, hp.2.1, hp.2.2.1, hp.2.2.2.1, LL.app hp.2.2.2.2 hl (by omega) hr⟩
theorem set_ok {p : Person} {r : Run} (hp : p.ok) (hr : r.ok) (i : Nat) : (setRun p i r).ok :=
  ⟨hp.1, hp.2.1, hp.2.2.1, hp.2.2.2.1, LL.set hp.2.2.2.2 i hr⟩
theorem used_ok {p : Person} {x : Int} {N : Nat} (hp : p.ok) (hx : U x) (hl : p.used.length ≤ N) (hN : N ≤ 400000000000) : Person.ok { p with used := p.used ++ [x] } :=
  ⟨hp.1, hp.2.1, hp.2.2.1, LL.app hp.2.2.2.1 hl (by omega) hx, hp.2.2.2.2⟩
theorem put_fit {v : World} {N : Nat} (hv : v.fit N) (hN : N ≤ 500000000000) {p : Person} (hp : p.ok) (hu : p.used.length ≤ N) (hr : p.runs.length ≤ N) {e : Event} (he : e.ok) : (putP v p e).fit (N + 1) :=
  fit_log (fit_with hv hp hu hr) hN he
theorem personW_used {w : World} {N : Nat} (hw : w.fit N) (n : Int) : (personW w n).used.length ≤ N := getP_used hw _
theorem personW_runs {w : World} {N : Nat} (hw : w.fit N) (n : Int) : (personW w n).runs.length ≤ N := getP_runs hw _
theorem oRun_ok {w : World} {N : Nat} (hw : w.fit N) (hN : N ≤ 400000000000) {b : Int} (hb : U b) : (oRun w b).ok :=
  ⟨(by decide : I 2), (by decide : I 1), hb, drawW_U (fit_draw hw (by omega)), U0, drawW_U hw, U0, U0, (by decide : I 1)⟩
theorem oS_fit {w : World} {N : Nat} (hw : w.fit N) (h5 : 21 ≤ N) (hN : N ≤ 400000000000) {a b : Int} (ha : U a) (hb : U b) : (oS w a b).1.fit (N + 3) :=
  fit_seal (fit_draw (fit_draw hw (by omega)) (by omega)) (by omega) (by omega) (personW_ok hw a).2.1 (by decide) ⟨drawW_U (fit_draw hw (by omega)), drawW_U hw, ha, hb, U0, U0, U0⟩
theorem oS_U {w : World} {N : Nat} (hw : w.fit N) (hN : N ≤ 400000000000) (a b : Int) : U (oS w a b).2.1 := sealW_U (fit_draw (fit_draw hw (by omega)) (by omega)) _ _ _
theorem oP_ok {w : World} {N : Nat} (hw : w.fit N) (hN : N ≤ 400000000000) {a b : Int} (hb : U b) : (oP w a b).ok := push_ok (personW_ok hw a) (oRun_ok hw hN hb) (personW_runs hw a) hN
theorem oEv_ok {w : World} {N : Nat} (hw : w.fit N) (hN : N ≤ 400000000000) {a b : Int} (ha : U a) (hb : U b) : (oEv w a b).ok :=
  ⟨(by decide : I 1), (by decide : I 2), (by decide : I 1), ha, hb, U0, U0, drawW_U hw, drawW_U (fit_draw hw (by omega)), (personW_ok hw a).2.2.1⟩
theorem oY_fit {w : World} {N : Nat} (hw : w.fit N) (h5 : 21 ≤ N) (hN : N ≤ 400000000000) {a b : Int} (ha : U a) (hb : U b) : (oY w a b).fit (N + 4) :=
  put_fit (oS_fit hw h5 hN ha hb) (by omega) (oP_ok hw hN hb) (by have := personW_used hw a; simp only [oP, pushRun]; omega) (by have := personW_runs hw a; simp only [oP, pushRun, List.length_append, List.length_singleton]; omega) (oEv_ok hw hN ha hb)
theorem oW_fit {w : World} {N : Nat} (hw : w.fit N) (h5 : 21 ≤ N) (hN : N ≤ 400000000000) {a b : Int} (ha : U a) (hb : U b) : (withW (oS w a b).1 (oP w a b)).fit (N + 3) :=
  fit_with (oS_fit hw h5 hN ha hb) (oP_ok hw hN hb) (by have := personW_used hw a; simp only [oP, pushRun]; omega) (by have := personW_runs hw a; simp only [oP, pushRun, List.length_append, List.length_singleton]; omega)
theorem oMsg_ok {w : World} {N : Nat} (hw : w.fit N) (hN : N ≤ 400000000000) {a b : Int} (ha : U a) (hb : U b) : (oMsg w a b).ok := ⟨(by decide : U 6), drawW_U hw, ha, hb, U0, oS_U hw hN a b, U0⟩
theorem startO_fit {w : World} {N : Nat} (hw : w.fit N) (h5 : 21 ≤ N) (hN : N ≤ 400000000000) {a b : Int} (ha : U a) (hb : U b) : (startO w a b).1.fit (N + 5) := by
  have h0 := hw.mono (show N ≤ N + 5 by omega)
  have hz : (oZ w a b).fit (N + 5) := fit_send (oY_fit hw h5 hN ha hb) (by omega) (by omega) hb (oMsg_ok hw hN ha hb)
  unfold startO
  cases pairM w.people a b
  · exact h0
  cases (!full w (personW w a) && roomW w 1 1)
  · exact h0
  cases ((oS w a b).2.2 == 0)
  · exact h0
  · exact hz
theorem doneR_ok {r : Run} (h : r.ok) {k : Int} (hk : U k) : (doneR r k).ok := ⟨h.1, h.2.1, h.2.2.1, h.2.2.2.1, h.2.2.2.2.1, h.2.2.2.2.2.1, hk, h.2.2.2.2.2.2.2.1, by show I 3; decide⟩
theorem oCom_fit {w : World} {N : Nat} (hw : w.fit N) (hN : N ≤ 400000000000) {me : Int} (hme : U me) (i : Nat) {k : Int} (hk : U k) : (oCom w me i k).fit (N + 1) := by
  have hr := runAt_ok hw me i
  exact put_fit hw (by omega) (set_ok (personW_ok hw me) (doneR_ok hr hk) i) (personW_used hw me) (by simp only [setRun, List.length_set]; exact personW_runs hw me)
    ⟨(by decide : I 4), (by decide : I 2), (by decide : I 1), hme, hr.2.2.1, hk, U0, hr.2.2.2.2.2.1, hr.2.2.2.1, (personW_ok hw me).2.2.1⟩
theorem shareO_fit {w : World} {N : Nat} (hw : w.fit N) (hN : N ≤ 400000000000) {me : Int} (hme : U me) (m : Msg) : (shareO w me m).1.fit (N + 1) := by
  have h0 := hw.mono (show N ≤ N + 1 by omega)
  unfold shareO
  cases oI w me m with
  | none => exact h0
  | some i =>
    cases h : (oO w me m).2 && (oO w me m).1.n == (runAt (personW w me).runs i).mine
    · simp only [h]; exact h0
    · simp only [h]; exact oCom_fit hw hN hme i (openW_ok hw _ _ _).2.2.2.2.1
theorem bRun_ok {w : World} {N : Nat} (hw : w.fit N) {m : Msg} (hm : m.ok) : (bRun w m).ok :=
  ⟨(by decide : I 2), (by decide : I 2), hm.2.2.1, drawW_U hw, U0, hm.2.1, U0, U0, by show I 1; decide⟩
theorem bS_fit {w : World} {N : Nat} (hw : w.fit N) (h5 : 21 ≤ N) (hN : N ≤ 400000000000) {me : Int} (hme : U me) {m : Msg} (hm : m.ok) : (bS w me m).1.fit (N + 2) :=
  fit_seal (fit_draw hw (by omega)) (by omega) (by omega) (personW_ok hw me).2.1 (by decide) ⟨drawW_U hw, hm.2.1, hm.2.2.1, hme, U0, U0, U0⟩
theorem bS_U {w : World} {N : Nat} (hw : w.fit N) (hN : N ≤ 400000000000) (me : Int) (m : Msg) : U (bS w me m).2.1 := sealW_U (fit_draw hw (by omega)) _ _ _
theorem bP_ok {w : World} {N : Nat} (hw : w.fit N) (hN : N ≤ 400000000000) (me : Int) {m : Msg} (hm : m.ok) : (bP w me m).ok :=
  push_ok (used_ok (personW_ok hw me) hm.2.1 (personW_used hw me) hN) (bRun_ok hw hm) (personW_runs hw me) hN
theorem bEv_ok {w : World} {N : Nat} (hw : w.fit N) {me : Int} (hme : U me) {m : Msg} (hm : m.ok) : (bEv w me m).ok :=
  ⟨(by decide : I 3), (by decide : I 2), (by decide : I 2), hm.2.2.1, hme, U0, U0, hm.2.1, drawW_U hw, (personW_ok hw me).2.2.1⟩
theorem bY_fit {w : World} {N : Nat} (hw : w.fit N) (h5 : 21 ≤ N) (hN : N ≤ 400000000000) {me : Int} (hme : U me) {m : Msg} (hm : m.ok) : (bY w me m).fit (N + 3) :=
  put_fit (bS_fit hw h5 hN hme hm) (by omega) (bP_ok hw hN me hm) (by have := personW_used hw me; simp only [bP, pushRun, List.length_append, List.length_singleton]; omega) (by have := personW_runs hw me; simp only [bP, pushRun, List.length_append, List.length_singleton]; omega) (bEv_ok hw hme hm)
theorem bW_fit {w : World} {N : Nat} (hw : w.fit N) (h5 : 21 ≤ N) (hN : N ≤ 400000000000) {me : Int} (hme : U me) {m : Msg} (hm : m.ok) : (withW (bS w me m).1 (bP w me m)).fit (N + 2) :=
  fit_with (bS_fit hw h5 hN hme hm) (bP_ok hw hN me hm) (by have := personW_used hw me; simp only [bP, pushRun, List.length_append, List.length_singleton]; omega) (by have := personW_runs hw me; simp only [bP, pushRun, List.length_append, List.length_singleton]; omega)
theorem set_fit {w : World} {N : Nat} (hw : w.fit N) (me : Int) (i : Nat) {r : Run} (hr : r.ok) : (withW w (setRun (personW w me) i r)).fit N :=
  fit_with hw (set_ok (personW_ok hw me) hr i) (personW_used hw me) (by simp only [setRun, List.length_set]; exact personW_runs hw me)
theorem bMsg_ok {w : World} {N : Nat} (hw : w.fit N) (hN : N ≤ 400000000000) {me : Int} (hme : U me) {m : Msg} (hm : m.ok) : (bMsg w me m).ok := ⟨(by decide : U 7), hm.2.1, hm.2.2.1, hme, U0, hm.2.2.2.2.2.1, bS_U hw hN me m⟩
theorem firstB_fit {w : World} {N : Nat} (hw : w.fit N) (h5 : 21 ≤ N) (hN : N ≤ 400000000000) {me : Int} (hme : U me) {m : Msg} (hm : m.ok) : (firstB w me m).1.fit (N + 4) := by
  have h0 := hw.mono (show N ≤ N + 4 by omega)
  have hz : (bZ w me m).fit (N + 4) := fit_send (bY_fit hw h5 hN hme hm) (by omega) (by omega) U0 (bMsg_ok hw hN hme hm)
  unfold firstB
  cases (m.b == me && pairM w.people m.a me)
  · exact h0
  cases (usedMay (personW w me).used w.conf.used m.run == 0)
  · exact h0
  cases (!full w (personW w me) && roomW w 1 1)
  · exact h0
  cases ((bS w me m).2.2 == 0)
  · exact h0
  · exact hz
theorem bCom_fit {w : World} {N : Nat} (hw : w.fit N) (hN : N ≤ 400000000000) {me : Int} (hme : U me) (i : Nat) {k : Int} (hk : U k) : (bCom w me i k).fit (N + 1) := by
  have hr := runAt_ok hw me i
  exact put_fit hw (by omega) (set_ok (personW_ok hw me) (doneR_ok hr hk) i) (personW_used hw me) (by simp only [setRun, List.length_set]; exact personW_runs hw me)
    ⟨(by decide : I 4), (by decide : I 2), (by decide : I 2), hr.2.2.1, hme, hk, U0, hr.2.2.2.2.2.1, hr.2.2.2.1, (personW_ok hw me).2.2.1⟩
theorem msg9_ok {m : Msg} (hm : m.ok) : Msg.ok ⟨9, m.run, 0, 0, 0, m.box, 0⟩ := ⟨(by decide : U 9), hm.2.1, U0, U0, U0, hm.2.2.2.2.2.1, U0⟩
theorem bX_fit {w : World} {N : Nat} (hw : w.fit N) (h5 : 21 ≤ N) (hN : N ≤ 400000000000) {me : Int} (hme : U me) {m : Msg} (hm : m.ok) (i : Nat) {k : Int} (hk : U k) : (bX w me m i k).fit (N + 2) :=
  fit_send (bCom_fit hw hN hme i hk) (by omega) (by omega) (runAt_ok hw me i).2.2.1 (msg9_ok hm)
theorem shareB_fit {w : World} {N : Nat} (hw : w.fit N) (h5 : 21 ≤ N) (hN : N ≤ 400000000000) {me : Int} (hme : U me) {m : Msg} (hm : m.ok) : (shareB w me m).1.fit (N + 2) := by
  have h0 := hw.mono (show N ≤ N + 2 by omega)
  unfold shareB
  cases bI w me m with
  | none => exact h0
  | some i =>
    cases h : (bO w me m).2 && (bO w me m).1.n == (runAt (personW w me).runs i).mine
    · simp only [h]; exact h0
    · simp only [h]
      cases roomW w 0 1
      · exact h0
      · exact bX_fit hw h5 hN hme hm i (openW_ok hw _ _ _).2.2.2.2.1
end Ch

/- A world's form, and what keeps it. -/
set_option maxRecDepth 100000
set_option maxHeartbeats 4000000
set_option linter.unusedSimpArgs false
set_option linter.unusedVariables false
namespace Ch
open Go Go.Ab
structure World.form (w : World) : Prop where
  may : May12 w.conf = true
  box : Right07 w.box = true
  broom : w.box.room = w.conf.box
  net : Right06 w.net = true
  nroom : w.net.room = w.conf.net
  right : Right10 w.people = true
  npl : (w.people.length : Int) = w.conf.people + 1
  nregs : (w.regs.length : Int) = w.conf.regs
  next0 : 0 ≤ w.draws.next
  nextN : w.draws.next ≤ 1048576
  okp : ∀ p ∈ w.people, okP w.conf p = true
  regs : ∀ l ∈ w.regs, l.length ≤ 64
  seen : ∀ l ∈ w.net.seen, l.length ≤ 64
  grams : ∀ g ∈ w.net.grams, g.words.length ≤ 64
theorem may_ppl {c : Conf} (h : May12 c = true) : 1 ≤ c.people ∧ c.people ≤ 6 := by
  simp only [May12, Bool.and_eq_true, decide_eq_true_eq] at h
  obtain ⟨⟨⟨⟨⟨⟨⟨⟨_, h1⟩, h2⟩, _⟩, _⟩, _⟩, _⟩, _⟩, _⟩ := h
  exact ⟨h1, h2⟩
theorem at64_iff {l : List Int} : at64 l = true ↔ l.length ≤ 64 := by simp only [at64, decide_eq_true_eq]; omega
theorem form_iff {w : World} : Form12 w = true ↔ w.form := by
  constructor
  · intro h
    simp only [Form12, Bool.and_eq_true, List.all_eq_true, at64_iff, beq_iff_eq, decide_eq_true_eq] at h
    obtain ⟨⟨⟨⟨⟨⟨⟨⟨⟨⟨⟨⟨⟨h1, h2⟩, h3⟩, h4⟩, h5⟩, h6⟩, h7⟩, h8⟩, h9⟩, h10⟩, h11⟩, h12⟩, h13⟩, h14⟩ := h
    have := may_ppl h1
    exact ⟨h1, h2, h3, h4, h5, h6, by rw [w64 (by omega) (by omega)] at h7; exact h7, h8, h9, h10, h11, h12, h13, h14⟩
  · rintro ⟨h1, h2, h3, h4, h5, h6, h7, h8, h9, h10, h11, h12, h13, h14⟩
    have := may_ppl h1
    simp only [Form12, Bool.and_eq_true, List.all_eq_true, at64_iff, beq_iff_eq, decide_eq_true_eq]
    exact ⟨⟨⟨⟨⟨⟨⟨⟨⟨⟨⟨⟨⟨h1, h2⟩, h3⟩, h4⟩, h5⟩, h6⟩, by rw [w64 (by omega) (by omega)]; exact h7⟩, h8⟩, h9⟩, h10⟩, h11⟩, h12⟩, h13⟩, h14⟩
theorem allIx_snoc {α : Type} {f : List α → α → Bool} {l : List α} {x : α} : allIx f (l ++ [x]) = (allIx f l && f l x) := by
  have h : l.length < (l ++ [x]).length := by simp
  have := allIx_succ (f := f) h
  rw [List.take_of_length_le (by simp), List.take_left, List.getElem_concat_length rfl] at this
  exact this
theorem form_draw {w : World} (h : w.form) (hn : w.draws.next < 1048576) : (drawW w).1.form :=
  { h with next0 := by have := h.next0; show 0 ≤ w.draws.next + 1; omega, nextN := by show w.draws.next + 1 ≤ _; omega }
theorem right_seal {b : Box} (h : Right07 b = true) (hh key label : Int) (l : List Int) : Right07 (boxSeal b hh key label l).1 = true := by
  unfold boxSeal
  cases h1 : decide ((l.length : Int) > 64)
  · cases h2 : (boxFind b hh).isSome
    · cases h3 : decide (b.room - b.rows.length < 1)
      · simp only [Right07, Bool.and_eq_true, decide_eq_true_eq] at h
        obtain ⟨⟨⟨g1, g2⟩, g3⟩, g4⟩ := h
        have h3' := of_decide_eq_false h3
        have h1' := of_decide_eq_false h1
        simp only [cond_false, Right07, allIx_snoc, g4, Bool.and_eq_true, decide_eq_true_eq, List.length_append, List.length_singleton, Bool.true_and, there_find, Bool.not_eq_true']
        exact ⟨⟨⟨g1, g2⟩, by omega⟩, by omega, by rw [← h2, ← there_find]⟩
      · exact h
    · exact h
  · exact h
theorem room_seal (b : Box) (hh key label : Int) (l : List Int) : (boxSeal b hh key label l).1.room = b.room := by
  unfold boxSeal
  cases decide ((l.length : Int) > 64) <;> cases (boxFind b hh).isSome <;> cases decide (b.room - b.rows.length < 1) <;> rfl
theorem form_box {w : World} (h : w.form) (hh key label : Int) (l : List Int) : World.form { w with box := (boxSeal w.box hh key label l).1 } :=
  { h with box := right_seal h.box _ _ _ _, broom := by show (boxSeal w.box hh key label l).1.room = _; rw [room_seal]; exact h.broom }
theorem form_seal {w : World} (h : w.form) (hn : w.draws.next < 1048576) (key label : Int) (p : Part) : (sealW w key label p).1.form := by
  unfold sealW
  cases ((partPut label p).2 == 0)
  · exact h
  · cases ((boxSeal w.box (drawW w).2 key label (partPut label p).1).2 == 0)
    · exact h
    · exact form_box (form_draw h hn) _ _ _ _
theorem form_net {w : World} (h : w.form) (g : Gram) (hg : g.words.length ≤ 64) : World.form { w with net := (netSend w.net g).1 } := by
  unfold netSend
  cases h1 : decide (w.net.room - (w.net.grams.length : Int) < 1)
  · have h1' := of_decide_eq_false h1
    have hn := h.net
    simp only [Right06, Bool.and_eq_true, decide_eq_true_eq] at hn
    exact { h with
      net := by simp only [cond_false, Right06, Bool.and_eq_true, decide_eq_true_eq, List.length_append, List.length_singleton]; omega
      seen := fun l hl => by
        rcases List.mem_append.1 hl with hl | hl
        · exact h.seen l hl
        · simp only [List.mem_singleton] at hl; subst hl; exact hg
      grams := fun l hl => by
        rcases List.mem_append.1 hl with hl | hl
        · exact h.grams l hl
        · simp only [List.mem_singleton] at hl; subst hl; exact hg }
  · exact h
theorem form_send {w : World} (h : w.form) (to : Int) (m : Msg) : (sendW w to m).1.form := by
  unfold sendW
  cases ((msgPut m).2 == 0)
  · exact h
  · cases ((netSend w.net ⟨to, (msgPut m).1⟩).2 == 0)
    · exact h
    · exact form_net h _ (by have := msgPut_len m; show (msgPut m).1.length ≤ 64; omega)
theorem form_log {w : World} (h : w.form) (e : Event) : (logW w e).form := { h with }
theorem names_right {l : List Person} (h1 : ∀ i (hi : i < l.length), l[i].name = i) (h2 : 1 < l.length) (h3 : l.length < 8) : Right10 l = true := by
  have key : ∀ n, n ≤ l.length → allIx (fun pre p : _ => p.name == IntKind.u32.wrap pre.length) (l.take n) = true := by
    intro n
    induction n with
    | zero => intro _; rfl
    | succ n ih =>
      intro hn
      rw [allIx_succ (by omega), ih (by omega), h1 n (by omega), List.length_take, Nat.min_eq_left (by omega)]
      rw [IntKind.wrap_u32, Bool.true_and, beq_iff_eq]; omega
  have := key l.length (Nat.le_refl _)
  rw [List.take_length] at this
  simp only [Right10, this, Bool.true_and, Bool.and_eq_true, decide_eq_true_eq]
  omega
theorem right_len {l : List Person} (h : Right10 l = true) : 1 < l.length ∧ l.length < 8 := by
  simp only [Right10, Bool.and_eq_true, decide_eq_true_eq] at h; omega
theorem right_set {l : List Person} (h : Right10 l = true) (p : Person) (hp : U p.name) : Right10 (setM l p).1 = true := by
  have hn := names_of_right h
  have hl := right_len h
  unfold setM
  cases hd : decide (p.name.toNat < l.length)
  · exact h
  · refine names_right (fun i hi => ?_) (by simp only [cond_true, List.length_set]; omega) (by simp only [cond_true, List.length_set]; omega)
    simp only [cond_true, List.length_set] at hi
    simp only [cond_true, List.getElem_set]
    split
    · rename_i e; have := hp.1; omega
    · exact hn i hi
theorem form_with {w : World} (h : w.form) {p : Person} (hp : U p.name) (ho : okP w.conf p = true) : (withW w p).form :=
  { h with
    right := right_set h.right p hp
    npl := by show ((setM w.people p).1.length : Int) = _; rw [setM_len]; exact h.npl
    okp := fun q hq => by
      rcases setM_mem hq with h1 | rfl
      · exact h.okp q h1
      · exact ho }
theorem okP_get {w : World} (h : w.form) {n : Int} (hn : n.toNat < w.people.length) : okP w.conf (personW w n) = true := by
  have e : personW w n = w.people[n.toNat] := by simp only [personW, getP, List.getElem?_eq_getElem hn, Option.getD_some]
  rw [e]; exact h.okp _ (List.getElem_mem hn)
theorem okP_push {c : Conf} {p : Person} (h : okP c p = true) {r : Run} (hr : May09 r = true) (hl : (p.runs.length : Int) < c.runs) : okP c (pushRun p r) = true := by
  simp only [okP, Right09, Bool.and_eq_true, decide_eq_true_eq] at h ⊢
  refine ⟨⟨h.1.1, ?_, ?_⟩, h.2⟩
  · simp only [pushRun, List.all_append, h.1.2.1, List.all_cons, List.all_nil, hr, Bool.and_self]
  · simp only [pushRun, List.length_append, List.length_singleton]; omega
theorem okP_set {c : Conf} {p : Person} (h : okP c p = true) {r : Run} (hr : May09 r = true) (i : Nat) : okP c (setRun p i r) = true := by
  simp only [okP, Right09, Bool.and_eq_true, decide_eq_true_eq] at h ⊢
  refine ⟨⟨h.1.1, ?_, ?_⟩, h.2⟩
  · simp only [setRun, List.all_eq_true]
    intro x hx
    rcases List.mem_or_eq_of_mem_set hx with h1 | rfl
    · exact List.all_eq_true.1 h.1.2.1 x h1
    · exact hr
  · simp only [setRun, List.length_set]; exact h.1.2.2
theorem okP_used {c : Conf} {p : Person} (h : okP c p = true) {x : Int} (hu : usedMay p.used c.used x = 0) : okP c { p with used := p.used ++ [x] } = true := by
  have h2 : x ∉ p.used ∧ (p.used.length : Int) < c.used := by
    unfold usedMay at hu
    by_cases hm : x ∈ p.used
    · rw [decide_eq_true hm] at hu; exact absurd hu (by simp)
    · by_cases hr : (p.used.length : Int) ≥ c.used
      · rw [decide_eq_false hm, decide_eq_true hr] at hu; exact absurd hu (by simp)
      · exact ⟨hm, by omega⟩
  simp only [okP, Right08, Bool.and_eq_true, decide_eq_true_eq] at h ⊢
  refine ⟨⟨⟨?_, ?_⟩, h.1.2⟩, h.2⟩
  · rw [allIx_snoc, h.1.1.1, decide_eq_false h2.1]; rfl
  · simp only [List.length_append, List.length_singleton]; omega
theorem drawAt_top {l : List Int} (hl : ∀ x ∈ l, U x) (i : Nat) : 2147483648 ≤ drawAt l i := by
  have key : ∀ x : Int, U x → 2147483648 ≤ (if x < 2147483648 then IntKind.u32.wrap (x + 2147483648) else x) := by
    intro x hx
    have := hx.1
    split
    · rw [IntKind.wrap_u32]; omega
    · omega
  unfold drawAt
  cases h : l[i]? with
  | none => exact key _ (dflt_U i)
  | some x => exact key _ (hl x (List.mem_of_getElem? h))
theorem drawW_top {w : World} {N : Nat} (h : w.fit N) : 2147483648 ≤ (drawW w).2 := drawAt_top h.ulist _
end Ch

/- What the desk's operations come to. -/
set_option maxRecDepth 100000
set_option maxHeartbeats 4000000
set_option linter.unusedSimpArgs false
set_option linter.unusedVariables false
namespace Ch
open Go Go.Ab
theorem find_new {r r' : Int} {l : List Sld} {s : Sld} (h : boxFind ⟨r, l⟩ s.handle = none) : boxFind ⟨r', l ++ [s]⟩ s.handle = some s := by
  simp only [boxFind] at h ⊢
  rw [List.find?_append, h]; simp
theorem find_old {r r' : Int} {l : List Sld} {s : Sld} {hh : Int} (h : hh ≠ s.handle) : boxFind ⟨r', l ++ [s]⟩ hh = boxFind ⟨r, l⟩ hh := by
  simp only [boxFind]
  rw [List.find?_append]
  have : (s.handle == hh) = false := by simp; exact fun e => h e.symm
  cases List.find? (fun s => s.handle == hh) l <;> simp [this]
/-- the row that a seal puts -/
def sealRow (w : World) (key label : Int) (p : Part) : Sld := ⟨(drawW w).2, key, label, partWs label p⟩
def sealTo (w : World) (key label : Int) (p : Part) : World := { (drawW w).1 with box := ⟨w.box.room, w.box.rows ++ [sealRow w key label p]⟩ }
theorem eqPart_eq {p q : Part} (h : eqPart p q = true) : p = q := by
  obtain ⟨a, b, c, d, e, f, g⟩ := p
  obtain ⟨a', b', c', d', e', f', g'⟩ := q
  simp only [eqPart, Bool.and_eq_true, beq_iff_eq] at h
  obtain ⟨rfl, rfl, rfl, rfl, rfl, rfl, rfl⟩ := h
  rfl
theorem seal_err {w : World} {key label : Int} {p : Part} (h : (sealW w key label p).2.2 ≠ 0) : (sealW w key label p).1 = w ∧ (sealW w key label p).2.1 = 0 := by
  unfold sealW at h ⊢
  cases h1 : ((partPut label p).2 == 0)
  · exact ⟨rfl, rfl⟩
  · cases h2 : ((boxSeal w.box (drawW w).2 key label (partPut label p).1).2 == 0)
    · exact ⟨rfl, rfl⟩
    · rw [h1, h2] at h; exact absurd rfl h
theorem seal_ok {w : World} {key label : Int} {p : Part} (h : (sealW w key label p).2.2 = 0) :
    sealW w key label p = (sealTo w key label p, (drawW w).2, 0) ∧ label? label = true ∧ p = partRd label (partWs label p) ∧ boxFind w.box (drawW w).2 = none ∧ 1 ≤ w.box.room - w.box.rows.length := by
  unfold sealW at h ⊢
  cases h1 : ((partPut label p).2 == 0)
  · rw [h1] at h
    simp only [cond_false] at h
    rw [h] at h1; cases h1
  · rw [h1] at h
    have hp : partPut label p = (partWs label p, 0) ∧ label? label = true ∧ p = partRd label (partWs label p) := by
      unfold partPut at h1 ⊢
      cases h3 : (label? label && eqPart p (partRd label (partWs label p)))
      · rw [h3] at h1; cases h1
      · rw [Bool.and_eq_true] at h3
        exact ⟨rfl, h3.1, eqPart_eq h3.2⟩
    obtain ⟨hp, hl, he⟩ := hp
    cases h2 : ((boxSeal w.box (drawW w).2 key label (partPut label p).1).2 == 0)
    · rw [h2] at h
      simp only [cond_true, cond_false] at h
      rw [h] at h2; cases h2
    · have hb : boxSeal w.box (drawW w).2 key label (partPut label p).1 = (⟨w.box.room, w.box.rows ++ [sealRow w key label p]⟩, 0) ∧ boxFind w.box (drawW w).2 = none ∧ 1 ≤ w.box.room - w.box.rows.length := by
        rw [hp] at h2 ⊢
        unfold boxSeal at h2 ⊢
        cases g1 : decide (((partWs label p).length : Int) > 64)
        · cases g2 : (boxFind w.box (drawW w).2).isSome
          · cases g3 : decide (w.box.room - w.box.rows.length < 1)
            · exact ⟨by simp only [g1, g2, g3, cond_false]; rfl, by simpa using g2, by have := of_decide_eq_false g3; omega⟩
            · rw [g1, g2, g3] at h2; cases h2
          · rw [g1, g2] at h2; cases h2
        · rw [g1] at h2; cases h2
      refine ⟨?_, hl, he, hb.2⟩
      simp only [cond_true, hb.1]
      rfl
theorem partWs_zlen (label : Int) (p : Part) : (partWs label p).length = (partWs label zPart).length := by
  unfold partWs
  cases (label == 2) <;> cases (label == 3) <;> cases (label == 4 || label == 5) <;> cases (label == 6 || label == 7) <;> cases (label == 8 || label == 9) <;> rfl
theorem partGet_put {label : Int} {p : Part} (hl : label? label = true) (hp : p = partRd label (partWs label p)) : partGet label (partWs label p) = (p, 0) := by
  have e : ((partWs label p).length == (partWs label zPart).length) = true := by rw [partWs_zlen]; exact beq_self_eq_true _
  simp only [partGet, hl, e, cond_true, ← hp]
theorem open_new {w : World} {key label : Int} {p : Part} (h : (sealW w key label p).2.2 = 0) (k l : Int) : openW (sealTo w key label p) k l (drawW w).2 = bif key == k && label == l then (p, true) else (zPart, false) := by
  obtain ⟨_, hl, hp, hf, _⟩ := seal_ok h
  have hn : boxFind (sealTo w key label p).box (drawW w).2 = some (sealRow w key label p) := find_new (r := w.box.room) (s := sealRow w key label p) hf
  have hg := partGet_put hl hp
  unfold openW boxOpen
  rw [hn]
  simp only [sealRow]
  cases h1 : (key == k && label == l)
  · rfl
  · simp only [Bool.and_eq_true, beq_iff_eq] at h1
    obtain ⟨rfl, rfl⟩ := h1
    simp only [cond_true, hg, beq_self_eq_true]
theorem open_old {w : World} {key label : Int} {p : Part} {hh : Int} (h : hh ≠ (drawW w).2) (k l : Int) : openW (sealTo w key label p) k l hh = openW w k l hh := by
  have hn : boxFind (sealTo w key label p).box hh = boxFind w.box hh := find_old (s := sealRow w key label p) h
  unfold openW boxOpen
  rw [hn]
/-! a message sent -/
def sendTo (w : World) (to : Int) (m : Msg) : World := { w with net := ⟨w.net.room, w.net.grams ++ [⟨to, msgWs m⟩], w.net.seen ++ [msgWs m]⟩ }
theorem send_to {w : World} {to : Int} {m : Msg} (h : (sendW w to m).2 = 0) : sendW w to m = (sendTo w to m, 0) ∧ msgMay m = true := by
  unfold sendW msgPut at h ⊢
  cases h1 : msgMay m
  · rw [h1] at h; cases h
  · rw [h1] at h
    simp only [cond_true, beq_self_eq_true, netSend] at h ⊢
    cases h2 : decide (w.net.room - (w.net.grams.length : Int) < 1)
    · exact ⟨rfl, trivial⟩
    · rw [h2] at h; cases h
theorem send_err {w : World} {to : Int} {m : Msg} (h : (sendW w to m).2 ≠ 0) : (sendW w to m).1 = w ∧ (((sendW w to m).2 = 10 ∧ w.net.room - (w.net.grams.length : Int) < 1) ∨ ((sendW w to m).2 = 1 ∧ msgMay m = false)) := by
  unfold sendW msgPut at h ⊢
  cases h1 : msgMay m
  · exact ⟨rfl, .inr ⟨rfl, rfl⟩⟩
  · rw [h1] at h
    simp only [cond_true, beq_self_eq_true, netSend] at h ⊢
    cases h2 : decide (w.net.room - (w.net.grams.length : Int) < 1)
    · rw [h2] at h; exact absurd rfl h
    · exact ⟨rfl, .inl ⟨rfl, of_decide_eq_true h2⟩⟩
end Ch

/- The principals of the protocol with times: what they do, in plain Lean. -/
set_option maxRecDepth 100000
set_option maxHeartbeats 4000000
set_option linter.unusedSimpArgs false
set_option linter.unusedVariables false
namespace Ch
open Go Go.Ab
/-! the initiator with times -/
def aRun (w : World) (b : Int) : Run := ⟨1, 1, b, (drawW w).2, 0, 0, 0, 0, 1⟩
def aP (w : World) (a b : Int) : Person := pushRun (personW w a) (aRun w b)
def aEv (w : World) (a b : Int) : Event := ⟨1, 1, 1, a, b, 0, 0, 0, (drawW w).2, (personW w a).clock⟩
def aY (w : World) (a b : Int) : World := putP (drawW w).1 (aP w a b) (aEv w a b)
def aMsg (w : World) (a b : Int) : Msg := ⟨1, 0, a, b, (drawW w).2, 0, 0⟩
def aZ (w : World) (a b : Int) : World := (sendW (aY w a b) 0 (aMsg w a b)).1
def startN (w : World) (a b : Int) : World × Int :=
  bif pairM w.people a b then (bif !full w (personW w a) && roomW w 0 1 then (aZ w a b, 0) else (w, 10)) else (w, 5)
def aG (w : World) (me : Int) (m : Msg) : Part × Bool := openW w (personW w me).key 2 m.box
def aQ (g : Part) (r : Run) : Bool := isRun 1 1 1 r && (r.mine == g.n && r.peer == g.b)
def aI (w : World) (me : Int) (m : Msg) : Option Nat := (personW w me).runs.findIdx? (aQ (aG w me m).1)
def tookR (r : Run) (g : Part) : Run := { r with k := g.k, t := g.t, state := 2 }
def aT (w : World) (me : Int) (g : Part) (i : Nat) : World :=
  putP w (setRun (personW w me) i (tookR (runAt (personW w me).runs i) g)) ⟨3, 1, 1, me, (runAt (personW w me).runs i).peer, g.k, g.t, 0, (runAt (personW w me).runs i).mine, (personW w me).clock⟩
def aX (w : World) (me : Int) (g : Part) (i : Nat) : World := (sendW (aT w me g i) (runAt (personW w me).runs i).peer ⟨3, 0, 0, 0, 0, g.h, 0⟩).1
def grantN (w : World) (me : Int) (m : Msg) : World × Int :=
  bif (aG w me m).2 then (match aI w me m with
    | none => (w, 9)
    | some i => bif freshM (personW w me).clock (aG w me m).1.t w.conf.window then (bif roomW w 0 1 then (aX w me (aG w me m).1 i, 0) else (w, 10)) else (w, 7)) else (w, 6)
def eQ (w : World) (m : Msg) (r : Run) : Bool := isRun 1 1 2 r && (openW w r.k 4 m.box).2
def eI (w : World) (me : Int) (m : Msg) : Option Nat := (personW w me).runs.findIdx? (eQ w m)
def eN (w : World) (me : Int) (m : Msg) (i : Nat) : Int := (openW w (runAt (personW w me).runs i).k 4 m.box).1.n
def eS (w : World) (me : Int) (n : Int) (i : Nat) : World × Int × Int := sealW w (runAt (personW w me).runs i).k 5 ⟨n, 0, 0, 0, 0, 0, 0⟩
def backR (r : Run) (n : Int) : Run := { r with their := n, state := 3 }
def eT (w : World) (me : Int) (n : Int) (i : Nat) : World :=
  putP (eS w me n i).1 (setRun (personW w me) i (backR (runAt (personW w me).runs i) n)) ⟨4, 1, 1, me, (runAt (personW w me).runs i).peer, (runAt (personW w me).runs i).k, (runAt (personW w me).runs i).t, 0, n, (personW w me).clock⟩
def eX (w : World) (me : Int) (n : Int) (i : Nat) : World := (sendW (eT w me n i) (runAt (personW w me).runs i).peer ⟨5, 0, 0, 0, 0, (eS w me n i).2.1, 0⟩).1
def echoN (w : World) (me : Int) (m : Msg) : World × Int := match eI w me m with
  | none => (w, 6)
  | some i => bif freshM (personW w me).clock (runAt (personW w me).runs i).t w.conf.window then (bif roomW w 1 1 then
      (bif (eS w me (eN w me m i) i).2.2 == 0 then (eX w me (eN w me m i) i, 0) else (w, (eS w me (eN w me m i) i).2.2)) else (w, 10)) else (w, 7)
/-! the responder with times -/
def tG (w : World) (me : Int) (m : Msg) : Part × Bool := openW w (personW w me).key 3 m.box
def tS (w : World) (g : Part) : World × Int × Int := sealW (drawW w).1 g.k 4 ⟨(drawW w).2, 0, 0, 0, 0, 0, 0⟩
def tkRun (w : World) (g : Part) : Run := ⟨1, 2, g.a, (drawW w).2, 0, 0, g.k, g.t, 2⟩
def tP (w : World) (me : Int) (g : Part) : Person := pushRun { personW w me with used := (personW w me).used ++ [g.k] } (tkRun w g)
def tEv (w : World) (me : Int) (g : Part) : Event := ⟨3, 1, 2, g.a, me, g.k, g.t, 0, (drawW w).2, (personW w me).clock⟩
def tY (w : World) (me : Int) (g : Part) : World := putP (tS w g).1 (tP w me g) (tEv w me g)
def tZ (w : World) (me : Int) (g : Part) : World := (sendW (tY w me g) g.a ⟨4, 0, 0, 0, 0, (tS w g).2.1, 0⟩).1
def ticketB (w : World) (me : Int) (m : Msg) : World × Int :=
  bif (tG w me m).2 then (bif pairM w.people (tG w me m).1.a me then (bif freshM (personW w me).clock (tG w me m).1.t w.conf.window then
    (bif usedMay (personW w me).used w.conf.used (tG w me m).1.k == 0 then (bif !full w (personW w me) && roomW w 1 1 then
      (bif (tS w (tG w me m).1).2.2 == 0 then (tZ w me (tG w me m).1, 0) else (w, (tS w (tG w me m).1).2.2)) else (w, 10))
      else (w, usedMay (personW w me).used w.conf.used (tG w me m).1.k)) else (w, 7)) else (w, 5)) else (w, 6)
def kQ (w : World) (m : Msg) (r : Run) : Bool := isRun 1 2 2 r && ((openW w r.k 5 m.box).2 && (openW w r.k 5 m.box).1.n == r.mine)
def kI (w : World) (me : Int) (m : Msg) : Option Nat := (personW w me).runs.findIdx? (kQ w m)
def endR' (r : Run) : Run := { r with state := 3 }
def kT (w : World) (me : Int) (i : Nat) : World :=
  putP w (setRun (personW w me) i (endR' (runAt (personW w me).runs i))) ⟨4, 1, 2, (runAt (personW w me).runs i).peer, me, (runAt (personW w me).runs i).k, (runAt (personW w me).runs i).t, 0, (runAt (personW w me).runs i).mine, (personW w me).clock⟩
def backB (w : World) (me : Int) (m : Msg) : World × Int := match kI w me m with
  | none => (w, 6)
  | some i => bif freshM (personW w me).clock (runAt (personW w me).runs i).t w.conf.window then (kT w me i, 0) else (w, 7)
/-! what goes through -/
theorem may1 (a b n : Int) : msgMay ⟨1, 0, a, b, n, 0, 0⟩ = true := by simp [msgMay, tags, hasM, msgWord]
theorem mayBox {k : Int} (h : k = 2 ∨ k = 3 ∨ k = 4 ∨ k = 5) (x : Int) : msgMay ⟨k, 0, 0, 0, 0, x, 0⟩ = true := by
  rcases h with rfl | rfl | rfl | rfl <;> simp [msgMay, tags, hasM, msgWord]
theorem aZ_ok {w : World} {a b : Int} (h : roomW w 0 1 = true) : (sendW (aY w a b) 0 (aMsg w a b)).2 = 0 :=
  sendW_ok (may1 _ _ _) (by have := room_net h; rw [aY, net_put]; exact this)
theorem aX_ok {w : World} {me : Int} {g : Part} {i : Nat} {to : Int} (h : roomW w 0 1 = true) : (sendW (aT w me g i) to ⟨3, 0, 0, 0, 0, g.h, 0⟩).2 = 0 :=
  sendW_ok (mayBox (by omega) _) (by have := room_net h; rw [aT, net_put]; exact this)
theorem eX_ok {w : World} {me n : Int} {i : Nat} {to : Int} (h : roomW w 1 1 = true) : (sendW (eT w me n i) to ⟨5, 0, 0, 0, 0, (eS w me n i).2.1, 0⟩).2 = 0 :=
  sendW_ok (mayBox (by omega) _) (by have := room_net h; rw [eT, net_put, eS, net_seal]; exact this)
theorem tZ_ok {w : World} {me : Int} {g : Part} {to : Int} (h : roomW w 1 1 = true) : (sendW (tY w me g) to ⟨4, 0, 0, 0, 0, (tS w g).2.1, 0⟩).2 = 0 :=
  sendW_ok (mayBox (by omega) _) (by have := room_net h; rw [tY, net_put, tS, net_seal]; exact this)
/-! and that numbers and lists stay in their bounds -/
theorem aRun_ok {w : World} {N : Nat} (hw : w.fit N) {b : Int} (hb : U b) : (aRun w b).ok := ⟨(by decide : I 1), (by decide : I 1), hb, drawW_U hw, U0, U0, U0, U0, (by decide : I 1)⟩
theorem aP_ok {w : World} {N : Nat} (hw : w.fit N) (hN : N ≤ 400000000000) {a b : Int} (hb : U b) : (aP w a b).ok := push_ok (personW_ok hw a) (aRun_ok hw hb) (personW_runs hw a) hN
theorem aEv_ok {w : World} {N : Nat} (hw : w.fit N) {a b : Int} (ha : U a) (hb : U b) : (aEv w a b).ok :=
  ⟨(by decide : I 1), (by decide : I 1), (by decide : I 1), ha, hb, U0, U0, U0, drawW_U hw, (personW_ok hw a).2.2.1⟩
theorem aW_fit {w : World} {N : Nat} (hw : w.fit N) (hN : N ≤ 400000000000) {a b : Int} (hb : U b) : (withW (drawW w).1 (aP w a b)).fit (N + 1) :=
  fit_with (fit_draw hw (by omega)) (aP_ok hw hN hb) (by have := personW_used hw a; simp only [aP, pushRun]; omega) (by have := personW_runs hw a; simp only [aP, pushRun, List.length_append, List.length_singleton]; omega)
theorem aY_fit {w : World} {N : Nat} (hw : w.fit N) (hN : N ≤ 400000000000) {a b : Int} (ha : U a) (hb : U b) : (aY w a b).fit (N + 2) := fit_log (aW_fit hw hN hb) (by omega) (aEv_ok hw ha hb)
theorem aMsg_ok {w : World} {N : Nat} (hw : w.fit N) {a b : Int} (ha : U a) (hb : U b) : (aMsg w a b).ok := ⟨(by decide : U 1), U0, ha, hb, drawW_U hw, U0, U0⟩
theorem startN_fit {w : World} {N : Nat} (hw : w.fit N) (h5 : 21 ≤ N) (hN : N ≤ 400000000000) {a b : Int} (ha : U a) (hb : U b) : (startN w a b).1.fit (N + 3) := by
  have h0 := hw.mono (show N ≤ N + 3 by omega)
  have hz : (aZ w a b).fit (N + 3) := fit_send (aY_fit hw hN ha hb) (by omega) (by omega) U0 (aMsg_ok hw ha hb)
  unfold startN
  cases pairM w.people a b
  · exact h0
  cases (!full w (personW w a) && roomW w 0 1)
  · exact h0
  · exact hz
theorem tookR_ok {r : Run} (h : r.ok) {g : Part} (hg : g.ok) : (tookR r g).ok := ⟨h.1, h.2.1, h.2.2.1, h.2.2.2.1, h.2.2.2.2.1, h.2.2.2.2.2.1, hg.2.2.2.2.1, hg.2.2.2.2.2.1, by show I 2; decide⟩
theorem aT_fit {w : World} {N : Nat} (hw : w.fit N) (hN : N ≤ 400000000000) {me : Int} (hme : U me) {g : Part} (hg : g.ok) (i : Nat) : (aT w me g i).fit (N + 1) := by
  have hr := runAt_ok hw me i
  exact put_fit hw (by omega) (set_ok (personW_ok hw me) (tookR_ok hr hg) i) (personW_used hw me) (by simp only [setRun, List.length_set]; exact personW_runs hw me)
    ⟨(by decide : I 3), (by decide : I 1), (by decide : I 1), hme, hr.2.2.1, hg.2.2.2.2.1, hg.2.2.2.2.2.1, U0, hr.2.2.2.1, (personW_ok hw me).2.2.1⟩
theorem boxMsg_ok {k x : Int} (hk : U k) (hx : U x) : Msg.ok ⟨k, 0, 0, 0, 0, x, 0⟩ := ⟨hk, U0, U0, U0, U0, hx, U0⟩
theorem aX_fit {w : World} {N : Nat} (hw : w.fit N) (h5 : 21 ≤ N) (hN : N ≤ 400000000000) {me : Int} (hme : U me) {g : Part} (hg : g.ok) (i : Nat) : (aX w me g i).fit (N + 2) :=
  fit_send (aT_fit hw hN hme hg i) (by omega) (by omega) (runAt_ok hw me i).2.2.1 (boxMsg_ok (by decide) hg.2.2.2.2.2.2)
theorem grantN_fit {w : World} {N : Nat} (hw : w.fit N) (h5 : 21 ≤ N) (hN : N ≤ 400000000000) {me : Int} (hme : U me) (m : Msg) : (grantN w me m).1.fit (N + 2) := by
  have h0 := hw.mono (show N ≤ N + 2 by omega)
  unfold grantN
  cases (aG w me m).2
  · exact h0
  simp only [cond_true]
  cases aI w me m with
  | none => exact h0
  | some i =>
    simp only
    cases freshM (personW w me).clock (aG w me m).1.t w.conf.window
    · exact h0
    cases roomW w 0 1
    · exact h0
    · exact aX_fit hw h5 hN hme (openW_ok hw _ _ _) i
theorem backR_ok {r : Run} (h : r.ok) {n : Int} (hn : U n) : (backR r n).ok := ⟨h.1, h.2.1, h.2.2.1, h.2.2.2.1, hn, h.2.2.2.2.2.1, h.2.2.2.2.2.2.1, h.2.2.2.2.2.2.2.1, by show I 3; decide⟩
theorem eS_fit {w : World} {N : Nat} (hw : w.fit N) (h5 : 21 ≤ N) (hN : N ≤ 400000000000) {me n : Int} (hn : U n) (i : Nat) : (eS w me n i).1.fit (N + 1) :=
  fit_seal hw (by omega) (by omega) (runAt_ok hw me i).2.2.2.2.2.2.1 (by decide) ⟨hn, U0, U0, U0, U0, U0, U0⟩
theorem eW_fit {w : World} {N : Nat} (hw : w.fit N) (h5 : 21 ≤ N) (hN : N ≤ 400000000000) {me n : Int} (hn : U n) (i : Nat) : (withW (eS w me n i).1 (setRun (personW w me) i (backR (runAt (personW w me).runs i) n))).fit (N + 1) :=
  fit_with (eS_fit hw h5 hN hn i) (set_ok (personW_ok hw me) (backR_ok (runAt_ok hw me i) hn) i) (by have := personW_used hw me; simp only [setRun]; omega) (by have := personW_runs hw me; simp only [setRun, List.length_set]; omega)
theorem eT_fit {w : World} {N : Nat} (hw : w.fit N) (h5 : 21 ≤ N) (hN : N ≤ 400000000000) {me n : Int} (hme : U me) (hn : U n) (i : Nat) : (eT w me n i).fit (N + 2) := by
  have hr := runAt_ok hw me i
  exact fit_log (eW_fit hw h5 hN hn i) (by omega) ⟨(by decide : I 4), (by decide : I 1), (by decide : I 1), hme, hr.2.2.1, hr.2.2.2.2.2.2.1, hr.2.2.2.2.2.2.2.1, U0, hn, (personW_ok hw me).2.2.1⟩
theorem eS_U {w : World} {N : Nat} (hw : w.fit N) (me n : Int) (i : Nat) : U (eS w me n i).2.1 := sealW_U hw _ _ _
theorem eX_fit {w : World} {N : Nat} (hw : w.fit N) (h5 : 21 ≤ N) (hN : N ≤ 400000000000) {me n : Int} (hme : U me) (hn : U n) (i : Nat) : (eX w me n i).fit (N + 3) :=
  fit_send (eT_fit hw h5 hN hme hn i) (by omega) (by omega) (runAt_ok hw me i).2.2.1 (boxMsg_ok (by decide) (eS_U hw me n i))
theorem echoN_fit {w : World} {N : Nat} (hw : w.fit N) (h5 : 21 ≤ N) (hN : N ≤ 400000000000) {me : Int} (hme : U me) (m : Msg) : (echoN w me m).1.fit (N + 3) := by
  have h0 := hw.mono (show N ≤ N + 3 by omega)
  unfold echoN
  cases eI w me m with
  | none => exact h0
  | some i =>
    simp only
    cases freshM (personW w me).clock (runAt (personW w me).runs i).t w.conf.window
    · exact h0
    cases roomW w 1 1
    · exact h0
    simp only [cond_true]
    cases ((eS w me (eN w me m i) i).2.2 == 0)
    · exact h0
    · exact eX_fit hw h5 hN hme (openW_ok hw _ _ _).1 i
theorem tRun_ok {w : World} {N : Nat} (hw : w.fit N) {g : Part} (hg : g.ok) : (tkRun w g).ok :=
  ⟨(by decide : I 1), (by decide : I 2), hg.2.2.1, drawW_U hw, U0, U0, hg.2.2.2.2.1, hg.2.2.2.2.2.1, by show I 2; decide⟩
theorem tS_fit {w : World} {N : Nat} (hw : w.fit N) (h5 : 21 ≤ N) (hN : N ≤ 400000000000) {g : Part} (hg : g.ok) : (tS w g).1.fit (N + 2) :=
  fit_seal (fit_draw hw (by omega)) (by omega) (by omega) hg.2.2.2.2.1 (by decide) ⟨drawW_U hw, U0, U0, U0, U0, U0, U0⟩
theorem tS_U {w : World} {N : Nat} (hw : w.fit N) (hN : N ≤ 400000000000) (g : Part) : U (tS w g).2.1 := sealW_U (fit_draw hw (by omega)) _ _ _
theorem tP_ok {w : World} {N : Nat} (hw : w.fit N) (hN : N ≤ 400000000000) (me : Int) {g : Part} (hg : g.ok) : (tP w me g).ok :=
  push_ok (used_ok (personW_ok hw me) hg.2.2.2.2.1 (personW_used hw me) hN) (tRun_ok hw hg) (personW_runs hw me) hN
theorem tW_fit {w : World} {N : Nat} (hw : w.fit N) (h5 : 21 ≤ N) (hN : N ≤ 400000000000) (me : Int) {g : Part} (hg : g.ok) : (withW (tS w g).1 (tP w me g)).fit (N + 2) :=
  fit_with (tS_fit hw h5 hN hg) (tP_ok hw hN me hg) (by have := personW_used hw me; simp only [tP, pushRun, List.length_append, List.length_singleton]; omega) (by have := personW_runs hw me; simp only [tP, pushRun, List.length_append, List.length_singleton]; omega)
theorem tY_fit {w : World} {N : Nat} (hw : w.fit N) (h5 : 21 ≤ N) (hN : N ≤ 400000000000) {me : Int} (hme : U me) {g : Part} (hg : g.ok) : (tY w me g).fit (N + 3) :=
  fit_log (tW_fit hw h5 hN me hg) (by omega) ⟨(by decide : I 3), (by decide : I 1), (by decide : I 2), hg.2.2.1, hme, hg.2.2.2.2.1, hg.2.2.2.2.2.1, U0, drawW_U hw, (personW_ok hw me).2.2.1⟩
theorem ticketB_fit {w : World} {N : Nat} (hw : w.fit N) (h5 : 21 ≤ N) (hN : N ≤ 400000000000) {me : Int} (hme : U me) (m : Msg) : (ticketB w me m).1.fit (N + 4) := by
  have h0 := hw.mono (show N ≤ N + 4 by omega)
  have hg : (tG w me m).1.ok := openW_ok hw _ _ _
  have hz : (tZ w me (tG w me m).1).fit (N + 4) := fit_send (tY_fit hw h5 hN hme hg) (by omega) (by omega) hg.2.2.1 (boxMsg_ok (by decide) (tS_U hw hN _))
  unfold ticketB
  cases (tG w me m).2
  · exact h0
  cases pairM w.people (tG w me m).1.a me
  · exact h0
  cases freshM (personW w me).clock (tG w me m).1.t w.conf.window
  · exact h0
  cases (usedMay (personW w me).used w.conf.used (tG w me m).1.k == 0)
  · exact h0
  cases (!full w (personW w me) && roomW w 1 1)
  · exact h0
  cases ((tS w (tG w me m).1).2.2 == 0)
  · exact h0
  · exact hz
theorem endR'_ok {r : Run} (h : r.ok) : (endR' r).ok := ⟨h.1, h.2.1, h.2.2.1, h.2.2.2.1, h.2.2.2.2.1, h.2.2.2.2.2.1, h.2.2.2.2.2.2.1, h.2.2.2.2.2.2.2.1, by show I 3; decide⟩
theorem kT_fit {w : World} {N : Nat} (hw : w.fit N) (hN : N ≤ 400000000000) {me : Int} (hme : U me) (i : Nat) : (kT w me i).fit (N + 1) := by
  have hr := runAt_ok hw me i
  exact put_fit hw (by omega) (set_ok (personW_ok hw me) (endR'_ok hr) i) (personW_used hw me) (by simp only [setRun, List.length_set]; exact personW_runs hw me)
    ⟨(by decide : I 4), (by decide : I 1), (by decide : I 2), hr.2.2.1, hme, hr.2.2.2.2.2.2.1, hr.2.2.2.2.2.2.2.1, U0, hr.2.2.2.1, (personW_ok hw me).2.2.1⟩
theorem backB_fit {w : World} {N : Nat} (hw : w.fit N) (hN : N ≤ 400000000000) {me : Int} (hme : U me) (m : Msg) : (backB w me m).1.fit (N + 1) := by
  have h0 := hw.mono (show N ≤ N + 1 by omega)
  unfold backB
  cases kI w me m with
  | none => exact h0
  | some i =>
    simp only
    cases freshM (personW w me).clock (runAt (personW w me).runs i).t w.conf.window
    · exact h0
    · exact kT_fit hw hN hme i
end Ch

/- Forms, as the program tells them: runs, what was used, people, boxes, nets. -/
set_option maxRecDepth 100000
set_option maxHeartbeats 4000000
set_option linter.unusedSimpArgs false
set_option linter.unusedVariables false
namespace Ch
open Go Go.Ab
theorem st3 (s : Int) : (decide (s ≥ 1) && decide (s ≤ 3)) = (s == 1 || s == 2 || s == 3) := by rw [Bool.eq_iff_iff]; simp; omega
theorem pMay09_spec (r : Run) : Spec PP GG 119 [r.v] (.bool (May09 r)) [] := by
  have hs := st3 r.state
  refine Spec.of_runs Go.Proofs.Tryz.f119 Go.Proofs.Tryz.func119 rfl ?_
  intro w0 M0
  simp only [Go.Proofs.Tryz.f119, List.replicate, List.cons_append, List.nil_append, z, seval]
  repeat' ((first | refine brk (fun h => ?_) (fun h => ?_) | fail) <;> simp only [h, z, seval])
  all_goals (refine FINS_done ?_; simp only [z, seval])
  all_goals (simp only [May09, ← hs]; first | (simp_all; done) | (simp_all; intros; omega))
end Ch

/- Runs: the program's. -/
set_option maxRecDepth 100000
set_option maxHeartbeats 4000000
set_option linter.unusedSimpArgs false
set_option linter.unusedVariables false
namespace Go.Proofs
open Go.Shelf
def Tryz.growRun_ren : Go.Shelf.Ren := ⟨fun | 4 => 156 | n => n, fun | 0 => 0 | 3 => 3 | 4 => 4 | 9 => 9 | 20 => 20 | 22 => 51 | 25 => 55 | n => n, fun n => n⟩
theorem Tryz.growRun : Lays8.n4 Tryz.prog Tryz.growRun_ren where
  mixed := by kernel_rfl
  f4 := ⟨Tryz.f156.name, of_decide_eq_true (by kernel_rfl), Tryz.func156.trans (congrArg some (by kernel_rfl))⟩
  t0 := Tryz.underlying0
  a0 := Tryz.isAgg0
  z0 := Tryz.sizeOf0
  v0 := Tryz.zeroValue0
  t3 := Tryz.underlying3
  a3 := Tryz.isAgg3
  z3 := Tryz.sizeOf3
  v3 := Tryz.zeroValue3
  t4 := Tryz.underlying4
  a4 := Tryz.isAgg4
  z4 := Tryz.sizeOf4
  v4 := Tryz.zeroValue4
  t9 := Tryz.underlying9
  a9 := Tryz.isAgg9
  z9 := Tryz.sizeOf9
  v9 := Tryz.zeroValue9
  t20 := Tryz.underlying20
  a20 := Tryz.isAgg20
  z20 := Tryz.sizeOf20
  v20 := Tryz.zeroValue20
  t22 := Tryz.underlying51
  a22 := Tryz.isAgg51
  z22 := Tryz.sizeOf51
  v22 := Tryz.zeroValue51
end Go.Proofs
theorem Ch.GrowRun_spec (n : Nat) (hn : n ≤ 1099511627776) : Go.Ab.Spec Go.Ab.PP Ch.GG 156 [.sl [] .nil, Ch.i64 n] (.row 0 0) [.row 9 [] 0 false] :=
  Go.Ab.Grow_nil' Go.Proofs.Tryz.growRun Ch.GG 51 rfl Go.Ab.ty51 rfl Go.Ab.ty55 rfl (by decide) (by decide) n hn
namespace Ch
open Go Go.Ab
/-- the first place from one on where something holds -/
def nextR (l : List Run) (from_ : Nat) (p : Run → Bool) : Option Nat := (List.range l.length).find? fun i => decide (from_ ≤ i) && p (runAt l i)
theorem nextR_some {l : List Run} {a i : Nat} {p : Run → Bool} (h : nextR l a p = some i) : i < l.length ∧ a ≤ i ∧ p (runAt l i) = true ∧ ∀ j, a ≤ j → j < i → p (runAt l j) = false := by
  rw [nextR, List.find?_range_eq_some] at h
  obtain ⟨h1, h2, h3⟩ := h
  simp only [Bool.and_eq_true, decide_eq_true_eq] at h1
  refine ⟨List.mem_range.1 h2, h1.1, h1.2, fun j hj hi => ?_⟩
  have := h3 j hi
  simpa [hj] using this
theorem nextR_none {l : List Run} {a : Nat} {p : Run → Bool} (h : nextR l a p = none) : ∀ j, a ≤ j → j < l.length → p (runAt l j) = false := by
  rw [nextR, List.find?_range_eq_none] at h
  intro j hj hl
  have := h j hl
  simpa [hj] using this
/-- the first place where something holds -/
theorem first_at {l : List Run} {q : Run → Bool} {i : Nat} (hi : i < l.length) (h1 : q (runAt l i) = true) (h2 : ∀ j, j < i → q (runAt l j) = false) : l.findIdx? q = some i := by
  rw [List.findIdx?_eq_some_iff_getElem]
  refine ⟨hi, by rw [← runAt_get hi]; exact h1, fun j hj => ?_⟩
  have := h2 j hj
  rw [runAt_get (by omega)] at this
  simpa using this
theorem first_none {l : List Run} {q : Run → Bool} (h : ∀ j, j < l.length → q (runAt l j) = false) : l.findIdx? q = none := by
  rw [List.findIdx?_eq_none_iff]
  intro x hx
  obtain ⟨j, hj, rfl⟩ := List.mem_iff_getElem.1 hx
  have := h j hj
  rwa [runAt_get hj] at this
theorem pNext_spec (l : List Run) (a : Nat) (proto role state : Int) (hl : l.length ≤ 1099511627776) : Spec PP GG 128 [runsV l, i64 a, i64 proto, i64 role, i64 state] (.tup [i64 ((nextR l a (isRun proto role state)).getD 0 : Nat), .bool (nextR l a (isRun proto role state)).isSome]) [] := by
  refine Spec.of_runs Go.Proofs.Tryz.f128 Go.Proofs.Tryz.func128 rfl ?_
  intro w0 M0
  simp only [Go.Proofs.Tryz.f128, List.replicate, List.cons_append, List.nil_append, z, seval]
  refine RUNs_rangeS (l.length) (fun i (_ : Unit) => ∀ j, a ≤ j → j < i → isRun proto role state (runAt l j) = false) (fun i _ => [(16, i64 i)]) (fun i _ => []) () ?_ (by simp only [z, seval]; exact wk) rfl ?_
  · intro j _ h; exact absurd h (Nat.not_lt_zero _)
  rintro ⟨i, _, hi, hw⟩
  simp only [z, seval]
  first | refine brk (fun h => ?_) (fun h => ?_) | fail
  · have hlt : i < l.length := by have := of_decide_eq_true h; omega
    simp only [h, getMap Run.v l hlt, z, seval]
    have hg := runAt_get hlt
    cases c : (decide (a ≤ i) && isRun proto role state (runAt l i)) with
    | true =>
      have e : nextR l a (isRun proto role state) = some i := by
        rw [nextR, List.find?_range_eq_some]
        refine ⟨c, List.mem_range.2 hlt, fun j hj => ?_⟩
        by_cases hj2 : a ≤ j
        · simp [hw j hj2 hj]
        · simp [hj2]
      rw [e]
      simp only [isRun, Bool.and_eq_true] at c
      rw [hg] at c
      have c0 : decide ((i : Int) ≥ (a : Int)) = true := by have := of_decide_eq_true c.1; exact decide_eq_true (by omega)
      simp only [c0, c.2.1, c.2.2.1, c.2.2.2, z, seval]
      (refine FINS_done ?_; simp only [z, seval])
    | false =>
      have hs : ∀ j, a ≤ j → j < i + 1 → isRun proto role state (runAt l j) = false := by
        intro j h1 h2
        rcases Nat.lt_or_ge j i with h3 | h3
        · exact hw j h1 h3
        · obtain rfl : j = i := by omega
          rw [decide_eq_true h1] at c; exact c
      rw [hg] at c
      have c0 : decide ((i : Int) ≥ (a : Int)) = decide (a ≤ i) := by rw [Bool.eq_iff_iff]; simp
      simp only [isRun] at c
      rw [← c0] at c
      have hw1 : IntKind.i64.wrap ((i : Int) + 1) = ((i + 1 : Nat) : Int) := w64s (by omega)
      cases c1 : decide ((i : Int) ≥ (a : Int)) <;> cases c2 : (l[i].proto == proto) <;> cases c3 : (l[i].role == role) <;> cases c4 : (l[i].state == state)
      all_goals
        simp only [c1, c2, c3, c4, z, seval]
        first
          | (exfalso; rw [c1, c2, c3, c4] at c; exact absurd c (by decide))
          | (simp only [hw1, z, seval]
             refine NX () ?_ (by rfl) hlt hs
             first | exact wk | (simp only [z, seval]; exact wk))
  · have : i = l.length := by have := of_decide_eq_false h; omega
    subst this
    simp only [h, z, seval]
    have e : nextR l a (isRun proto role state) = none := by
      rw [nextR, List.find?_range_eq_none]
      intro j hj
      by_cases hj2 : a ≤ j
      · simp [hw j hj2 hj]
      · simp [hj2]
    rw [e]
    (refine FINS_done ?_; simp only [z, seval])
    rfl
theorem ConcatRun_spec (L : List (List Run)) (hl : L.flatten.length ≤ 1099511627776) (hL : L.length ≤ 1099511627776) : Spec PP GG 120 [.sl (L.map fun l => .sl (l.map Run.v) .plain) .plain] (.sl (L.flatten.map Run.v) .plain) [] := by
  refine Spec.of_runs Go.Proofs.Tryz.f120 Go.Proofs.Tryz.func120 rfl ?_
  intro w0 M0
  simp only [Go.Proofs.Tryz.f120, List.replicate, List.cons_append, List.nil_append, z, seval]
  refine RUNs_rangeS (L.length) (fun _ (_ : Unit) => True) (fun i _ => [(3, i64 (L.take i).flatten.length), (11, i64 i)]) (fun _ _ => []) () ?_ (by simp only [z, seval]; exact wk) rfl ?_
  · trivial
  rintro ⟨i, _, hi, -⟩
  simp only [z, seval]
  refine CONDS_split (fun h => ?_) (fun h => ?_)
  · have hlt : i < L.length := by simpa using h
    have hs := flat_succ hlt
    have hf := flat_le L (i + 1)
    have hk : IntKind.i64.wrap (((L.take i).flatten.length : Int) + (L[i].length : Int)) = ((L.take (i + 1)).flatten.length : Nat) := by
      rw [hs] at hf ⊢
      rw [List.length_append] at hf ⊢
      rw [w64 (by omega) (by omega)]; omega
    simp only [z, seval, getMap (fun l : List Run => V.sl (l.map Run.v) .plain) L hlt, hk]
    refine CONDS_split (fun h => ?_) (fun h => ?_)
    · exact absurd h (by simp)
    · simp only [z, seval, w64s (i := i) (by omega)]
      refine NX () (hi := hlt) (hinv := ?_)
      trivial
  · obtain rfl : i = L.length := by simp at h; omega
    rw [List.take_length]
    simp only [z, seval]
    (refine CALLS_specP' (by kernel_rfl) (GrowRun_spec L.flatten.length hl) (by rfl) (by rfl) ?_; simp only [z, seval])
    refine RUNs_rangeS (L.length) (fun _ (_ : Unit) => True) (fun i _ => [(6, .row 0 i), (27, i64 i)]) (fun i _ => [(0, .row 9 ((L.take i).flatten.map Run.v) i false)]) () ?_ (by simp only [z, seval]; exact wk) rfl ?_
    · trivial
    rintro ⟨i, _, hi, -⟩
    simp only [z, seval]
    refine CONDS_split (fun h => ?_) (fun h => ?_)
    · have hlt : i < L.length := by simpa using h
      simp only [z, seval, getMap (fun l : List Run => V.sl (l.map Run.v) .plain) L hlt]
      have hs := flat_succ hlt
      have hf := flat_le L (i + 1)
      rw [hs, List.length_append] at hf
      refine OPC_ok (by simp only [Bool.and_eq_true, List.all_eq_true, decide_eq_true_eq]; exact ⟨fun x hx => by obtain ⟨y, _, rfl⟩ := List.mem_map.1 hx; rfl, by first | omega | (simp only [List.length_map]; omega)⟩) ?_
      rw [← List.map_append, ← hs]
      simp only [z, seval, w64s (i := i) (by omega)]
      refine NX () (hi := hlt) (hinv := ?_)
      trivial
    · simp only [z, seval]
      obtain rfl : i = L.length := by simp at h; omega
      rw [List.take_length]
      (refine FINS_done ?_; simp only [z, seval])
theorem ConcatRun_2 (A B : List Run) (hl : A.length + B.length ≤ 1099511627776) : Spec PP GG 120 [.sl [.sl (A.map Run.v) .plain, .sl (B.map Run.v) .plain] .plain] (.sl ((A ++ B).map Run.v) .plain) [] := by
  have := ConcatRun_spec [A, B] (by simpa using hl) (by simp)
  simpa using this
theorem pAdd_spec (l : List Run) (room : Int) (r : Run) (hl : l.length ≤ 1000000000000) : Spec PP GG 52 [runsV l, i64 room, r.v] (.tup [runsV (runsAdd l room r).1, i64 (runsAdd l room r).2]) [] := by
  have h1 := pMay09_spec r
  have h2 := ConcatRun_2 l [r] (by simp; omega)
  refine Spec.of_runs Go.Proofs.Tryz.f52 Go.Proofs.Tryz.func52 rfl ?_
  intro w0 M0
  simp only [Go.Proofs.Tryz.f52, List.replicate, List.cons_append, List.nil_append, z, seval]
  (refine CU (h1) (h := ?_); simp only [z, seval])
  cases c1 : May09 r with
  | false =>
    simp only [c1, z, seval]
    (refine FINS_done ?_; simp only [z, seval])
    simp only [runsAdd, c1, cond_false]
  | true =>
  simp only [c1, z, seval]
  cases c2 : decide ((l.length : Int) ≥ room) with
  | true =>
    simp only [c2, z, seval]
    (refine FINS_done ?_; simp only [z, seval])
    simp only [runsAdd, c1, c2, cond_true]
  | false =>
    simp only [c2, z, seval]
    (refine CU (h2) (h := ?_); simp only [z, seval])
    (refine FINS_done ?_; simp only [z, seval])
    simp only [runsAdd, c1, c2, cond_true, cond_false]
theorem CloneRun_spec (l : List Run) (hl : l.length ≤ 1099511627776) : Spec PP GG 130 [.sl (l.map Run.v) .plain] (.row 0 0) [.row 9 (l.map Run.v) 0 false] := by
  refine Spec.of_runs Go.Proofs.Tryz.f130 Go.Proofs.Tryz.func130 rfl ?_
  intro w0 M0
  simp only [Go.Proofs.Tryz.f130, List.replicate, List.cons_append, List.nil_append, z, seval]
  refine OPV_nilq rfl rfl ty51 rfl rfl ?_
  intro b hb _
  rcases b
  · simp only [z, seval]
    refine OPC_ok (okMap _ (fun a => rfl) hl) ?_
    simp only [z, seval]
    exact FINS_own rfl rfl
  · obtain rfl : l = [] := by
      cases l with
      | nil => rfl
      | cons a l => exact absurd (hb (by simp)) (by simp)
    simp only [List.map_nil, z, seval]
    intro _
    refine RUNs_row0 2 9 (h := ?_)
    simp only [z, seval]
    exact FINS_own rfl rfl
theorem pSetR_spec (l : List Run) (i : Nat) (r : Run) (hi : i < l.length) (hr : May09 r = true) (hl : l.length ≤ 1099511627776) : Spec PP GG 71 [runsV l, i64 i, r.v] (.tup [runsV (l.set i r), i64 0]) [] := by
  have h1 := pMay09_spec r
  have h2 := CloneRun_spec l hl
  have e : (l.map Run.v).set i r.v = (l.set i r).map Run.v := by rw [List.map_set]
  have n1 : decide ((i : Int) < 0) = false := decide_eq_false (by omega)
  have n2 : decide ((i : Int) ≥ (l.length : Int)) = false := decide_eq_false (by omega)
  rw [hr] at h1
  simp only [mv] at e
  refine Spec.of_runs Go.Proofs.Tryz.f71 Go.Proofs.Tryz.func71 rfl ?_
  intro w0 M0
  simp only [Go.Proofs.Tryz.f71, List.replicate, List.cons_append, List.nil_append, z, seval]
  simp only [n1, n2, z, seval]
  (refine CU (h1) (h := ?_); simp only [z, seval])
  (refine CH (h2) (h := ?_); simp only [z, seval])
  simp only [hi, getMap Run.v l hi, if_true, e, z, seval]
  (refine FINS_done ?_; simp only [z, seval])
end Ch
