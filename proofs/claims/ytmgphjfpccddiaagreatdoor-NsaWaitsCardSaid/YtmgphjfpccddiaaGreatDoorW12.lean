/- The initiator with times, of whatever world. -/
import Derived.Test.YtmgphjfpccddiaaGreatDoorW11
set_option maxRecDepth 100000
set_option maxHeartbeats 4000000
set_option linter.unusedSimpArgs false
set_option linter.unusedVariables false
namespace Ch
open Go Go.Ab
namespace L15
def w0 : World := L17.w0
def wa : World := (startN w0 1 2).1
def pg : Part := ⟨2147483661, 0, 0, 2, 70, 3, 9⟩
def wg : World := (sealW wa (getP w0.people 1).key 2 pg).1
def m0 : Msg := ⟨2, 0, 0, 0, 0, 2147483662, 0⟩
def wb : World := (grantN wg 1 m0).1
def pe : Part := ⟨80, 0, 0, 0, 0, 0, 0⟩
def wc : World := (sealW wb 70 4 pe).1
def m1 : Msg := ⟨4, 0, 0, 0, 0, 2147483663, 0⟩
def wd : World := (echoN wc 1 m1).1
theorem U0' : U 0 := by decide
theorem U1 : U 1 := by decide
theorem U2 : U 2 := by decide
theorem w0_fit : w0.fit 21 := L17.w0_fit
theorem pg_ok : pg.ok := by unfold Part.ok; decide
theorem pe_ok : pe.ok := by unfold Part.ok; decide
theorem wa_fit : wa.fit 24 := startN_fit w0_fit (by decide) (by decide) U1 U2
theorem wg_fit : wg.fit 25 := fit_seal wa_fit (by decide) (by decide) (getP_ok w0_fit 1).2.1 (by decide) pg_ok
theorem wb_fit : wb.fit 27 := grantN_fit wg_fit (by decide) (by decide) U1 m0
theorem wc_fit : wc.fit 28 := fit_seal wb_fit (by decide) (by decide) (by decide) (by decide) pe_ok
theorem wd_fit : wd.fit 31 := echoN_fit wc_fit (by decide) (by decide) U1 m1
theorem g0 : startN w0 1 2 = (wa, 0) := by
  have : (startN w0 1 2).2 = 0 := by decide +kernel
  rw [← this]; rfl
theorem g1 : (startN w0 1 0).2 = 5 := by decide +kernel
theorem g2 : sealW wa (getP w0.people 1).key 2 pg = (wg, 2147483662, 0) := by
  have : (sealW wa (getP w0.people 1).key 2 pg).2 = (2147483662, 0) := by decide +kernel
  rw [← this]; rfl
theorem g3 : grantN wg 1 m0 = (wb, 0) := by
  have : (grantN wg 1 m0).2 = 0 := by decide +kernel
  rw [← this]; rfl
theorem g4 : (grantN wg 2 m0).2 = 6 := by decide +kernel
theorem g5 : (grantN wb 1 m0).2 = 9 := by decide +kernel
theorem g6 : sealW wb 70 4 pe = (wc, 2147483663, 0) := by
  have : (sealW wb 70 4 pe).2 = (2147483663, 0) := by decide +kernel
  rw [← this]; rfl
theorem g7 : echoN wc 1 m1 = (wd, 0) := by
  have : (echoN wc 1 m1).2 = 0 := by decide +kernel
  rw [← this]; rfl
theorem g8 : (echoN wd 1 m1).2 = 6 := by decide +kernel
theorem wd_log : ∃ e f, wd.log = [e, f, ⟨4, 1, 1, 1, 2, 70, 3, 0, 80, 0⟩] := ⟨_, _, rfl⟩
theorem r0 : Right10 w0.people = true := by decide +kernel
theorem rg : Right10 wg.people = true := by decide +kernel
theorem rb : Right10 wb.people = true := by decide +kernel
theorem rc : Right10 wc.people = true := by decide +kernel
theorem rd : Right10 wd.people = true := by decide +kernel
theorem b0 : Right07 w0.box = true := by decide +kernel
theorem bg : Right07 wg.box = true := by decide +kernel
theorem bb : Right07 wb.box = true := by decide +kernel
theorem l1 : 1 < w0.people.length := by decide +kernel
theorem k1 : (getP w0.people 1).key = (w0.people[1]'l1).key := by kernel_rfl
theorem awake_spec : Spec PP GG 26 [] (.bool true) [] := by
  have hN : Spec PP GG 43 [L17.c0.v, wordsV [11, 12, 13, 14, 15, 16, 17]] w0.v [] := New12_spec L17.c0 2 2 (by decide) (by decide) rfl rfl [11, 12, 13, 14, 15, 16, 17]
  have hA := StartN_spec w0 1 2 w0_fit (by decide) (by decide) U1 U2 r0 b0
  have hB := StartN_spec w0 1 0 w0_fit (by decide) (by decide) U1 U0' r0 b0
  have hS := rSeal_spec wa wa_fit (by decide) (getP w0.people 1).key 2 pg
  have hC := GrantN_spec wg 1 m0 wg_fit (by decide) (by decide) U1 rg bg
  have hD := GrantN_spec wg 2 m0 wg_fit (by decide) (by decide) U2 rg bg
  have hE := GrantN_spec wb 1 m0 wb_fit (by decide) (by decide) U1 rb bb
  have hT := rSeal_spec wb wb_fit (by decide) 70 4 pe
  have hF := EchoN_spec wc 1 m1 wc_fit (by decide) (by decide) U1 rc
  have hG := EchoN_spec wd 1 m1 wd_fit (by decide) (by decide) U1 rd
  rw [g0] at hA
  rw [g1] at hB
  rw [g2] at hS
  rw [g3] at hC
  rw [g4] at hD
  rw [g5] at hE
  rw [g6] at hT
  rw [g7] at hF
  rw [g8] at hG
  rw [k1] at hS
  simp only [pg] at hS
  simp only [pe] at hT
  simp only [m0] at hC hD hE
  simp only [m1] at hF hG
  obtain ⟨e0, e1, hl⟩ := wd_log
  refine Spec.of_runs Go.Proofs.Tryz.f26 Go.Proofs.Tryz.func26 rfl ?_
  intro w0 M0
  simp only [Go.Proofs.Tryz.f26, List.replicate, List.cons_append, List.nil_append, z, seval]
  (refine CALLS_in (fn := Go.Proofs.Tryz.f75) Go.Proofs.Tryz.func75 rfl (by kernel_rfl) ?_; simp only [Go.Proofs.Tryz.f75, List.replicate, List.cons_append, List.nil_append, z, seval])
  (refine CU (hN) (h := ?_); simp only [z, seval])
  (refine CU (hA) (h := ?_); simp only [z, seval])
  (refine CU (hB) (h := ?_); simp only [z, seval])
  first | simp only [getMap Person.v L15.w0.people l1, z, seval] | ((refine RUNs_draw 1 (by kernel_rfl) ?_; simp only [z, seval]); simp only [getMap Person.v L15.w0.people l1, z, seval])
  first | (refine CU (hS) (h := ?_); simp only [z, seval]) | ((refine DU (hS) (h := ?_); simp only [z, seval]); (refine ⟨by kernel_rfl, ?_⟩))
  (refine CU (hC) (h := ?_); simp only [z, seval])
  (refine CU (hD) (h := ?_); simp only [z, seval])
  (refine CU (hE) (h := ?_); simp only [z, seval])
  (refine CU (hT) (h := ?_); simp only [z, seval])
  (refine CU (hF) (h := ?_); simp only [z, seval])
  (refine CU (hG) (h := ?_); simp only [z, seval])
  simp only [hl, List.map_cons, List.map_nil, z, seval]
  (refine FINS_done ?_; simp only [z, seval])
end L15
theorem fits15_spec (w : World) (hw : w.ok) (me : Int) (hme : U me) (m : Msg) (hm : m.ok) (kind : Int) : Spec PP GG 31 [w.v, u32 me, m.v, u32 kind] (.bool (fitsK w me m kind)) [] := by
  have hL := Lim_of_ok hw
  have h1 := Few12_spec w hL
  have h2 := Form12_spec w hL
  have h3 := rMay_spec m hm
  have q1 := hme.1
  have q2 := hme.2
  have q3 := hw.2.2.2.2.1.1
  clear hw hm hL
  refine Spec.of_runs Go.Proofs.Tryz.f31 Go.Proofs.Tryz.func31 rfl ?_
  intro w0 M0
  simp only [Go.Proofs.Tryz.f31, List.replicate, List.cons_append, List.nil_append, z, seval]
  (refine CU (h1) (h := ?_); simp only [z, seval])
  cases c1 : Few12 w with
  | false =>
    simp only [z, seval]
    (refine FINS_done ?_; simp only [z, seval])
    simp only [fitsK, c1, Bool.false_and]
  | true =>
  simp only [z, seval]
  (refine CU (h2) (h := ?_); simp only [z, seval])
  cases c2 : Form12 w with
  | false =>
    simp only [z, seval]
    (refine FINS_done ?_; simp only [z, seval])
    simp only [fitsK, c1, c2, Bool.true_and, Bool.false_and]
  | true =>
  simp only [z, seval]
  cases c3 : decide (me ≥ 1) with
  | false =>
    simp only [c3, z, seval]
    (refine FINS_done ?_; simp only [z, seval])
    simp only [fitsK, c1, c2, c3, Bool.true_and, Bool.false_and]
  | true =>
  simp only [c3, wu64 (n := me) (by omega) (by omega), wu64 (n := (w.people.length : Int)) (by omega) (by omega), z, seval]
  cases c4 : decide (me < (w.people.length : Int)) with
  | false =>
    simp only [c4, z, seval]
    (refine FINS_done ?_; simp only [z, seval])
    simp only [fitsK, c1, c2, c3, c4, Bool.true_and, Bool.false_and]
  | true =>
  simp only [c4, z, seval]
  cases c5 : (m.kind == kind) with
  | false =>
    simp only [c5, z, seval]
    (refine FINS_done ?_; simp only [z, seval])
    simp only [fitsK, c1, c2, c3, c4, c5, Bool.true_and, Bool.false_and]
  | true =>
  simp only [c5, z, seval]
  (refine CU (h3) (h := ?_); simp only [z, seval])
  (refine FINS_done ?_; simp only [z, seval])
  simp only [fitsK, c1, c2, c3, c4, c5, Bool.true_and]
theorem NsaStarts_law (w : World) (hw : w.ok) (a : Int) (ha : U a) (b : Int) (hb : U b) : Spec PP GG 7 [w.v, u32 a, u32 b] (.bool true) [] := by
  have hA := L15.awake_spec
  have hL := Lim_of_ok hw
  have hF1 := Few12_spec w hL
  have hF2 := Form12_spec w hL
  clear hL
  cases c1 : Few12 w with
  | false =>
    rw [c1] at hF1
    refine Spec.of_runs Go.Proofs.Tryz.f7 Go.Proofs.Tryz.func7 rfl ?_
    intro w0 M0
    simp only [Go.Proofs.Tryz.f7, List.replicate, List.cons_append, List.nil_append, z, seval]
    (refine CU (hA) (h := ?_); simp only [z, seval])
    (refine CU (hF1) (h := ?_); simp only [z, seval])
    (refine CU (hA) (h := ?_); simp only [z, seval])
    (refine FINS_done ?_; simp only [z, seval])
  | true =>
  rw [c1] at hF1
  cases c2 : Form12 w with
  | false =>
    rw [c2] at hF2
    refine Spec.of_runs Go.Proofs.Tryz.f7 Go.Proofs.Tryz.func7 rfl ?_
    intro w0 M0
    simp only [Go.Proofs.Tryz.f7, List.replicate, List.cons_append, List.nil_append, z, seval]
    (refine CU (hA) (h := ?_); simp only [z, seval])
    (refine CU (hF1) (h := ?_); simp only [z, seval])
    (refine CU (hF2) (h := ?_); simp only [z, seval])
    (refine CU (hA) (h := ?_); simp only [z, seval])
    (refine FINS_done ?_; simp only [z, seval])
  | true =>
    rw [c2] at hF2
    have hfit := fit_of_few hw c1 c2
    have hform := form_iff.1 c2
    have h1 := StartN_spec w a b hfit (by decide) (by decide) ha hb hform.right hform.box
    have h2 := rStartN_spec w a b hfit (by decide) (by decide) ha hb hform.right
    have h3 := Same12 (startN w a b).1 ((startN_fit hfit (by decide) (by decide) ha hb).toLim (by decide))
    clear hw hfit hform
    refine Spec.of_runs Go.Proofs.Tryz.f7 Go.Proofs.Tryz.func7 rfl ?_
    intro w0 M0
    simp only [Go.Proofs.Tryz.f7, List.replicate, List.cons_append, List.nil_append, z, seval]
    (refine CU (hA) (h := ?_); simp only [z, seval])
    (refine CU (hF1) (h := ?_); simp only [z, seval])
    (refine CU (hF2) (h := ?_); simp only [z, seval])
    (refine CU (h1) (h := ?_); simp only [z, seval])
    (refine CU (h2) (h := ?_); simp only [z, seval])
    (refine CU (h3) (h := ?_); simp only [z, seval])
    (refine FINS_done ?_; simp only [z, seval])
theorem NsaGrants_law (w : World) (hw : w.ok) (me : Int) (hme : U me) (m : Msg) (hm : m.ok) : Spec PP GG 8 [w.v, u32 me, m.v] (.bool true) [] := by
  have hA := L15.awake_spec
  have hF := fits15_spec w hw me hme m hm 2
  cases hf : fitsK w me m 2 with
  | false =>
    rw [hf] at hF
    refine Spec.of_runs Go.Proofs.Tryz.f8 Go.Proofs.Tryz.func8 rfl ?_
    intro w0 M0
    simp only [Go.Proofs.Tryz.f8, List.replicate, List.cons_append, List.nil_append, z, seval]
    (refine CU (hA) (h := ?_); simp only [z, seval])
    (refine CU (hF) (h := ?_); simp only [z, seval])
    (refine CU (hA) (h := ?_); simp only [z, seval])
    (refine FINS_done ?_; simp only [z, seval])
  | true =>
    rw [hf] at hF
    simp only [fitsK, Bool.and_eq_true] at hf
    have hfit := fit_of_few hw hf.1 hf.2.1
    have hform := form_iff.1 hf.2.1
    have h1 := GrantN_spec w me m hfit (by decide) (by decide) hme hform.right hform.box
    have h2 := rGrantN_spec w me m hfit (by decide) (by decide) hme hform.right hform.box
    have h3 := Same12 (grantN w me m).1 ((grantN_fit hfit (by decide) (by decide) hme m).toLim (by decide))
    clear hw hm hfit hform
    refine Spec.of_runs Go.Proofs.Tryz.f8 Go.Proofs.Tryz.func8 rfl ?_
    intro w0 M0
    simp only [Go.Proofs.Tryz.f8, List.replicate, List.cons_append, List.nil_append, z, seval]
    (refine CU (hA) (h := ?_); simp only [z, seval])
    (refine CU (hF) (h := ?_); simp only [z, seval])
    (refine CU (h1) (h := ?_); simp only [z, seval])
    (refine CU (h2) (h := ?_); simp only [z, seval])
    (refine CU (h3) (h := ?_); simp only [z, seval])
    (refine FINS_done ?_; simp only [z, seval])
theorem NsaEchoes_law (w : World) (hw : w.ok) (me : Int) (hme : U me) (m : Msg) (hm : m.ok) : Spec PP GG 9 [w.v, u32 me, m.v] (.bool true) [] := by
  have hA := L15.awake_spec
  have hF := fits15_spec w hw me hme m hm 4
  cases hf : fitsK w me m 4 with
  | false =>
    rw [hf] at hF
    refine Spec.of_runs Go.Proofs.Tryz.f9 Go.Proofs.Tryz.func9 rfl ?_
    intro w0 M0
    simp only [Go.Proofs.Tryz.f9, List.replicate, List.cons_append, List.nil_append, z, seval]
    (refine CU (hA) (h := ?_); simp only [z, seval])
    (refine CU (hF) (h := ?_); simp only [z, seval])
    (refine CU (hA) (h := ?_); simp only [z, seval])
    (refine FINS_done ?_; simp only [z, seval])
  | true =>
    rw [hf] at hF
    simp only [fitsK, Bool.and_eq_true] at hf
    have hfit := fit_of_few hw hf.1 hf.2.1
    have hform := form_iff.1 hf.2.1
    have h1 := EchoN_spec w me m hfit (by decide) (by decide) hme hform.right
    have h2 := rEchoN_spec w me m hfit (by decide) (by decide) hme hform.right hform.box
    have h3 := Same12 (echoN w me m).1 ((echoN_fit hfit (by decide) (by decide) hme m).toLim (by decide))
    clear hw hm hfit hform
    refine Spec.of_runs Go.Proofs.Tryz.f9 Go.Proofs.Tryz.func9 rfl ?_
    intro w0 M0
    simp only [Go.Proofs.Tryz.f9, List.replicate, List.cons_append, List.nil_append, z, seval]
    (refine CU (hA) (h := ?_); simp only [z, seval])
    (refine CU (hF) (h := ?_); simp only [z, seval])
    (refine CU (h1) (h := ?_); simp only [z, seval])
    (refine CU (h2) (h := ?_); simp only [z, seval])
    (refine CU (h3) (h := ?_); simp only [z, seval])
    (refine FINS_done ?_; simp only [z, seval])
theorem NsaKeeps_law (w : World) (hw : w.ok) (a : Int) (ha : U a) (b : Int) (hb : U b) (me : Int) (hme : U me) (m : Msg) (hm : m.ok) : Spec PP GG 11 [w.v, u32 a, u32 b, u32 me, m.v] (.bool true) [] := by
  have hA := L15.awake_spec
  have hF := fits15_spec w hw me hme m hm m.kind
  cases hf : fitsK w me m m.kind with
  | false =>
    rw [hf] at hF
    refine Spec.of_runs Go.Proofs.Tryz.f11 Go.Proofs.Tryz.func11 rfl ?_
    intro w0 M0
    simp only [Go.Proofs.Tryz.f11, List.replicate, List.cons_append, List.nil_append, z, seval]
    (refine CU (hA) (h := ?_); simp only [z, seval])
    (refine CU (hF) (h := ?_); simp only [z, seval])
    (refine CU (hA) (h := ?_); simp only [z, seval])
    (refine FINS_done ?_; simp only [z, seval])
  | true =>
    rw [hf] at hF
    simp only [fitsK, Bool.and_eq_true] at hf
    have hfit := fit_of_few hw hf.1 hf.2.1
    have hform := form_iff.1 hf.2.1
    have hC := Copied_spec w (hfit.toLim (by decide))
    have h0 := StartN_spec w a b hfit (by decide) (by decide) ha hb hform.right hform.box
    have h1 := GrantN_spec w me m hfit (by decide) (by decide) hme hform.right hform.box
    have h2 := EchoN_spec w me m hfit (by decide) (by decide) hme hform.right
    have h3 := Same12 w (hfit.toLim (by decide))
    clear hw hm hfit hform
    cases c1 : (m.kind == 2) with
    | true =>
      refine Spec.of_runs Go.Proofs.Tryz.f11 Go.Proofs.Tryz.func11 rfl ?_
      intro w0 M0
      simp only [Go.Proofs.Tryz.f11, List.replicate, List.cons_append, List.nil_append, z, seval]
      (refine CU (hA) (h := ?_); simp only [z, seval])
      (refine CU (hF) (h := ?_); simp only [z, seval])
      simp only [c1, z, seval]
      (refine CU (hC) (h := ?_); simp only [z, seval])
      (refine CU (h0) (h := ?_); simp only [z, seval])
      simp only [c1, z, seval]
      (refine CU (h1) (h := ?_); simp only [z, seval])
      (refine CU (h3) (h := ?_); simp only [z, seval])
      (refine FINS_done ?_; simp only [z, seval])
    | false =>
    cases c2 : (m.kind == 4) with
    | true =>
      refine Spec.of_runs Go.Proofs.Tryz.f11 Go.Proofs.Tryz.func11 rfl ?_
      intro w0 M0
      simp only [Go.Proofs.Tryz.f11, List.replicate, List.cons_append, List.nil_append, z, seval]
      (refine CU (hA) (h := ?_); simp only [z, seval])
      (refine CU (hF) (h := ?_); simp only [z, seval])
      simp only [c1, c2, z, seval]
      (refine CU (hC) (h := ?_); simp only [z, seval])
      (refine CU (h0) (h := ?_); simp only [z, seval])
      simp only [c1, z, seval]
      (refine CU (h2) (h := ?_); simp only [z, seval])
      (refine CU (h3) (h := ?_); simp only [z, seval])
      (refine FINS_done ?_; simp only [z, seval])
    | false =>
      refine Spec.of_runs Go.Proofs.Tryz.f11 Go.Proofs.Tryz.func11 rfl ?_
      intro w0 M0
      simp only [Go.Proofs.Tryz.f11, List.replicate, List.cons_append, List.nil_append, z, seval]
      (refine CU (hA) (h := ?_); simp only [z, seval])
      (refine CU (hF) (h := ?_); simp only [z, seval])
      simp only [c1, c2, z, seval]
      (refine CU (hA) (h := ?_); simp only [z, seval])
      (refine FINS_done ?_; simp only [z, seval])
end Ch

/- All texts so far, in one order. -/

/- The responder with times: a commit. (Written before a seat was at hand: not built yet; the facts ahead of the walk are checked.) -/
set_option maxRecDepth 100000
set_option maxHeartbeats 4000000
set_option linter.unusedSimpArgs false
set_option linter.unusedVariables false
namespace Ch
open Go Go.Ab
theorem NsbCommits_law (w : World) (hw : w.ok) (me : Int) (hme : U me) (m : Msg) (hm : m.ok) : Spec PP GG 5 [w.v, u32 me, m.v] (.bool true) [] := by
  have hA := L16.awake_spec
  have hF := fits16_spec w hw me hme m hm 5
  by_cases hf : fitsK w me m 5 = false
  · rw [hf] at hF
    refine Spec.of_runs Go.Proofs.Tryz.f5 Go.Proofs.Tryz.func5 rfl ?_
    intro w0 M0
    simp only [Go.Proofs.Tryz.f5, List.replicate, List.cons_append, List.nil_append, z, seval]
    (refine CU (hA) (h := ?_); simp only [z, seval])
    (refine CU (hF) (h := ?_); simp only [z, seval])
    (refine CU (hA) (h := ?_); simp only [z, seval])
    (refine FINS_done ?_; simp only [z, seval])
  replace hf : fitsK w me m 5 = true := by simpa using hf
  rw [hf] at hF
  simp only [fitsK, Bool.and_eq_true, decide_eq_true_eq] at hf
  obtain ⟨hf1, hf2, hf3, hf4, -⟩ := hf
  have hfit := fit_of_few hw hf1 hf2
  have hform := form_iff.1 hf2
  have h1 := BackB_spec w me m hfit (by decide) hme hform.right
  by_cases he : ((backB w me m).2 == 0) = false
  · rw [backB_err (show (backB w me m).2 ≠ 0 by intro h; rw [h] at he; cases he)] at h1
    have h2 := Same12 w (hfit.toLim (by decide))
    clear hw hfit hform
    refine Spec.of_runs Go.Proofs.Tryz.f5 Go.Proofs.Tryz.func5 rfl ?_
    intro w0 M0
    simp only [Go.Proofs.Tryz.f5, List.replicate, List.cons_append, List.nil_append, z, seval]
    (refine CU (hA) (h := ?_); simp only [z, seval])
    (refine CU (hF) (h := ?_); simp only [z, seval])
    (refine CU (h1) (h := ?_); simp only [z, seval])
    simp only [he, z, seval]
    (refine CU (h2) (h := ?_); simp only [z, seval])
    (refine FINS_done ?_; simp only [z, seval])
  have he' : (backB w me m).2 = 0 := by simpa using he
  obtain ⟨i, o1, o3, o4⟩ := backB_done he'
  obtain ⟨hi, r1, r2, r3, r4, r5⟩ := back_run o1
  have hfa := backB_fit hfit (by decide) hme m
  have hSame := Same12 w (hfit.toLim (by decide))
  have hO := rOpen_spec w hfit (by decide) hform.box (runAt (personW w me).runs i).k 5 m.box
  have hFr := rFresh_spec (personW w me).clock (runAt (personW w me).runs i).t w.conf.window (personW_ok hfit me).2.2.1 (runAt_ok hfit me i).2.2.2.2.2.2.2.1 hfit.ok.1.1
  rw [o3] at hFr
  obtain ⟨n, rfl⟩ := Int.eq_ofNat_of_zero_le hme.1
  have hin : n < w.people.length := by omega
  have hp : personW w (n : Int) = w.people[n] := get_in9 hin
  have hpe := com_people hform.right hme (show ((n : Int)).toNat < w.people.length from hin) i (endR' (runAt (personW w n).runs i)) ⟨4, 1, 2, (runAt (personW w n).runs i).peer, n, (runAt (personW w n).runs i).k, (runAt (personW w n).runs i).t, 0, (runAt (personW w n).runs i).mine, (personW w n).clock⟩
  rw [o4] at h1 hfa
  have hra : Right10 (kT w n i).people = true := right_set hform.right _ (personW_ok hfit _).1
  have h2 := BackB_spec (kT w n i) n m hfa (by decide) hme hra
  have hap : personW (kT w n i) (n : Int) = setRun (personW w n) i (endR' (runAt (personW w n).runs i)) := by
    have h5 : n < (kT w n i).people.length := by rw [kT, hpe, List.length_set]; exact hin
    have : personW (kT w n i) (n : Int) = (kT w n i).people[n] := get_in9 h5
    rw [this]
    simp only [kT, hpe, Int.toNat_natCast, List.getElem_set_self]
  have hsi : i < (personW (kT w n i) (n : Int)).runs.length := by rw [hap]; simp only [setRun, List.length_set]; exact hi
  have hst : runAt (personW (kT w n i) (n : Int)).runs i = endR' (runAt (personW w n).runs i) := by
    rw [runAt_get hsi]
    simp only [hap, setRun, List.getElem_set_self]
  obtain ⟨c1, c2, c3, c4, c5⟩ := backB_keeps m hra hme rfl (by rw [kT, hpe, List.length_set]; exact hin) hsi (by rw [hst]; exact (by decide : (3 : Int) ≠ 2))
  rw [hst] at c5
  have c2' : (backB (kT w n i) n m).1.people.length = w.people.length := by rw [c2, kT, hpe, List.length_set]
  have c3' : (backB (kT w n i) n m).1.people[n].runs.length = (personW w n).runs.length := by rw [c3, hap]; simp only [setRun, List.length_set]
  have hX : kT w n i = ⟨w.conf, w.draws, w.box, w.net, w.people.set n (setRun (personW w n) i (endR' (runAt (personW w n).runs i))), w.log ++ [⟨4, 1, 2, (runAt (personW w n).runs i).peer, n, (runAt (personW w n).runs i).k, (runAt (personW w n).runs i).t, 0, (runAt (personW w n).runs i).mine, (personW w n).clock⟩], w.regs, w.leaks⟩ := by
    have e : kT w n i = ⟨w.conf, w.draws, w.box, w.net, (kT w n i).people, w.log ++ [⟨4, 1, 2, (runAt (personW w n).runs i).peer, n, (runAt (personW w n).runs i).k, (runAt (personW w n).runs i).t, 0, (runAt (personW w n).runs i).mine, (personW w n).clock⟩], w.regs, w.leaks⟩ := rfl
    rw [e]
    congr 1
  have u0 : (personW w (n : Int)).runs.length ≤ 1048576 := personW_runs hfit _
  have g2 := hfit.log
  have g3 := hfit.people
  clear hw hfit hform hfa hra hap hsi hst hpe hf1 hf2 hf4 o3 o4 he he' c2 c3 o1 hm
  generalize (backB (kT w n i) n m).2 = c2e at h2
  generalize (backB (kT w n i) n m).1 = cW at *
  rw [hX] at h1 h2
  have hbk := set_back hin (setRun (personW w n) i (endR' (runAt (personW w n).runs i)))
  rw [← hp] at hbk
  have b0 := getMap Person.v w.people hin
  rw [← hp] at b0
  have hg := runAt_get hi
  rw [hg] at r1 r2 r3 r4 r5 h1 h2 c5 hbk hO hFr
  clear hp hX hg
  generalize hP : personW w (n : Int) = P at *
  obtain ⟨pn, pk, pc, pu, pr, pcor⟩ := P
  simp only at hi u0 r1 r2 r3 r4 r5 c3' hO hFr
  have bi := getMap Run.v pr hi
  generalize hr0 : pr[i] = r0 at *
  obtain ⟨rproto, rrole, rpeer, rmine, rtheir, rm, rk, rt, rstate⟩ := r0
  simp only at r1 r2 r3 r4 r5 hO hFr
  subst r1 r2 r3
  generalize hq : openW w rk 5 m.box = q at *
  obtain ⟨⟨qn, qm, qa, qb, qk, qt, qh⟩, q2⟩ := q
  simp only at r4 r5
  subst r4 r5
  simp only [setRun, endR'] at h1 h2 c5 hbk
  have w4 : (w.people.set n ⟨pn, pk, pc, pu, pr.set i ⟨1, 2, rpeer, qn, rtheir, rm, rk, rt, 3⟩, pcor⟩).length = w.people.length := List.length_set
  have w5 : (pr.set i ⟨1, 2, rpeer, qn, rtheir, rm, rk, rt, 3⟩).length = pr.length := List.length_set
  have w6 : (w.log ++ [(⟨4, 1, 2, rpeer, n, rk, rt, 0, qn, pc⟩ : Event)]).length = w.log.length + 1 := by simp
  have w2 : IntKind.i64.wrap ((w.log.length : Int) + 1) = ((w.log.length + 1 : Nat) : Int) := w64s (by omega)
  have b6 := setMap9 Person.v ⟨pn, pk, pc, pu, pr.set i ⟨1, 2, rpeer, qn, rtheir, rm, rk, rt, 3⟩, pcor⟩ hin
  have b7 := setMap9 Run.v (⟨1, 2, rpeer, qn, rtheir, rm, rk, rt, 3⟩ : Run) hi
  have b8 := lastMap9 Event.v w.log ⟨4, 1, 2, rpeer, n, rk, rt, 0, qn, pc⟩
  have hb7 : ∀ j, j ≠ i → (hj : j < pr.length) → ((pr.set i ⟨1, 2, rpeer, qn, rtheir, rm, rk, rt, 3⟩).map Run.v)[j]? = some (Run.v pr[j]) := fun j hji hj => by
    rw [getMap Run.v _ (by rw [List.length_set]; exact hj), List.getElem_set, if_neg (fun e => hji e.symm)]
  have d1 := getMap Person.v cW.people c1
  have d2 := getMap Run.v cW.people[n].runs c4
  rw [c5] at d2
  have e9 : ((w.people.set n ⟨pn, pk, pc, pu, pr.set i ⟨1, 2, rpeer, qn, rtheir, rm, rk, rt, 3⟩, pcor⟩).map Person.v).set n (Person.v ⟨pn, pk, pc, pu, pr, pcor⟩) = w.people.map Person.v := by rw [← List.map_set, hbk]
  simp only [mv] at b0 bi b6 b7 b8 hb7 d1 d2 e9
  refine Spec.of_runs Go.Proofs.Tryz.f5 Go.Proofs.Tryz.func5 rfl ?_
  intro w0 M0
  simp only [Go.Proofs.Tryz.f5, List.replicate, List.cons_append, List.nil_append, z, seval]
  (refine CU (hA) (h := ?_); simp only [z, seval])
  (refine CU (hF) (h := ?_); simp only [z, seval])
  (refine CU (h1) (h := ?_); simp only [z, seval])
  (refine RUNs_draw 0 (by kernel_rfl) ?_; simp only [z, seval])
  simp only [b0, b6, w2, w4, w5, w6, z, seval]
  (refine ⟨by kernel_rfl, ?_⟩)
  have hst : ((2 : Int) == 3) = false := rfl
  refine RUNs_rangeS (pr.length) (fun j (a : Int) => a = if i < j then (i : Int) else -1) (fun j a => [(11, i64 a), (12, i64 j)]) (fun _ _ => []) (-1) ?_ (by simp only [z, seval]; exact wk) rfl ?_
  · rfl
  rintro ⟨j, a, hj, ha⟩
  simp only [z, seval]
  first | refine brk (fun h => ?_) (fun h => ?_) | fail
  · have hlt : j < pr.length := by have := of_decide_eq_true h; omega
    have bj := getMap Run.v pr hlt
    simp only [mv] at bj
    simp only [h, z, seval]
    (refine RUNs_draw 0 (by kernel_rfl) ?_; simp only [z, seval])
    rcases Nat.lt_trichotomy j i with hji | rfl | hji
    · have bj' := hb7 j (by omega) hlt
      simp only [bj, bj', z, seval]
      (refine ⟨by kernel_rfl, ?_⟩)
      simp only [w64s (i := j) (by omega), z, seval]
      (refine NX a ?_ (by rfl) hlt ?_; simp only [z, seval]; exact wk)
      show a = if i < j + 1 then (i : Int) else -1
      rw [ha, if_neg (by omega), if_neg (by omega)]
    · rw [if_neg (by omega)] at ha
      subst ha
      simp only [bi, b7, z, seval]
      (refine ⟨by kernel_rfl, ?_⟩)
      simp only [hst, Bool.and_false, Bool.not_false, w64s (i := j) (by omega), z, seval]
      (refine NX (j : Int) ?_ (by rfl) hlt ?_; simp only [z, seval]; exact wk)
      show (j : Int) = if j < j + 1 then (j : Int) else -1
      rw [if_pos (by omega)]
    · have bj' := hb7 j (by omega) hlt
      simp only [bj, bj', z, seval]
      (refine ⟨by kernel_rfl, ?_⟩)
      simp only [w64s (i := j) (by omega), z, seval]
      (refine NX a ?_ (by rfl) hlt ?_; simp only [z, seval]; exact wk)
      show a = if i < j + 1 then (i : Int) else -1
      rw [ha, if_pos (by omega), if_pos (by omega)]
  · have hjl : j = pr.length := by have := of_decide_eq_false h; omega
    rw [if_pos (by omega)] at ha
    subst ha
    have n0 : decide ((i : Int) < 0) = false := decide_eq_false (by omega)
    simp only [h, n0, bi, z, seval]
    (refine CU (hO) (h := ?_); simp only [z, seval])
    simp only [b8, bi, b7, z, seval]
    (refine RUNs_draw 0 (by kernel_rfl) ?_; simp only [z, seval])
    simp only [bi, b7, b0, z, seval]
    (refine DU (hFr) (h := ?_); simp only [z, seval])
    (refine ⟨by kernel_rfl, ?_⟩)
    refine OPC_ok ?_ ?_
    · exact okMap _ (fun a => rfl) (by rw [List.length_set]; omega)
    have h5 : n < (w.people.set n ⟨pn, pk, pc, pu, pr.set i ⟨1, 2, rpeer, qn, rtheir, rm, rk, rt, 3⟩, pcor⟩).length := by rw [w4]; exact hin
    simp only [b6, h5, if_true, z, seval]
    simp only [e9, z, seval]
    (refine CU (h2) (h := ?_); simp only [z, seval])
    (refine RUNs_freeze 7 0 ?_ (by rfl) ?_ ?_; rotate_left 1; (simp only [z, seval]; exact rfl); simp only [z, seval])
    (refine RUNs_draw 0 (by kernel_rfl) ?_; simp only [z, seval])
    (refine DU (hSame) (h := ?_); simp only [z, seval])
    simp only [c2', c3', d1, d2, b7, w5, z, seval]
    (refine ⟨by kernel_rfl, ?_⟩)
    (refine FINS_done ?_; simp only [z, seval])
end Ch

/- The initiator with run identifiers: a run that was begun. -/
set_option maxRecDepth 100000
set_option maxHeartbeats 4000000
set_option linter.unusedSimpArgs false
set_option linter.unusedVariables false
namespace Ch
open Go Go.Ab
theorem lastMap' {α : Type} (f : α → V) (l : List α) (x : α) : ((l ++ [x]).map f)[l.length]? = some (f x) := by simp
theorem snocLen' {α : Type} (l : List α) (x : α) : (l ++ [x]).length = l.length + 1 := by simp
theorem setMap {α : Type} (f : α → V) {l : List α} {i : Nat} (x : α) (h : i < l.length) : ((l.set i x).map f)[i]? = some (f x) := by simp [h]
def oPart (w : World) (a b : Int) : Part := ⟨(drawW (drawW w).1).2, (drawW w).2, a, b, 0, 0, 0⟩
def oRow (w : World) (a b : Int) : Sld := sealRow (drawW (drawW w).1).1 (personW w a).key 6 (oPart w a b)
def oX (w : World) (a b : Int) : World := ⟨w.conf, ⟨w.draws.list, w.draws.next + 1 + 1 + 1⟩, ⟨w.box.room, w.box.rows ++ [oRow w a b]⟩, ⟨w.net.room, w.net.grams ++ [⟨b, msgWs (oMsg w a b)⟩], w.net.seen ++ [msgWs (oMsg w a b)]⟩, w.people.set a.toNat (oP w a b), w.log ++ [oEv w a b], w.regs, w.leaks⟩
theorem startO_err {w : World} {a b : Int} (h : (startO w a b).2 ≠ 0) : (startO w a b).1 = w := by
  unfold startO at h ⊢
  cases h1 : pairM w.people a b
  · rfl
  cases h2 : (!full w (personW w a) && roomW w 1 1)
  · rfl
  cases h3 : ((oS w a b).2.2 == 0)
  · rfl
  · rw [h1, h2, h3] at h; exact absurd rfl h
theorem startO_ok {w : World} {a b : Int} (hr : Right10 w.people = true) (ha : U a) (h : (startO w a b).2 = 0) : startO w a b = (oX w a b, 0) ∧ pairM w.people a b = true ∧ full w (personW w a) = false ∧ roomW w 1 1 = true ∧ (sealW (drawW (drawW w).1).1 (personW w a).key 6 (oPart w a b)).2.2 = 0 := by
  unfold startO at h ⊢
  cases h1 : pairM w.people a b
  · rw [h1] at h; cases h
  cases h2 : (!full w (personW w a) && roomW w 1 1)
  · rw [h1, h2] at h; cases h
  cases h3 : ((oS w a b).2.2 == 0)
  · rw [h1, h2, h3] at h
    simp only [cond_true, cond_false] at h
    rw [h] at h3; cases h3
  · simp only [Bool.and_eq_true, Bool.not_eq_true'] at h2
    have h3' : (sealW (drawW (drawW w).1).1 (personW w a).key 6 (oPart w a b)).2.2 = 0 := by (have h4 : (oS w a b).2.2 = 0 := by simpa using h3); exact h4
    refine ⟨?_, rfl, h2.1, h2.2, h3'⟩
    simp only [cond_true]
    obtain ⟨hin, _⟩ := (pair_in h1).2.2.2
    have hnm := name_of hr ha hin
    have hs : (oS w a b).1 = sealTo (drawW (drawW w).1).1 (personW w a).key 6 (oPart w a b) := by
      have := (seal_ok h3').1
      show (sealW (drawW (drawW w).1).1 (personW w a).key 6 (oPart w a b)).1 = _
      rw [this]
    have hz := send_to (oZ_ok (w := w) (a := a) (b := b) h2.2)
    have hset : (setM w.people (oP w a b)).1 = w.people.set a.toNat (oP w a b) := by
      have hn : (oP w a b).name = a := hnm
      rw [setM, hn, decide_eq_true hin]; rfl
    have : oZ w a b = oX w a b := by
      rw [oZ, hz.1, sendTo, oY, putP, logW, withW, hs]
      show World.mk _ _ _ _ _ _ _ _ = _
      simp only [sealTo, drawW, hset, oX, oRow]
    rw [this]
theorem open_box {v w : World} (h : v.box = w.box) (k l hh : Int) : openW v k l hh = openW w k l hh := by
  unfold openW; rw [h]
theorem oX_open {w : World} {a b : Int} (h : (sealW (drawW (drawW w).1).1 (personW w a).key 6 (oPart w a b)).2.2 = 0) (k l : Int) : openW (oX w a b) k l (drawW (drawW (drawW w).1).1).2 = bif (personW w a).key == k && 6 == l then (oPart w a b, true) else (zPart, false) := by
  rw [← open_new h k l]
  exact open_box rfl _ _ _
theorem oMsg_box {w : World} {a b : Int} (h : (sealW (drawW (drawW w).1).1 (personW w a).key 6 (oPart w a b)).2.2 = 0) : oMsg w a b = ⟨6, (drawW w).2, a, b, 0, (drawW (drawW (drawW w).1).1).2, 0⟩ := by
  have := (seal_ok h).1
  rw [oMsg]
  show Msg.mk 6 _ a b 0 (sealW (drawW (drawW w).1).1 (personW w a).key 6 (oPart w a b)).2.1 0 = _
  rw [this]
theorem seal_right {w : World} (h : Right07 w.box = true) (key label : Int) (p : Part) : Right07 (sealW w key label p).1.box = true := by
  unfold sealW
  cases ((partPut label p).2 == 0)
  · exact h
  · cases ((boxSeal w.box (drawW w).2 key label (partPut label p).1).2 == 0)
    · exact h
    · exact right_seal h _ _ _ _
theorem oX_right {w : World} {a b : Int} (hb : Right07 w.box = true) (h : (sealW (drawW (drawW w).1).1 (personW w a).key 6 (oPart w a b)).2.2 = 0) : Right07 (oX w a b).box = true := by
  have h1 := seal_right (w := (drawW (drawW w).1).1) hb (personW w a).key 6 (oPart w a b)
  rw [(seal_ok h).1] at h1
  exact h1
theorem has_not {m a b n h : Int} (hn : n ≥ 2147483648) (h1 : a < 10) (h2 : b < 10) (h3 : n ≠ m) (h4 : n ≠ h) : n ∉ msgWs ⟨6, m, a, b, 0, h, 0⟩ := by
  simp [msgWs, tags, hasM, msgWord]
  refine ⟨?_, ?_, ?_, ?_, ?_, ?_, ?_⟩ <;> omega
theorem get_in {l : List Person} {n : Nat} (h : n < l.length) : getP l n = l[n] := by simp only [getP, List.getElem?_eq_getElem h, Option.getD_some]
end Ch

/- The initiator with times: what waits. (Plain part built clean; the law's walk was written before a seat was at hand: not built yet.) -/
set_option maxRecDepth 100000
set_option maxHeartbeats 4000000
set_option linter.unusedSimpArgs false
set_option linter.unusedVariables false
namespace Ch
open Go Go.Ab
def aFin (w : World) (a b : Int) : World := ⟨w.conf, (drawW w).1.draws, w.box, ⟨w.net.room, w.net.grams ++ [⟨0, msgWs (aMsg w a b)⟩], w.net.seen ++ [msgWs (aMsg w a b)]⟩, w.people.set a.toNat (aP w a b), w.log ++ [aEv w a b], w.regs, w.leaks⟩
theorem startN_fin {w : World} {a b : Int} (hr : Right10 w.people = true) (ha : U a) (h : (startN w a b).2 = 0) : startN w a b = (aFin w a b, 0) ∧ pairM w.people a b = true ∧ full w (personW w a) = false := by
  obtain ⟨h1, h2, h3⟩ := startN_done h
  refine ⟨?_, h1, h2⟩
  rw [h3]
  obtain ⟨hin, _⟩ := (pair_in h1).2.2.2
  have hset : (setM w.people (aP w a b)).1 = w.people.set a.toNat (aP w a b) := by
    have hn : (aP w a b).name = a := name_of hr ha hin
    rw [setM, hn, decide_eq_true hin]; rfl
  have e : (aY w a b).people = w.people.set a.toNat (aP w a b) := hset
  have e2 : sendTo (aY w a b) 0 (aMsg w a b) = ⟨w.conf, (drawW w).1.draws, w.box, ⟨w.net.room, w.net.grams ++ [⟨0, msgWs (aMsg w a b)⟩], w.net.seen ++ [msgWs (aMsg w a b)]⟩, (aY w a b).people, w.log ++ [aEv w a b], w.regs, w.leaks⟩ := rfl
  rw [e2, e]; rfl
def gMsg15 (g : Part) : Msg := ⟨3, 0, 0, 0, 0, g.h, 0⟩
def gEv15 (w : World) (me : Int) (g : Part) (i : Nat) : Event := ⟨3, 1, 1, me, (runAt (personW w me).runs i).peer, g.k, g.t, 0, (runAt (personW w me).runs i).mine, (personW w me).clock⟩
def gFin (w : World) (me : Int) (g : Part) (i : Nat) : World := ⟨w.conf, w.draws, w.box, ⟨w.net.room, w.net.grams ++ [⟨(runAt (personW w me).runs i).peer, msgWs (gMsg15 g)⟩], w.net.seen ++ [msgWs (gMsg15 g)]⟩, w.people.set me.toNat (setRun (personW w me) i (tookR (runAt (personW w me).runs i) g)), w.log ++ [gEv15 w me g i], w.regs, w.leaks⟩
theorem grantN_fin {w : World} {me : Int} {m : Msg} (hr : Right10 w.people = true) (hme : U me) (h : (grantN w me m).2 = 0) : ∃ i, aI w me m = some i ∧ (aG w me m).2 = true ∧ freshM (personW w me).clock (aG w me m).1.t w.conf.window = true ∧ grantN w me m = (gFin w me (aG w me m).1 i, 0) := by
  obtain ⟨i, h1, h2, h3, h4⟩ := grantN_done h
  refine ⟨i, h1, h2, h3, ?_⟩
  rw [h4]
  have hin := has_runs (grant_run h1).1
  have e := com_people hr hme hin i (tookR (runAt (personW w me).runs i) (aG w me m).1) (gEv15 w me (aG w me m).1 i)
  have e1 : (aT w me (aG w me m).1 i).people = w.people.set me.toNat (setRun (personW w me) i (tookR (runAt (personW w me).runs i) (aG w me m).1)) := e
  have e2 : sendTo (aT w me (aG w me m).1 i) (runAt (personW w me).runs i).peer (gMsg15 (aG w me m).1) = ⟨w.conf, w.draws, w.box, ⟨w.net.room, w.net.grams ++ [⟨(runAt (personW w me).runs i).peer, msgWs (gMsg15 (aG w me m).1)⟩], w.net.seen ++ [msgWs (gMsg15 (aG w me m).1)]⟩, (aT w me (aG w me m).1 i).people, w.log ++ [gEv15 w me (aG w me m).1 i], w.regs, w.leaks⟩ := rfl
  show (sendTo (aT w me (aG w me m).1 i) (runAt (personW w me).runs i).peer (gMsg15 (aG w me m).1), (0 : Int)) = _
  rw [e2, e1]; rfl
end Ch

/- The initiator with times: what waits. -/
set_option maxRecDepth 100000
set_option maxHeartbeats 4000000
set_option linter.unusedSimpArgs false
set_option linter.unusedVariables false
namespace Ch
open Go Go.Ab
theorem NsaWaits_law (w : World) (hw : w.ok) (a : Int) (ha : U a) (b : Int) (hb : U b) (me : Int) (hme : U me) (m : Msg) (hm : m.ok) : Spec PP GG 10 [w.v, u32 a, u32 b, u32 me, m.v] (.bool true) [] := by
  have hA := L15.awake_spec
  have hF := fits15_spec w hw me hme m hm 2
  by_cases hf : fitsK w me m 2 = false
  · rw [hf] at hF
    refine Spec.of_runs Go.Proofs.Tryz.f10 Go.Proofs.Tryz.func10 rfl ?_
    intro w0 M0
    simp only [Go.Proofs.Tryz.f10, List.replicate, List.cons_append, List.nil_append, z, seval]
    (refine CU (hA) (h := ?_); simp only [z, seval])
    (refine CU (hF) (h := ?_); simp only [z, seval])
    (refine CU (hA) (h := ?_); simp only [z, seval])
    (refine FINS_done ?_; simp only [z, seval])
  replace hf : fitsK w me m 2 = true := by simpa using hf
  rw [hf] at hF
  simp only [fitsK, Bool.and_eq_true, decide_eq_true_eq] at hf
  obtain ⟨hf1, hf2, hf3, hf4, -⟩ := hf
  have hfit := fit_of_few hw hf1 hf2
  have hform := form_iff.1 hf2
  have hSame := Same12 w (hfit.toLim (by decide))
  have h1 := StartN_spec w a b hfit (by decide) (by decide) ha hb hform.right hform.box
  have h2 := GrantN_spec w me m hfit (by decide) (by decide) hme hform.right hform.box
  clear hf1 hf2 hm
  by_cases hs : (startN w a b).2 = 0
  rotate_left 1
  · by_cases hg : (grantN w me m).2 = 0
    rotate_left 1
    · have hg : ((grantN w me m).2 == 0) = false := by simpa using hg
      rw [grantN_err (show (grantN w me m).2 ≠ 0 by intro h; rw [h] at hg; cases hg)] at h2
      have hs : ((startN w a b).2 == 0) = false := by simpa using hs
      rw [startN_err (show (startN w a b).2 ≠ 0 by intro h; rw [h] at hs; cases hs)] at h1
      clear hw hfit hform
      refine Spec.of_runs Go.Proofs.Tryz.f10 Go.Proofs.Tryz.func10 rfl ?_
      intro w0 M0
      simp only [Go.Proofs.Tryz.f10, List.replicate, List.cons_append, List.nil_append, z, seval]
      (refine CU (hA) (h := ?_); simp only [z, seval])
      (refine CU (hF) (h := ?_); simp only [z, seval])
      (refine CU (h1) (h := ?_); simp only [z, seval])
      simp only [hs, z, seval]
      (refine CU (hSame) (h := ?_); simp only [z, seval])
      (refine CU (h2) (h := ?_); simp only [z, seval])
      simp only [hg, z, seval]
      (refine CU (hSame) (h := ?_); simp only [z, seval])
      (refine FINS_done ?_; simp only [z, seval])
    · obtain ⟨i, o1, o2, o3, o4⟩ := grantN_fin hform.right hme hg
      obtain ⟨hi, r1, r2, r3, r4, r5⟩ := grant_run o1
      have hO := rOpen_spec w hfit (by decide) hform.box (personW w me).key 2 m.box
      rw [← aG] at hO
      have hFr := rFresh_spec (personW w me).clock (aG w me m).1.t w.conf.window (personW_ok hfit me).2.2.1 (openW_ok hfit _ _ _).2.2.2.2.2.1 hfit.ok.1.1
      rw [o3] at hFr
      clear hg o1 o3
      rw [o4] at h2
      clear o4
      obtain ⟨n, rfl⟩ := Int.eq_ofNat_of_zero_le hme.1
      have hin : n < w.people.length := by omega
      have hp : personW w (n : Int) = w.people[n] := get_in9 hin
      have v0 : (personW w (n : Int)).runs.length ≤ 1048576 := personW_runs hfit _
      simp only [gFin, gMsg15, Int.toNat_natCast] at h2
      generalize gEv15 w n (aG w n m).1 i = ev at h2
      have c0 := getMap Person.v w.people hin
      rw [← hp] at c0
      have hgr := runAt_get hi
      rw [hgr] at r1 r2 r3 r4 r5 h2
      clear hgr
      generalize hP2 : personW w (n : Int) = Q at *
      obtain ⟨pn, pk, pc, pu, pr, pcor⟩ := Q
      simp only at hi v0 r1 r2 r3 r4 r5 hO hFr h2
      have ci := getMap Run.v pr hi
      generalize hr0 : pr[i] = r0 at *
      obtain ⟨rproto, rrole, rpeer, rmine, rtheir, rm, rk, rt, rstate⟩ := r0
      simp only at r1 r2 r3 r4 r5
      subst r1 r2 r3
      generalize hq : aG w n m = q at *
      obtain ⟨⟨qn, qm, qa, qb, qk, qt, qh⟩, q2⟩ := q
      simp only at o2 r4 r5 hO hFr h2
      subst o2 r4 r5
      simp only [setRun, tookR] at h2
      have c4 : (w.people.set n ⟨pn, pk, pc, pu, pr.set i ⟨1, 1, rpeer, rmine, rtheir, rm, qk, qt, 2⟩, pcor⟩).length = w.people.length := List.length_set
      have c5 : (pr.set i ⟨1, 1, rpeer, rmine, rtheir, rm, qk, qt, 2⟩).length = pr.length := List.length_set
      have c6 := setMap9 Person.v ⟨pn, pk, pc, pu, pr.set i ⟨1, 1, rpeer, rmine, rtheir, rm, qk, qt, 2⟩, pcor⟩ hin
      have c7 := setMap9 Run.v (⟨1, 1, rpeer, rmine, rtheir, rm, qk, qt, 2⟩ : Run) hi
      have hc7 : ∀ j, j ≠ i → (hj : j < pr.length) → ((pr.set i ⟨1, 1, rpeer, rmine, rtheir, rm, qk, qt, 2⟩).map Run.v)[j]? = some (Run.v pr[j]) := fun j hji hj => by
        rw [getMap Run.v _ (by rw [List.length_set]; exact hj), List.getElem_set, if_neg (fun e => hji e.symm)]
      simp only [mv] at c0 ci c6 c7 hc7
      have hs : ((startN w a b).2 == 0) = false := by simpa using hs
      rw [startN_err (show (startN w a b).2 ≠ 0 by intro h; rw [h] at hs; cases hs)] at h1
      clear hw hfit hform
      have hst : ((1 : Int) == 2) = false := rfl
      refine Spec.of_runs Go.Proofs.Tryz.f10 Go.Proofs.Tryz.func10 rfl ?_
      intro w0 M0
      simp only [Go.Proofs.Tryz.f10, List.replicate, List.cons_append, List.nil_append, z, seval]
      (refine CU (hA) (h := ?_); simp only [z, seval])
      (refine CU (hF) (h := ?_); simp only [z, seval])
      (refine CU (h1) (h := ?_); simp only [z, seval])
      simp only [hs, z, seval]
      (refine CU (hSame) (h := ?_); simp only [z, seval])
      (refine CU (h2) (h := ?_); simp only [z, seval])
      (refine RUNs_draw 1 (by kernel_rfl) ?_; simp only [z, seval])
      simp only [c0, z, seval]
      (refine DU (hO) (h := ?_); simp only [z, seval])
      (refine ⟨by kernel_rfl, ?_⟩)
      refine RUNs_rangeS (pr.length) (fun j (_ : Unit) => j ≤ i) (fun j _ => [(20, i64 j)]) (fun _ _ => []) () ?_ (by simp only [z, seval]; exact wk) rfl ?_
      · exact Nat.zero_le _
      rintro ⟨j, _, hj, hji⟩
      simp only [z, seval]
      simp only [c0, z, seval]
      first | refine brk (fun h => ?_) (fun h => ?_) | fail
      · have hlt : j < pr.length := by have := of_decide_eq_true h; omega
        have bj := getMap Run.v pr hlt
        simp only [mv] at bj
        simp only [h, c0, c6, z, seval]
        rcases Nat.lt_or_ge j i with hji' | hji'
        · have bj' := hc7 j (by omega) hlt
          simp only [bj, bj', c0, c6, w64s (i := j) (by omega), z, seval]
          (refine NX () ?_ (by rfl) hlt ?_; simp only [z, seval]; exact wk)
          exact hji'
        · obtain rfl : j = i := by omega
          simp only [ci, c7, c0, c6, hst, Bool.and_false, Bool.not_false, z, seval]
          (refine RUNs_draw 0 (by kernel_rfl) ?_; simp only [z, seval])
          simp only [c0, z, seval]
          (refine DU (hFr) (h := ?_); simp only [z, seval])
          (refine ⟨by kernel_rfl, ?_⟩)
          (refine FINS_done ?_; simp only [z, seval])
      · exfalso
        have := of_decide_eq_false h
        omega
  · by_cases hg : (grantN w me m).2 = 0
    rotate_left 1
    · have hg : ((grantN w me m).2 == 0) = false := by simpa using hg
      rw [grantN_err (show (grantN w me m).2 ≠ 0 by intro h; rw [h] at hg; cases hg)] at h2
      obtain ⟨q1, q2, q3⟩ := startN_fin hform.right ha hs
      obtain ⟨p1, p2, p3, p4, p5⟩ := pair_in q2
      have hmm := aMsg_ok hfit ha hb
      have hmay : msgMay (aMsg w a b) = true := may1 _ _ _
      have hG := rGet03_spec (msgWs (aMsg w a b)) (by have := msgPut_U hmm; rw [msgPut, hmay] at this; exact this) (by have := msgWs_len (aMsg w a b); omega)
      rw [msgGet_put hmay] at hG
      have htop1 : 2147483648 ≤ (drawW w).2 := drawW_top hfit
      have u0 : (personW w a).runs.length ≤ 1048576 := personW_runs hfit _
      have g1 := hfit.grams
      have g3 := hfit.people
      clear hs q2 q3 hmay hmm
      rw [q1] at h1
      clear q1
      obtain ⟨a, rfl⟩ := Int.eq_ofNat_of_zero_le ha.1
      simp only [aFin, aP, pushRun, aRun, Int.toNat_natCast] at h1
      simp only [aMsg] at h1 hG
      simp only [Int.toNat_natCast] at p4
      have hpa : personW w (a : Int) = w.people[a] := get_in p4
      rw [hpa] at h1 u0
      generalize aEv w a b = ev1 at h1
      have b0 := getMap Person.v w.people p4
      generalize hP : w.people[a] = P at *
      generalize hms : msgWs ⟨1, 0, (a : Int), b, (drawW w).2, 0, 0⟩ = ws at *
      generalize hd1 : (drawW w).2 = d1 at *
      have b1 := lastMap' Gram.v w.net.grams ⟨0, ws⟩
      have b2 := snocLen' w.net.grams ⟨0, ws⟩
      have b4 := lastMap' Run.v P.runs ⟨1, 1, b, d1, 0, 0, 0, 0, 1⟩
      have b5 := snocLen' P.runs ⟨1, 1, b, d1, 0, 0, 0, 0, 1⟩
      have b6 := setMap Person.v ⟨P.name, P.key, P.clock, P.used, P.runs ++ [⟨1, 1, b, d1, 0, 0, 0, 0, 1⟩], P.corrupt⟩ p4
      have w1 : IntKind.i64.wrap ((w.net.grams.length : Int) + 1) = ((w.net.grams.length + 1 : Nat) : Int) := w64s (by omega)
      have w3 : IntKind.i64.wrap ((P.runs.length : Int) + 1) = ((P.runs.length + 1 : Nat) : Int) := w64s (by omega)
      have w4 : (w.people.set a ⟨P.name, P.key, P.clock, P.used, P.runs ++ [⟨1, 1, b, d1, 0, 0, 0, 0, 1⟩], P.corrupt⟩).length = w.people.length := List.length_set
      simp only [mv] at b0 b1 b4 b6
      have t1 : decide (d1 ≥ 2147483648) = true := decide_eq_true htop1
      have t2 : decide (d1 < 2147483648) = false := decide_eq_false (by omega)
      clear hw hfit hform
      refine Spec.of_runs Go.Proofs.Tryz.f10 Go.Proofs.Tryz.func10 rfl ?_
      intro w0 M0
      simp only [Go.Proofs.Tryz.f10, List.replicate, List.cons_append, List.nil_append, z, seval]
      (refine CU (hA) (h := ?_); simp only [z, seval])
      (refine CU (hF) (h := ?_); simp only [z, seval])
      (refine CU (h1) (h := ?_); simp only [z, seval])
      (refine RUNs_draw 0 (by kernel_rfl) ?_; simp only [z, seval])
      simp only [b0, b1, b2, b4, b5, b6, w1, w3, w4, z, seval]
      (refine ⟨by kernel_rfl, ?_⟩)
      (refine RUNs_draw 1 (by kernel_rfl) ?_; simp only [z, seval])
      simp only [b0, b1, b2, b4, b5, b6, w1, w3, w4, z, seval]
      (refine ⟨by kernel_rfl, ?_⟩)
      (refine CU (hG) (h := ?_); simp only [z, seval])
      simp only [t1, t2, z, seval]
      (refine CU (h2) (h := ?_); simp only [z, seval])
      simp only [hg, z, seval]
      (refine CU (hSame) (h := ?_); simp only [z, seval])
      (refine FINS_done ?_; simp only [z, seval])
    · obtain ⟨i, o1, o2, o3, o4⟩ := grantN_fin hform.right hme hg
      obtain ⟨hi, r1, r2, r3, r4, r5⟩ := grant_run o1
      have hO := rOpen_spec w hfit (by decide) hform.box (personW w me).key 2 m.box
      rw [← aG] at hO
      have hFr := rFresh_spec (personW w me).clock (aG w me m).1.t w.conf.window (personW_ok hfit me).2.2.1 (openW_ok hfit _ _ _).2.2.2.2.2.1 hfit.ok.1.1
      rw [o3] at hFr
      clear hg o1 o3
      rw [o4] at h2
      clear o4
      obtain ⟨n, rfl⟩ := Int.eq_ofNat_of_zero_le hme.1
      have hin : n < w.people.length := by omega
      have hp : personW w (n : Int) = w.people[n] := get_in9 hin
      have v0 : (personW w (n : Int)).runs.length ≤ 1048576 := personW_runs hfit _
      simp only [gFin, gMsg15, Int.toNat_natCast] at h2
      generalize gEv15 w n (aG w n m).1 i = ev at h2
      have c0 := getMap Person.v w.people hin
      rw [← hp] at c0
      have hgr := runAt_get hi
      rw [hgr] at r1 r2 r3 r4 r5 h2
      clear hgr
      generalize hP2 : personW w (n : Int) = Q at *
      obtain ⟨pn, pk, pc, pu, pr, pcor⟩ := Q
      simp only at hi v0 r1 r2 r3 r4 r5 hO hFr h2
      have ci := getMap Run.v pr hi
      generalize hr0 : pr[i] = r0 at *
      obtain ⟨rproto, rrole, rpeer, rmine, rtheir, rm, rk, rt, rstate⟩ := r0
      simp only at r1 r2 r3 r4 r5
      subst r1 r2 r3
      generalize hq : aG w n m = q at *
      obtain ⟨⟨qn, qm, qa, qb, qk, qt, qh⟩, q2⟩ := q
      simp only at o2 r4 r5 hO hFr h2
      subst o2 r4 r5
      simp only [setRun, tookR] at h2
      have c4 : (w.people.set n ⟨pn, pk, pc, pu, pr.set i ⟨1, 1, rpeer, rmine, rtheir, rm, qk, qt, 2⟩, pcor⟩).length = w.people.length := List.length_set
      have c5 : (pr.set i ⟨1, 1, rpeer, rmine, rtheir, rm, qk, qt, 2⟩).length = pr.length := List.length_set
      have c6 := setMap9 Person.v ⟨pn, pk, pc, pu, pr.set i ⟨1, 1, rpeer, rmine, rtheir, rm, qk, qt, 2⟩, pcor⟩ hin
      have c7 := setMap9 Run.v (⟨1, 1, rpeer, rmine, rtheir, rm, qk, qt, 2⟩ : Run) hi
      have hc7 : ∀ j, j ≠ i → (hj : j < pr.length) → ((pr.set i ⟨1, 1, rpeer, rmine, rtheir, rm, qk, qt, 2⟩).map Run.v)[j]? = some (Run.v pr[j]) := fun j hji hj => by
        rw [getMap Run.v _ (by rw [List.length_set]; exact hj), List.getElem_set, if_neg (fun e => hji e.symm)]
      simp only [mv] at c0 ci c6 c7 hc7
      obtain ⟨q1, q2, q3⟩ := startN_fin hform.right ha hs
      obtain ⟨p1, p2, p3, p4, p5⟩ := pair_in q2
      have hmm := aMsg_ok hfit ha hb
      have hmay : msgMay (aMsg w a b) = true := may1 _ _ _
      have hG := rGet03_spec (msgWs (aMsg w a b)) (by have := msgPut_U hmm; rw [msgPut, hmay] at this; exact this) (by have := msgWs_len (aMsg w a b); omega)
      rw [msgGet_put hmay] at hG
      have htop1 : 2147483648 ≤ (drawW w).2 := drawW_top hfit
      have u0 : (personW w a).runs.length ≤ 1048576 := personW_runs hfit _
      have g1 := hfit.grams
      have g3 := hfit.people
      clear hs q2 q3 hmay hmm
      rw [q1] at h1
      clear q1
      obtain ⟨a, rfl⟩ := Int.eq_ofNat_of_zero_le ha.1
      simp only [aFin, aP, pushRun, aRun, Int.toNat_natCast] at h1
      simp only [aMsg] at h1 hG
      simp only [Int.toNat_natCast] at p4
      have hpa : personW w (a : Int) = w.people[a] := get_in p4
      rw [hpa] at h1 u0
      generalize aEv w a b = ev1 at h1
      have b0 := getMap Person.v w.people p4
      generalize hP : w.people[a] = P at *
      generalize hms : msgWs ⟨1, 0, (a : Int), b, (drawW w).2, 0, 0⟩ = ws at *
      generalize hd1 : (drawW w).2 = d1 at *
      have b1 := lastMap' Gram.v w.net.grams ⟨0, ws⟩
      have b2 := snocLen' w.net.grams ⟨0, ws⟩
      have b4 := lastMap' Run.v P.runs ⟨1, 1, b, d1, 0, 0, 0, 0, 1⟩
      have b5 := snocLen' P.runs ⟨1, 1, b, d1, 0, 0, 0, 0, 1⟩
      have b6 := setMap Person.v ⟨P.name, P.key, P.clock, P.used, P.runs ++ [⟨1, 1, b, d1, 0, 0, 0, 0, 1⟩], P.corrupt⟩ p4
      have w1 : IntKind.i64.wrap ((w.net.grams.length : Int) + 1) = ((w.net.grams.length + 1 : Nat) : Int) := w64s (by omega)
      have w3 : IntKind.i64.wrap ((P.runs.length : Int) + 1) = ((P.runs.length + 1 : Nat) : Int) := w64s (by omega)
      have w4 : (w.people.set a ⟨P.name, P.key, P.clock, P.used, P.runs ++ [⟨1, 1, b, d1, 0, 0, 0, 0, 1⟩], P.corrupt⟩).length = w.people.length := List.length_set
      simp only [mv] at b0 b1 b4 b6
      have t1 : decide (d1 ≥ 2147483648) = true := decide_eq_true htop1
      have t2 : decide (d1 < 2147483648) = false := decide_eq_false (by omega)
      clear hw hfit hform
      have hst : ((1 : Int) == 2) = false := rfl
      refine Spec.of_runs Go.Proofs.Tryz.f10 Go.Proofs.Tryz.func10 rfl ?_
      intro w0 M0
      simp only [Go.Proofs.Tryz.f10, List.replicate, List.cons_append, List.nil_append, z, seval]
      (refine CU (hA) (h := ?_); simp only [z, seval])
      (refine CU (hF) (h := ?_); simp only [z, seval])
      (refine CU (h1) (h := ?_); simp only [z, seval])
      (refine RUNs_draw 0 (by kernel_rfl) ?_; simp only [z, seval])
      simp only [b0, b1, b2, b4, b5, b6, w1, w3, w4, z, seval]
      (refine ⟨by kernel_rfl, ?_⟩)
      (refine RUNs_draw 1 (by kernel_rfl) ?_; simp only [z, seval])
      simp only [b0, b1, b2, b4, b5, b6, w1, w3, w4, z, seval]
      (refine ⟨by kernel_rfl, ?_⟩)
      (refine CU (hG) (h := ?_); simp only [z, seval])
      simp only [t1, t2, z, seval]
      (refine CU (h2) (h := ?_); simp only [z, seval])
      (refine RUNs_draw 1 (by kernel_rfl) ?_; simp only [z, seval])
      simp only [c0, z, seval]
      (refine DU (hO) (h := ?_); simp only [z, seval])
      (refine ⟨by kernel_rfl, ?_⟩)
      refine RUNs_rangeS (pr.length) (fun j (_ : Unit) => j ≤ i) (fun j _ => [(20, i64 j)]) (fun _ _ => []) () ?_ (by simp only [z, seval]; exact wk) rfl ?_
      · exact Nat.zero_le _
      rintro ⟨j, _, hj, hji⟩
      simp only [z, seval]
      simp only [c0, z, seval]
      first | refine brk (fun h => ?_) (fun h => ?_) | fail
      · have hlt : j < pr.length := by have := of_decide_eq_true h; omega
        have bj := getMap Run.v pr hlt
        simp only [mv] at bj
        simp only [h, c0, c6, z, seval]
        rcases Nat.lt_or_ge j i with hji' | hji'
        · have bj' := hc7 j (by omega) hlt
          simp only [bj, bj', c0, c6, w64s (i := j) (by omega), z, seval]
          (refine NX () ?_ (by rfl) hlt ?_; simp only [z, seval]; exact wk)
          exact hji'
        · obtain rfl : j = i := by omega
          simp only [ci, c7, c0, c6, hst, Bool.and_false, Bool.not_false, z, seval]
          (refine RUNs_draw 0 (by kernel_rfl) ?_; simp only [z, seval])
          simp only [c0, z, seval]
          (refine DU (hFr) (h := ?_); simp only [z, seval])
          (refine ⟨by kernel_rfl, ?_⟩)
          (refine FINS_done ?_; simp only [z, seval])
      · exfalso
        have := of_decide_eq_false h
        omega
end Ch

/- All texts so far, in one order, go on. -/
