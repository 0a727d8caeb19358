/- The initiator with times, of whatever world. -/
import Derived.Test.YtmgphjfpccddiaaGreatDoorW11
set_option maxRecDepth 100000
set_option maxHeartbeats 4000000
set_option linter.unusedSimpArgs false
set_option linter.unusedVariables false
namespace Ch
open Go Go.Ab
namespace L15
def w0 : World := L17.w0
def wa : World := (startN w0 1 2).1
def pg : Part := ⟨2147483661, 0, 0, 2, 70, 3, 9⟩
def wg : World := (sealW wa (getP w0.people 1).key 2 pg).1
def m0 : Msg := ⟨2, 0, 0, 0, 0, 2147483662, 0⟩
def wb : World := (grantN wg 1 m0).1
def pe : Part := ⟨80, 0, 0, 0, 0, 0, 0⟩
def wc : World := (sealW wb 70 4 pe).1
def m1 : Msg := ⟨4, 0, 0, 0, 0, 2147483663, 0⟩
def wd : World := (echoN wc 1 m1).1
theorem U0' : U 0 := by decide
theorem U1 : U 1 := by decide
theorem U2 : U 2 := by decide
theorem w0_fit : w0.fit 21 := L17.w0_fit
theorem pg_ok : pg.ok := by unfold Part.ok; decide
theorem pe_ok : pe.ok := by unfold Part.ok; decide
theorem wa_fit : wa.fit 24 := startN_fit w0_fit (by decide) (by decide) U1 U2
theorem wg_fit : wg.fit 25 := fit_seal wa_fit (by decide) (by decide) (getP_ok w0_fit 1).2.1 (by decide) pg_ok
theorem wb_fit : wb.fit 27 := grantN_fit wg_fit (by decide) (by decide) U1 m0
theorem wc_fit : wc.fit 28 := fit_seal wb_fit (by decide) (by decide) (by decide) (by decide) pe_ok
theorem wd_fit : wd.fit 31 := echoN_fit wc_fit (by decide) (by decide) U1 m1
theorem g0 : startN w0 1 2 = (wa, 0) := by
  have : (startN w0 1 2).2 = 0 := by decide +kernel
  rw [← this]; rfl
theorem g1 : (startN w0 1 0).2 = 5 := by decide +kernel
theorem g2 : sealW wa (getP w0.people 1).key 2 pg = (wg, 2147483662, 0) := by
  have : (sealW wa (getP w0.people 1).key 2 pg).2 = (2147483662, 0) := by decide +kernel
  rw [← this]; rfl
theorem g3 : grantN wg 1 m0 = (wb, 0) := by
  have : (grantN wg 1 m0).2 = 0 := by decide +kernel
  rw [← this]; rfl
theorem g4 : (grantN wg 2 m0).2 = 6 := by decide +kernel
theorem g5 : (grantN wb 1 m0).2 = 9 := by decide +kernel
theorem g6 : sealW wb 70 4 pe = (wc, 2147483663, 0) := by
  have : (sealW wb 70 4 pe).2 = (2147483663, 0) := by decide +kernel
  rw [← this]; rfl
theorem g7 : echoN wc 1 m1 = (wd, 0) := by
  have : (echoN wc 1 m1).2 = 0 := by decide +kernel
  rw [← this]; rfl
theorem g8 : (echoN wd 1 m1).2 = 6 := by decide +kernel
theorem wd_log : ∃ e f, wd.log = [e, f, ⟨4, 1, 1, 1, 2, 70, 3, 0, 80, 0⟩] := ⟨_, _, rfl⟩
theorem r0 : Right10 w0.people = true := by decide +kernel
theorem rg : Right10 wg.people = true := by decide +kernel
theorem rb : Right10 wb.people = true := by decide +kernel
theorem rc : Right10 wc.people = true := by decide +kernel
theorem rd : Right10 wd.people = true := by decide +kernel
theorem b0 : Right07 w0.box = true := by decide +kernel
theorem bg : Right07 wg.box = true := by decide +kernel
theorem bb : Right07 wb.box = true := by decide +kernel
theorem l1 : 1 < w0.people.length := by decide +kernel
theorem k1 : (getP w0.people 1).key = (w0.people[1]'l1).key := by kernel_rfl
theorem awake_spec : Spec PP GG 26 [] (.bool true) [] := by
  have hN : Spec PP GG 43 [L17.c0.v, wordsV [11, 12, 13, 14, 15, 16, 17]] w0.v [] := New12_spec L17.c0 2 2 (by decide) (by decide) rfl rfl [11, 12, 13, 14, 15, 16, 17]
  have hA := StartN_spec w0 1 2 w0_fit (by decide) (by decide) U1 U2 r0 b0
  have hB := StartN_spec w0 1 0 w0_fit (by decide) (by decide) U1 U0' r0 b0
  have hS := rSeal_spec wa wa_fit (by decide) (getP w0.people 1).key 2 pg
  have hC := GrantN_spec wg 1 m0 wg_fit (by decide) (by decide) U1 rg bg
  have hD := GrantN_spec wg 2 m0 wg_fit (by decide) (by decide) U2 rg bg
  have hE := GrantN_spec wb 1 m0 wb_fit (by decide) (by decide) U1 rb bb
  have hT := rSeal_spec wb wb_fit (by decide) 70 4 pe
  have hF := EchoN_spec wc 1 m1 wc_fit (by decide) (by decide) U1 rc
  have hG := EchoN_spec wd 1 m1 wd_fit (by decide) (by decide) U1 rd
  rw [g0] at hA
  rw [g1] at hB
  rw [g2] at hS
  rw [g3] at hC
  rw [g4] at hD
  rw [g5] at hE
  rw [g6] at hT
  rw [g7] at hF
  rw [g8] at hG
  rw [k1] at hS
  simp only [pg] at hS
  simp only [pe] at hT
  simp only [m0] at hC hD hE
  simp only [m1] at hF hG
  obtain ⟨e0, e1, hl⟩ := wd_log
  refine Spec.of_runs Go.Proofs.Tryz.f26 Go.Proofs.Tryz.func26 rfl ?_
  intro w0 M0
  simp only [Go.Proofs.Tryz.f26, List.replicate, List.cons_append, List.nil_append, z, seval]
  (refine CALLS_in (fn := Go.Proofs.Tryz.f75) Go.Proofs.Tryz.func75 rfl (by kernel_rfl) ?_; simp only [Go.Proofs.Tryz.f75, List.replicate, List.cons_append, List.nil_append, z, seval])
  (refine CU (hN) (h := ?_); simp only [z, seval])
  (refine CU (hA) (h := ?_); simp only [z, seval])
  (refine CU (hB) (h := ?_); simp only [z, seval])
  first | simp only [getMap Person.v L15.w0.people l1, z, seval] | ((refine RUNs_draw 1 (by kernel_rfl) ?_; simp only [z, seval]); simp only [getMap Person.v L15.w0.people l1, z, seval])
  first | (refine CU (hS) (h := ?_); simp only [z, seval]) | ((refine DU (hS) (h := ?_); simp only [z, seval]); (refine ⟨by kernel_rfl, ?_⟩))
  (refine CU (hC) (h := ?_); simp only [z, seval])
  (refine CU (hD) (h := ?_); simp only [z, seval])
  (refine CU (hE) (h := ?_); simp only [z, seval])
  (refine CU (hT) (h := ?_); simp only [z, seval])
  (refine CU (hF) (h := ?_); simp only [z, seval])
  (refine CU (hG) (h := ?_); simp only [z, seval])
  simp only [hl, List.map_cons, List.map_nil, z, seval]
  (refine FINS_done ?_; simp only [z, seval])
end L15
theorem fits15_spec (w : World) (hw : w.ok) (me : Int) (hme : U me) (m : Msg) (hm : m.ok) (kind : Int) : Spec PP GG 31 [w.v, u32 me, m.v, u32 kind] (.bool (fitsK w me m kind)) [] := by
  have hL := Lim_of_ok hw
  have h1 := Few12_spec w hL
  have h2 := Form12_spec w hL
  have h3 := rMay_spec m hm
  have q1 := hme.1
  have q2 := hme.2
  have q3 := hw.2.2.2.2.1.1
  clear hw hm hL
  refine Spec.of_runs Go.Proofs.Tryz.f31 Go.Proofs.Tryz.func31 rfl ?_
  intro w0 M0
  simp only [Go.Proofs.Tryz.f31, List.replicate, List.cons_append, List.nil_append, z, seval]
  (refine CU (h1) (h := ?_); simp only [z, seval])
  cases c1 : Few12 w with
  | false =>
    simp only [z, seval]
    (refine FINS_done ?_; simp only [z, seval])
    simp only [fitsK, c1, Bool.false_and]
  | true =>
  simp only [z, seval]
  (refine CU (h2) (h := ?_); simp only [z, seval])
  cases c2 : Form12 w with
  | false =>
    simp only [z, seval]
    (refine FINS_done ?_; simp only [z, seval])
    simp only [fitsK, c1, c2, Bool.true_and, Bool.false_and]
  | true =>
  simp only [z, seval]
  cases c3 : decide (me ≥ 1) with
  | false =>
    simp only [c3, z, seval]
    (refine FINS_done ?_; simp only [z, seval])
    simp only [fitsK, c1, c2, c3, Bool.true_and, Bool.false_and]
  | true =>
  simp only [c3, wu64 (n := me) (by omega) (by omega), wu64 (n := (w.people.length : Int)) (by omega) (by omega), z, seval]
  cases c4 : decide (me < (w.people.length : Int)) with
  | false =>
    simp only [c4, z, seval]
    (refine FINS_done ?_; simp only [z, seval])
    simp only [fitsK, c1, c2, c3, c4, Bool.true_and, Bool.false_and]
  | true =>
  simp only [c4, z, seval]
  cases c5 : (m.kind == kind) with
  | false =>
    simp only [c5, z, seval]
    (refine FINS_done ?_; simp only [z, seval])
    simp only [fitsK, c1, c2, c3, c4, c5, Bool.true_and, Bool.false_and]
  | true =>
  simp only [c5, z, seval]
  (refine CU (h3) (h := ?_); simp only [z, seval])
  (refine FINS_done ?_; simp only [z, seval])
  simp only [fitsK, c1, c2, c3, c4, c5, Bool.true_and]
theorem NsaStarts_law (w : World) (hw : w.ok) (a : Int) (ha : U a) (b : Int) (hb : U b) : Spec PP GG 7 [w.v, u32 a, u32 b] (.bool true) [] := by
  have hA := L15.awake_spec
  have hL := Lim_of_ok hw
  have hF1 := Few12_spec w hL
  have hF2 := Form12_spec w hL
  clear hL
  cases c1 : Few12 w with
  | false =>
    rw [c1] at hF1
    refine Spec.of_runs Go.Proofs.Tryz.f7 Go.Proofs.Tryz.func7 rfl ?_
    intro w0 M0
    simp only [Go.Proofs.Tryz.f7, List.replicate, List.cons_append, List.nil_append, z, seval]
    (refine CU (hA) (h := ?_); simp only [z, seval])
    (refine CU (hF1) (h := ?_); simp only [z, seval])
    (refine CU (hA) (h := ?_); simp only [z, seval])
    (refine FINS_done ?_; simp only [z, seval])
  | true =>
  rw [c1] at hF1
  cases c2 : Form12 w with
  | false =>
    rw [c2] at hF2
    refine Spec.of_runs Go.Proofs.Tryz.f7 Go.Proofs.Tryz.func7 rfl ?_
    intro w0 M0
    simp only [Go.Proofs.Tryz.f7, List.replicate, List.cons_append, List.nil_append, z, seval]
    (refine CU (hA) (h := ?_); simp only [z, seval])
    (refine CU (hF1) (h := ?_); simp only [z, seval])
    (refine CU (hF2) (h := ?_); simp only [z, seval])
    (refine CU (hA) (h := ?_); simp only [z, seval])
    (refine FINS_done ?_; simp only [z, seval])
  | true =>
    rw [c2] at hF2
    have hfit := fit_of_few hw c1 c2
    have hform := form_iff.1 c2
    have h1 := StartN_spec w a b hfit (by decide) (by decide) ha hb hform.right hform.box
    have h2 := rStartN_spec w a b hfit (by decide) (by decide) ha hb hform.right
    have h3 := Same12 (startN w a b).1 ((startN_fit hfit (by decide) (by decide) ha hb).toLim (by decide))
    clear hw hfit hform
    refine Spec.of_runs Go.Proofs.Tryz.f7 Go.Proofs.Tryz.func7 rfl ?_
    intro w0 M0
    simp only [Go.Proofs.Tryz.f7, List.replicate, List.cons_append, List.nil_append, z, seval]
    (refine CU (hA) (h := ?_); simp only [z, seval])
    (refine CU (hF1) (h := ?_); simp only [z, seval])
    (refine CU (hF2) (h := ?_); simp only [z, seval])
    (refine CU (h1) (h := ?_); simp only [z, seval])
    (refine CU (h2) (h := ?_); simp only [z, seval])
    (refine CU (h3) (h := ?_); simp only [z, seval])
    (refine FINS_done ?_; simp only [z, seval])
theorem NsaGrants_law (w : World) (hw : w.ok) (me : Int) (hme : U me) (m : Msg) (hm : m.ok) : Spec PP GG 8 [w.v, u32 me, m.v] (.bool true) [] := by
  have hA := L15.awake_spec
  have hF := fits15_spec w hw me hme m hm 2
  cases hf : fitsK w me m 2 with
  | false =>
    rw [hf] at hF
    refine Spec.of_runs Go.Proofs.Tryz.f8 Go.Proofs.Tryz.func8 rfl ?_
    intro w0 M0
    simp only [Go.Proofs.Tryz.f8, List.replicate, List.cons_append, List.nil_append, z, seval]
    (refine CU (hA) (h := ?_); simp only [z, seval])
    (refine CU (hF) (h := ?_); simp only [z, seval])
    (refine CU (hA) (h := ?_); simp only [z, seval])
    (refine FINS_done ?_; simp only [z, seval])
  | true =>
    rw [hf] at hF
    simp only [fitsK, Bool.and_eq_true] at hf
    have hfit := fit_of_few hw hf.1 hf.2.1
    have hform := form_iff.1 hf.2.1
    have h1 := GrantN_spec w me m hfit (by decide) (by decide) hme hform.right hform.box
    have h2 := rGrantN_spec w me m hfit (by decide) (by decide) hme hform.right hform.box
    have h3 := Same12 (grantN w me m).1 ((grantN_fit hfit (by decide) (by decide) hme m).toLim (by decide))
    clear hw hm hfit hform
    refine Spec.of_runs Go.Proofs.Tryz.f8 Go.Proofs.Tryz.func8 rfl ?_
    intro w0 M0
    simp only [Go.Proofs.Tryz.f8, List.replicate, List.cons_append, List.nil_append, z, seval]
    (refine CU (hA) (h := ?_); simp only [z, seval])
    (refine CU (hF) (h := ?_); simp only [z, seval])
    (refine CU (h1) (h := ?_); simp only [z, seval])
    (refine CU (h2) (h := ?_); simp only [z, seval])
    (refine CU (h3) (h := ?_); simp only [z, seval])
    (refine FINS_done ?_; simp only [z, seval])
theorem NsaEchoes_law (w : World) (hw : w.ok) (me : Int) (hme : U me) (m : Msg) (hm : m.ok) : Spec PP GG 9 [w.v, u32 me, m.v] (.bool true) [] := by
  have hA := L15.awake_spec
  have hF := fits15_spec w hw me hme m hm 4
  cases hf : fitsK w me m 4 with
  | false =>
    rw [hf] at hF
    refine Spec.of_runs Go.Proofs.Tryz.f9 Go.Proofs.Tryz.func9 rfl ?_
    intro w0 M0
    simp only [Go.Proofs.Tryz.f9, List.replicate, List.cons_append, List.nil_append, z, seval]
    (refine CU (hA) (h := ?_); simp only [z, seval])
    (refine CU (hF) (h := ?_); simp only [z, seval])
    (refine CU (hA) (h := ?_); simp only [z, seval])
    (refine FINS_done ?_; simp only [z, seval])
  | true =>
    rw [hf] at hF
    simp only [fitsK, Bool.and_eq_true] at hf
    have hfit := fit_of_few hw hf.1 hf.2.1
    have hform := form_iff.1 hf.2.1
    have h1 := EchoN_spec w me m hfit (by decide) (by decide) hme hform.right
    have h2 := rEchoN_spec w me m hfit (by decide) (by decide) hme hform.right hform.box
    have h3 := Same12 (echoN w me m).1 ((echoN_fit hfit (by decide) (by decide) hme m).toLim (by decide))
    clear hw hm hfit hform
    refine Spec.of_runs Go.Proofs.Tryz.f9 Go.Proofs.Tryz.func9 rfl ?_
    intro w0 M0
    simp only [Go.Proofs.Tryz.f9, List.replicate, List.cons_append, List.nil_append, z, seval]
    (refine CU (hA) (h := ?_); simp only [z, seval])
    (refine CU (hF) (h := ?_); simp only [z, seval])
    (refine CU (h1) (h := ?_); simp only [z, seval])
    (refine CU (h2) (h := ?_); simp only [z, seval])
    (refine CU (h3) (h := ?_); simp only [z, seval])
    (refine FINS_done ?_; simp only [z, seval])
theorem NsaKeeps_law (w : World) (hw : w.ok) (a : Int) (ha : U a) (b : Int) (hb : U b) (me : Int) (hme : U me) (m : Msg) (hm : m.ok) : Spec PP GG 11 [w.v, u32 a, u32 b, u32 me, m.v] (.bool true) [] := by
  have hA := L15.awake_spec
  have hF := fits15_spec w hw me hme m hm m.kind
  cases hf : fitsK w me m m.kind with
  | false =>
    rw [hf] at hF
    refine Spec.of_runs Go.Proofs.Tryz.f11 Go.Proofs.Tryz.func11 rfl ?_
    intro w0 M0
    simp only [Go.Proofs.Tryz.f11, List.replicate, List.cons_append, List.nil_append, z, seval]
    (refine CU (hA) (h := ?_); simp only [z, seval])
    (refine CU (hF) (h := ?_); simp only [z, seval])
    (refine CU (hA) (h := ?_); simp only [z, seval])
    (refine FINS_done ?_; simp only [z, seval])
  | true =>
    rw [hf] at hF
    simp only [fitsK, Bool.and_eq_true] at hf
    have hfit := fit_of_few hw hf.1 hf.2.1
    have hform := form_iff.1 hf.2.1
    have hC := Copied_spec w (hfit.toLim (by decide))
    have h0 := StartN_spec w a b hfit (by decide) (by decide) ha hb hform.right hform.box
    have h1 := GrantN_spec w me m hfit (by decide) (by decide) hme hform.right hform.box
    have h2 := EchoN_spec w me m hfit (by decide) (by decide) hme hform.right
    have h3 := Same12 w (hfit.toLim (by decide))
    clear hw hm hfit hform
    cases c1 : (m.kind == 2) with
    | true =>
      refine Spec.of_runs Go.Proofs.Tryz.f11 Go.Proofs.Tryz.func11 rfl ?_
      intro w0 M0
      simp only [Go.Proofs.Tryz.f11, List.replicate, List.cons_append, List.nil_append, z, seval]
      (refine CU (hA) (h := ?_); simp only [z, seval])
      (refine CU (hF) (h := ?_); simp only [z, seval])
      simp only [c1, z, seval]
      (refine CU (hC) (h := ?_); simp only [z, seval])
      (refine CU (h0) (h := ?_); simp only [z, seval])
      simp only [c1, z, seval]
      (refine CU (h1) (h := ?_); simp only [z, seval])
      (refine CU (h3) (h := ?_); simp only [z, seval])
      (refine FINS_done ?_; simp only [z, seval])
    | false =>
    cases c2 : (m.kind == 4) with
    | true =>
      refine Spec.of_runs Go.Proofs.Tryz.f11 Go.Proofs.Tryz.func11 rfl ?_
      intro w0 M0
      simp only [Go.Proofs.Tryz.f11, List.replicate, List.cons_append, List.nil_append, z, seval]
      (refine CU (hA) (h := ?_); simp only [z, seval])
      (refine CU (hF) (h := ?_); simp only [z, seval])
      simp only [c1, c2, z, seval]
      (refine CU (hC) (h := ?_); simp only [z, seval])
      (refine CU (h0) (h := ?_); simp only [z, seval])
      simp only [c1, z, seval]
      (refine CU (h2) (h := ?_); simp only [z, seval])
      (refine CU (h3) (h := ?_); simp only [z, seval])
      (refine FINS_done ?_; simp only [z, seval])
    | false =>
      refine Spec.of_runs Go.Proofs.Tryz.f11 Go.Proofs.Tryz.func11 rfl ?_
      intro w0 M0
      simp only [Go.Proofs.Tryz.f11, List.replicate, List.cons_append, List.nil_append, z, seval]
      (refine CU (hA) (h := ?_); simp only [z, seval])
      (refine CU (hF) (h := ?_); simp only [z, seval])
      simp only [c1, c2, z, seval]
      (refine CU (hA) (h := ?_); simp only [z, seval])
      (refine FINS_done ?_; simp only [z, seval])
end Ch

/- All texts so far, in one order. -/
