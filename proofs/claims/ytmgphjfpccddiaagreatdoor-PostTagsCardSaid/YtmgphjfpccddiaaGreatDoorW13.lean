/- Frames, come to somebody: the program's, and the document's. -/
import Derived.Test.YtmgphjfpccddiaaGreatDoorW12
set_option maxRecDepth 100000
set_option maxHeartbeats 4000000
set_option linter.unusedSimpArgs false
set_option linter.unusedVariables false
namespace Ch
open Go Go.Ab
theorem rDeliver_spec (w : World) (to : Int) (l : List Int) {N : Nat} (hw : w.fit N) (h5 : 21 ≤ N) (hN : N ≤ 400000000000) (ht : U to) (hu : ∀ x ∈ l, U x) (hl : l.length ≤ 1099511627776) (hr : Right10 w.people = true) (hb7 : Right07 w.box = true) : Spec PP GG 40 [w.v, u32 to, wordsV l] (.tup [(deliverM w to l).1.v, i64 (deliverM w to l).2]) [] := by
  have h1 := rGet_spec w.people to (by have := hw.people; omega)
  rw [rGetS_right hr ht] at h1
  have h2 := rGet03_spec l hu hl
  unfold deliverM
  cases c1 : decide (to.toNat < w.people.length) with
  | false =>
    rw [c1] at h1
    refine Spec.of_runs Go.Proofs.Tryz.f40 Go.Proofs.Tryz.func40 rfl ?_
    intro w0 M0
    simp only [Go.Proofs.Tryz.f40, List.replicate, List.cons_append, List.nil_append, z, seval]
    (refine CU (h1) (h := ?_); simp only [z, seval])
    (refine FINS_done ?_; simp only [z, seval])
  | true =>
  rw [c1] at h1
  cases c2 : ((msgGet l).2 == 0) with
  | false =>
    refine Spec.of_runs Go.Proofs.Tryz.f40 Go.Proofs.Tryz.func40 rfl ?_
    intro w0 M0
    simp only [Go.Proofs.Tryz.f40, List.replicate, List.cons_append, List.nil_append, z, seval]
    (refine CU (h1) (h := ?_); simp only [z, seval])
    (refine CU (h2) (h := ?_); simp only [z, seval])
    simp only [c2, z, seval]
    (refine FINS_done ?_; simp only [z, seval])
  | true =>
  have c2' : (msgGet l).2 = 0 := by simpa using c2
  have hm := msgGet_U hu c2'
  have hk := kind9 (may_kd (msgGet_ok hu (Prod.ext rfl c2' : msgGet l = ((msgGet l).1, 0))).1)
  rw [c2'] at h2
  generalize (msgGet l).1 = m at hm hk h2
  have t1 := rGrant_spec w m hw h5 hN hm hr
  have t7 := rShare_spec w m hw h5 hN hm hr hb7
  have t2 := rGrantN_spec w to m hw h5 hN ht hr hb7
  have t3 := rTicketB_spec w to m hw h5 hN ht hr hb7
  have t4 := rEchoN_spec w to m hw h5 hN ht hr hb7
  have t5 := rBackB_spec w to m hw hN ht hr hb7
  have t6 := rFirstB_spec w to m hw h5 hN ht hm hr
  have t8 := rShareB_spec w to m hw h5 hN ht hm hr hb7
  have t9 := rShareO_spec w to m hw hN ht hr hb7
  obtain ⟨k, run, a, b, nonce, box, more⟩ := m
  simp only at hk
  simp only [cond_true, takeM]
  clear hw hu hr hb7 hm
  cases c0 : (to == 0) with
  | true =>
    rcases hk with rfl | rfl | rfl | rfl | rfl | rfl | rfl | rfl | rfl
    all_goals
      refine Spec.of_runs Go.Proofs.Tryz.f40 Go.Proofs.Tryz.func40 rfl ?_
      intro w0 M0
      simp only [Go.Proofs.Tryz.f40, List.replicate, List.cons_append, List.nil_append, z, seval]
      (refine CU (h1) (h := ?_); simp only [z, seval])
      (refine CU (h2) (h := ?_); simp only [z, seval])
      simp only [c0, Int.reduceBEq, cond_true, cond_false, z, seval]
      first | ((refine CU (t1) (h := ?_); simp only [z, seval]); (refine FINS_done ?_; simp only [z, seval]); done) | ((refine CU (t7) (h := ?_); simp only [z, seval]); (refine FINS_done ?_; simp only [z, seval]); done) | ((refine FINS_done ?_; simp only [z, seval]); done)
  | false =>
    rcases hk with rfl | rfl | rfl | rfl | rfl | rfl | rfl | rfl | rfl
    all_goals
      refine Spec.of_runs Go.Proofs.Tryz.f40 Go.Proofs.Tryz.func40 rfl ?_
      intro w0 M0
      simp only [Go.Proofs.Tryz.f40, List.replicate, List.cons_append, List.nil_append, z, seval]
      (refine CU (h1) (h := ?_); simp only [z, seval])
      (refine CU (h2) (h := ?_); simp only [z, seval])
      simp only [c0, Int.reduceBEq, cond_true, cond_false, z, seval]
      first | ((refine CU (t2) (h := ?_); simp only [z, seval]); (refine FINS_done ?_; simp only [z, seval]); done) | ((refine CU (t3) (h := ?_); simp only [z, seval]); (refine FINS_done ?_; simp only [z, seval]); done) | ((refine CU (t4) (h := ?_); simp only [z, seval]); (refine FINS_done ?_; simp only [z, seval]); done) | ((refine CU (t5) (h := ?_); simp only [z, seval]); (refine FINS_done ?_; simp only [z, seval]); done) | ((refine CU (t6) (h := ?_); simp only [z, seval]); (refine FINS_done ?_; simp only [z, seval]); done) | ((refine CU (t8) (h := ?_); simp only [z, seval]); (refine FINS_done ?_; simp only [z, seval]); done) | ((refine CU (t9) (h := ?_); simp only [z, seval]); (refine FINS_done ?_; simp only [z, seval]); done) | ((refine FINS_done ?_; simp only [z, seval]); done)
theorem server_spec (n : Nat) (hn : callB PP n = true) (w : World) (to : Int) (m : Msg) (v : World) (e : Int) (h : Spec PP GG n [w.v, m.v] (.tup [v.v, i64 e]) []) : Spec PP GG 215 [.fn (.func n) [] [], w.v, u32 to, m.v] (.tup [v.v, i64 e]) [] := by
  refine Spec.of_runs Go.Proofs.Tryz.f215 Go.Proofs.Tryz.func215 rfl ?_
  intro w0 M0
  simp only [Go.Proofs.Tryz.f215, List.replicate, List.cons_append, List.nil_append, z, seval]
  (refine CU h (hn := hn) (h := ?_); simp only [z, seval])
  (refine FINS_done ?_; simp only [z, seval])
theorem principal_spec (n : Nat) (hn : callB PP n = true) (w : World) (to : Int) (m : Msg) (v : World) (e : Int) (h : Spec PP GG n [w.v, u32 to, m.v] (.tup [v.v, i64 e]) []) : Spec PP GG 216 [.fn (.func n) [] [], w.v, u32 to, m.v] (.tup [v.v, i64 e]) [] := by
  refine Spec.of_runs Go.Proofs.Tryz.f216 Go.Proofs.Tryz.func216 rfl ?_
  intro w0 M0
  simp only [Go.Proofs.Tryz.f216, List.replicate, List.cons_append, List.nil_append, z, seval]
  (refine CU h (hn := hn) (h := ?_); simp only [z, seval])
  (refine FINS_done ?_; simp only [z, seval])
theorem Deliver_spec (w : World) (to : Int) (l : List Int) {N : Nat} (hw : w.fit N) (h5 : 21 ≤ N) (hN : N ≤ 400000000000) (ht : U to) (hu : ∀ x ∈ l, U x) (hl : l.length ≤ 1099511627776) (hr : Right10 w.people = true) (hb7 : Right07 w.box = true) : Spec PP GG 39 [w.v, u32 to, wordsV l] (.tup [(deliverM w to l).1.v, i64 (deliverM w to l).2]) [] := by
  obtain ⟨tn, rfl⟩ := Int.eq_ofNat_of_zero_le ht.1
  have h1 := Get_spec w.people tn (by have := ht.2; omega) (by have := hw.people; omega)
  have h2 := mGet_spec l hu hl
  unfold deliverM
  rw [Int.toNat_natCast]
  cases c1 : decide (tn < w.people.length) with
  | false =>
    rw [c1] at h1
    refine Spec.of_runs Go.Proofs.Tryz.f39 Go.Proofs.Tryz.func39 rfl ?_
    intro w0 M0
    simp only [Go.Proofs.Tryz.f39, List.replicate, List.cons_append, List.nil_append, z, seval]
    (refine CU (h1) (h := ?_); simp only [z, seval])
    (refine FINS_done ?_; simp only [z, seval])
  | true =>
  rw [c1] at h1
  have hin := of_decide_eq_true c1
  cases c2 : ((msgGet l).2 == 0) with
  | false =>
    refine Spec.of_runs Go.Proofs.Tryz.f39 Go.Proofs.Tryz.func39 rfl ?_
    intro w0 M0
    simp only [Go.Proofs.Tryz.f39, List.replicate, List.cons_append, List.nil_append, z, seval]
    (refine CU (h1) (h := ?_); simp only [z, seval])
    (refine CU (h2) (h := ?_); simp only [z, seval])
    simp only [c2, z, seval]
    (refine FINS_done ?_; simp only [z, seval])
  | true =>
  have c2' : (msgGet l).2 = 0 := by simpa using c2
  have hm := msgGet_U hu c2'
  have hk := kind9 (may_kd (msgGet_ok hu (Prod.ext rfl c2' : msgGet l = ((msgGet l).1, 0))).1)
  rw [c2'] at h2
  generalize (msgGet l).1 = m at hm hk h2
  have t1 := server_spec _ (by kernel_rfl) w tn m _ _ (Grant_spec w m hw h5 hN hm)
  have t7 := server_spec _ (by kernel_rfl) w tn m _ _ (Share_spec w m hw h5 hN hm)
  have t2 := principal_spec _ (by kernel_rfl) w tn m _ _ (GrantN_spec w tn m hw h5 hN ht hr hb7)
  have t3 := principal_spec _ (by kernel_rfl) w tn m _ _ (TicketB_spec w tn m hw h5 hN ht hr hin)
  have t4 := principal_spec _ (by kernel_rfl) w tn m _ _ (EchoN_spec w tn m hw h5 hN ht hr)
  have t5 := principal_spec _ (by kernel_rfl) w tn m _ _ (BackB_spec w tn m hw hN ht hr)
  have t6 := principal_spec _ (by kernel_rfl) w tn m _ _ (FirstB_spec w tn m hw h5 hN ht hm hr)
  have t8 := principal_spec _ (by kernel_rfl) w tn m _ _ (ShareB_spec w tn m hw h5 hN ht hm hr)
  have t9 := principal_spec _ (by kernel_rfl) w tn m _ _ (ShareO_spec w tn m hw hN ht hr)
  obtain ⟨k, run, a, b, nonce, box, more⟩ := m
  simp only at hk
  simp only [cond_true, takeM]
  clear hw hu hr hb7 hm
  cases c0 : ((tn : Int) == 0) with
  | true =>
    rcases hk with rfl | rfl | rfl | rfl | rfl | rfl | rfl | rfl | rfl
    all_goals
      refine Spec.of_runs Go.Proofs.Tryz.f39 Go.Proofs.Tryz.func39 rfl ?_
      intro w0 M0
      simp only [Go.Proofs.Tryz.f39, List.replicate, List.cons_append, List.nil_append, z, seval]
      (refine CU (h1) (h := ?_); simp only [z, seval])
      (refine CU (h2) (h := ?_); simp only [z, seval])
      (refine RUNs_any 10 (by rfl) (by kernel_rfl) ?_)
      repeat' (first | (refine And.intro (by kernel_rfl) ?_) | (refine RUNs_anyD 4 0 (by decide +kernel) (by decide) (by decide) ?_) | (refine RUNs_any2 0 2 _ _ (by decide +kernel) (by rfl) (by rfl) ?_ ?_) | (refine RUNs_any2 1 2 _ _ (by decide +kernel) (by rfl) (by rfl) ?_ ?_) | (refine RUNs_any2 1 3 _ _ (by decide +kernel) (by rfl) (by rfl) ?_ ?_) | (refine RUNs_any2 0 3 _ _ (by decide +kernel) (by rfl) (by rfl) ?_ ?_) | (refine RUNs_any1 0 _ (by decide +kernel) (by rfl) ?_) | (refine RUNs_any1 1 _ (by decide +kernel) (by rfl) ?_) | (refine RUNs_any1 2 _ (by decide +kernel) (by rfl) ?_) | (refine RUNs_any1 3 _ (by decide +kernel) (by rfl) ?_) | (refine CALLS_in (fn := Go.Proofs.Tryz.f99) Go.Proofs.Tryz.func99 rfl (by kernel_rfl) ?_; simp only [Go.Proofs.Tryz.f99, List.replicate, List.cons_append, List.nil_append, z, seval]) | (refine OPV_ifcF (by kernel_rfl) (by kernel_rfl) (by rfl) ?_) | (simp only [c0, z, seval]))
      all_goals
        try simp only [Int.reduceBEq, cond_true, cond_false, z, seval]
        first | ((refine INVS_spec2 (n := 215) (args' := ?_) (r := ?_) (by kernel_rfl) (by kernel_rfl) ?_ ?_ ?_; rotate_left 2; (simp only [z, seval]; exact rfl); exact (t1); simp only [z, seval]); (refine FINS_done ?_; simp only [z, seval]); done) | ((refine INVS_spec2 (n := 215) (args' := ?_) (r := ?_) (by kernel_rfl) (by kernel_rfl) ?_ ?_ ?_; rotate_left 2; (simp only [z, seval]; exact rfl); exact (t7); simp only [z, seval]); (refine FINS_done ?_; simp only [z, seval]); done) | ((refine FINS_done ?_; simp only [z, seval]); done)
  | false =>
    rcases hk with rfl | rfl | rfl | rfl | rfl | rfl | rfl | rfl | rfl
    all_goals
      refine Spec.of_runs Go.Proofs.Tryz.f39 Go.Proofs.Tryz.func39 rfl ?_
      intro w0 M0
      simp only [Go.Proofs.Tryz.f39, List.replicate, List.cons_append, List.nil_append, z, seval]
      (refine CU (h1) (h := ?_); simp only [z, seval])
      (refine CU (h2) (h := ?_); simp only [z, seval])
      (refine RUNs_any 10 (by rfl) (by kernel_rfl) ?_)
      repeat' (first | (refine And.intro (by kernel_rfl) ?_) | (refine RUNs_anyD 4 0 (by decide +kernel) (by decide) (by decide) ?_) | (refine RUNs_any2 0 2 _ _ (by decide +kernel) (by rfl) (by rfl) ?_ ?_) | (refine RUNs_any2 1 2 _ _ (by decide +kernel) (by rfl) (by rfl) ?_ ?_) | (refine RUNs_any2 1 3 _ _ (by decide +kernel) (by rfl) (by rfl) ?_ ?_) | (refine RUNs_any2 0 3 _ _ (by decide +kernel) (by rfl) (by rfl) ?_ ?_) | (refine RUNs_any1 0 _ (by decide +kernel) (by rfl) ?_) | (refine RUNs_any1 1 _ (by decide +kernel) (by rfl) ?_) | (refine RUNs_any1 2 _ (by decide +kernel) (by rfl) ?_) | (refine RUNs_any1 3 _ (by decide +kernel) (by rfl) ?_) | (refine CALLS_in (fn := Go.Proofs.Tryz.f99) Go.Proofs.Tryz.func99 rfl (by kernel_rfl) ?_; simp only [Go.Proofs.Tryz.f99, List.replicate, List.cons_append, List.nil_append, z, seval]) | (refine OPV_ifcF (by kernel_rfl) (by kernel_rfl) (by rfl) ?_) | (simp only [c0, z, seval]))
      all_goals
        try simp only [Int.reduceBEq, cond_true, cond_false, z, seval]
        first | ((refine INVS_spec2 (n := 216) (args' := ?_) (r := ?_) (by kernel_rfl) (by kernel_rfl) ?_ ?_ ?_; rotate_left 2; (simp only [z, seval]; exact rfl); exact (t2); simp only [z, seval]); (refine FINS_done ?_; simp only [z, seval]); done) | ((refine INVS_spec2 (n := 216) (args' := ?_) (r := ?_) (by kernel_rfl) (by kernel_rfl) ?_ ?_ ?_; rotate_left 2; (simp only [z, seval]; exact rfl); exact (t3); simp only [z, seval]); (refine FINS_done ?_; simp only [z, seval]); done) | ((refine INVS_spec2 (n := 216) (args' := ?_) (r := ?_) (by kernel_rfl) (by kernel_rfl) ?_ ?_ ?_; rotate_left 2; (simp only [z, seval]; exact rfl); exact (t4); simp only [z, seval]); (refine FINS_done ?_; simp only [z, seval]); done) | ((refine INVS_spec2 (n := 216) (args' := ?_) (r := ?_) (by kernel_rfl) (by kernel_rfl) ?_ ?_ ?_; rotate_left 2; (simp only [z, seval]; exact rfl); exact (t5); simp only [z, seval]); (refine FINS_done ?_; simp only [z, seval]); done) | ((refine INVS_spec2 (n := 216) (args' := ?_) (r := ?_) (by kernel_rfl) (by kernel_rfl) ?_ ?_ ?_; rotate_left 2; (simp only [z, seval]; exact rfl); exact (t6); simp only [z, seval]); (refine FINS_done ?_; simp only [z, seval]); done) | ((refine INVS_spec2 (n := 216) (args' := ?_) (r := ?_) (by kernel_rfl) (by kernel_rfl) ?_ ?_ ?_; rotate_left 2; (simp only [z, seval]; exact rfl); exact (t8); simp only [z, seval]); (refine FINS_done ?_; simp only [z, seval]); done) | ((refine INVS_spec2 (n := 216) (args' := ?_) (r := ?_) (by kernel_rfl) (by kernel_rfl) ?_ ?_ ?_; rotate_left 2; (simp only [z, seval]; exact rfl); exact (t9); simp only [z, seval]); (refine FINS_done ?_; simp only [z, seval]); done) | ((refine FINS_done ?_; simp only [z, seval]); done)
end Ch

/- Frames, come to somebody, of whatever world. -/
set_option maxRecDepth 100000
set_option maxHeartbeats 4000000
set_option linter.unusedSimpArgs false
set_option linter.unusedVariables false
namespace Ch
open Go Go.Ab
namespace L20
def w0 : World := L17.w0
def m0 : Msg := ⟨1, 0, 1, 2, 9, 0, 0⟩
def l0 : List Int := [1, 1, 1, 3, 1, 1, 4, 1, 2, 5, 1, 9]
def wa : World := (deliverM w0 0 l0).1
theorem U0' : U 0 := by decide
theorem U1 : U 1 := by decide
theorem U3 : U 3 := by decide
theorem m0_ok : m0.ok := by unfold Msg.ok; decide
theorem l0_U : ∀ x ∈ l0, U x := by decide
theorem l4_U : ∀ x ∈ [1, 1, 1, 3], U x := by decide
theorem w0_fit : w0.fit 21 := L17.w0_fit
theorem wa_fit : wa.fit 26 := deliverM_fit w0_fit (by decide) (by decide) U0' l0_U
theorem p0 : msgPut m0 = (l0, 0) := by decide +kernel
theorem g0 : deliverM w0 0 l0 = (wa, 0) := by
  have : (deliverM w0 0 l0).2 = 0 := by decide +kernel
  rw [← this]; rfl
theorem g1 : (deliverM w0 1 l0).2 = 4 := by decide +kernel
theorem g2 : (deliverM w0 3 l0).2 = 5 := by decide +kernel
theorem g3 : (deliverM w0 0 [1, 1, 1, 3]).2 = 2 := by decide +kernel
theorem g4 : deliverM wa 0 l0 = (wa, 8) := by
  have h : (deliverM wa 0 l0).2 = 8 := by decide +kernel
  exact Prod.ext (deliverM_err (w := wa) (to := 0) (l := l0) (by rw [h]; decide)) h
theorem wa_log : wa.log.length = 1 := by decide +kernel
theorem r0 : Right10 w0.people = true := by decide +kernel
theorem b0 : Right07 w0.box = true := by decide +kernel
theorem ra : Right10 wa.people = true := by decide +kernel
theorem ba : Right07 wa.box = true := by decide +kernel
theorem awake_spec : Spec PP GG 37 [] (.bool true) [] := by
  have hN : Spec PP GG 43 [L17.c0.v, wordsV [11, 12, 13, 14, 15, 16, 17]] w0.v [] := New12_spec L17.c0 2 2 (by decide) (by decide) rfl rfl [11, 12, 13, 14, 15, 16, 17]
  have hP := rPut_spec m0 m0_ok
  have hA := Deliver_spec w0 0 l0 w0_fit (by decide) (by decide) U0' l0_U (by decide) r0 b0
  have hB := Deliver_spec w0 1 l0 w0_fit (by decide) (by decide) U1 l0_U (by decide) r0 b0
  have hC := Deliver_spec w0 3 l0 w0_fit (by decide) (by decide) U3 l0_U (by decide) r0 b0
  have hD := Deliver_spec w0 0 [1, 1, 1, 3] w0_fit (by decide) (by decide) U0' l4_U (by decide) r0 b0
  have hE := Deliver_spec wa 0 l0 wa_fit (by decide) (by decide) U0' l0_U (by decide) ra ba
  have hS := Same12 wa (wa_fit.toLim (by decide))
  rw [p0] at hP
  rw [g0] at hA
  rw [g1] at hB
  rw [g2] at hC
  rw [g3] at hD
  rw [g4] at hE
  simp only [m0] at hP
  have hl := wa_log
  refine Spec.of_runs Go.Proofs.Tryz.f37 Go.Proofs.Tryz.func37 rfl ?_
  intro w0 M0
  simp only [Go.Proofs.Tryz.f37, List.replicate, List.cons_append, List.nil_append, z, seval]
  (refine CALLS_in (fn := Go.Proofs.Tryz.f96) Go.Proofs.Tryz.func96 rfl (by kernel_rfl) ?_; simp only [Go.Proofs.Tryz.f96, List.replicate, List.cons_append, List.nil_append, z, seval])
  (refine CU (hN) (h := ?_); simp only [z, seval])
  (refine CU (hP) (h := ?_); simp only [z, seval])
  (refine CU (hA) (h := ?_); simp only [z, seval])
  (refine CU (hB) (h := ?_); simp only [z, seval])
  (refine CU (hC) (h := ?_); simp only [z, seval])
  have e4 : (l0.map u32).take 4 = [1, 1, 1, 3].map u32 := rfl
  have e4' : l0.take 4 = [1, 1, 1, 3] := rfl
  (refine RUNs_draw 1 (by kernel_rfl) ?_; simp only [z, seval])
  refine DOC_ok (by rfl) ?_
  simp only [e4, e4', z, seval]
  (refine DU (hD) (h := ?_); simp only [z, seval])
  (refine ⟨by kernel_rfl, ?_⟩)
  (refine CU (hE) (h := ?_); simp only [z, seval])
  simp only [hl, z, seval]
  (refine CU (hS) (h := ?_); simp only [z, seval])
  (refine FINS_done ?_; simp only [z, seval])
end L20
def fits20 (w : World) (l : List Int) : Bool := Few12 w && (Form12 w && decide ((l.length : Int) ≤ 100))
theorem fits20_spec (w : World) (hw : w.ok) (l : List Int) : Spec PP GG 38 [w.v, wordsV l] (.bool (fits20 w l)) [] := by
  have hL := Lim_of_ok hw
  have h1 := Few12_spec w hL
  have h2 := Form12_spec w hL
  clear hw hL
  refine Spec.of_runs Go.Proofs.Tryz.f38 Go.Proofs.Tryz.func38 rfl ?_
  intro w0 M0
  simp only [Go.Proofs.Tryz.f38, List.replicate, List.cons_append, List.nil_append, z, seval]
  (refine CU (h1) (h := ?_); simp only [z, seval])
  cases c1 : Few12 w with
  | false =>
    simp only [z, seval]
    (refine FINS_done ?_; simp only [z, seval])
    simp only [fits20, c1, Bool.false_and]
  | true =>
  simp only [z, seval]
  (refine CU (h2) (h := ?_); simp only [z, seval])
  cases c2 : Form12 w with
  | false =>
    simp only [z, seval]
    (refine FINS_done ?_; simp only [z, seval])
    simp only [fits20, c1, c2, Bool.true_and, Bool.false_and]
  | true =>
  simp only [z, seval]
  (refine FINS_done ?_; simp only [z, seval])
  simp only [fits20, c1, c2, Bool.true_and]
theorem PostDelivers_law (w : World) (hw : w.ok) (to : Int) (ht : U to) (l : List Int) (hl : LL U l) : Spec PP GG 12 [w.v, u32 to, wordsV l] (.bool true) [] := by
  have hA := L20.awake_spec
  have hF := fits20_spec w hw l
  cases hf : fits20 w l with
  | false =>
    rw [hf] at hF
    refine Spec.of_runs Go.Proofs.Tryz.f12 Go.Proofs.Tryz.func12 rfl ?_
    intro w0 M0
    simp only [Go.Proofs.Tryz.f12, List.replicate, List.cons_append, List.nil_append, z, seval]
    (refine CU (hA) (h := ?_); simp only [z, seval])
    (refine CU (hF) (h := ?_); simp only [z, seval])
    (refine CU (hA) (h := ?_); simp only [z, seval])
    (refine FINS_done ?_; simp only [z, seval])
  | true =>
    rw [hf] at hF
    simp only [fits20, Bool.and_eq_true, decide_eq_true_eq] at hf
    have hfit := fit_of_few hw hf.1 hf.2.1
    have hform := form_iff.1 hf.2.1
    have h1 := Deliver_spec w to l hfit (by decide) (by decide) ht hl.2 (by omega) hform.right hform.box
    have h2 := rDeliver_spec w to l hfit (by decide) (by decide) ht hl.2 (by omega) hform.right hform.box
    have h3 := Same12 (deliverM w to l).1 ((deliverM_fit hfit (by decide) (by decide) ht hl.2).toLim (by decide))
    clear hw hl hfit hform
    refine Spec.of_runs Go.Proofs.Tryz.f12 Go.Proofs.Tryz.func12 rfl ?_
    intro w0 M0
    simp only [Go.Proofs.Tryz.f12, List.replicate, List.cons_append, List.nil_append, z, seval]
    (refine CU (hA) (h := ?_); simp only [z, seval])
    (refine CU (hF) (h := ?_); simp only [z, seval])
    (refine CU (h1) (h := ?_); simp only [z, seval])
    (refine CU (h2) (h := ?_); simp only [z, seval])
    (refine CU (h3) (h := ?_); simp only [z, seval])
    (refine FINS_done ?_; simp only [z, seval])
theorem PostKeeps_law (w : World) (hw : w.ok) (to : Int) (ht : U to) (l : List Int) (hl : LL U l) : Spec PP GG 15 [w.v, u32 to, wordsV l] (.bool true) [] := by
  have hA := L20.awake_spec
  have hF := fits20_spec w hw l
  cases hf : fits20 w l with
  | false =>
    rw [hf] at hF
    refine Spec.of_runs Go.Proofs.Tryz.f15 Go.Proofs.Tryz.func15 rfl ?_
    intro w0 M0
    simp only [Go.Proofs.Tryz.f15, List.replicate, List.cons_append, List.nil_append, z, seval]
    (refine CU (hA) (h := ?_); simp only [z, seval])
    (refine CU (hF) (h := ?_); simp only [z, seval])
    (refine CU (hA) (h := ?_); simp only [z, seval])
    (refine FINS_done ?_; simp only [z, seval])
  | true =>
    rw [hf] at hF
    simp only [fits20, Bool.and_eq_true, decide_eq_true_eq] at hf
    have hfit := fit_of_few hw hf.1 hf.2.1
    have hform := form_iff.1 hf.2.1
    have hC := Copied_spec w (hfit.toLim (by decide))
    have h1 := Deliver_spec w to l hfit (by decide) (by decide) ht hl.2 (by omega) hform.right hform.box
    have h3 := Same12 w (hfit.toLim (by decide))
    have h4 := Same01 l (by omega)
    have hln : l.length ≤ 100 := by omega
    clear hw hl hfit hform
    refine Spec.of_runs Go.Proofs.Tryz.f15 Go.Proofs.Tryz.func15 rfl ?_
    intro w0 M0
    simp only [Go.Proofs.Tryz.f15, List.replicate, List.cons_append, List.nil_append, z, seval]
    (refine CU (hA) (h := ?_); simp only [z, seval])
    (refine CU (hF) (h := ?_); simp only [z, seval])
    (refine CU (hC) (h := ?_); simp only [z, seval])
    refine OPC_ok ?_ ?_
    · exact okMap _ (fun a => rfl) (by omega)
    simp only [z, seval]
    (refine CU (h1) (h := ?_); simp only [z, seval])
    (refine CU (h3) (h := ?_); simp only [z, seval])
    (refine CU (h4) (h := ?_); simp only [z, seval])
    (refine FINS_done ?_; simp only [z, seval])
theorem PostTags_law (w : World) (hw : w.ok) (to : Int) (ht : U to) (l : List Int) (hl : LL U l) : Spec PP GG 14 [w.v, u32 to, wordsV l] (.bool true) [] := by
  have hA := L20.awake_spec
  have hF := fits20_spec w hw l
  cases hf : fits20 w l with
  | false =>
    rw [hf] at hF
    refine Spec.of_runs Go.Proofs.Tryz.f14 Go.Proofs.Tryz.func14 rfl ?_
    intro w0 M0
    simp only [Go.Proofs.Tryz.f14, List.replicate, List.cons_append, List.nil_append, z, seval]
    (refine CU (hA) (h := ?_); simp only [z, seval])
    (refine CU (hF) (h := ?_); simp only [z, seval])
    (refine CU (hA) (h := ?_); simp only [z, seval])
    (refine FINS_done ?_; simp only [z, seval])
  | true =>
    rw [hf] at hF
    simp only [fits20, Bool.and_eq_true, decide_eq_true_eq] at hf
    have hfit := fit_of_few hw hf.1 hf.2.1
    have hform := form_iff.1 hf.2.1
    have hG := rGet03_spec l hl.2 (by omega)
    have h1 := Deliver_spec w to l hfit (by decide) (by decide) ht hl.2 (by omega) hform.right hform.box
    have h3 := Same12 w (hfit.toLim (by decide))
    have hgo : (msgGet l).2 = 0 → msgMay (msgGet l).1 = true := fun h => (msgGet_ok hl.2 (Prod.ext rfl h : msgGet l = ((msgGet l).1, 0))).1
    have hT := fun h => @takeM_errT w to (msgGet l).1 h
    have hE := @takeM_err w to (msgGet l).1
    have hwr := @takeM_wrong w to (msgGet l).1
    have q1 := ht.1
    have q2 := ht.2
    have q3 := hfit.people
    unfold deliverM at h1
    clear hw hl hfit hform
    generalize msgGet l = g at *
    obtain ⟨m, f⟩ := g
    simp only at *
    cases c1 : decide (to.toNat < w.people.length) with
    | false =>
      have c1' : decide (to ≥ (w.people.length : Int)) = true := by have := of_decide_eq_false c1; exact decide_eq_true (by omega)
      rw [c1] at h1
      simp only [cond_false] at h1
      refine Spec.of_runs Go.Proofs.Tryz.f14 Go.Proofs.Tryz.func14 rfl ?_
      intro w0 M0
      simp only [Go.Proofs.Tryz.f14, List.replicate, List.cons_append, List.nil_append, z, seval]
      (refine CU (hA) (h := ?_); simp only [z, seval])
      (refine CU (hF) (h := ?_); simp only [z, seval])
      (refine CU (hG) (h := ?_); simp only [z, seval])
      (refine CU (h1) (h := ?_); simp only [z, seval])
      simp only [wu64 (n := to) (by omega) (by omega), wu64 (n := (w.people.length : Int)) (by omega) (by omega), c1', z, seval]
      repeat' ((first | refine brk (fun h => ?_) (fun h => ?_) | fail) <;> simp only [h, wu64 (n := to) (by omega) (by omega), wu64 (n := (w.people.length : Int)) (by omega) (by omega), c1', z, seval])
      all_goals
        (refine CU (h3) (h := ?_); simp only [z, seval])
        (refine FINS_done ?_; simp only [z, seval])
    | true =>
      have c1' : decide (to ≥ (w.people.length : Int)) = false := by have := of_decide_eq_true c1; exact decide_eq_false (by omega)
      rw [c1] at h1
      simp only [cond_true] at h1
      cases c2 : (f == 0) with
      | false =>
        rw [c2] at h1
        simp only [cond_false] at h1
        refine Spec.of_runs Go.Proofs.Tryz.f14 Go.Proofs.Tryz.func14 rfl ?_
        intro w0 M0
        simp only [Go.Proofs.Tryz.f14, List.replicate, List.cons_append, List.nil_append, z, seval]
        (refine CU (hA) (h := ?_); simp only [z, seval])
        (refine CU (hF) (h := ?_); simp only [z, seval])
        (refine CU (hG) (h := ?_); simp only [z, seval])
        (refine CU (h1) (h := ?_); simp only [z, seval])
        repeat' ((first | refine brk (fun h => ?_) (fun h => ?_) | fail) <;> simp only [h, wu64 (n := to) (by omega) (by omega), wu64 (n := (w.people.length : Int)) (by omega) (by omega), c1', c2, z, seval])
        all_goals
          (refine CU (h3) (h := ?_); simp only [z, seval])
          (refine FINS_done ?_; simp only [z, seval])
      | true =>
        rw [c2] at h1
        simp only [cond_true] at h1
        have hmay := hgo (by simpa using c2)
        have z1 : (true == false) = false := rfl
        have z2 : (false == true) = false := rfl
        cases c3 : ((m.kind == 1 || m.kind == 7) == (to == 0)) with
        | false =>
          rw [hwr hmay (by simpa using c3)] at h1
          cases k1 : (m.kind == 1) <;> cases k7 : (m.kind == 7) <;> cases k0 : (to == 0)
          all_goals first
            | (exfalso; rw [k1, k7, k0] at c3; exact absurd c3 (by decide))
            | (
               refine Spec.of_runs Go.Proofs.Tryz.f14 Go.Proofs.Tryz.func14 rfl ?_
               intro w0 M0
               simp only [Go.Proofs.Tryz.f14, List.replicate, List.cons_append, List.nil_append, z, seval]
               (refine CU (hA) (h := ?_); simp only [z, seval])
               (refine CU (hF) (h := ?_); simp only [z, seval])
               (refine CU (hG) (h := ?_); simp only [z, seval])
               (refine CU (h1) (h := ?_); simp only [z, seval])
               simp only [wu64 (n := to) (by omega) (by omega), wu64 (n := (w.people.length : Int)) (by omega) (by omega), c1', c2, k1, k7, k0, z1, z2, beq_self_eq_true, Bool.not_true, Bool.not_false, z, seval]
               (refine CU (h3) (h := ?_); simp only [z, seval])
               (refine FINS_done ?_; simp only [z, seval]))
        | true =>
          have ht := hT hmay (by simpa using c3)
          generalize takeM w to m = q at *
          obtain ⟨qw, qe⟩ := q
          simp only at ht h1
          cases k1 : (m.kind == 1) <;> cases k7 : (m.kind == 7) <;> cases k0 : (to == 0)
          all_goals first
            | (exfalso; rw [k1, k7, k0] at c3; exact absurd c3 (by decide))
            | (
               refine Spec.of_runs Go.Proofs.Tryz.f14 Go.Proofs.Tryz.func14 rfl ?_
               intro w0 M0
               simp only [Go.Proofs.Tryz.f14, List.replicate, List.cons_append, List.nil_append, z, seval]
               (refine CU (hA) (h := ?_); simp only [z, seval])
               (refine CU (hF) (h := ?_); simp only [z, seval])
               (refine CU (hG) (h := ?_); simp only [z, seval])
               (refine CU (h1) (h := ?_); simp only [z, seval])
               simp only [wu64 (n := to) (by omega) (by omega), wu64 (n := (w.people.length : Int)) (by omega) (by omega), c1', c2, k1, k7, k0, z1, z2, beq_self_eq_true, Bool.not_true, Bool.not_false, z, seval]
               rcases ht with rfl | rfl | rfl | rfl | rfl | rfl | rfl
               all_goals
                 simp only [z, seval]
                 (refine FINS_done ?_; simp only [z, seval]))
end Ch

/- All texts for frames that come to somebody, in one order. -/
