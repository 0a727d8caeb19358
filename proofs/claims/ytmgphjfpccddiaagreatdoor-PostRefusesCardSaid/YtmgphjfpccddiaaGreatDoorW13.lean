/- Frames, come to somebody: the program's, and the document's. -/
import Derived.Test.YtmgphjfpccddiaaGreatDoorW12
set_option maxRecDepth 100000
set_option maxHeartbeats 4000000
set_option linter.unusedSimpArgs false
set_option linter.unusedVariables false
namespace Ch
open Go Go.Ab
theorem server_spec (n : Nat) (hn : callB PP n = true) (w : World) (to : Int) (m : Msg) (v : World) (e : Int) (h : Spec PP GG n [w.v, m.v] (.tup [v.v, i64 e]) []) : Spec PP GG 215 [.fn (.func n) [] [], w.v, u32 to, m.v] (.tup [v.v, i64 e]) [] := by
  refine Spec.of_runs Go.Proofs.Tryz.f215 Go.Proofs.Tryz.func215 rfl ?_
  intro w0 M0
  simp only [Go.Proofs.Tryz.f215, List.replicate, List.cons_append, List.nil_append, z, seval]
  (refine CU h (hn := hn) (h := ?_); simp only [z, seval])
  (refine FINS_done ?_; simp only [z, seval])
theorem principal_spec (n : Nat) (hn : callB PP n = true) (w : World) (to : Int) (m : Msg) (v : World) (e : Int) (h : Spec PP GG n [w.v, u32 to, m.v] (.tup [v.v, i64 e]) []) : Spec PP GG 216 [.fn (.func n) [] [], w.v, u32 to, m.v] (.tup [v.v, i64 e]) [] := by
  refine Spec.of_runs Go.Proofs.Tryz.f216 Go.Proofs.Tryz.func216 rfl ?_
  intro w0 M0
  simp only [Go.Proofs.Tryz.f216, List.replicate, List.cons_append, List.nil_append, z, seval]
  (refine CU h (hn := hn) (h := ?_); simp only [z, seval])
  (refine FINS_done ?_; simp only [z, seval])
theorem Deliver_spec (w : World) (to : Int) (l : List Int) {N : Nat} (hw : w.fit N) (h5 : 21 ≤ N) (hN : N ≤ 400000000000) (ht : U to) (hu : ∀ x ∈ l, U x) (hl : l.length ≤ 1099511627776) (hr : Right10 w.people = true) (hb7 : Right07 w.box = true) : Spec PP GG 39 [w.v, u32 to, wordsV l] (.tup [(deliverM w to l).1.v, i64 (deliverM w to l).2]) [] := by
  obtain ⟨tn, rfl⟩ := Int.eq_ofNat_of_zero_le ht.1
  have h1 := Get_spec w.people tn (by have := ht.2; omega) (by have := hw.people; omega)
  have h2 := mGet_spec l hu hl
  unfold deliverM
  rw [Int.toNat_natCast]
  cases c1 : decide (tn < w.people.length) with
  | false =>
    rw [c1] at h1
    refine Spec.of_runs Go.Proofs.Tryz.f39 Go.Proofs.Tryz.func39 rfl ?_
    intro w0 M0
    simp only [Go.Proofs.Tryz.f39, List.replicate, List.cons_append, List.nil_append, z, seval]
    (refine CU (h1) (h := ?_); simp only [z, seval])
    (refine FINS_done ?_; simp only [z, seval])
  | true =>
  rw [c1] at h1
  have hin := of_decide_eq_true c1
  cases c2 : ((msgGet l).2 == 0) with
  | false =>
    refine Spec.of_runs Go.Proofs.Tryz.f39 Go.Proofs.Tryz.func39 rfl ?_
    intro w0 M0
    simp only [Go.Proofs.Tryz.f39, List.replicate, List.cons_append, List.nil_append, z, seval]
    (refine CU (h1) (h := ?_); simp only [z, seval])
    (refine CU (h2) (h := ?_); simp only [z, seval])
    simp only [c2, z, seval]
    (refine FINS_done ?_; simp only [z, seval])
  | true =>
  have c2' : (msgGet l).2 = 0 := by simpa using c2
  have hm := msgGet_U hu c2'
  have hk := kind9 (may_kd (msgGet_ok hu (Prod.ext rfl c2' : msgGet l = ((msgGet l).1, 0))).1)
  rw [c2'] at h2
  generalize (msgGet l).1 = m at hm hk h2
  have t1 := server_spec _ (by kernel_rfl) w tn m _ _ (Grant_spec w m hw h5 hN hm)
  have t7 := server_spec _ (by kernel_rfl) w tn m _ _ (Share_spec w m hw h5 hN hm)
  have t2 := principal_spec _ (by kernel_rfl) w tn m _ _ (GrantN_spec w tn m hw h5 hN ht hr hb7)
  have t3 := principal_spec _ (by kernel_rfl) w tn m _ _ (TicketB_spec w tn m hw h5 hN ht hr hin)
  have t4 := principal_spec _ (by kernel_rfl) w tn m _ _ (EchoN_spec w tn m hw h5 hN ht hr)
  have t5 := principal_spec _ (by kernel_rfl) w tn m _ _ (BackB_spec w tn m hw hN ht hr)
  have t6 := principal_spec _ (by kernel_rfl) w tn m _ _ (FirstB_spec w tn m hw h5 hN ht hm hr)
  have t8 := principal_spec _ (by kernel_rfl) w tn m _ _ (ShareB_spec w tn m hw h5 hN ht hm hr)
  have t9 := principal_spec _ (by kernel_rfl) w tn m _ _ (ShareO_spec w tn m hw hN ht hr)
  obtain ⟨k, run, a, b, nonce, box, more⟩ := m
  simp only at hk
  simp only [cond_true, takeM]
  clear hw hu hr hb7 hm
  cases c0 : ((tn : Int) == 0) with
  | true =>
    rcases hk with rfl | rfl | rfl | rfl | rfl | rfl | rfl | rfl | rfl
    all_goals
      refine Spec.of_runs Go.Proofs.Tryz.f39 Go.Proofs.Tryz.func39 rfl ?_
      intro w0 M0
      simp only [Go.Proofs.Tryz.f39, List.replicate, List.cons_append, List.nil_append, z, seval]
      (refine CU (h1) (h := ?_); simp only [z, seval])
      (refine CU (h2) (h := ?_); simp only [z, seval])
      (refine RUNs_any 10 (by rfl) (by kernel_rfl) ?_)
      repeat' (first | (refine And.intro (by kernel_rfl) ?_) | (refine RUNs_anyD 4 0 (by decide +kernel) (by decide) (by decide) ?_) | (refine RUNs_any2 0 2 _ _ (by decide +kernel) (by rfl) (by rfl) ?_ ?_) | (refine RUNs_any2 1 2 _ _ (by decide +kernel) (by rfl) (by rfl) ?_ ?_) | (refine RUNs_any2 1 3 _ _ (by decide +kernel) (by rfl) (by rfl) ?_ ?_) | (refine RUNs_any2 0 3 _ _ (by decide +kernel) (by rfl) (by rfl) ?_ ?_) | (refine RUNs_any1 0 _ (by decide +kernel) (by rfl) ?_) | (refine RUNs_any1 1 _ (by decide +kernel) (by rfl) ?_) | (refine RUNs_any1 2 _ (by decide +kernel) (by rfl) ?_) | (refine RUNs_any1 3 _ (by decide +kernel) (by rfl) ?_) | (refine CALLS_in (fn := Go.Proofs.Tryz.f99) Go.Proofs.Tryz.func99 rfl (by kernel_rfl) ?_; simp only [Go.Proofs.Tryz.f99, List.replicate, List.cons_append, List.nil_append, z, seval]) | (refine OPV_ifcF (by kernel_rfl) (by kernel_rfl) (by rfl) ?_) | (simp only [c0, z, seval]))
      all_goals
        try simp only [Int.reduceBEq, cond_true, cond_false, z, seval]
        first | ((refine INVS_spec2 (n := 215) (args' := ?_) (r := ?_) (by kernel_rfl) (by kernel_rfl) ?_ ?_ ?_; rotate_left 2; (simp only [z, seval]; exact rfl); exact (t1); simp only [z, seval]); (refine FINS_done ?_; simp only [z, seval]); done) | ((refine INVS_spec2 (n := 215) (args' := ?_) (r := ?_) (by kernel_rfl) (by kernel_rfl) ?_ ?_ ?_; rotate_left 2; (simp only [z, seval]; exact rfl); exact (t7); simp only [z, seval]); (refine FINS_done ?_; simp only [z, seval]); done) | ((refine FINS_done ?_; simp only [z, seval]); done)
  | false =>
    rcases hk with rfl | rfl | rfl | rfl | rfl | rfl | rfl | rfl | rfl
    all_goals
      refine Spec.of_runs Go.Proofs.Tryz.f39 Go.Proofs.Tryz.func39 rfl ?_
      intro w0 M0
      simp only [Go.Proofs.Tryz.f39, List.replicate, List.cons_append, List.nil_append, z, seval]
      (refine CU (h1) (h := ?_); simp only [z, seval])
      (refine CU (h2) (h := ?_); simp only [z, seval])
      (refine RUNs_any 10 (by rfl) (by kernel_rfl) ?_)
      repeat' (first | (refine And.intro (by kernel_rfl) ?_) | (refine RUNs_anyD 4 0 (by decide +kernel) (by decide) (by decide) ?_) | (refine RUNs_any2 0 2 _ _ (by decide +kernel) (by rfl) (by rfl) ?_ ?_) | (refine RUNs_any2 1 2 _ _ (by decide +kernel) (by rfl) (by rfl) ?_ ?_) | (refine RUNs_any2 1 3 _ _ (by decide +kernel) (by rfl) (by rfl) ?_ ?_) | (refine RUNs_any2 0 3 _ _ (by decide +kernel) (by rfl) (by rfl) ?_ ?_) | (refine RUNs_any1 0 _ (by decide +kernel) (by rfl) ?_) | (refine RUNs_any1 1 _ (by decide +kernel) (by rfl) ?_) | (refine RUNs_any1 2 _ (by decide +kernel) (by rfl) ?_) | (refine RUNs_any1 3 _ (by decide +kernel) (by rfl) ?_) | (refine CALLS_in (fn := Go.Proofs.Tryz.f99) Go.Proofs.Tryz.func99 rfl (by kernel_rfl) ?_; simp only [Go.Proofs.Tryz.f99, List.replicate, List.cons_append, List.nil_append, z, seval]) | (refine OPV_ifcF (by kernel_rfl) (by kernel_rfl) (by rfl) ?_) | (simp only [c0, z, seval]))
      all_goals
        try simp only [Int.reduceBEq, cond_true, cond_false, z, seval]
        first | ((refine INVS_spec2 (n := 216) (args' := ?_) (r := ?_) (by kernel_rfl) (by kernel_rfl) ?_ ?_ ?_; rotate_left 2; (simp only [z, seval]; exact rfl); exact (t2); simp only [z, seval]); (refine FINS_done ?_; simp only [z, seval]); done) | ((refine INVS_spec2 (n := 216) (args' := ?_) (r := ?_) (by kernel_rfl) (by kernel_rfl) ?_ ?_ ?_; rotate_left 2; (simp only [z, seval]; exact rfl); exact (t3); simp only [z, seval]); (refine FINS_done ?_; simp only [z, seval]); done) | ((refine INVS_spec2 (n := 216) (args' := ?_) (r := ?_) (by kernel_rfl) (by kernel_rfl) ?_ ?_ ?_; rotate_left 2; (simp only [z, seval]; exact rfl); exact (t4); simp only [z, seval]); (refine FINS_done ?_; simp only [z, seval]); done) | ((refine INVS_spec2 (n := 216) (args' := ?_) (r := ?_) (by kernel_rfl) (by kernel_rfl) ?_ ?_ ?_; rotate_left 2; (simp only [z, seval]; exact rfl); exact (t5); simp only [z, seval]); (refine FINS_done ?_; simp only [z, seval]); done) | ((refine INVS_spec2 (n := 216) (args' := ?_) (r := ?_) (by kernel_rfl) (by kernel_rfl) ?_ ?_ ?_; rotate_left 2; (simp only [z, seval]; exact rfl); exact (t6); simp only [z, seval]); (refine FINS_done ?_; simp only [z, seval]); done) | ((refine INVS_spec2 (n := 216) (args' := ?_) (r := ?_) (by kernel_rfl) (by kernel_rfl) ?_ ?_ ?_; rotate_left 2; (simp only [z, seval]; exact rfl); exact (t8); simp only [z, seval]); (refine FINS_done ?_; simp only [z, seval]); done) | ((refine INVS_spec2 (n := 216) (args' := ?_) (r := ?_) (by kernel_rfl) (by kernel_rfl) ?_ ?_ ?_; rotate_left 2; (simp only [z, seval]; exact rfl); exact (t9); simp only [z, seval]); (refine FINS_done ?_; simp only [z, seval]); done) | ((refine FINS_done ?_; simp only [z, seval]); done)
end Ch

/- Frames, come to somebody: whether the place is awake; what fits. -/
set_option maxRecDepth 100000
set_option maxHeartbeats 4000000
set_option linter.unusedSimpArgs false
set_option linter.unusedVariables false
namespace Ch
open Go Go.Ab
namespace L20
def w0 : World := L17.w0
def m0 : Msg := ⟨1, 0, 1, 2, 9, 0, 0⟩
def l0 : List Int := [1, 1, 1, 3, 1, 1, 4, 1, 2, 5, 1, 9]
def wa : World := (deliverM w0 0 l0).1
theorem U0' : U 0 := by decide
theorem U1 : U 1 := by decide
theorem U3 : U 3 := by decide
theorem m0_ok : m0.ok := by unfold Msg.ok; decide
theorem l0_U : ∀ x ∈ l0, U x := by decide
theorem l4_U : ∀ x ∈ [1, 1, 1, 3], U x := by decide
theorem w0_fit : w0.fit 21 := L17.w0_fit
theorem wa_fit : wa.fit 26 := deliverM_fit w0_fit (by decide) (by decide) U0' l0_U
theorem p0 : msgPut m0 = (l0, 0) := by decide +kernel
theorem g0 : deliverM w0 0 l0 = (wa, 0) := by
  have : (deliverM w0 0 l0).2 = 0 := by decide +kernel
  rw [← this]; rfl
theorem g1 : (deliverM w0 1 l0).2 = 4 := by decide +kernel
theorem g2 : (deliverM w0 3 l0).2 = 5 := by decide +kernel
theorem g3 : (deliverM w0 0 [1, 1, 1, 3]).2 = 2 := by decide +kernel
theorem g4 : deliverM wa 0 l0 = (wa, 8) := by
  have h : (deliverM wa 0 l0).2 = 8 := by decide +kernel
  exact Prod.ext (deliverM_err (w := wa) (to := 0) (l := l0) (by rw [h]; decide)) h
theorem wa_log : wa.log.length = 1 := by decide +kernel
theorem r0 : Right10 w0.people = true := by decide +kernel
theorem b0 : Right07 w0.box = true := by decide +kernel
theorem ra : Right10 wa.people = true := by decide +kernel
theorem ba : Right07 wa.box = true := by decide +kernel
theorem awake_spec : Spec PP GG 37 [] (.bool true) [] := by
  have hN : Spec PP GG 43 [L17.c0.v, wordsV [11, 12, 13, 14, 15, 16, 17]] w0.v [] := New12_spec L17.c0 2 2 (by decide) (by decide) rfl rfl [11, 12, 13, 14, 15, 16, 17]
  have hP := rPut_spec m0 m0_ok
  have hA := Deliver_spec w0 0 l0 w0_fit (by decide) (by decide) U0' l0_U (by decide) r0 b0
  have hB := Deliver_spec w0 1 l0 w0_fit (by decide) (by decide) U1 l0_U (by decide) r0 b0
  have hC := Deliver_spec w0 3 l0 w0_fit (by decide) (by decide) U3 l0_U (by decide) r0 b0
  have hD := Deliver_spec w0 0 [1, 1, 1, 3] w0_fit (by decide) (by decide) U0' l4_U (by decide) r0 b0
  have hE := Deliver_spec wa 0 l0 wa_fit (by decide) (by decide) U0' l0_U (by decide) ra ba
  have hS := Same12 wa (wa_fit.toLim (by decide))
  rw [p0] at hP
  rw [g0] at hA
  rw [g1] at hB
  rw [g2] at hC
  rw [g3] at hD
  rw [g4] at hE
  simp only [m0] at hP
  have hl := wa_log
  refine Spec.of_runs Go.Proofs.Tryz.f37 Go.Proofs.Tryz.func37 rfl ?_
  intro w0 M0
  simp only [Go.Proofs.Tryz.f37, List.replicate, List.cons_append, List.nil_append, z, seval]
  (refine CALLS_in (fn := Go.Proofs.Tryz.f96) Go.Proofs.Tryz.func96 rfl (by kernel_rfl) ?_; simp only [Go.Proofs.Tryz.f96, List.replicate, List.cons_append, List.nil_append, z, seval])
  (refine CU (hN) (h := ?_); simp only [z, seval])
  (refine CU (hP) (h := ?_); simp only [z, seval])
  (refine CU (hA) (h := ?_); simp only [z, seval])
  (refine CU (hB) (h := ?_); simp only [z, seval])
  (refine CU (hC) (h := ?_); simp only [z, seval])
  have e4 : (l0.map u32).take 4 = [1, 1, 1, 3].map u32 := rfl
  have e4' : l0.take 4 = [1, 1, 1, 3] := rfl
  (refine RUNs_draw 1 (by kernel_rfl) ?_; simp only [z, seval])
  refine DOC_ok (by rfl) ?_
  simp only [e4, e4', z, seval]
  (refine DU (hD) (h := ?_); simp only [z, seval])
  (refine ⟨by kernel_rfl, ?_⟩)
  (refine CU (hE) (h := ?_); simp only [z, seval])
  simp only [hl, z, seval]
  (refine CU (hS) (h := ?_); simp only [z, seval])
  (refine FINS_done ?_; simp only [z, seval])
end L20
def fits20 (w : World) (l : List Int) : Bool := Few12 w && (Form12 w && decide ((l.length : Int) ≤ 100))
theorem fits20_spec (w : World) (hw : w.ok) (l : List Int) : Spec PP GG 38 [w.v, wordsV l] (.bool (fits20 w l)) [] := by
  have hL := Lim_of_ok hw
  have h1 := Few12_spec w hL
  have h2 := Form12_spec w hL
  clear hw hL
  refine Spec.of_runs Go.Proofs.Tryz.f38 Go.Proofs.Tryz.func38 rfl ?_
  intro w0 M0
  simp only [Go.Proofs.Tryz.f38, List.replicate, List.cons_append, List.nil_append, z, seval]
  (refine CU (h1) (h := ?_); simp only [z, seval])
  cases c1 : Few12 w with
  | false =>
    simp only [z, seval]
    (refine FINS_done ?_; simp only [z, seval])
    simp only [fits20, c1, Bool.false_and]
  | true =>
  simp only [z, seval]
  (refine CU (h2) (h := ?_); simp only [z, seval])
  cases c2 : Form12 w with
  | false =>
    simp only [z, seval]
    (refine FINS_done ?_; simp only [z, seval])
    simp only [fits20, c1, c2, Bool.true_and, Bool.false_and]
  | true =>
  simp only [z, seval]
  (refine FINS_done ?_; simp only [z, seval])
  simp only [fits20, c1, c2, Bool.true_and]
end Ch

/- The abstract machine: the lesser of two numbers. -/
set_option linter.unusedVariables false
set_option linter.unusedSimpArgs false
namespace Go.Ab
open Go Go.RowKit
theorem RUN_min {X : Ctx} {x y : Operand} {ats : Array TypeId} {kd : IntKind} {m n : Int} {dst : Option Tmp} {ty : TypeId} {p : String} {af : Array Edge} {all l : List Oper} {k : List It} {fr : List V} {st : List (List V)} {H : List AB}
    (hx : evalO X.G fr x = .val (.int kd m)) (hy : evalO X.G fr y = .val (.int kd n))
    (h : RUN X ⟨.ops all l :: k, putV fr dst (.val (.int kd (if n < m then n else m))), st, H⟩) : RUN X ⟨.ops all (⟨dst, .call ⟨.builtin .min, #[x, y], ats⟩, ty, p, af, none⟩ :: l) :: k, fr, st, H⟩ := by
  intro sa a E hH hR hD
  simp only at hH hR; subst hH
  simp only [DF] at hD
  simp only [post]
  have hC : Comes X.P X.G X.w0 X.M0 E a (⟨dst, .call ⟨.builtin .min, #[x, y], ats⟩, ty, p, af, none⟩ : Oper) (.val (.int kd (if n < m then n else m))) E.H := by
    have h1 := evalO_sound hR.ok hR.fr x
    have h2 := evalO_sound hR.ok hR.fr y
    rw [hx] at h1
    rw [hy] at h2
    simp only [Rep] at h1 h2
    refine Comes.pure hR.ok (x := .int kd (if n < m then n else m)) ?_ (by simp [Rep, Value.oneCell'])
    simp [execOp, resolve, invoke, builtin, Builtin.min_, Builtin.min2, h1.1, h2.1]
  obtain ⟨x', E', h1, h2, h3, h4, h5⟩ := hC
  have hn := h sa (a.put dst x') E' h2 (hR.put h3 h4 h5 dst) (by simpa only [DF, put_defers] using hD)
  unfold wpListIn
  rw [if_pos (by simp [Region.wanted])]
  refine ⟨fun _ _ => trivial, ?_⟩
  rw [Oper.semAt_eq _ _ _ (by intro c hc; cases hc)]
  rcases h1 with h1 | ⟨h1, rfl⟩ <;> rw [h1]
  · exact hn
  · exact hn
section
variable {P : Program} {G : Glob} {w0 : World} {M0 : Nat → Nat → Prop} {R : Value → World → Prop}
theorem RUNs_min {x y : Operand} {ats : Array TypeId} {kd : IntKind} {m n : Int} {dst : Option Tmp} {ty : TypeId} {p : String} {af : Array Edge} {all l : List Oper} {k : List It} {fr : List V} {st : List (List V)} {H : List AB}
    (hx : evalO G fr x = .val (.int kd m)) (hy : evalO G fr y = .val (.int kd n)) (hs : step P G ⟨.ops all (⟨dst, .call ⟨.builtin .min, #[x, y], ats⟩, ty, p, af, none⟩ :: l) :: k, fr, st, H⟩ = none)
    (h : RUNs P G w0 M0 R ⟨.ops all l :: k, putV fr dst (.val (.int kd (if n < m then n else m))), st, H⟩) : RUNs P G w0 M0 R ⟨.ops all (⟨dst, .call ⟨.builtin .min, #[x, y], ats⟩, ty, p, af, none⟩ :: l) :: k, fr, st, H⟩ :=
  RUNs_stop hs (RUN_min (X := ⟨P, G, w0, M0, R⟩) hx hy (RUN_of_RUNs h))
end
end Go.Ab

/- Frames, come to somebody: what is refused, and what is taken. -/
set_option maxRecDepth 100000
set_option maxHeartbeats 4000000
set_option linter.unusedSimpArgs false
set_option linter.unusedVariables false
namespace Ch
open Go Go.Ab
theorem fieldsM_e : ∀ (k : Nat) (l : List Int), (fieldsM k l).2 = 0 ∨ (fieldsM k l).2 = 2 ∨ (fieldsM k l).2 = 3 := by
  intro k
  induction k with
  | zero =>
    intro l
    unfold fieldsM
    cases l.isEmpty
    · exact .inr (.inr rfl)
    · exact .inl rfl
  | succ k ih =>
    intro l
    unfold fieldsM
    cases l.isEmpty
    · simp only [cond_false]
      cases fieldBad l
      · simp only [cond_false]
        cases h : ((fieldsM k (l.drop (2 + (l.getD 1 0).toNat))).2 == 0)
        · exact ih _
        · exact .inl rfl
      · exact .inr (.inl rfl)
    · exact .inl rfl
theorem msgGet_e (l : List Int) : (msgGet l).2 = 0 ∨ (msgGet l).2 = 2 ∨ (msgGet l).2 = 3 ∨ (msgGet l).2 = 4 := by
  have hg : (getF l).2 = 0 ∨ (getF l).2 = 2 ∨ (getF l).2 = 3 := by
    unfold getF
    cases decide ((l.length : Int) > 64)
    · exact fieldsM_e 8 l
    · exact .inr (.inr rfl)
  unfold msgGet
  cases ((getF l).2 == 0)
  · rcases hg with h | h | h
    · exact .inl h
    · exact .inr (.inl h)
    · exact .inr (.inr (.inl h))
  · simp only [cond_true]
    cases headOk (getF l).1
    · exact .inr (.inr (.inr rfl))
    · simp only [cond_true]
      cases msgSeq (kindM (headK (getF l).1)) tags (getF l).1.tail
      · exact .inr (.inl rfl)
      · exact .inl rfl
theorem deliverM_e {w : World} {to : Int} {l : List Int} (hu : ∀ x ∈ l, U x) (h : (deliverM w to l).2 ≠ 0) : 0 < (deliverM w to l).2 ∧ (deliverM w to l).2 ≤ 10 := by
  unfold deliverM at h ⊢
  cases c1 : decide (to.toNat < w.people.length)
  · show (0 : Int) < 5 ∧ (5 : Int) ≤ 10; decide
  simp only [c1, cond_true] at h ⊢
  cases c2 : ((msgGet l).2 == 0)
  · simp only [c2, cond_false] at h ⊢
    rcases msgGet_e l with e | e | e | e
    · exact absurd e h
    · rw [e]; decide
    · rw [e]; decide
    · rw [e]; decide
  · simp only [c2, cond_true] at h ⊢
    have hm := (msgGet_ok hu (Prod.ext rfl (by simpa using c2) : msgGet l = ((msgGet l).1, 0))).1
    by_cases hs : ((msgGet l).1.kind == 1 || (msgGet l).1.kind == 7) = (to == 0)
    · rcases takeM_errT hm hs with e | e | e | e | e | e | e
      · exact absurd e h
      all_goals (rw [e]; decide)
    · rw [takeM_wrong hm hs]; show (0 : Int) < 4 ∧ (4 : Int) ≤ 10; decide
theorem min_len {α : Type} (l r : List α) : (if (l.length : Int) < ((l ++ r).length : Int) then (l.length : Int) else ((l ++ r).length : Int)) = (l.length : Int) := by
  simp only [List.length_append]
  split
  · rfl
  · omega
theorem cutOk {α : Type} (f : α → V) (l r : List α) (sz : Nat) (hf : ∀ a, lenE' sz (f a) = true) : (slcB (l ++ r).length none (some l.length) none && ((l ++ r).map f).all (lenE' sz)) = true := by
  simp [slcB, hf]
theorem PostRefuses_law (w : World) (hw : w.ok) (to : Int) (ht : U to) (l : List Int) (hl : LL U l) : Spec PP GG 13 [w.v, u32 to, wordsV l] (.bool true) [] := by
  have hA := L20.awake_spec
  have hF := fits20_spec w hw l
  by_cases hf : fits20 w l = false
  · rw [hf] at hF
    refine Spec.of_runs Go.Proofs.Tryz.f13 Go.Proofs.Tryz.func13 rfl ?_
    intro w0 M0
    simp only [Go.Proofs.Tryz.f13, List.replicate, List.cons_append, List.nil_append, z, seval]
    (refine CU (hA) (h := ?_); simp only [z, seval])
    (refine CU (hF) (h := ?_); simp only [z, seval])
    (refine CU (hA) (h := ?_); simp only [z, seval])
    (refine FINS_done ?_; simp only [z, seval])
  replace hf : fits20 w l = true := by simpa using hf
  rw [hf] at hF
  simp only [fits20, Bool.and_eq_true, decide_eq_true_eq] at hf
  have hfit := fit_of_few hw hf.1 hf.2.1
  have hform := form_iff.1 hf.2.1
  cases c0 : decide (w.draws.next > 1048572) with
  | true =>
    refine Spec.of_runs Go.Proofs.Tryz.f13 Go.Proofs.Tryz.func13 rfl ?_
    intro w0 M0
    simp only [Go.Proofs.Tryz.f13, List.replicate, List.cons_append, List.nil_append, z, seval]
    (refine CU (hA) (h := ?_); simp only [z, seval])
    (refine CU (hF) (h := ?_); simp only [z, seval])
    simp only [c0, z, seval]
    (refine CU (hA) (h := ?_); simp only [z, seval])
    (refine FINS_done ?_; simp only [z, seval])
  | false =>
  have hn0 := of_decide_eq_false c0
  have h1 := Deliver_spec w to l hfit (by decide) (by decide) ht hl.2 (by omega) hform.right hform.box
  have hS := Same12 w (hfit.toLim (by decide))
  by_cases he : (deliverM w to l).2 = 0
  rotate_left 1
  · have hb := deliverM_e hl.2 he
    have e1 : ((deliverM w to l).2 == 0) = false := by simpa using he
    have e2 : decide ((deliverM w to l).2 > 0) = true := decide_eq_true hb.1
    have e3 : decide ((deliverM w to l).2 ≤ 10) = true := decide_eq_true hb.2
    rw [deliverM_err he] at h1
    clear hw hl hfit hform hb
    refine Spec.of_runs Go.Proofs.Tryz.f13 Go.Proofs.Tryz.func13 rfl ?_
    intro w0 M0
    simp only [Go.Proofs.Tryz.f13, List.replicate, List.cons_append, List.nil_append, z, seval]
    (refine CU (hA) (h := ?_); simp only [z, seval])
    (refine CU (hF) (h := ?_); simp only [z, seval])
    simp only [c0, z, seval]
    (refine CU (h1) (h := ?_); simp only [z, seval])
    simp only [e1, e2, e3, z, seval]
    (refine CU (hS) (h := ?_); simp only [z, seval])
    (refine FINS_done ?_; simp only [z, seval])
  obtain ⟨k, sl, gs, p, e, T⟩ := deliverM_took hform ht he
  have hTf := took_form T hform (by have := T.k3; omega)
  have hFo := Form12_spec (deliverM w to l).1 (Lim_of_ok (deliverM_fit hfit (by decide) (by decide) ht hl.2).ok)
  rw [form_iff.2 hTf] at hFo
  rw [he] at h1
  rw [T.eq] at h1 hFo
  clear hTf he
  obtain ⟨-, k0, k3, g1, hin, t1, t2, t3, t4, -, -, -, -⟩ := T
  obtain ⟨n, rfl⟩ := Int.eq_ofNat_of_zero_le ht.1
  simp only [Int.toNat_natCast] at h1 hFo hin t1 t2 t3 t4
  have hg : getP w.people n = w.people[n] := get_in9 hin
  rw [hg] at t1 t2 t3 t4
  have hO : ∀ i (hi : i < w.people.length), Spec PP GG 41 [w.people[i].v, w.people[i].v] (.bool true) [] := fun i hi => One10 w.people[i] (by have := hfit.used _ (List.getElem_mem hi); omega) (by have := hfit.runs _ (List.getElem_mem hi); omega)
  have q2 := ht.2
  have q3 := hfit.people
  have q4 := hfit.seen
  have q5 := hfit.log
  have q6 := hform.next0
  have q7 := hfit.rows
  have q8 := hfit.grams
  clear hw hl hfit hform hg
  simp only [mkT] at h1 hFo
  have w1 : IntKind.i64.wrap ((w.net.seen.length : Int) + 1) = (w.net.seen.length : Int) + 1 := w64 (by omega) (by omega)
  have w2 : IntKind.i64.wrap ((w.log.length : Int) + 1) = ((w.log.length + 1 : Nat) : Int) := w64s (by omega)
  have w3 : IntKind.i64.wrap (w.draws.next + 3) = w.draws.next + 3 := w64 (by omega) (by omega)
  have x1 : IntKind.u64.wrap (n : Int) = (n : Int) := wu64 (by omega) (by omega)
  have x2 : IntKind.u64.wrap (w.people.length : Int) = (w.people.length : Int) := wu64 (by omega) (by omega)
  have d1 : decide ((n : Int) ≥ (w.people.length : Int)) = false := decide_eq_false (by omega)
  have d2 : decide (((w.net.seen ++ gs.map Gram.words).length : Int) > (w.net.seen.length : Int) + 1) = false := decide_eq_false (by rw [List.length_append, List.length_map]; omega)
  have d3 : (w.log ++ [e]).length = w.log.length + 1 := by simp
  have d4 : decide (w.draws.next + k < w.draws.next) = false := decide_eq_false (by omega)
  have d5 : decide (w.draws.next + k > w.draws.next + 3) = false := decide_eq_false (by omega)
  have b0 : ∀ i (hi : i < w.people.length), (w.people.map Person.v)[i]? = some w.people[i].v := fun i hi => getMap Person.v w.people hi
  have b1 : ∀ i (hi : i < w.people.length), i ≠ n → ((w.people.set n p).map Person.v)[i]? = some w.people[i].v := fun i hi hne => by
    rw [getMap Person.v _ (by rw [List.length_set]; exact hi), List.getElem_set, if_neg (fun e => hne e.symm)]
  have b2 := setMap9 Person.v p hin
  refine Spec.of_runs Go.Proofs.Tryz.f13 Go.Proofs.Tryz.func13 rfl ?_
  intro w0 M0
  simp only [Go.Proofs.Tryz.f13, List.replicate, List.cons_append, List.nil_append, z, seval]
  (refine CU (hA) (h := ?_); simp only [z, seval])
  (refine CU (hF) (h := ?_); simp only [z, seval])
  simp only [c0, z, seval]
  (refine CU (h1) (h := ?_); simp only [z, seval])
  (refine CU (hFo) (h := ?_); simp only [z, seval])
  simp only [w1, w2, w3, x1, x2, d1, d2, d3, d4, d5, z, seval]
  refine RUNs_rangeS (w.people.length) (fun _ (_ : Unit) => True) (fun i _ => [(9, i64 i)]) (fun _ _ => []) () ?_ (by simp only [z, seval]; exact wk) rfl ?_
  · trivial
  rintro ⟨i, _, hi, -⟩
  simp only [z, seval]
  first | refine brk (fun h => ?_) (fun h => ?_) | fail
  · have hlt : i < w.people.length := by have := of_decide_eq_true h; omega
    have x3 : IntKind.u32.wrap (i : Int) = (i : Int) := by rw [IntKind.wrap_u32]; omega
    have c1 := b0 i hlt
    have hO := hO i hlt
    by_cases hne : i = n
    · subst hne
      simp only [mv] at c1 b2
      simp only [h, c1, b2, t2, t3, t4, x3, beq_self_eq_true, Bool.not_true, w64s (i := i) (by omega), z, seval]
      (refine NX () ?_ (by rfl) hlt ?_; simp only [z, seval]; exact wk)
      trivial
    · have c2 := b1 i hlt hne
      have hb : ((i : Int) == (n : Int)) = false := by simp only [beq_eq_false_iff_ne]; omega
      simp only [mv] at c1 c2
      simp only [h, c1, c2, x3, hb, beq_self_eq_true, Bool.not_true, Bool.not_false, z, seval]
      (refine CU (hO) (h := ?_); simp only [z, seval])
      simp only [w64s (i := i) (by omega), z, seval]
      (refine NX () ?_ (by rfl) hlt ?_; simp only [z, seval]; exact wk)
      trivial
  · simp only [h, z, seval]
    refine OPC_ok (cutOk Event.v w.log [e] 10 (fun a => rfl)) ?_
    simp only [List.take_left, z, seval]
    refine RUNs_min rfl rfl (by rfl) ?_
    simp only [min_len, z, seval]
    refine OPC_ok (cutOk Sld.v w.box.rows sl 4 (fun a => rfl)) ?_
    simp only [List.take_left, z, seval]
    refine RUNs_min rfl rfl (by rfl) ?_
    simp only [min_len, z, seval]
    refine OPC_ok (cutOk Gram.v w.net.grams gs 2 (fun a => rfl)) ?_
    simp only [List.take_left, z, seval]
    refine RUNs_min rfl rfl (by rfl) ?_
    simp only [min_len, z, seval]
    refine OPC_ok (cutOk wordsV w.net.seen (gs.map Gram.words) 1 (fun a => rfl)) ?_
    simp only [List.take_left, z, seval]
    (refine CU (hS) (h := ?_); simp only [z, seval])
    (refine FINS_done ?_; simp only [z, seval])
end Ch

/- All texts for what is refused, in one order. -/
