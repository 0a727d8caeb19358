/- The abstract machine: a call gone into, all its ends told at once; functions handed on as values. -/
import Derived.Test.YtjohhgopnpoboaaW6
set_option linter.unusedVariables false
set_option linter.unusedSimpArgs false
namespace Go.Ab
open Go Go.RowKit
theorem RUN_sum {P : Program} {G : Glob} {w0 : World} {M0 : Nat → Nat → Prop} {R : Value → World → Prop} {σ : Type} (I : σ → List V × List AB) (ok : σ → Prop) {body : Code} {rs : List ResultVar} {dst : Option Tmp} {k : List It} {fr fr0 : List V} {st : List (List V)} {H : List AB}
    (hk : ∀ s, ok s → RUN ⟨P, G, w0, M0, R⟩ ⟨k, (I s).1, st, (I s).2⟩) (h : RUN ⟨P, G, w0, M0, R⟩ ⟨.code body :: .ret rs dst :: .inv (CUT P G w0 M0 R I ok st) :: k, fr, fr0 :: st, H⟩) : RUN ⟨P, G, w0, M0, R⟩ ⟨.code body :: .ret rs dst :: k, fr, fr0 :: st, H⟩ := by
  intro sa a E hH hR hD
  have := h sa a E hH hR (by simpa only [DF] using hD)
  simp only [post, rd] at this ⊢
  refine wpIn_mono this (fun e a' w' q => ?_)
  have key : ∀ v w', retP sa dst (post P R (.inv (CUT P G w0 M0 R I ok st) :: k)) v w' → retP sa dst (post P R k) v w' := by
    rintro v w' ⟨a0, sa', h1, h2⟩
    refine ⟨a0, sa', h1, ?_⟩
    simp only [post] at h2
    obtain ⟨⟨s, E', k1, rfl, k2, k3⟩, k4⟩ := h2
    exact hk s k1 sa' _ E' k2 k3 k4
  cases e <;> simp only [post] at q ⊢ <;> try exact q
  · obtain ⟨q1, v, q2, q3⟩ := q; exact ⟨q1, v, q2, key _ _ q3⟩
  · obtain ⟨q1, v, q2, q3⟩ := q; exact ⟨q1, v, q2, key _ _ q3⟩
section
variable {P : Program} {G : Glob} {w0 : World} {M0 : Nat → Nat → Prop} {R : Value → World → Prop}
/-- A call gone into; whichever way it ends, it hands back 'r s' and leaves 'HH s'. -/
theorem CALLS_sum {σ : Type} (r : σ → V) (HH : σ → List AB) (ok : σ → Prop) {f : Operand} {args : List Operand} {ats : Array TypeId} {n : FuncId} {first cap vargs : List V} {dst : Option Tmp} {ty : TypeId} {p : String} {af : Array Edge} {all l : List Oper} {k : List It} {fr : List V} {st : List (List V)} {H : List AB} {fn : Func} {body : Code}
    (hf : P.funcs[n]? = some fn) (hb : fn.body = some body) (hn : callB P n = true)
    (h : RUNs P G w0 M0 R ⟨.code body :: .ret fn.results.toList dst :: .inv (CUT P G w0 M0 R (fun s => (putV fr dst (r s), HH s)) ok st) :: .ops all l :: k, (first ++ vargs ++ cap) ++ List.replicate (fn.ntmps - (first ++ vargs ++ cap).length) undefV, fr :: st, H⟩)
    (hk : ∀ s, ok s → RUN ⟨P, G, w0, M0, R⟩ ⟨.ops all l :: k, putV fr dst (r s), st, HH s⟩) :
    CALLS P G w0 M0 R ⟨.ops all (⟨dst, .call ⟨.value f, args.toArray, ats⟩, ty, p, af, none⟩ :: l) :: k, fr, st, H⟩ f args (.fn (.func n) first cap) vargs dst all l k fr st H :=
  RUNs_call hn (RUNc_inline (X := ⟨P, G, w0, M0, R⟩) hf hb (RUN_sum (fun s => (putV fr dst (r s), HH s)) ok hk (RUN_of_RUNs h)))
end
/-- A function value that leaves the heap as it is, and comes to b at those arguments. -/
def PureFn (P : Program) (G : Glob) (vf : V) (H : List AB) (vargs : List V) (b : V) : Prop :=
  ∀ (w0 : World) (M0 : Nat → Nat → Prop) (R : Value → World → Prop) (f : Operand) (args : List Operand) (ats : Array TypeId) (dst : Option Tmp) (ty : TypeId) (p : String) (af : Array Edge) (all l : List Oper) (k : List It) (fr : List V) (st : List (List V)),
    okL H.length fr = true → st.all (okL H.length) = true → RUN ⟨P, G, w0, M0, R⟩ ⟨.ops all l :: k, putV fr dst b, st, H⟩ →
    CALLS P G w0 M0 R ⟨.ops all (⟨dst, .call ⟨.value f, args.toArray, ats⟩, ty, p, af, none⟩ :: l) :: k, fr, st, H⟩ f args vf vargs dst all l k fr st H
theorem okL_set {n : Nat} {fr : List V} {t : Nat} {v : V} (h : okL n fr = true) (hv : okN n v = true) : okL n (fr.set t v) = true := by
  induction fr generalizing t with
  | nil => simpa using h
  | cons a l ih =>
    simp only [okL, Bool.and_eq_true] at h
    cases t with
    | zero => simp only [List.set, okL, Bool.and_eq_true]; exact ⟨hv, h.2⟩
    | succ t => simp only [List.set, okL, Bool.and_eq_true]; exact ⟨h.1, ih h.2⟩
theorem okL_put {n : Nat} {fr : List V} {d : Option Tmp} {v : V} (h : okL n fr = true) (hv : okN n v = true) : okL n (putV fr d v) = true := by
  cases d with
  | none => exact h
  | some t => exact okL_set h hv
theorem PureFn.of {P : Program} {G : Glob} {H : List AB} {n : FuncId} {first cap vargs : List V} {b : V} {fn : Func} {body : Code} (hf : P.funcs[n]? = some fn) (hb : fn.body = some body) (hn : callB P n = true) (hH : H.all (okAB H.length) = true) (hv : okN H.length b = true)
    (h : ∀ (w0 : World) (M0 : Nat → Nat → Prop) (R : Value → World → Prop) (dst : Option Tmp) (all l : List Oper) (k : List It) (fr : List V) (st : List (List V)), okL H.length fr = true → st.all (okL H.length) = true →
      RUNs P G w0 M0 R ⟨.code body :: .ret fn.results.toList dst :: .inv (CUT P G w0 M0 R (fun (_ : Unit) => (putV fr dst b, H)) (fun _ => True) st) :: .ops all l :: k, (first ++ vargs ++ cap) ++ List.replicate (fn.ntmps - (first ++ vargs ++ cap).length) undefV, fr :: st, H⟩) :
    PureFn P G (.fn (.func n) first cap) H vargs b := by
  intro w0 M0 R f args ats dst ty p af all l k fr st h1 h2 hR
  exact CALLS_sum (fun _ : Unit => b) (fun _ => H) (fun _ => True) hf hb hn (h w0 M0 R dst all l k fr st h1 h2) (fun _ _ => hR)
section
variable {P : Program} {G : Glob} {w0 : World} {M0 : Nat → Nat → Prop} {R : Value → World → Prop}
/-- the end of a function value's own run -/
theorem RUNs_pure {fr : List V} {st : List (List V)} {H H' : List AB} {b b' : V} {dst : Option Tmp} {k : List It} (hfr : okL H.length fr = true) (hst : st.all (okL H.length) = true) (hH : H.all (okAB H.length) = true) (hb : okN H.length b = true) (hle : LeH H' H := by repeat (first | exact .nil _ | refine .cons (.refl _) ?_)) (he : b' = b) :
    RUNs P G w0 M0 R ⟨.inv (CUT P G w0 M0 R (fun (_ : Unit) => (putV fr dst b, H)) (fun _ => True) st) :: k, putV fr dst b', st, H'⟩ :=
  CI () (hw := ⟨by subst he; exact LeL.refl _, hle, okL_put hfr hb, hH⟩) (hst := hst) (h := trivial)
end
theorem LeH.refl : ∀ (H : List AB), LeH H H
  | [] => .nil []
  | b :: H => .cons (.refl b) (LeH.refl H)
theorem LeH.app (J : List AB) : ∀ (H : List AB), LeH (H ++ J) H
  | [] => .nil _
  | b :: H => .cons (.refl b) (LeH.app J H)
end Go.Ab
namespace Go.Ab
open Go Go.RowKit
def idxP {α : Type} (p : α → Bool) (l : List α) : Int := match l.findIdx? p with
  | some i => (i : Int)
  | none => -1
theorem idxP_none {α : Type} {p : α → Bool} {l : List α} (h : l.any p = false) : idxP p l = -1 := by
  have : l.findIdx? p = none := by rw [List.findIdx?_eq_none_iff]; intro x hx; have := List.any_eq_false.1 h x hx; simpa using this
  rw [idxP, this]
theorem idxP_at {α : Type} {p : α → Bool} {l : List α} {i : Nat} (h : i < l.length) (h1 : (l.take i).any p = false) (h2 : p l[i] = true) : idxP p l = i := by
  have : l.findIdx? p = some i := by
    rw [List.findIdx?_eq_some_iff_getElem]
    refine ⟨h, h2, fun j hj => ?_⟩
    have := List.any_eq_false.1 h1 l[j] (by rw [List.mem_take_iff_getElem]; exact ⟨j, by omega, rfl⟩)
    simpa using this
  rw [idxP, this]
theorem any_snoc {α : Type} {p : α → Bool} {l : List α} {i : Nat} (h : i < l.length) (h1 : (l.take i).any p = false) (h2 : p l[i] = false) : (l.take (i + 1)).any p = false := by
  rw [List.take_succ_eq_append_getElem h, List.any_append, h1]; simp [h2]
theorem idxP_any {α : Type} (p : α → Bool) (l : List α) : decide (idxP p l ≥ 0) = l.any p := by
  cases h : l.any p with
  | false => rw [idxP_none h]; decide
  | true =>
    unfold idxP
    cases hf : l.findIdx? p with
    | some i => simp
    | none =>
      rw [List.findIdx?_eq_none_iff] at hf
      obtain ⟨x, hx, hp⟩ := List.any_eq_true.1 h
      rw [hf x hx] at hp; cases hp
theorem PureFn.use {P : Program} {G : Glob} {vf : V} {vargs : List V} {b : V} {w0 : World} {M0 : Nat → Nat → Prop} {R : Value → World → Prop} {f : Operand} {args : List Operand} {ats : Array TypeId} {dst : Option Tmp} {ty : TypeId} {p : String} {af : Array Edge} {all l : List Oper} {k : List It} {fr : List V} {st : List (List V)} {H : List AB}
    (h : PureFn P G vf H vargs b) (h1 : okL H.length fr = true := by rfl) (h2 : st.all (okL H.length) = true := by rfl) (hR : RUNs P G w0 M0 R ⟨.ops all l :: k, putV fr dst b, st, H⟩) :
    CALLS P G w0 M0 R ⟨.ops all (⟨dst, .call ⟨.value f, args.toArray, ats⟩, ty, p, af, none⟩ :: l) :: k, fr, st, H⟩ f args vf vargs dst all l k fr st H :=
  h w0 M0 R f args ats dst ty p af all l k fr st h1 h2 (RUN_of_RUNs hR)
theorem WkF {fr fr' : List V} {H : List AB} (c : okL H.length fr' = true) (d : H.all (okAB H.length) = true) (a : LeL fr fr' := by repeat (first | exact .nil | refine .cons (.refl _) ?_ | refine .cons (.sl _ _) ?_ | refine .cons (.any _) ?_)) : Weak fr H fr' H := ⟨a, LeH.refl H, c, d⟩
theorem stok {n : Nat} {fr : List V} {st : List (List V)} (h1 : okL n fr = true) (h2 : st.all (okL n) = true) : (fr :: st).all (okL n) = true := by
  rw [List.all_cons, h1, h2]; rfl
end Go.Ab
namespace Go.Ab
open Go Go.RowKit
theorem idxP_cases {α : Type} (p : α → Bool) (l : List α) : (idxP p l = -1 ∧ l.any p = false) ∨ ∃ i, ∃ h : i < l.length, idxP p l = i ∧ (l.take i).any p = false ∧ p l[i] = true := by
  unfold idxP
  cases hf : l.findIdx? p with
  | none => exact .inl ⟨rfl, by rw [List.findIdx?_eq_none_iff] at hf; rw [List.any_eq_false]; intro x hx; rw [hf x hx]; simp⟩
  | some i =>
    rw [List.findIdx?_eq_some_iff_getElem] at hf
    obtain ⟨h, h1, h2⟩ := hf
    refine .inr ⟨i, h, rfl, ?_, h1⟩
    rw [List.any_eq_false]
    intro x hx
    obtain ⟨j, hj, rfl⟩ := List.mem_take_iff_getElem.1 hx
    simpa using h2 j (by omega)
section
variable {P : Program} {G : Glob} {w0 : World} {M0 : Nat → Nat → Prop} {R : Value → World → Prop}
theorem RUNs_cutS {σ : Type} (S : σ → List (Nat × V)) (HH : σ → List (Nat × AB)) (ok : σ → Prop) {c : Code} {id : Nat} {k : List It} {fr : List V} {st : List (List V)} {H : List AB}
    (h : RUNs P G w0 M0 R ⟨.code c :: .blk id :: .inv (CUT P G w0 M0 R (fun s => (setF (wkF fr) (S s), setH H (HH s))) ok st) :: k, fr, st, H⟩) (hk : ∀ s, ok s → RUNs P G w0 M0 R ⟨k, setF (wkF fr) (S s), st, setH H (HH s)⟩) (hs : step P G ⟨.code c :: .blk id :: k, fr, st, H⟩ = none := by rfl) :
    RUNs P G w0 M0 R ⟨.code c :: .blk id :: k, fr, st, H⟩ := RUNs_cut _ ok h hk hs
theorem RUNs_cutRS {σ : Type} (S : σ → List (Nat × V)) (HH : σ → List (Nat × AB)) (ok : σ → Prop) {c : Code} {id : Nat} {k : List It} {fr : List V} {st : List (List V)} {H : List AB}
    (h : RUNs P G w0 M0 R ⟨.code c :: .blk id :: .inv (CUT P G w0 M0 R (fun s => (setF (wkF fr) (S s), setH H (HH s))) ok st) :: k, fr, st, H⟩) (hk : ∀ s, ok s → RUN ⟨P, G, w0, M0, R⟩ ⟨k, setF (wkF fr) (S s), st, setH H (HH s)⟩) (hs : step P G ⟨.code c :: .blk id :: k, fr, st, H⟩ = none := by rfl) :
    RUNs P G w0 M0 R ⟨.code c :: .blk id :: k, fr, st, H⟩ := RUNs_cutR _ ok h hk hs
end
end Go.Ab
namespace Go.Ab
open Go Go.RowKit
/-- What a call hands back, taken for good. -/
theorem Spec.fz {P : Program} {G : Glob} {n : FuncId} {args : List V} {r r' : V} {Hr : List AB} (h : Spec P G n args r Hr) (hf : Ab.fz (immL Hr (rowsIn r)) r = some r') : Spec P G n args r' [] := by
  intro E xs hE hx
  refine (h E xs hE hx).mono ?_
  rintro e w' ⟨v, E', rfl, rfl, rfl, h2, h3, h4⟩
  obtain ⟨E1, e1, e2, e3, e4⟩ := EOK.immL (rowsIn r) h2
  refine ⟨v, E1.bare, rfl, e1, rfl, ⟨e3.below, e3.old, e3.mlt, fun i v b hp => by simp [Env.bare] at hp, fun i v j u b hp => by simp [Env.bare] at hp, fun i h hh => by simp [Env.bare] at hh, e3.glob⟩, ?_, fz_sound e3 _ (Rep.mono _ e4 h4) (by rw [e2]; exact hf)⟩
  exact (h3.trans e4).bare
end Go.Ab

/- All rules in one. -/
namespace Ch
open Go Go.Ab
theorem z : type_of% @ab ∧ type_of% @ab2 ∧ type_of% @ab3 ∧ type_of% @tys ∧ type_of% @mv := ⟨ab, ab2, ab3, tys, mv⟩
end Ch

/- The small readers of the document's answer. -/
set_option maxRecDepth 100000
set_option maxHeartbeats 4000000
set_option linter.unusedSimpArgs false
set_option linter.unusedVariables false
namespace Ch
open Go Go.Ab
theorem Has_spec (l : List Int) (w : Int) (hl : l.length ≤ 9223372036854775807) : Spec PP [] 23 [wordsV l, u32 w] (.bool (decide (w ∈ l))) [] := by
  refine Spec.of_runs Go.Proofs.Try.f23 Go.Proofs.Try.func23 rfl ?_
  intro w0 M0
  simp only [Go.Proofs.Try.f23, List.replicate, List.cons_append, List.nil_append, wordsV, z, seval]
  refine RUNs_range l.length (fun i (_ : Unit) => w ∉ l.take i) (fun i _ => ([.sl (l.map u32) .plain, u32 w, .any, .any, .bool false, i64 i, .any, .any, .any, .any, .any, .any, .any, .any, .any, .any, .any, .any], [])) () (by simp) wk rfl ?_
  rintro ⟨i, _, hi, hw⟩
  simp only [z, seval]
  refine CONDS_split (fun h => ?_) (fun h => ?_)
  · have hlt : i < l.length := by simpa using h
    simp only [z, seval, getMap u32 l hlt]
    refine CONDS_split (fun h => ?_) (fun h => ?_)
    · simp only [z, seval]
      (refine FINS_done ?_; simp only [z, seval])
      have : w ∈ l := by have := List.getElem_mem hlt; simp at h; simp_all
      simp [this]
    · simp only [z, seval, w64s (i := i) (by omega)]
      refine NX () (hi := hlt) (hinv := ?_)
      have h' : l[i] ≠ w := by simpa using h
      simp only [List.take_succ_eq_append_getElem hlt, List.mem_append, List.mem_singleton]
      rintro (h1 | h1)
      · exact hw h1
      · exact h' h1.symm
  · simp only [z, seval]
    (refine FINS_done ?_; simp only [z, seval])
    have : i = l.length := by simp at h; omega
    subst this
    simp at hw; simp [hw]
def May09 (r : Run) : Bool := (r.proto == 1 || r.proto == 2) && (r.role == 1 || r.role == 2) && (r.state == 1 || r.state == 2 || r.state == 3)
theorem May09_spec (r : Run) : Spec PP [] 58 [r.v] (.bool (May09 r)) [] := by
  refine Spec.of_runs Go.Proofs.Try.f58 Go.Proofs.Try.func58 rfl ?_
  intro w0 M0
  simp only [Go.Proofs.Try.f58, List.replicate, List.cons_append, List.nil_append, Run.v, z, seval]
  repeat' ((first | refine brk (fun h => ?_) (fun h => ?_) | fail) <;> simp only [z, seval, h])
  all_goals (refine FINS_done ?_; simp only [z, seval])
  all_goals simp_all [May09]

def There07 (l : List Sld) (h : Int) : Bool := l.any fun s => s.handle == h
theorem There07_spec (b : Box) (w : Int) (hl : b.rows.length ≤ 9223372036854775807) : Spec PP [] 57 [b.v, u32 w] (.bool (There07 b.rows w)) [] := by
  refine Spec.of_runs Go.Proofs.Try.f57 Go.Proofs.Try.func57 rfl ?_
  intro w0 M0
  simp only [Go.Proofs.Try.f57, List.replicate, List.cons_append, List.nil_append, Box.v, sldsV, z, seval]
  refine RUNs_range b.rows.length (fun i (_ : Unit) => (b.rows.take i).all (fun s => !(s.handle == w)) = true) (fun i _ => ([b.v, u32 w, .ptr 0 0, .any, .bool false, i64 i, .any, .any, .any, .any, .any, .any, .any, .any, .any, .any, .any, .any, .any, .any, .any], [.var [i64 b.room, sldsV b.rows]])) () (by simp) wk rfl ?_
  rintro ⟨i, _, hi, hw⟩
  simp only [z, seval, sldsV]
  refine CONDS_split (fun h => ?_) (fun h => ?_)
  · have hlt : i < b.rows.length := by simpa using h
    simp only [z, seval, getMap Sld.v b.rows hlt, Sld.v]
    refine CONDS_split (fun h => ?_) (fun h => ?_)
    · simp only [z, seval]
      (refine FINS_done ?_; simp only [z, seval])
      rw [There07, any_true hlt h]
    · simp only [z, seval, w64s (i := i) (by omega)]
      refine NX () (hi := hlt) (hinv := ?_)
      rw [all_succ hlt, hw, h]; rfl
  · simp only [z, seval]
    (refine FINS_done ?_; simp only [z, seval])
    have : i = b.rows.length := by simp at h; omega
    subst this
    rw [List.take_length] at hw
    rw [There07, List.any_eq_not_all_not, hw]; rfl
end Ch

/- The small readers of the document's answer, go on. -/
set_option maxRecDepth 100000
set_option maxHeartbeats 4000000
set_option linter.unusedSimpArgs false
set_option linter.unusedVariables false
namespace Ch
open Go Go.Ab
def room (n : Int) : Bool := decide (n ≥ 0) && decide (n ≤ 64)
theorem room_spec (n : Int) : Spec PP [] 56 [i64 n] (.bool (room n)) [] := by
  refine Spec.of_runs Go.Proofs.Try.f56 Go.Proofs.Try.func56 rfl ?_
  intro w0 M0
  simp only [Go.Proofs.Try.f56, List.replicate, List.cons_append, List.nil_append, z, seval]
  repeat' ((first | refine brk (fun h => ?_) (fun h => ?_) | fail) <;> simp only [z, seval, h])
  all_goals (refine FINS_done ?_; simp only [z, seval])
  all_goals (first | (simp_all [room]; done) | (simp_all [room]; intros; omega))
def May12 (c : Conf) : Bool := decide (c.window ≤ 1048576) && decide (c.people ≥ 1) && decide (c.people ≤ 6) && room c.box && room c.used && room c.runs && room c.net && decide (c.regs ≥ 1) && decide (c.regs ≤ 8)
theorem May12_spec (c : Conf) : Spec PP [] 28 [c.v] (.bool (May12 c)) [] := by
  refine Spec.of_runs Go.Proofs.Try.f28 Go.Proofs.Try.func28 rfl ?_
  intro w0 M0
  simp only [Go.Proofs.Try.f28, List.replicate, List.cons_append, List.nil_append, Conf.v, z, seval]
  repeat' (first | (refine CU (room_spec _) (h := ?_); simp only [z, seval]) | ((first | refine brk (fun h => ?_) (fun h => ?_) | fail) <;> simp only [z, seval, h]))
  all_goals (refine FINS_done ?_; simp only [z, seval])
  all_goals (first | (simp_all [May12]; done) | (simp_all [May12]; intros; omega))
def Right06 (n : Net) : Bool := decide (n.room ≥ 0) && decide (n.room ≤ 64) && decide ((n.grams.length : Int) ≤ n.room)
theorem Right06_spec (n : Net) : Spec PP [] 30 [n.v] (.bool (Right06 n)) [] := by
  refine Spec.of_runs Go.Proofs.Try.f30 Go.Proofs.Try.func30 rfl ?_
  intro w0 M0
  simp only [Go.Proofs.Try.f30, List.replicate, List.cons_append, List.nil_append, Net.v, gramsV, z, seval]
  repeat' ((first | refine brk (fun h => ?_) (fun h => ?_) | fail) <;> simp only [z, seval, h])
  all_goals (refine FINS_done ?_; simp only [z, seval])
  all_goals (first | (simp_all [Right06]; done) | (simp_all [Right06]; intros; omega))
end Ch

/- The readers of the document's answer: forms. -/
set_option maxRecDepth 100000
set_option maxHeartbeats 4000000
set_option linter.unusedSimpArgs false
set_option linter.unusedVariables false
namespace Ch
open Go Go.Ab
def Right07 (b : Box) : Bool := decide (0 ≤ b.room) && decide (b.room ≤ 64) && decide ((b.rows.length : Int) ≤ b.room) && allIx (fun l s => decide (s.plain.length ≤ 64) && !There07 l s.handle) b.rows
theorem Right07_spec (b : Box) (hl : b.rows.length ≤ 9223372036854775807) : Spec PP [] 29 [b.v] (.bool (Right07 b)) [] := by
  refine Spec.of_runs Go.Proofs.Try.f29 Go.Proofs.Try.func29 rfl ?_
  intro w0 M0
  simp only [Go.Proofs.Try.f29, List.replicate, List.cons_append, List.nil_append, Box.v, sldsV, z, seval]
  repeat' ((first | refine brk (fun h => ?_) (fun h => ?_) | fail) <;> simp only [z, seval, h])
  rotate_left
  all_goals try ((refine FINS_done ?_; simp only [z, seval]); (simp_all [Right07]; done))
  all_goals try ((refine FINS_done ?_; simp only [z, seval]); (simp_all [Right07]; intros; omega))
  rename_i h1 h2
  refine RUNs_range b.rows.length (fun i (_ : Unit) => allIx (fun l s => decide (s.plain.length ≤ 64) && !There07 l s.handle) (b.rows.take i) = true) (fun i _ => ([.any, .ptr 0 0, .bool false, i64 i, .any, .any, .any, .any, .any, .any, .any, .any, .any, .any, .any, .any, .any, .any, .any, .any, .any, .any, .any, .any, .any, .any, .any, .any, .any, .any, .any, .any, .any, .any, .any, .any, .any, .any, .any, .any, .any, .any, .any, .any, .any, .any, .any, .any, .any], [.var [i64 b.room, sldsV b.rows]])) () (by simp [allIx_nil]) wk rfl ?_
  rintro ⟨i, _, hi, hw⟩
  simp only [z, seval, sldsV]
  refine CONDS_split (fun h => ?_) (fun h => ?_)
  · have hlt : i < b.rows.length := by simpa using h
    simp only [z, seval]
    (refine RUNs_draw 0 (by kernel_rfl) ?_; simp only [z, seval])
    simp only [z, seval, getMap Sld.v b.rows hlt, Sld.v, wordsV]
    first | refine brk (fun h => ?_) (fun h => ?_) | fail
    · simp only [z, seval, getMap Sld.v b.rows hlt, Sld.v, wordsV, h]
      refine DOC_ok (slc_ok hi (by intro a; rfl)) ?_
      simp only [z, seval, getMap Sld.v b.rows hlt, Sld.v, wordsV]
      (refine DU (There07_spec ⟨0, b.rows.take i⟩ _ (by simp; omega)) (h := ?_); simp only [z, seval])
      (refine ⟨by kernel_rfl, ?_⟩)
      first | refine brk (fun h => ?_) (fun h => ?_) | fail
      · simp only [z, seval, h]
        (refine FINS_done ?_; simp only [z, seval])
        rw [Right07, allIx_false hlt (by simp_all)]; simp
      · simp only [z, seval, h, w64s (i := i) (by omega)]
        refine NX () (hi := hlt) (hinv := ?_)
        rw [allIx_succ hlt, hw]
        simp_all; omega
    · simp only [z, seval, getMap Sld.v b.rows hlt, Sld.v, wordsV, h]
      (refine ⟨by kernel_rfl, ?_⟩)
      (refine FINS_done ?_; simp only [z, seval])
      rw [Right07, allIx_false hlt (by simp_all; intros; omega)]; simp
  · simp only [z, seval]
    (refine FINS_done ?_; simp only [z, seval])
    have : i = b.rows.length := by simp at h; omega
    subst this
    rw [List.take_length] at hw
    rw [Right07, hw]
    simp_all
end Ch

/- The readers of the document's answer: forms, go on. -/
set_option maxRecDepth 100000
set_option maxHeartbeats 4000000
set_option linter.unusedSimpArgs false
set_option linter.unusedVariables false
namespace Ch
open Go Go.Ab
def Right09 (l : List Run) (room : Int) : Bool := l.all May09 && decide ((l.length : Int) ≤ room)
theorem Right09_spec (l : List Run) (room : Int) (hl : l.length ≤ 9223372036854775807) : Spec PP [] 33 [runsV l, i64 room] (.bool (Right09 l room)) [] := by
  refine Spec.of_runs Go.Proofs.Try.f33 Go.Proofs.Try.func33 rfl ?_
  intro w0 M0
  simp only [Go.Proofs.Try.f33, List.replicate, List.cons_append, List.nil_append, runsV, z, seval]
  refine RUNs_range l.length (fun i (_ : Unit) => (l.take i).all May09 = true) (fun i _ => ([.sl (l.map Run.v) .plain, i64 room, .any, .any, .bool false, i64 i, .any, .any, .any, .any, .any, .any, .any, .any, .any, .any, .any, .any, .any, .any, .any, .any], [])) () (by simp) wk rfl ?_
  rintro ⟨i, _, hi, hw⟩
  simp only [z, seval]
  refine CONDS_split (fun h => ?_) (fun h => ?_)
  · have hlt : i < l.length := by simpa using h
    simp only [z, seval, getMap Run.v l hlt, Run.v]
    (refine CU (May09_spec l[i]) (h := ?_); simp only [z, seval])
    first | refine brk (fun h => ?_) (fun h => ?_) | fail
    · simp only [z, seval, w64s (i := i) (by omega)]
      refine NX () (hi := hlt) (hinv := ?_)
      rw [all_succ hlt, hw, h]; rfl
    · simp only [z, seval]
      (refine FINS_done ?_; simp only [z, seval])
      rw [Right09, all_false hlt h]; rfl
  · simp only [z, seval]
    (refine FINS_done ?_; simp only [z, seval])
    have : i = l.length := by simp at h; omega
    subst this
    rw [List.take_length] at hw
    rw [Right09, hw]; rfl
def Right10 (l : List Person) : Bool := allIx (fun pre p => p.name == IntKind.u32.wrap pre.length) l && decide ((l.length : Int) > 1) && decide ((l.length : Int) < 8)
theorem Right10_spec (l : List Person) (hl : l.length ≤ 9223372036854775807) : Spec PP [] 31 [peopleV l] (.bool (Right10 l)) [] := by
  refine Spec.of_runs Go.Proofs.Try.f31 Go.Proofs.Try.func31 rfl ?_
  intro w0 M0
  simp only [Go.Proofs.Try.f31, List.replicate, List.cons_append, List.nil_append, peopleV, z, seval]
  refine RUNs_range l.length (fun i (_ : Unit) => allIx (fun pre p => p.name == IntKind.u32.wrap pre.length) (l.take i) = true) (fun i _ => ([.sl (l.map Person.v) .plain, .any, .bool false, i64 i, .any, .any, .any, .any, .any, .any, .any, .any, .any, .any, .any, .any, .any, .any, .any, .any, .any, .any, .any, .any, .any, .any], [])) () (by simp [allIx_nil]) wk rfl ?_
  rintro ⟨i, _, hi, hw⟩
  have hti : (l.take i).length = i := by rw [List.length_take]; omega
  simp only [z, seval]
  refine CONDS_split (fun h => ?_) (fun h => ?_)
  · have hlt : i < l.length := by simpa using h
    simp only [z, seval, getMap Person.v l hlt, Person.v]
    first | refine brk (fun h => ?_) (fun h => ?_) | fail
    · simp only [z, seval, w64s (i := i) (by omega)]
      refine NX () (hi := hlt) (hinv := ?_)
      rw [allIx_succ hlt, hw, hti, h]; rfl
    · simp only [z, seval]
      (refine FINS_done ?_; simp only [z, seval])
      rw [Right10, allIx_false hlt (by rw [hti]; exact h)]; rfl
  · simp only [z, seval]
    have : i = l.length := by simp at h; omega
    subst this
    rw [List.take_length] at hw
    repeat' ((first | refine brk (fun h => ?_) (fun h => ?_) | fail) <;> simp only [z, seval, h])
    all_goals (refine FINS_done ?_; simp only [z, seval])
    all_goals (first | (simp_all [Right10]; done) | (simp_all [Right10]; intros; omega))
def Right08 (l : List Int) (room : Int) : Bool := allIx (fun pre x => !decide (x ∈ pre)) l && decide ((l.length : Int) ≤ room)
theorem Right08_spec (l : List Int) (room : Int) (hl : l.length ≤ 9223372036854775807) : Spec PP [] 32 [wordsV l, i64 room] (.bool (Right08 l room)) [] := by
  refine Spec.of_runs Go.Proofs.Try.f32 Go.Proofs.Try.func32 rfl ?_
  intro w0 M0
  simp only [Go.Proofs.Try.f32, List.replicate, List.cons_append, List.nil_append, wordsV, z, seval]
  refine RUNs_range l.length (fun i (_ : Unit) => allIx (fun pre x => !decide (x ∈ pre)) (l.take i) = true) (fun i _ => ([.sl (l.map u32) .plain, i64 room, .any, .any, .bool false, i64 i, .any, .any, .any, .any, .any, .any, .any, .any, .any, .any, .any, .any, .any, .any, .any, .any, .any, .any, .any, .any, .any, .any, .any, .any, .any], [])) () (by simp [allIx_nil]) wk rfl ?_
  rintro ⟨i, _, hi, hw⟩
  simp only [z, seval]
  refine CONDS_split (fun h => ?_) (fun h => ?_)
  · have hlt : i < l.length := by simpa using h
    simp only [z, seval]
    refine RUNs_range i (fun k (_ : Unit) => l[i] ∉ l.take k) (fun k _ => ([.sl (l.map u32) .plain, i64 room, .any, .any, .bool false, i64 i, i64 k, .any, .any, .any, .any, .any, .any, .any, .any, .any, .any, .any, .any, .any, .any, .any, .any, .any, .any, .any, .any, .any, .any, .any, .any], [])) () (by simp) wk rfl ?_
    rintro ⟨k, _, hk, hwk⟩
    simp only [z, seval]
    refine CONDS_split (fun h => ?_) (fun h => ?_)
    · have hlk : k < i := by simpa using h
      simp only [z, seval]
      (refine RUNs_draw 0 (by kernel_rfl) ?_; simp only [z, seval])
      simp only [z, seval, getMap u32 l hlt, getMap u32 l (Nat.lt_trans hlk hlt)]
      (refine ⟨by kernel_rfl, ?_⟩)
      first | refine brk (fun h => ?_) (fun h => ?_) | fail
      · simp only [z, seval]
        (refine FINS_done ?_; simp only [z, seval])
        have hm : l[i] ∈ l.take i := by
          rw [List.mem_iff_getElem]
          refine ⟨k, by rw [List.length_take]; omega, ?_⟩
          simp at h; simp [h]
        rw [Right08, allIx_false hlt (by simp [hm])]; rfl
      · simp only [z, seval, w64s (i := k) (by omega)]
        refine NX () (hi := hlk) (hinv := ?_)
        rw [List.take_succ_eq_append_getElem (Nat.lt_trans hlk hlt), List.mem_append, List.mem_singleton]
        rintro (hc | hc)
        · exact hwk hc
        · simp at h; exact h hc
    · have : k = i := by simp at h; omega
      subst this
      simp only [z, seval, w64s (i := k) (by omega)]
      refine NX () (hi := hlt) (hinv := ?_)
      rw [allIx_succ hlt, hw]; simpa using hwk
  · simp only [z, seval]
    (refine FINS_done ?_; simp only [z, seval])
    have : i = l.length := by simp at h; omega
    subst this
    rw [List.take_length] at hw
    rw [Right08, hw]; rfl
end Ch

/- The readers of the document's answer: small worlds. -/
set_option maxRecDepth 100000
set_option maxHeartbeats 4000000
set_option linter.unusedSimpArgs false
set_option linter.unusedVariables false
namespace Ch
open Go Go.Ab
def few (l : List Int) : Bool := decide ((l.length : Int) ≤ 100)
def Few07 (b : Box) : Bool := (b.rows.take 100).all (fun s => few s.plain) && decide ((b.rows.length : Int) ≤ 70)
theorem Few07_spec (b : Box) (hl : b.rows.length ≤ 9223372036854775807) : Spec PP [] 25 [b.v] (.bool (Few07 b)) [] := by
  refine Spec.of_runs Go.Proofs.Try.f25 Go.Proofs.Try.func25 rfl ?_
  intro w0 M0
  simp only [Go.Proofs.Try.f25, List.replicate, List.cons_append, List.nil_append, Box.v, sldsV, z, seval]
  refine RUNs_range b.rows.length (fun i (_ : Unit) => (b.rows.take i).all (fun s => few s.plain) = true ∧ i ≤ 100) (fun i _ => ([.any, .ptr 0 0, .bool false, i64 i, .any, .any, .any, .any, .any, .any, .any, .any, .any, .any, .any, .any, .any, .any, .any, .any, .any, .any, .any, .any, .any, .any, .any], [.var [i64 b.room, sldsV b.rows]])) () (by simp) wk rfl ?_
  rintro ⟨i, _, hi, hw, hm⟩
  simp only [z, seval, sldsV]
  have hend : (¬ i < b.rows.length ∨ ¬ i < 100) → (b.rows.take 100).all (fun s => few s.plain) = true := fun h => by rw [← take_end hi hm h]; exact hw
  first | refine brk (fun h => ?_) (fun h => ?_) | fail
  · have hlt : i < b.rows.length := by simpa using h
    simp only [z, seval, h]
    first | refine brk (fun h => ?_) (fun h => ?_) | fail
    · have hlm : i < 100 := by simp at h; omega
      simp only [z, seval, h, getMap Sld.v b.rows hlt, Sld.v, wordsV]
      first | refine brk (fun h => ?_) (fun h => ?_) | fail
      · simp only [z, seval, h]
        (refine FINS_done ?_; simp only [z, seval])
        rw [Few07, all_take_false hlt hlm (by simp [few]; simp at h; omega)]; rfl
      · simp only [z, seval, h, w64s (i := i) (by omega)]
        refine NX () (hi := hlt) (hinv := ?_)
        refine ⟨?_, by show i + 1 ≤ 100; omega⟩
        rw [all_succ hlt, hw]; simp [few]; simp at h; omega
    · simp only [z, seval, h]
      (refine FINS_done ?_; simp only [z, seval])
      rw [Few07, hend (.inr (by simp at h; omega))]; rfl
  · simp only [z, seval, h]
    (refine FINS_done ?_; simp only [z, seval])
    rw [Few07, hend (.inl (by simp at h; omega))]; rfl
def Few10 (l : List Person) : Bool := (l.take 20).all (fun p => few p.used && decide ((p.runs.length : Int) ≤ 100)) && decide ((l.length : Int) ≤ 10)
theorem Few10_spec (l : List Person) (hl : l.length ≤ 9223372036854775807) : Spec PP [] 27 [peopleV l] (.bool (Few10 l)) [] := by
  refine Spec.of_runs Go.Proofs.Try.f27 Go.Proofs.Try.func27 rfl ?_
  intro w0 M0
  simp only [Go.Proofs.Try.f27, List.replicate, List.cons_append, List.nil_append, peopleV, z, seval]
  refine RUNs_range l.length (fun i (_ : Unit) => (l.take i).all (fun p => few p.used && decide ((p.runs.length : Int) ≤ 100)) = true ∧ i ≤ 20) (fun i _ => ([.sl (l.map Person.v) .plain, .any, .bool false, i64 i, .any, .any, .any, .any, .any, .any, .any, .any, .any, .any, .any, .any, .any, .any, .any, .any, .any, .any, .any, .any, .any, .any, .any, .any, .any, .any, .any, .any, .any], [])) () (by simp) wk rfl ?_
  rintro ⟨i, _, hi, hw, hm⟩
  simp only [z, seval]
  have hend : (¬ i < l.length ∨ ¬ i < 20) → (l.take 20).all (fun p => few p.used && decide ((p.runs.length : Int) ≤ 100)) = true := fun h => by rw [← take_end hi hm h]; exact hw
  first | refine brk (fun h => ?_) (fun h => ?_) | fail
  · have hlt : i < l.length := by simpa using h
    simp only [z, seval, h]
    first | refine brk (fun h => ?_) (fun h => ?_) | fail
    · have hlm : i < 20 := by simp at h; omega
      simp only [z, seval, h, getMap Person.v l hlt, Person.v, wordsV, runsV]
      first | refine brk (fun h => ?_) (fun h => ?_) | fail
      · rename_i h1
        simp only [z, seval, h, getMap Person.v l hlt, Person.v, wordsV, runsV]
        first | refine brk (fun h => ?_) (fun h => ?_) | fail
        · simp only [z, seval, h]
          (refine FINS_done ?_; simp only [z, seval])
          rw [Few10, all_take_false hlt hlm (by simp [few] at *; intros; omega)]; rfl
        · simp only [z, seval, h, w64s (i := i) (by omega)]
          refine NX () (hi := hlt) (hinv := ?_)
          refine ⟨?_, by show i + 1 ≤ 20; omega⟩
          rw [all_succ hlt, hw]; simp [few] at *; omega
      · simp only [z, seval, h, getMap Person.v l hlt, Person.v, wordsV, runsV]
        (refine FINS_done ?_; simp only [z, seval])
        rw [Few10, all_take_false hlt hlm (by simp [few] at *; intros; omega)]; rfl
    · simp only [z, seval, h]
      (refine FINS_done ?_; simp only [z, seval])
      rw [Few10, hend (.inr (by simp at h; omega))]; rfl
  · simp only [z, seval, h]
    (refine FINS_done ?_; simp only [z, seval])
    rw [Few10, hend (.inl (by simp at h; omega))]; rfl
end Ch

/- The readers of the document's answer: small worlds, go on. -/
set_option maxRecDepth 100000
set_option maxHeartbeats 4000000
set_option linter.unusedSimpArgs false
set_option linter.unusedVariables false
namespace Ch
open Go Go.Ab
def Few06 (n : Net) : Bool := (n.grams.take 100).all (fun g => few g.words) && (n.seen.take 400).all few && decide ((n.grams.length : Int) ≤ 64) && decide ((n.seen.length : Int) ≤ 300)
theorem Few06_spec (b : Net) (hl : b.grams.length ≤ 9223372036854775807) (hl2 : b.seen.length ≤ 9223372036854775807) : Spec PP [] 26 [b.v] (.bool (Few06 b)) [] := by
  refine Spec.of_runs Go.Proofs.Try.f26 Go.Proofs.Try.func26 rfl ?_
  intro w0 M0
  simp only [Go.Proofs.Try.f26, List.replicate, List.cons_append, List.nil_append, Net.v, gramsV, rowsV, z, seval]
  refine RUNs_cut (fun _ : Unit => ([.any, .ptr 0 0, .bool false, .any, .any, .any, .any, .any, .any, .any, .any, .any, .any, .any, .any, .any, .any, .any, .any, .any, .any, .any, .any, .any, .any, .any, .any, .any, .any, .any, .any, .any, .any, .any, .any, .any, .any, .any, .any, .any, .any, .any, .any, .any, .any, .any, .any, .any, .any, .any, .any, .any], [.var [i64 b.room, gramsV b.grams, rowsV b.seen]])) (fun _ => (b.grams.take 100).all (fun s => few s.words) = true) ?_ ?_ rfl
  · refine RUNs_range b.grams.length (fun i (_ : Unit) => (b.grams.take i).all (fun s => few s.words) = true ∧ i ≤ 100) (fun i _ => ([.any, .ptr 0 0, .bool false, i64 i, .any, .any, .any, .any, .any, .any, .any, .any, .any, .any, .any, .any, .any, .any, .any, .any, .any, .any, .any, .any, .any, .any, .any, .any, .any, .any, .any, .any, .any, .any, .any, .any, .any, .any, .any, .any, .any, .any, .any, .any, .any, .any, .any, .any, .any, .any, .any, .any], [.var [i64 b.room, gramsV b.grams, rowsV b.seen]])) () (by simp) wk rfl ?_
    rintro ⟨i, _, hi, hw, hm⟩
    simp only [z, seval, gramsV]
    have hend : (¬ i < b.grams.length ∨ ¬ i < 100) → (b.grams.take 100).all (fun s => few s.words) = true := fun h => by rw [← take_end hi hm h]; exact hw
    first | refine brk (fun h => ?_) (fun h => ?_) | fail
    · have hlt : i < b.grams.length := by simpa using h
      simp only [z, seval, h]
      first | refine brk (fun h => ?_) (fun h => ?_) | fail
      · have hlm : i < 100 := by simp at h; omega
        simp only [z, seval, h, getMap Gram.v b.grams hlt, Gram.v, wordsV]
        first | refine brk (fun h => ?_) (fun h => ?_) | fail
        · simp only [z, seval, h]
          (refine FINS_done ?_; simp only [z, seval])
          rw [Few06, all_take_false hlt hlm (by simp [few]; simp at h; omega)]; rfl
        · simp only [z, seval, h, w64s (i := i) (by omega)]
          refine NX () (hi := hlt) (hinv := ?_)
          refine ⟨?_, by show i + 1 ≤ 100; omega⟩
          rw [all_succ hlt, hw]; simp [few]; simp at h; omega
      · simp only [z, seval, h]
        refine CI () (h := ?_)
        exact hend (.inr (by simp at h; omega))
    · simp only [z, seval, h]
      refine CI () (h := ?_)
      exact hend (.inl (by simp at h; omega))
  · rintro _ h1
    simp only [z, seval]
    refine RUNs_range b.seen.length (fun i (_ : Unit) => (b.seen.take i).all few = true ∧ i ≤ 400) (fun i _ => ([.any, .ptr 0 0, .bool false, .any, i64 i, .any, .any, .any, .any, .any, .any, .any, .any, .any, .any, .any, .any, .any, .any, .any, .any, .any, .any, .any, .any, .any, .any, .any, .any, .any, .any, .any, .any, .any, .any, .any, .any, .any, .any, .any, .any, .any, .any, .any, .any, .any, .any, .any, .any, .any, .any, .any], [.var [i64 b.room, gramsV b.grams, rowsV b.seen]])) () (by simp) wk rfl ?_
    rintro ⟨i, _, hi, hw, hm⟩
    simp only [z, seval, rowsV, gramsV]
    have hend : (¬ i < b.seen.length ∨ ¬ i < 400) → (b.seen.take 400).all few = true := fun h => by rw [← take_end hi hm h]; exact hw
    first | refine brk (fun h => ?_) (fun h => ?_) | fail
    · have hlt : i < b.seen.length := by simpa using h
      simp only [z, seval, h]
      first | refine brk (fun h => ?_) (fun h => ?_) | fail
      · have hlm : i < 400 := by simp at h; omega
        simp only [z, seval, h, getMap wordsV b.seen hlt, wordsV]
        first | refine brk (fun h => ?_) (fun h => ?_) | fail
        · simp only [z, seval, h]
          (refine FINS_done ?_; simp only [z, seval])
          rw [Few06, all_take_false hlt hlm (by simp [few]; simp at h; omega)]; simp
        · simp only [z, seval, h, w64s (i := i) (by omega)]
          refine NX () (hi := hlt) (hinv := ?_)
          refine ⟨?_, by show i + 1 ≤ 400; omega⟩
          rw [all_succ hlt, hw]; simp [few]; simp at h; omega
      · have h2 := hend (.inr (by simp at h; omega))
        simp only [z, seval, h]
        repeat' ((first | refine brk (fun h => ?_) (fun h => ?_) | fail) <;> simp only [z, seval, h])
        all_goals (refine FINS_done ?_; simp only [z, seval])
        all_goals (first | (simp_all [Few06]; done) | (simp_all [Few06]; intros; omega))
    · have h2 := hend (.inl (by simp at h; omega))
      simp only [z, seval, h]
      repeat' ((first | refine brk (fun h => ?_) (fun h => ?_) | fail) <;> simp only [z, seval, h])
      all_goals (refine FINS_done ?_; simp only [z, seval])
      all_goals (first | (simp_all [Few06]; done) | (simp_all [Few06]; intros; omega))
end Ch

/- The readers of the document's answer: a world's form. -/
set_option maxRecDepth 100000
set_option maxHeartbeats 4000000
set_option linter.unusedSimpArgs false
set_option linter.unusedVariables false
namespace Ch
open Go Go.Ab
structure World.Lim (w : World) : Prop where
  draws : w.draws.list.length ≤ 9223372036854775807
  box : w.box.rows.length ≤ 9223372036854775807
  grams : w.net.grams.length ≤ 9223372036854775807
  seen : w.net.seen.length ≤ 9223372036854775807
  people : w.people.length ≤ 9223372036854775807
  used : ∀ p ∈ w.people, p.used.length ≤ 9223372036854775807 ∧ p.runs.length ≤ 9223372036854775807
  log : w.log.length ≤ 9223372036854775807
  regs : w.regs.length ≤ 9223372036854775807
  leaks : w.leaks.length ≤ 9223372036854775807
def okP (c : Conf) (p : Person) : Bool := Right08 p.used c.used && Right09 p.runs c.runs && decide (p.clock ≤ 1073741824)
def at64 (l : List Int) : Bool := decide ((l.length : Int) ≤ 64)
def Form12 (w : World) : Bool := May12 w.conf && Right07 w.box && w.box.room == w.conf.box && Right06 w.net && w.net.room == w.conf.net && Right10 w.people && (w.people.length : Int) == IntKind.i64.wrap (w.conf.people + 1) &&
  (w.regs.length : Int) == w.conf.regs && decide (0 ≤ w.draws.next) && decide (w.draws.next ≤ 1048576) && w.people.all (okP w.conf) && w.regs.all at64 && w.net.seen.all at64 && w.net.grams.all (fun g => at64 g.words)
theorem Form12_spec (w : World) (hl : w.Lim) : Spec PP [] 8 [w.v] (.bool (Form12 w)) [] := by
  obtain ⟨l1, l2, l3, l4, l5, l6, l7, l8, l9⟩ := hl
  refine Spec.of_runs Go.Proofs.Try.f8 Go.Proofs.Try.func8 rfl ?_
  intro w0 M0
  simp only [Go.Proofs.Try.f8, List.replicate, List.cons_append, List.nil_append, World.v, World.cells, z, seval]
  repeat' (first | (refine CU (May12_spec w.conf) (h := ?_); simp only [z, seval]) | (refine CU (Right07_spec w.box l2) (h := ?_); simp only [z, seval]) | (refine CU (Right06_spec w.net) (h := ?_); simp only [z, seval]) | (refine CU (Right10_spec w.people l5) (h := ?_); simp only [z, seval]) | ((first | refine brk (fun h => ?_) (fun h => ?_) | fail) <;> simp only [z, seval, h]))
  all_goals try ((refine FINS_done ?_; simp only [z, seval]); (first | (simp_all [Form12]; done) | (simp_all [Form12]; intros; omega)); done)
  have hform : Form12 w = (w.people.all (okP w.conf) && w.regs.all at64 && w.net.seen.all at64 && w.net.grams.all (fun g => at64 g.words)) := by
    simp_all [Form12, Bool.and_assoc]
  refine RUNs_cut (fun _ : Unit => ([.any, .ptr 0 0, .bool false, .any, .any, .any, .any, .any, .any, .any, .any, .any, .any, .any, .any, .any, .any, .any, .any, .any, .any, .any, .any, .any, .any, .any, .any, .any, .any, .any, .any, .any, .any, .any, .any, .any, .any, .any, .any, .any, .any, .any, .any, .any, .any, .any, .any, .any, .any, .any, .any, .any, .any, .any, .any, .any, .any, .any, .any, .any, .any, .any, .any, .any, .any, .any, .any, .any, .any, .any, .any, .any, .any, .any, .any, .any, .any, .any, .any, .any, .any, .any, .any, .any, .any, .any, .any, .any, .any, .any, .any, .any, .any, .any, .any, .any, .any, .any, .any, .any, .any, .any, .any, .any, .any, .any, .any, .any, .any, .any, .any, .any, .any, .any, .any, .any, .any, .any, .any, .any, .any, .any, .any, .any, .any, .any, .any, .any, .any, .any, .any, .any, .any, .any, .any, .any, .any, .any, .any, .any, .any, .any, .any, .any, .any, .any, .any, .any, .any, .any, .any, .any, .any, .any, .any, .any, .any], [.var w.cells])) (fun _ => w.people.all (okP w.conf) = true) ?_ ?_ rfl
  · refine RUNs_range w.people.length (fun i (_ : Unit) => (w.people.take i).all (okP w.conf) = true) (fun i _ => ([.any, .ptr 0 0, .bool false, i64 i, .any, .any, .any, .any, .any, .any, .any, .any, .any, .any, .any, .any, .any, .any, .any, .any, .any, .any, .any, .any, .any, .any, .any, .any, .any, .any, .any, .any, .any, .any, .any, .any, .any, .any, .any, .any, .any, .any, .any, .any, .any, .any, .any, .any, .any, .any, .any, .any, .any, .any, .any, .any, .any, .any, .any, .any, .any, .any, .any, .any, .any, .any, .any, .any, .any, .any, .any, .any, .any, .any, .any, .any, .any, .any, .any, .any, .any, .any, .any, .any, .any, .any, .any, .any, .any, .any, .any, .any, .any, .any, .any, .any, .any, .any, .any, .any, .any, .any, .any, .any, .any, .any, .any, .any, .any, .any, .any, .any, .any, .any, .any, .any, .any, .any, .any, .any, .any, .any, .any, .any, .any, .any, .any, .any, .any, .any, .any, .any, .any, .any, .any, .any, .any, .any, .any, .any, .any, .any, .any, .any, .any, .any, .any, .any, .any, .any, .any, .any, .any, .any, .any, .any, .any], [.var w.cells])) () (by simp) wk rfl ?_
    rintro ⟨i, _, hi, hw⟩
    simp only [z, seval, World.cells]
    first | refine brk (fun h => ?_) (fun h => ?_) | fail
    · have hlt : i < w.people.length := by simpa using h
      obtain ⟨m1, m2⟩ := l6 w.people[i] (List.getElem_mem hlt)
      simp only [z, seval, h, getMap Person.v w.people hlt, Person.v]
      repeat' (first | (refine CU (Right08_spec w.people[i].used w.conf.used m1) (h := ?_); simp only [z, seval]) | (refine CU (Right09_spec w.people[i].runs w.conf.runs m2) (h := ?_); simp only [z, seval]) | ((first | refine brk (fun h => ?_) (fun h => ?_) | fail) <;> simp only [z, seval, h]))
      all_goals try ((refine FINS_done ?_; simp only [z, seval]); (rw [hform, all_false hlt (by simp_all [okP])]; simp); done)
      simp only [w64s (i := i) (by omega)]
      refine NX () (hi := hlt) (hinv := ?_)
      rw [all_succ hlt, hw]; simp_all [okP]
    · simp only [z, seval, h]
      refine CI () (h := ?_)
      have : i = w.people.length := by simp at h; omega
      subst this
      rwa [List.take_length] at hw
  intro _ hA
  simp only [z, seval]
  refine RUNs_cut (fun _ : Unit => ([.any, .ptr 0 0, .bool false, .any, .any, .any, .any, .any, .any, .any, .any, .any, .any, .any, .any, .any, .any, .any, .any, .any, .any, .any, .any, .any, .any, .any, .any, .any, .any, .any, .any, .any, .any, .any, .any, .any, .any, .any, .any, .any, .any, .any, .any, .any, .any, .any, .any, .any, .any, .any, .any, .any, .any, .any, .any, .any, .any, .any, .any, .any, .any, .any, .any, .any, .any, .any, .any, .any, .any, .any, .any, .any, .any, .any, .any, .any, .any, .any, .any, .any, .any, .any, .any, .any, .any, .any, .any, .any, .any, .any, .any, .any, .any, .any, .any, .any, .any, .any, .any, .any, .any, .any, .any, .any, .any, .any, .any, .any, .any, .any, .any, .any, .any, .any, .any, .any, .any, .any, .any, .any, .any, .any, .any, .any, .any, .any, .any, .any, .any, .any, .any, .any, .any, .any, .any, .any, .any, .any, .any, .any, .any, .any, .any, .any, .any, .any, .any, .any, .any, .any, .any, .any, .any, .any, .any, .any, .any], [.var w.cells])) (fun _ => w.regs.all at64 = true) ?_ ?_ rfl
  · refine RUNs_range w.regs.length (fun i (_ : Unit) => (w.regs.take i).all at64 = true) (fun i _ => ([.any, .ptr 0 0, .bool false, .any, .any, i64 i, .any, .any, .any, .any, .any, .any, .any, .any, .any, .any, .any, .any, .any, .any, .any, .any, .any, .any, .any, .any, .any, .any, .any, .any, .any, .any, .any, .any, .any, .any, .any, .any, .any, .any, .any, .any, .any, .any, .any, .any, .any, .any, .any, .any, .any, .any, .any, .any, .any, .any, .any, .any, .any, .any, .any, .any, .any, .any, .any, .any, .any, .any, .any, .any, .any, .any, .any, .any, .any, .any, .any, .any, .any, .any, .any, .any, .any, .any, .any, .any, .any, .any, .any, .any, .any, .any, .any, .any, .any, .any, .any, .any, .any, .any, .any, .any, .any, .any, .any, .any, .any, .any, .any, .any, .any, .any, .any, .any, .any, .any, .any, .any, .any, .any, .any, .any, .any, .any, .any, .any, .any, .any, .any, .any, .any, .any, .any, .any, .any, .any, .any, .any, .any, .any, .any, .any, .any, .any, .any, .any, .any, .any, .any, .any, .any, .any, .any, .any, .any, .any, .any], [.var w.cells])) () (by simp) wk rfl ?_
    rintro ⟨i, _, hi, hw⟩
    simp only [z, seval, World.cells]
    first | refine brk (fun h => ?_) (fun h => ?_) | fail
    · have hlt : i < w.regs.length := by simpa using h
      simp only [z, seval, h, getMap wordsV w.regs hlt, Gram.v]
      first | refine brk (fun h => ?_) (fun h => ?_) | fail
      · simp only [z, seval, h]
        (refine FINS_done ?_; simp only [z, seval])
        rw [hform, all_false hlt (by simp [at64]; simp at h; omega)]; simp
      · simp only [z, seval, h, w64s (i := i) (by omega)]
        refine NX () (hi := hlt) (hinv := ?_)
        rw [all_succ hlt, hw]; simp [at64]; simp at h; omega
    · simp only [z, seval, h]
      have hend : i = w.regs.length := by simp at h; omega
      subst hend
      rw [List.take_length] at hw
      refine CI () (h := ?_)
      exact hw
  intro _ hB
  simp only [z, seval]
  refine RUNs_cut (fun _ : Unit => ([.any, .ptr 0 0, .bool false, .any, .any, .any, .any, .any, .any, .any, .any, .any, .any, .any, .any, .any, .any, .any, .any, .any, .any, .any, .any, .any, .any, .any, .any, .any, .any, .any, .any, .any, .any, .any, .any, .any, .any, .any, .any, .any, .any, .any, .any, .any, .any, .any, .any, .any, .any, .any, .any, .any, .any, .any, .any, .any, .any, .any, .any, .any, .any, .any, .any, .any, .any, .any, .any, .any, .any, .any, .any, .any, .any, .any, .any, .any, .any, .any, .any, .any, .any, .any, .any, .any, .any, .any, .any, .any, .any, .any, .any, .any, .any, .any, .any, .any, .any, .any, .any, .any, .any, .any, .any, .any, .any, .any, .any, .any, .any, .any, .any, .any, .any, .any, .any, .any, .any, .any, .any, .any, .any, .any, .any, .any, .any, .any, .any, .any, .any, .any, .any, .any, .any, .any, .any, .any, .any, .any, .any, .any, .any, .any, .any, .any, .any, .any, .any, .any, .any, .any, .any, .any, .any, .any, .any, .any, .any], [.var w.cells])) (fun _ => w.net.seen.all at64 = true) ?_ ?_ rfl
  · refine RUNs_range w.net.seen.length (fun i (_ : Unit) => (w.net.seen.take i).all at64 = true) (fun i _ => ([.any, .ptr 0 0, .bool false, .any, .any, .any, i64 i, .any, .any, .any, .any, .any, .any, .any, .any, .any, .any, .any, .any, .any, .any, .any, .any, .any, .any, .any, .any, .any, .any, .any, .any, .any, .any, .any, .any, .any, .any, .any, .any, .any, .any, .any, .any, .any, .any, .any, .any, .any, .any, .any, .any, .any, .any, .any, .any, .any, .any, .any, .any, .any, .any, .any, .any, .any, .any, .any, .any, .any, .any, .any, .any, .any, .any, .any, .any, .any, .any, .any, .any, .any, .any, .any, .any, .any, .any, .any, .any, .any, .any, .any, .any, .any, .any, .any, .any, .any, .any, .any, .any, .any, .any, .any, .any, .any, .any, .any, .any, .any, .any, .any, .any, .any, .any, .any, .any, .any, .any, .any, .any, .any, .any, .any, .any, .any, .any, .any, .any, .any, .any, .any, .any, .any, .any, .any, .any, .any, .any, .any, .any, .any, .any, .any, .any, .any, .any, .any, .any, .any, .any, .any, .any, .any, .any, .any, .any, .any, .any], [.var w.cells])) () (by simp) wk rfl ?_
    rintro ⟨i, _, hi, hw⟩
    simp only [z, seval, World.cells]
    first | refine brk (fun h => ?_) (fun h => ?_) | fail
    · have hlt : i < w.net.seen.length := by simpa using h
      simp only [z, seval, h, getMap wordsV w.net.seen hlt, Gram.v]
      first | refine brk (fun h => ?_) (fun h => ?_) | fail
      · simp only [z, seval, h]
        (refine FINS_done ?_; simp only [z, seval])
        rw [hform, all_false hlt (by simp [at64]; simp at h; omega)]; simp
      · simp only [z, seval, h, w64s (i := i) (by omega)]
        refine NX () (hi := hlt) (hinv := ?_)
        rw [all_succ hlt, hw]; simp [at64]; simp at h; omega
    · simp only [z, seval, h]
      have hend : i = w.net.seen.length := by simp at h; omega
      subst hend
      rw [List.take_length] at hw
      refine CI () (h := ?_)
      exact hw
  intro _ hC
  simp only [z, seval]
  · refine RUNs_range w.net.grams.length (fun i (_ : Unit) => (w.net.grams.take i).all (fun g => at64 g.words) = true) (fun i _ => ([.any, .ptr 0 0, .bool false, .any, .any, .any, .any, i64 i, .any, .any, .any, .any, .any, .any, .any, .any, .any, .any, .any, .any, .any, .any, .any, .any, .any, .any, .any, .any, .any, .any, .any, .any, .any, .any, .any, .any, .any, .any, .any, .any, .any, .any, .any, .any, .any, .any, .any, .any, .any, .any, .any, .any, .any, .any, .any, .any, .any, .any, .any, .any, .any, .any, .any, .any, .any, .any, .any, .any, .any, .any, .any, .any, .any, .any, .any, .any, .any, .any, .any, .any, .any, .any, .any, .any, .any, .any, .any, .any, .any, .any, .any, .any, .any, .any, .any, .any, .any, .any, .any, .any, .any, .any, .any, .any, .any, .any, .any, .any, .any, .any, .any, .any, .any, .any, .any, .any, .any, .any, .any, .any, .any, .any, .any, .any, .any, .any, .any, .any, .any, .any, .any, .any, .any, .any, .any, .any, .any, .any, .any, .any, .any, .any, .any, .any, .any, .any, .any, .any, .any, .any, .any, .any, .any, .any, .any, .any, .any], [.var w.cells])) () (by simp) wk rfl ?_
    rintro ⟨i, _, hi, hw⟩
    simp only [z, seval, World.cells]
    first | refine brk (fun h => ?_) (fun h => ?_) | fail
    · have hlt : i < w.net.grams.length := by simpa using h
      simp only [z, seval, h, getMap Gram.v w.net.grams hlt, Gram.v]
      first | refine brk (fun h => ?_) (fun h => ?_) | fail
      · simp only [z, seval, h]
        (refine FINS_done ?_; simp only [z, seval])
        rw [hform, all_false hlt (by simp [at64]; simp at h; omega)]; simp
      · simp only [z, seval, h, w64s (i := i) (by omega)]
        refine NX () (hi := hlt) (hinv := ?_)
        rw [all_succ hlt, hw]; simp [at64]; simp at h; omega
    · simp only [z, seval, h]
      have hend : i = w.net.grams.length := by simp at h; omega
      subst hend
      rw [List.take_length] at hw
      (refine FINS_done ?_; simp only [z, seval])
      rw [hform, hA, hB, hC, hw]; rfl
end Ch

/- The document's answer: draws, a new world. -/
set_option maxRecDepth 100000
set_option maxHeartbeats 4000000
set_option linter.unusedSimpArgs false
set_option linter.unusedVariables false
namespace Ch
open Go Go.Ab
def dflt (i : Nat) : Int := orI .u32 1073741824 (IntKind.u32.wrap i)
def drawAt (l : List Int) (i : Nat) : Int :=
  let w := match l[i]? with
    | some x => x
    | none => dflt i
  if w < 2147483648 then IntKind.u32.wrap (w + 2147483648) else w
theorem At04_spec (d : Draws) (i : Nat) : Spec PP [] 69 [d.v, i64 i] (u32 (drawAt d.list i)) [] := by
  refine Spec.of_runs Go.Proofs.Try.f69 Go.Proofs.Try.func69 rfl ?_
  intro w0 M0
  simp only [Go.Proofs.Try.f69, List.replicate, List.cons_append, List.nil_append, Draws.v, z, seval]
  first | refine brk (fun h => ?_) (fun h => ?_) | fail
  · have hlt : i < d.list.length := by simpa using h
    simp only [z, seval, h, getMap u32 d.list hlt]
    first | refine brk (fun h => ?_) (fun h => ?_) | fail
    · simp only [z, seval, h]
      (refine FINS_done ?_; simp only [z, seval])
      simp at h; simp [drawAt, hlt, h]
    · simp only [z, seval, h]
      (refine FINS_done ?_; simp only [z, seval])
      simp at h; simp [drawAt, hlt]; omega
  · have hnl : d.list[i]? = none := by simp at h ⊢; omega
    simp only [z, seval, h]
    first | refine brk (fun h => ?_) (fun h => ?_) | fail
    · simp only [z, seval, h]
      (refine FINS_done ?_; simp only [z, seval])
      have h' := of_decide_eq_true h
      simp only [drawAt, hnl, dflt, h', if_true]
    · simp only [z, seval, h]
      (refine FINS_done ?_; simp only [z, seval])
      have h' := of_decide_eq_false h
      simp only [drawAt, hnl, dflt, h', if_false]
theorem Take04_spec (d : Draws) (i : Nat) (hi : d.next = i) : Spec PP [] 70 [d.v] (.tup [Draws.v ⟨d.list, IntKind.i64.wrap (d.next + 1)⟩, u32 (drawAt d.list i)]) [] := by
  refine Spec.of_runs Go.Proofs.Try.f70 Go.Proofs.Try.func70 rfl ?_
  intro w0 M0
  simp only [Go.Proofs.Try.f70, List.replicate, List.cons_append, List.nil_append, Draws.v, hi, z, seval]
  (refine CALLS_spec (At04_spec ⟨d.list, i⟩ i) (by kernel_rfl) (by simp only [Draws.v, z, seval]) ?_; simp only [z, seval])
  (refine FINS_done ?_; simp only [z, seval])
theorem i64_lit (n : Int) : V.val (.int .i64 n) = i64 n := rfl
def newPeople (l : List Int) (next : Nat) : Nat → List Person
  | 0 => [⟨0, 0, 0, [], [], false⟩]
  | n + 1 => newPeople l next n ++ [⟨IntKind.u32.wrap ((n + 1 : Nat) : Int), drawAt l (next + n), 0, [], [], false⟩]
theorem newPeople_len (l : List Int) (next : Nat) : ∀ n, (newPeople l next n).length = n + 1
  | 0 => rfl
  | n + 1 => by simp [newPeople, newPeople_len l next n]
abbrev zeroDraws : AB := .var [.sl [] .nil, i64 0]
def newI (l : List Int) (k n : Nat) : Nat → List V × List AB
  | 0 => ([i64 n, .any, .any, .ptr 0 0, .any, .ptr 1 0, .sl [Person.v ⟨0, 0, 0, [], [], false⟩] .tight, i64 1, .any, .any, .any, .any, .any, .any, .any, .any, .any, .any, .any, .any, .any, .any, .any, .any, .any, .any, .any, .any, .any, .any, .any, .any], [.var [wordsV l, i64 k], zeroDraws])
  | j + 1 => ([i64 n, .any, .any, .ptr 0 0, .any, .ptr 1 0, .row 3 j, i64 ((j + 2 : Nat) : Int), .any, .any, .any, .any, .any, .any, .any, .any, .any, .any, .any, .any, .any, .any, .any, .any, .any, .any, .any, .any, .any, .any, .any, .any], [.var [wordsV l, i64 ((k + j + 1 : Nat) : Int)], zeroDraws, .dead, .row 6 ((newPeople l k (j + 1)).map Person.v) j false])
theorem New10_spec (n : Nat) (hn : n ≤ 100) (l : List Int) (k : Nat) (hk : k ≤ 1048576) : Spec PP [] 55 [i64 n, Draws.v ⟨l, k⟩] (.tup [peopleV (newPeople l k n), Draws.v ⟨l, ((k + n : Nat) : Int)⟩]) [] := by
  refine Spec.of_runs Go.Proofs.Try.f55 Go.Proofs.Try.func55 rfl ?_
  intro w0 M0
  simp only [Go.Proofs.Try.f55, List.replicate, List.cons_append, List.nil_append, Draws.v, z, seval]
  refine RUNs_range n (fun _ (_ : Unit) => True) (fun i _ => newI l k n i) () trivial ?_ rfl ?_
  · exact wk
  rintro ⟨i, _, hi, _⟩
  have w1 : IntKind.i64.wrap ((k : Int) + 1) = ((k + 1 : Nat) : Int) := w64s (by omega)
  have w2 : IntKind.i64.wrap (1 + 1) = ((0 + 2 : Nat) : Int) := by rw [w64 (by omega) (by omega)]; rfl
  rcases i with _ | j
  · simp only [newI, z, seval]
    first | refine brk (fun h => ?_) (fun h => ?_) | fail
    · simp only [z, seval, h]
      (refine CU (Take04_spec ⟨l, k⟩ k rfl) (h := ?_); simp only [z, seval])
      simp only [z, seval, w1, w2]
      have hlt : 0 < n := by have := of_decide_eq_true h; omega
      refine NX () (hi := hlt) (hinv := ?_)
      trivial
    · simp only [z, seval, h]
      (refine RUNs_draw 0 (by kernel_rfl) ?_; simp only [z, seval])
      (refine ⟨by kernel_rfl, ?_⟩)
      (refine FINS_done ?_; simp only [z, seval])
      have : n = 0 := by simp at h; omega
      subst this
      rfl
  · have w3 : IntKind.i64.wrap (((k + j + 1 : Nat) : Int) + 1) = ((k + (j + 1) + 1 : Nat) : Int) := by rw [w64s (by omega)]; congr 1
    have w4 : IntKind.i64.wrap (((j + 2 : Nat) : Int) + 1) = ((j + 1 + 2 : Nat) : Int) := by rw [w64s (by omega)]
    simp only [newI, z, seval]
    first | refine brk (fun h => ?_) (fun h => ?_) | fail
    · simp only [z, seval, h]
      (refine CU (Take04_spec ⟨l, ((k + j + 1 : Nat) : Int)⟩ (k + j + 1) rfl) (h := ?_); simp only [z, seval])
      refine OPC_ok ?_ ?_
      · simp [newPeople_len]; omega
      have e : (newPeople l k (j + 1)).map Person.v ++ [Person.v ⟨IntKind.u32.wrap ((j + 2 : Nat) : Int), drawAt l (k + j + 1), 0, [], [], false⟩] = (newPeople l k (j + 1 + 1)).map Person.v := by
        rw [newPeople.eq_2 l k (j + 1), List.map_append]; rfl
      simp only [Person.v, wordsV, runsV, List.map_nil] at e
      simp only [z, seval, w3, w4, e]
      have hlt : j + 1 < n := by have := of_decide_eq_true h; omega
      refine NX () (hi := hlt) (hinv := ?_)
      trivial
    · simp only [z, seval, h]
      (refine RUNs_draw 0 (by kernel_rfl) ?_; simp only [z, seval])
      (refine ⟨by kernel_rfl, ?_⟩)
      (refine FINS_done ?_; simp only [z, seval])
      have : n = j + 1 := by simp at h; omega
      subst this
      rfl
end Ch

/- The document's answer: small worlds, new worlds. -/
set_option maxRecDepth 100000
set_option maxHeartbeats 4000000
set_option linter.unusedSimpArgs false
set_option linter.unusedVariables false
namespace Ch
open Go Go.Ab
def Few12 (w : World) : Bool := (w.regs.take 20).all few && Few07 w.box && Few06 w.net && Few10 w.people && decide ((w.regs.length : Int) ≤ 10) && decide ((w.log.length : Int) ≤ 300) && decide ((w.leaks.length : Int) ≤ 300) && decide ((w.draws.list.length : Int) ≤ 1000)
theorem Few12_spec (w : World) (hl : w.Lim) : Spec PP [] 7 [w.v] (.bool (Few12 w)) [] := by
  obtain ⟨l1, l2, l3, l4, l5, l6, l7, l8, l9⟩ := hl
  refine Spec.of_runs Go.Proofs.Try.f7 Go.Proofs.Try.func7 rfl ?_
  intro w0 M0
  simp only [Go.Proofs.Try.f7, List.replicate, List.cons_append, List.nil_append, z, seval]
  refine RUNs_cut (fun _ : Unit => ([.any, .ptr 0 0, .bool false, .any, .any, .any, .any, .any, .any, .any, .any, .any, .any, .any, .any, .any, .any, .any, .any, .any, .any, .any, .any, .any, .any, .any, .any, .any, .any, .any, .any, .any, .any, .any, .any, .any, .any, .any, .any, .any, .any, .any, .any, .any, .any, .any, .any, .any, .any, .any, .any, .any, .any, .any, .any, .any, .any, .any, .any, .any], [.var w.cells])) (fun _ => (w.regs.take 20).all few = true) ?_ ?_ rfl
  · refine RUNs_range w.regs.length (fun i (_ : Unit) => (w.regs.take i).all few = true ∧ i ≤ 20) (fun i _ => ([.any, .ptr 0 0, .bool false, i64 i, .any, .any, .any, .any, .any, .any, .any, .any, .any, .any, .any, .any, .any, .any, .any, .any, .any, .any, .any, .any, .any, .any, .any, .any, .any, .any, .any, .any, .any, .any, .any, .any, .any, .any, .any, .any, .any, .any, .any, .any, .any, .any, .any, .any, .any, .any, .any, .any, .any, .any, .any, .any, .any, .any, .any, .any], [.var w.cells])) () (by simp) wk rfl ?_
    rintro ⟨i, _, hi, hw, hm⟩
    simp only [z, seval]
    have hend : (¬ i < w.regs.length ∨ ¬ i < 20) → (w.regs.take 20).all few = true := fun h => by rw [← take_end hi hm h]; exact hw
    first | refine brk (fun h => ?_) (fun h => ?_) | fail
    · have hlt : i < w.regs.length := by simpa using h
      simp only [z, seval, h]
      first | refine brk (fun h => ?_) (fun h => ?_) | fail
      · have hlm : i < 20 := by simp at h; omega
        simp only [z, seval, h, getMap wordsV w.regs hlt]
        first | refine brk (fun h => ?_) (fun h => ?_) | fail
        · simp only [z, seval, h]
          (refine FINS_done ?_; simp only [z, seval])
          rw [Few12, all_take_false hlt hlm (by simp [few]; simp at h; omega)]; rfl
        · simp only [z, seval, h, w64s (i := i) (by omega)]
          refine NX () (hi := hlt) (hinv := ?_)
          refine ⟨?_, by show i + 1 ≤ 20; omega⟩
          rw [all_succ hlt, hw]; simp [few]; simp at h; omega
      · simp only [z, seval, h]
        refine CI () (h := ?_)
        exact hend (.inr (by simp at h; omega))
    · simp only [z, seval, h]
      refine CI () (h := ?_)
      exact hend (.inl (by simp at h; omega))
  · rintro _ h1
    simp only [z, seval]
    repeat' (first | (refine CU (Few07_spec w.box l2) (h := ?_); simp only [z, seval]) | (refine CU (Few06_spec w.net l3 l4) (h := ?_); simp only [z, seval]) | (refine CU (Few10_spec w.people l5) (h := ?_); simp only [z, seval]) | ((first | refine brk (fun h => ?_) (fun h => ?_) | fail) <;> simp only [z, seval, h]))
    all_goals (refine FINS_done ?_; simp only [z, seval])
    all_goals (first | (simp_all [Few12]; done) | (simp_all [Few12]; intros; omega))
end Ch

/- The document's answer: a new world. -/
set_option maxRecDepth 100000
set_option maxHeartbeats 4000000
set_option linter.unusedSimpArgs false
set_option linter.unusedVariables false
namespace Ch
open Go Go.Ab
def newWorld (c : Conf) (l : List Int) (n m : Nat) : World := ⟨c, ⟨l, n⟩, ⟨c.box, []⟩, ⟨c.net, [], []⟩, newPeople l 0 n, [], List.replicate m [], []⟩
def nwCells (c : Conf) (l : List Int) (n m : Nat) (regs : V) : List V := [u32 c.window, i64 n, i64 c.box, i64 c.used, i64 c.runs, i64 c.net, i64 m, .sl (l.map u32) .plain, i64 n, i64 c.box, .sl [] .plain, i64 c.net, .sl [] .plain, .sl [] .plain, .sl ((newPeople l 0 n).map Person.v) .plain, .sl [] .plain, regs, .sl [] .plain]
def nwV (c : Conf) (l : List Int) (n m : Nat) : V := .agg (nwCells c l n m (.row 4 m))
def nwH (m : Nat) : List AB := [.dead, .dead, .dead, .dead, .row 1 ((List.replicate m []).map wordsV) m false]
theorem repSucc {α : Type} (f : α → V) (a : α) (n : Nat) : (List.replicate n a).map f ++ [f a] = (List.replicate (n + 1) a).map f := by
  rw [List.replicate_succ' (n := n), List.map_append]; rfl
theorem New12_H (c : Conf) (n m : Nat) (hn : n ≤ 100) (hm : m ≤ 100) (h1 : c.people = n) (h2 : c.regs = m) (l : List Int) : Spec PP [] 24 [c.v, wordsV l] (nwV c l n m) (nwH m) := by
  have hN := New10_spec n hn l 0 (by omega)
  simp only [Int.natCast_zero, Int.cast_ofNat_Int, z, seval] at hN
  refine Spec.of_runs Go.Proofs.Try.f24 Go.Proofs.Try.func24 rfl ?_
  intro w0 M0
  simp only [Go.Proofs.Try.f24, List.replicate, List.cons_append, List.nil_append, h1, h2, z, seval]
  (refine CU (hN) (h := ?_); simp only [z, seval])
  (refine RUNs_row0H 2 16 1 (h := ?_); simp only [z, seval])
  refine RUNs_rangeS (m) (fun _ (_ : Unit) => True) (fun i _ => [(8, i64 i)]) (fun i _ => [(2, .var (nwCells c l n m (.row 4 i))), (4, .row 1 ((List.replicate i []).map wordsV) i false)]) () ?_ (by simp only [z, seval]; exact wk) rfl ?_
  · trivial
  rintro ⟨i, _, hi, _⟩
  simp only [nwCells, z, seval]
  first | refine brk (fun h => ?_) (fun h => ?_) | fail
  · have hlt : i < m := by have := of_decide_eq_true h; omega
    simp only [h, z, seval]
    refine OPC_ok (by simp; omega) ?_
    have e := repSucc wordsV [] i
    simp only [wordsV, List.map_nil] at e
    simp only [List.map_nil, e, w64s (i := i) (by omega), z, seval]
    refine NX () (hi := hlt) (hinv := ?_)
    trivial
  · obtain rfl : i = m := by have := of_decide_eq_false h; omega
    simp only [h, z, seval]
    (refine FINS_keep [4] (by simp only [List.filter_cons, List.filter_nil, List.contains_cons, List.contains_nil, beq_self_eq_true, Bool.or_false, Bool.false_or, Bool.or_true, Bool.true_or, Bool.not_true, Bool.not_false, Bool.false_eq_true, if_false, if_true, nwV, nwCells, nwH, z, seval]) ?_; simp only [List.filter_cons, List.filter_nil, List.contains_cons, List.contains_nil, beq_self_eq_true, Bool.or_false, Bool.false_or, Bool.or_true, Bool.true_or, Bool.not_true, Bool.not_false, Bool.false_eq_true, if_false, if_true, nwV, nwCells, nwH, z, seval]; exact wk)
theorem New12_spec (c : Conf) (n m : Nat) (hn : n ≤ 100) (hm : m ≤ 100) (h1 : c.people = n) (h2 : c.regs = m) (l : List Int) : Spec PP [] 24 [c.v, wordsV l] ((newWorld c l n m).v) [] := by
  refine (New12_H c n m hn hm h1 h2 l).fz ?_
  simp only [nwV, nwH, nwCells, newWorld, h1, h2, List.map_nil, z, seval]
end Ch

/- The program's causes. -/
set_option maxRecDepth 100000
set_option maxHeartbeats 4000000
set_option linter.unusedSimpArgs false
set_option linter.unusedVariables false
namespace Ch
open Go Go.Ab
inductive Ask where
  | fresh
  | must (k r m : Int)
  | never (k r m : Int)
def Ask.v : Ask → V
  | .fresh => .iface 108 (.agg [])
  | .must k r m => .iface 111 (.agg [i64 k, i64 r, i64 m])
  | .never k r m => .iface 110 (.agg [i64 k, i64 r, i64 m])
def asksV (l : List Ask) : V := .sl (l.map Ask.v) .plain
structure Causes where
  always : List Ask
  honestA : List Ask
  honestB : List Ask
def Causes.v (c : Causes) : V := .agg [asksV c.always, asksV c.honestA, asksV c.honestB]
def kpr (e : Event) (k p r : Int) : Bool := e.kind == k && (e.proto == p && e.role == r)
def asksM (e : Event) : Option Causes :=
  bif kpr e 4 2 2 then some ⟨[.must 3 2 408], [], [.must 2 0 184]⟩
  else bif kpr e 4 2 1 then some ⟨[.must 1 1 408], [.must 2 0 184], []⟩
  else bif kpr e 4 1 2 then some ⟨[.must 3 2 376], [], []⟩
  else bif kpr e 4 1 1 then some ⟨[.must 3 1 120], [], []⟩
  else bif kpr e 3 2 2 then some ⟨[.never 3 2 144], [], []⟩
  else bif kpr e 3 1 2 then some ⟨[.never 3 2 48], [], [.must 2 0 120]⟩
  else bif kpr e 3 1 1 then some ⟨[.must 1 1 280], [.must 2 0 376], []⟩
  else bif kpr e 2 2 0 then some ⟨[.fresh, .never 2 0 128], [.must 1 1 152], [.must 3 2 152]⟩
  else bif kpr e 2 1 0 then some ⟨[.fresh, .never 2 0 256], [], []⟩
  else bif kpr e 1 2 1 then some ⟨[], [], []⟩
  else bif kpr e 1 1 1 then some ⟨[], [], []⟩
  else none
def noCauses : Causes := ⟨[], [], []⟩
theorem asks_spec (e : Event) : Spec PP [] 34 [e.v] (.tup [((asksM e).getD noCauses).v, .bool (asksM e).isSome]) [] := by
  refine Spec.of_runs Go.Proofs.Try.f34 Go.Proofs.Try.func34 rfl ?_
  intro w0 M0
  simp only [Go.Proofs.Try.f34, List.replicate, List.cons_append, List.nil_append, z, seval]
  (refine RUNs_draw 1 (by kernel_rfl) ?_; simp only [z, seval])
  (refine ⟨by kernel_rfl, ?_⟩)
  rw [lookR_enc (asksM e) Causes.v noCauses ?lh ?lz]
  case lz => rfl
  case lh => simp only [asksM, kpr, bif_map, Option.map_some, Option.map_none]; rfl
  simp only [z, seval, Causes.v, asksV]
  (refine FINS_done ?_; simp only [z, seval])
end Ch

/- The program's log: events held against patterns. -/
set_option maxRecDepth 100000
set_option maxHeartbeats 4000000
set_option linter.unusedSimpArgs false
set_option linter.unusedVariables false
namespace Ch
open Go Go.Ab
def bit (m : Int) (i : Nat) : Bool := !(andI .i64 m (shlI .i64 1 i) == 0)
def keep (b : Bool) (x : Int) : Int := bif b then x else 0
/-- what counts of an event, of its first i parts -/
def bareTo (e : Event) (m : Int) (i : Nat) : Event :=
  ⟨keep (decide (0 < i) && bit m 0) e.kind, keep (decide (1 < i) && bit m 1) e.proto, keep (decide (2 < i) && bit m 2) e.role, keep (decide (3 < i) && bit m 3) e.a, keep (decide (4 < i) && bit m 4) e.b,
    keep (decide (5 < i) && bit m 5) e.k, keep (decide (6 < i) && bit m 6) e.t, keep (decide (7 < i) && bit m 7) e.m, keep (decide (8 < i) && bit m 8) e.n, 0⟩
def Event.cells (e : Event) : List V := [i64 e.kind, i64 e.proto, i64 e.role, u32 e.a, u32 e.b, u32 e.k, u32 e.t, u32 e.m, u32 e.n, u32 e.clock]
def bareFn (n : Nat) : V := .fn (.func n) [] [.ptr 0 0, .ptr 2 0]
def bareI (e : Event) (m : Int) (i : Nat) : List V × List AB :=
  ([.any, i64 m, .any, .any, .ptr 1 0, .ptr 2 0, .any, .any, .any, .any, .any, .any, .any, .any, .any, .any, .any, .vs 3 0 9 1, i64 9, i64 i, .any, .any, .any, .any, .any, .any, .any, .any, .any, .any, .any, .any, .any], [.var e.cells, .var (bareTo e m 0).cells, .var (bareTo e m i).cells, .var [bareFn 98, bareFn 99, bareFn 100, bareFn 101, bareFn 102, bareFn 103, bareFn 104, bareFn 105, bareFn 106]])
theorem bare_spec (e : Event) (m : Int) : Spec PP [] 97 [e.v, i64 m] (bareTo e m 9).v [] := by
  refine Spec.of_runs Go.Proofs.Try.f97 Go.Proofs.Try.func97 rfl ?_
  intro w0 M0
  simp only [Go.Proofs.Try.f97, List.replicate, List.cons_append, List.nil_append, z, seval]
  refine RUNs_range 9 (fun _ (_ : Unit) => True) (fun i _ => bareI e m i) () trivial ?_ rfl ?_
  · exact wk
  rintro ⟨i, _, hi, _⟩
  have hcase : i = 0 ∨ i = 1 ∨ i = 2 ∨ i = 3 ∨ i = 4 ∨ i = 5 ∨ i = 6 ∨ i = 7 ∨ i = 8 ∨ i = 9 := by omega
  rcases hcase with rfl | rfl | rfl | rfl | rfl | rfl | rfl | rfl | rfl | rfl
  · simp only [bareI, bareTo, Event.cells, bareFn, keep, bit, Int.cast_ofNat_Int, Int.reduceLT, Nat.reduceLT, Bool.false_and, Bool.true_and, z, seval]
    first | refine brk (fun h => ?_) (fun h => ?_) | fail
    · simp only [h, w64 (n := 0 + 1) (by omega) (by omega), z, seval]
      (refine NX () ?_ (by rfl) (by show 0 < 9; omega) ?_; simp only [bareI, bareTo, Event.cells, bareFn, keep, bit, Int.cast_ofNat_Int, Nat.reduceLT, Bool.false_and, Bool.true_and, Bool.not_true, Bool.not_false, decide_true, decide_false, cond_true, cond_false, h]; exact wk)
      trivial
    · simp only [h, z, seval]
      (refine CALLS_in (fn := Go.Proofs.Try.f98) Go.Proofs.Try.func98 rfl (by kernel_rfl) ?_; simp only [Go.Proofs.Try.f98, List.replicate, List.cons_append, List.nil_append, z, seval])
      try simp only [w64 (n := 0 + 1) (by omega) (by omega), z, seval]
      (refine NX () ?_ (by rfl) (by show 0 < 9; omega) ?_; simp only [bareI, bareTo, Event.cells, bareFn, keep, bit, Int.cast_ofNat_Int, Nat.reduceLT, Bool.false_and, Bool.true_and, Bool.not_true, Bool.not_false, decide_true, decide_false, cond_true, cond_false, h]; exact wk)
      trivial
  · simp only [bareI, bareTo, Event.cells, bareFn, keep, bit, Int.cast_ofNat_Int, Int.reduceLT, Nat.reduceLT, Bool.false_and, Bool.true_and, z, seval]
    first | refine brk (fun h => ?_) (fun h => ?_) | fail
    · simp only [h, w64 (n := 1 + 1) (by omega) (by omega), z, seval]
      (refine NX () ?_ (by rfl) (by show 1 < 9; omega) ?_; simp only [bareI, bareTo, Event.cells, bareFn, keep, bit, Int.cast_ofNat_Int, Nat.reduceLT, Bool.false_and, Bool.true_and, Bool.not_true, Bool.not_false, decide_true, decide_false, cond_true, cond_false, h]; exact wk)
      trivial
    · simp only [h, z, seval]
      (refine CALLS_in (fn := Go.Proofs.Try.f99) Go.Proofs.Try.func99 rfl (by kernel_rfl) ?_; simp only [Go.Proofs.Try.f99, List.replicate, List.cons_append, List.nil_append, z, seval])
      try simp only [w64 (n := 1 + 1) (by omega) (by omega), z, seval]
      (refine NX () ?_ (by rfl) (by show 1 < 9; omega) ?_; simp only [bareI, bareTo, Event.cells, bareFn, keep, bit, Int.cast_ofNat_Int, Nat.reduceLT, Bool.false_and, Bool.true_and, Bool.not_true, Bool.not_false, decide_true, decide_false, cond_true, cond_false, h]; exact wk)
      trivial
  · simp only [bareI, bareTo, Event.cells, bareFn, keep, bit, Int.cast_ofNat_Int, Int.reduceLT, Nat.reduceLT, Bool.false_and, Bool.true_and, z, seval]
    first | refine brk (fun h => ?_) (fun h => ?_) | fail
    · simp only [h, w64 (n := 2 + 1) (by omega) (by omega), z, seval]
      (refine NX () ?_ (by rfl) (by show 2 < 9; omega) ?_; simp only [bareI, bareTo, Event.cells, bareFn, keep, bit, Int.cast_ofNat_Int, Nat.reduceLT, Bool.false_and, Bool.true_and, Bool.not_true, Bool.not_false, decide_true, decide_false, cond_true, cond_false, h]; exact wk)
      trivial
    · simp only [h, z, seval]
      (refine CALLS_in (fn := Go.Proofs.Try.f100) Go.Proofs.Try.func100 rfl (by kernel_rfl) ?_; simp only [Go.Proofs.Try.f100, List.replicate, List.cons_append, List.nil_append, z, seval])
      try simp only [w64 (n := 2 + 1) (by omega) (by omega), z, seval]
      (refine NX () ?_ (by rfl) (by show 2 < 9; omega) ?_; simp only [bareI, bareTo, Event.cells, bareFn, keep, bit, Int.cast_ofNat_Int, Nat.reduceLT, Bool.false_and, Bool.true_and, Bool.not_true, Bool.not_false, decide_true, decide_false, cond_true, cond_false, h]; exact wk)
      trivial
  · simp only [bareI, bareTo, Event.cells, bareFn, keep, bit, Int.cast_ofNat_Int, Int.reduceLT, Nat.reduceLT, Bool.false_and, Bool.true_and, z, seval]
    first | refine brk (fun h => ?_) (fun h => ?_) | fail
    · simp only [h, w64 (n := 3 + 1) (by omega) (by omega), z, seval]
      (refine NX () ?_ (by rfl) (by show 3 < 9; omega) ?_; simp only [bareI, bareTo, Event.cells, bareFn, keep, bit, Int.cast_ofNat_Int, Nat.reduceLT, Bool.false_and, Bool.true_and, Bool.not_true, Bool.not_false, decide_true, decide_false, cond_true, cond_false, h]; exact wk)
      trivial
    · simp only [h, z, seval]
      (refine CALLS_in (fn := Go.Proofs.Try.f101) Go.Proofs.Try.func101 rfl (by kernel_rfl) ?_; simp only [Go.Proofs.Try.f101, List.replicate, List.cons_append, List.nil_append, z, seval])
      try simp only [w64 (n := 3 + 1) (by omega) (by omega), z, seval]
      (refine NX () ?_ (by rfl) (by show 3 < 9; omega) ?_; simp only [bareI, bareTo, Event.cells, bareFn, keep, bit, Int.cast_ofNat_Int, Nat.reduceLT, Bool.false_and, Bool.true_and, Bool.not_true, Bool.not_false, decide_true, decide_false, cond_true, cond_false, h]; exact wk)
      trivial
  · simp only [bareI, bareTo, Event.cells, bareFn, keep, bit, Int.cast_ofNat_Int, Int.reduceLT, Nat.reduceLT, Bool.false_and, Bool.true_and, z, seval]
    first | refine brk (fun h => ?_) (fun h => ?_) | fail
    · simp only [h, w64 (n := 4 + 1) (by omega) (by omega), z, seval]
      (refine NX () ?_ (by rfl) (by show 4 < 9; omega) ?_; simp only [bareI, bareTo, Event.cells, bareFn, keep, bit, Int.cast_ofNat_Int, Nat.reduceLT, Bool.false_and, Bool.true_and, Bool.not_true, Bool.not_false, decide_true, decide_false, cond_true, cond_false, h]; exact wk)
      trivial
    · simp only [h, z, seval]
      (refine CALLS_in (fn := Go.Proofs.Try.f102) Go.Proofs.Try.func102 rfl (by kernel_rfl) ?_; simp only [Go.Proofs.Try.f102, List.replicate, List.cons_append, List.nil_append, z, seval])
      try simp only [w64 (n := 4 + 1) (by omega) (by omega), z, seval]
      (refine NX () ?_ (by rfl) (by show 4 < 9; omega) ?_; simp only [bareI, bareTo, Event.cells, bareFn, keep, bit, Int.cast_ofNat_Int, Nat.reduceLT, Bool.false_and, Bool.true_and, Bool.not_true, Bool.not_false, decide_true, decide_false, cond_true, cond_false, h]; exact wk)
      trivial
  · simp only [bareI, bareTo, Event.cells, bareFn, keep, bit, Int.cast_ofNat_Int, Int.reduceLT, Nat.reduceLT, Bool.false_and, Bool.true_and, z, seval]
    first | refine brk (fun h => ?_) (fun h => ?_) | fail
    · simp only [h, w64 (n := 5 + 1) (by omega) (by omega), z, seval]
      (refine NX () ?_ (by rfl) (by show 5 < 9; omega) ?_; simp only [bareI, bareTo, Event.cells, bareFn, keep, bit, Int.cast_ofNat_Int, Nat.reduceLT, Bool.false_and, Bool.true_and, Bool.not_true, Bool.not_false, decide_true, decide_false, cond_true, cond_false, h]; exact wk)
      trivial
    · simp only [h, z, seval]
      (refine CALLS_in (fn := Go.Proofs.Try.f103) Go.Proofs.Try.func103 rfl (by kernel_rfl) ?_; simp only [Go.Proofs.Try.f103, List.replicate, List.cons_append, List.nil_append, z, seval])
      try simp only [w64 (n := 5 + 1) (by omega) (by omega), z, seval]
      (refine NX () ?_ (by rfl) (by show 5 < 9; omega) ?_; simp only [bareI, bareTo, Event.cells, bareFn, keep, bit, Int.cast_ofNat_Int, Nat.reduceLT, Bool.false_and, Bool.true_and, Bool.not_true, Bool.not_false, decide_true, decide_false, cond_true, cond_false, h]; exact wk)
      trivial
  · simp only [bareI, bareTo, Event.cells, bareFn, keep, bit, Int.cast_ofNat_Int, Int.reduceLT, Nat.reduceLT, Bool.false_and, Bool.true_and, z, seval]
    first | refine brk (fun h => ?_) (fun h => ?_) | fail
    · simp only [h, w64 (n := 6 + 1) (by omega) (by omega), z, seval]
      (refine NX () ?_ (by rfl) (by show 6 < 9; omega) ?_; simp only [bareI, bareTo, Event.cells, bareFn, keep, bit, Int.cast_ofNat_Int, Nat.reduceLT, Bool.false_and, Bool.true_and, Bool.not_true, Bool.not_false, decide_true, decide_false, cond_true, cond_false, h]; exact wk)
      trivial
    · simp only [h, z, seval]
      (refine CALLS_in (fn := Go.Proofs.Try.f104) Go.Proofs.Try.func104 rfl (by kernel_rfl) ?_; simp only [Go.Proofs.Try.f104, List.replicate, List.cons_append, List.nil_append, z, seval])
      try simp only [w64 (n := 6 + 1) (by omega) (by omega), z, seval]
      (refine NX () ?_ (by rfl) (by show 6 < 9; omega) ?_; simp only [bareI, bareTo, Event.cells, bareFn, keep, bit, Int.cast_ofNat_Int, Nat.reduceLT, Bool.false_and, Bool.true_and, Bool.not_true, Bool.not_false, decide_true, decide_false, cond_true, cond_false, h]; exact wk)
      trivial
  · simp only [bareI, bareTo, Event.cells, bareFn, keep, bit, Int.cast_ofNat_Int, Int.reduceLT, Nat.reduceLT, Bool.false_and, Bool.true_and, z, seval]
    first | refine brk (fun h => ?_) (fun h => ?_) | fail
    · simp only [h, w64 (n := 7 + 1) (by omega) (by omega), z, seval]
      (refine NX () ?_ (by rfl) (by show 7 < 9; omega) ?_; simp only [bareI, bareTo, Event.cells, bareFn, keep, bit, Int.cast_ofNat_Int, Nat.reduceLT, Bool.false_and, Bool.true_and, Bool.not_true, Bool.not_false, decide_true, decide_false, cond_true, cond_false, h]; exact wk)
      trivial
    · simp only [h, z, seval]
      (refine CALLS_in (fn := Go.Proofs.Try.f105) Go.Proofs.Try.func105 rfl (by kernel_rfl) ?_; simp only [Go.Proofs.Try.f105, List.replicate, List.cons_append, List.nil_append, z, seval])
      try simp only [w64 (n := 7 + 1) (by omega) (by omega), z, seval]
      (refine NX () ?_ (by rfl) (by show 7 < 9; omega) ?_; simp only [bareI, bareTo, Event.cells, bareFn, keep, bit, Int.cast_ofNat_Int, Nat.reduceLT, Bool.false_and, Bool.true_and, Bool.not_true, Bool.not_false, decide_true, decide_false, cond_true, cond_false, h]; exact wk)
      trivial
  · simp only [bareI, bareTo, Event.cells, bareFn, keep, bit, Int.cast_ofNat_Int, Int.reduceLT, Nat.reduceLT, Bool.false_and, Bool.true_and, z, seval]
    first | refine brk (fun h => ?_) (fun h => ?_) | fail
    · simp only [h, w64 (n := 8 + 1) (by omega) (by omega), z, seval]
      (refine NX () ?_ (by rfl) (by show 8 < 9; omega) ?_; simp only [bareI, bareTo, Event.cells, bareFn, keep, bit, Int.cast_ofNat_Int, Nat.reduceLT, Bool.false_and, Bool.true_and, Bool.not_true, Bool.not_false, decide_true, decide_false, cond_true, cond_false, h]; exact wk)
      trivial
    · simp only [h, z, seval]
      (refine CALLS_in (fn := Go.Proofs.Try.f106) Go.Proofs.Try.func106 rfl (by kernel_rfl) ?_; simp only [Go.Proofs.Try.f106, List.replicate, List.cons_append, List.nil_append, z, seval])
      try simp only [w64 (n := 8 + 1) (by omega) (by omega), z, seval]
      (refine NX () ?_ (by rfl) (by show 8 < 9; omega) ?_; simp only [bareI, bareTo, Event.cells, bareFn, keep, bit, Int.cast_ofNat_Int, Nat.reduceLT, Bool.false_and, Bool.true_and, Bool.not_true, Bool.not_false, decide_true, decide_false, cond_true, cond_false, h]; exact wk)
      trivial
  · simp only [bareI, bareTo, Event.cells, bareFn, keep, bit, Int.cast_ofNat_Int, Int.reduceLT, Nat.reduceLT, Bool.false_and, Bool.true_and, z, seval]
    (refine FINS_done ?_; simp only [z, seval])
end Ch

/- The program's log and trace: what is asked of events. -/
set_option maxRecDepth 100000
set_option maxHeartbeats 4000000
set_option linter.unusedSimpArgs false
set_option linter.unusedVariables false
namespace Ch
open Go Go.Ab
def Event.eqb (a b : Event) : Bool := (a.kind == b.kind) && ((a.proto == b.proto) && ((a.role == b.role) && ((a.a == b.a) && ((a.b == b.b) && ((a.k == b.k) && ((a.t == b.t) && ((a.m == b.m) && ((a.n == b.n) && (a.clock == b.clock)))))))))
def bareM (e : Event) (m : Int) : Event := bareTo e m 9
def fits (e like : Event) (m : Int) : Bool := (bareM e m).eqb (bareM like m)
theorem Fits_spec (e f : Event) (m : Int) : Spec PP [] 96 [e.v, f.v, i64 m] (.bool (fits e f m)) [] := by
  refine Spec.of_runs Go.Proofs.Try.f96 Go.Proofs.Try.func96 rfl ?_
  intro w0 M0
  simp only [Go.Proofs.Try.f96, List.replicate, List.cons_append, List.nil_append, z, seval]
  (refine RUNs_draw 0 (by kernel_rfl) ?_; simp only [z, seval])
  (refine DU (bare_spec e m) (h := ?_); simp only [z, seval])
  (refine DU (bare_spec f m) (h := ?_); simp only [z, seval])
  (refine ⟨by kernel_rfl, ?_⟩)
  (refine FINS_done ?_; simp only [z, seval])
  rfl
def select (l : List Event) (f : Event) (m : Int) : List Event := l.filter fun e => fits e f m
theorem select_succ {l : List Event} {f : Event} {m : Int} {i : Nat} (h : i < l.length) : select (l.take (i + 1)) f m = bif fits l[i] f m then select (l.take i) f m ++ [l[i]] else select (l.take i) f m := by
  rw [List.take_succ_eq_append_getElem h, select, List.filter_append, ← select]
  cases hb : fits l[i] f m <;> simp [List.filter_cons, hb]
theorem select_len (l : List Event) (f : Event) (m : Int) (i : Nat) : (select (l.take i) f m).length ≤ l.length := by
  have h1 := List.length_filter_le (fun e => fits e f m) (l.take i)
  have h2 : (l.take i).length ≤ l.length := by simp; omega
  exact Nat.le_trans h1 h2
def selI (l : List Event) (f : Event) (m : Int) (i : Nat) : Nat → List V × List AB
  | 0 => ([.any, .any, i64 m, .any, .ptr 0 0, .any, .any, .sl [] .nil, .any, .any, .sl (l.map Event.v) .plain, i64 l.length, i64 i, .any, .any, .any, .any, .any, .any, .any, .any, .any, .any, .any, .any, .any], [.var f.cells])
  | j + 1 => ([.any, .any, i64 m, .any, .ptr 0 0, .any, .any, .row 2 j, .any, .any, .sl (l.map Event.v) .plain, i64 l.length, i64 i, .any, .any, .any, .any, .any, .any, .any, .any, .any, .any, .any, .any, .any], [.var f.cells, .dead, .row 10 ((select (l.take i) f m).map Event.v) j false])
theorem Select_spec (l : List Event) (f : Event) (m : Int) (hl : l.length ≤ 1099511627776) : Spec PP [] 95 [eventsV l, f.v, i64 m] (eventsV (select l f m)) [] := by
  refine Spec.of_runs Go.Proofs.Try.f95 Go.Proofs.Try.func95 rfl ?_
  intro w0 M0
  simp only [Go.Proofs.Try.f95, List.replicate, List.cons_append, List.nil_append, z, seval]
  refine RUNs_range l.length (fun i (c : Nat) => (select (l.take i) f m).length = c) (fun i c => selI l f m i c) 0 (by simp [select]) ?_ rfl ?_
  · exact wk
  rintro ⟨i, c, hi, hc⟩
  rcases c with _ | j
  · have hs : select (l.take i) f m = [] := List.eq_nil_of_length_eq_zero hc
    simp only [selI, Event.cells, z, seval]
    first | refine brk (fun h => ?_) (fun h => ?_) | fail
    · have hlt : i < l.length := by simpa using h
      simp only [h, getMap Event.v l hlt, z, seval]
      (refine CU (Fits_spec l[i] f m) (h := ?_); simp only [z, seval])
      first | refine brk (fun h => ?_) (fun h => ?_) | fail
      · simp only [h, z, seval]
        have e : [Event.v l[i]] = (select (l.take (i + 1)) f m).map Event.v := by
          rw [select_succ hlt, h, hs]; rfl
        simp only [Event.v] at e
        simp only [e, w64s (i := i) (by omega), z, seval]
        refine NX 1 (hi := hlt) (hinv := ?_)
        rw [← List.length_map (f := Event.v), ← e]; rfl
      · simp only [h, w64s (i := i) (by omega), z, seval]
        refine NX 0 (hi := hlt) (hinv := ?_)
        rw [select_succ hlt, h, hs]; rfl
    · simp only [h, z, seval]
      (refine FINS_done ?_; simp only [z, seval])
      have : i = l.length := by simp at h; omega
      subst this
      rw [List.take_length] at hs
      rw [hs]; rfl
  · simp only [selI, Event.cells, z, seval]
    first | refine brk (fun h => ?_) (fun h => ?_) | fail
    · have hlt : i < l.length := by simpa using h
      simp only [h, getMap Event.v l hlt, z, seval]
      (refine CU (Fits_spec l[i] f m) (h := ?_); simp only [z, seval])
      first | refine brk (fun h => ?_) (fun h => ?_) | fail
      · simp only [h, z, seval]
        have e : (select (l.take i) f m).map Event.v ++ [Event.v l[i]] = (select (l.take (i + 1)) f m).map Event.v := by
          rw [select_succ hlt, h, cond_true, List.map_append]; rfl
        simp only [Event.v] at e
        refine OPC_ok ?_ ?_
        · have := select_len l f m (i + 1); rw [select_succ hlt, h, cond_true, List.length_append] at this; simp at this ⊢; omega
        simp only [e, w64s (i := i) (by omega), z, seval]
        refine NX (j + 2) (hi := hlt) (hinv := ?_)
        rw [← List.length_map (f := Event.v), ← e]; simp [hc]
      · simp only [h, w64s (i := i) (by omega), z, seval]
        (refine NX (j + 1) ?_ (by rfl) hlt ?_; simp only [selI, Event.cells, select_succ hlt, h, cond_false]; exact wk)
        rw [select_succ hlt, h]; exact hc
    · simp only [h, z, seval]
      (refine FINS_done ?_; simp only [z, seval])
      have : i = l.length := by simp at h; omega
      subst this
      rw [List.take_length]
def likeE (e : Event) (k r : Int) : Event := { e with kind := k, role := r }
theorem like_spec (e : Event) (k r : Int) : Spec PP [] 108 [e.v, i64 k, i64 r] (likeE e k r).v [] := by
  refine Spec.of_runs Go.Proofs.Try.f108 Go.Proofs.Try.func108 rfl ?_
  intro w0 M0
  simp only [Go.Proofs.Try.f108, List.replicate, List.cons_append, List.nil_append, z, seval]
  (refine FINS_done ?_; simp only [z, seval])
  rfl
def soM (a : Ask) (l : List Event) (e : Event) : Bool := match a with
  | .fresh => ((select l ⟨2, 0, 0, 0, 0, e.k, 0, 0, 0, 0⟩ 33).length : Int) == 0
  | .must k r m => decide (((select l (likeE e k r) (orI .i64 7 m)).length : Int) > 0)
  | .never k r m => ((select l (likeE e k r) (orI .i64 7 m)).length : Int) == 0
theorem fresh_spec (l : List Event) (e : Event) (hl : l.length ≤ 1099511627776) : Spec PP [] 94 [.agg [], eventsV l, e.v] (.bool (soM .fresh l e)) [] := by
  refine Spec.of_runs Go.Proofs.Try.f94 Go.Proofs.Try.func94 rfl ?_
  intro w0 M0
  simp only [Go.Proofs.Try.f94, List.replicate, List.cons_append, List.nil_append, z, seval]
  (refine CU (Select_spec l ⟨2, 0, 0, 0, 0, e.k, 0, 0, 0, 0⟩ 33 hl) (h := ?_); simp only [z, seval])
  (refine FINS_done ?_; simp only [z, seval])
  rfl
theorem must_spec (k r m : Int) (l : List Event) (e : Event) (hl : l.length ≤ 1099511627776) : Spec PP [] 109 [.agg [i64 k, i64 r, i64 m], eventsV l, e.v] (.bool (soM (.must k r m) l e)) [] := by
  refine Spec.of_runs Go.Proofs.Try.f109 Go.Proofs.Try.func109 rfl ?_
  intro w0 M0
  simp only [Go.Proofs.Try.f109, List.replicate, List.cons_append, List.nil_append, z, seval]
  (refine RUNs_draw 0 (by kernel_rfl) ?_; simp only [z, seval])
  (refine DU (like_spec e k r) (h := ?_); simp only [z, seval])
  (refine DU (Select_spec l (likeE e k r) (orI .i64 7 m) hl) (h := ?_); simp only [z, seval])
  (refine ⟨by kernel_rfl, ?_⟩)
  (refine FINS_done ?_; simp only [z, seval])
  rfl
theorem never_spec (k r m : Int) (l : List Event) (e : Event) (hl : l.length ≤ 1099511627776) : Spec PP [] 107 [.agg [i64 k, i64 r, i64 m], eventsV l, e.v] (.bool (soM (.never k r m) l e)) [] := by
  refine Spec.of_runs Go.Proofs.Try.f107 Go.Proofs.Try.func107 rfl ?_
  intro w0 M0
  simp only [Go.Proofs.Try.f107, List.replicate, List.cons_append, List.nil_append, z, seval]
  (refine RUNs_draw 0 (by kernel_rfl) ?_; simp only [z, seval])
  (refine DU (like_spec e k r) (h := ?_); simp only [z, seval])
  (refine DU (Select_spec l (likeE e k r) (orI .i64 7 m) hl) (h := ?_); simp only [z, seval])
  (refine ⟨by kernel_rfl, ?_⟩)
  (refine FINS_done ?_; simp only [z, seval])
  rfl
def allM (a : List Ask) (l : List Event) (e : Event) : Bool := a.all fun x => soM x l e
theorem all_spec (a : List Ask) (l : List Event) (e : Event) (hl : l.length ≤ 1099511627776) (ha : a.length ≤ 1099511627776) : Spec PP [] 37 [asksV a, eventsV l, e.v] (.bool (allM a l e)) [] := by
  refine Spec.of_runs Go.Proofs.Try.f37 Go.Proofs.Try.func37 rfl ?_
  intro w0 M0
  simp only [Go.Proofs.Try.f37, List.replicate, List.cons_append, List.nil_append, asksV, z, seval]
  refine RUNs_range a.length (fun i (_ : Unit) => (a.take i).all (fun x => soM x l e) = true) (fun i _ => ([.any, .sl (l.map Event.v) .plain, .any, .any, .any, .ptr 0 0, .bool false, .any, .any, .sl (a.map Ask.v) .plain, i64 a.length, i64 i, .any, .any, .any, .any, .any, .any, .any, .any, .any], [.var e.cells])) () (by simp) wk rfl ?_
  rintro ⟨i, _, hi, hw⟩
  simp only [Event.cells, z, seval]
  first | refine brk (fun h => ?_) (fun h => ?_) | fail
  · have hlt : i < a.length := by simpa using h
    simp only [h, getMap Ask.v a hlt, z, seval]
    cases hx : a[i] with
    | fresh =>
      simp only [Ask.v, z, seval]
      (refine INVS_spec2 (n := 94) (args' := ?_) (r := ?_) (by kernel_rfl) (by kernel_rfl) ?_ ?_ ?_; rotate_left 2; (simp only [z, seval]; exact rfl); exact (fresh_spec l e hl); simp only [z, seval])
      first | refine brk (fun h => ?_) (fun h => ?_) | fail
      · simp only [h, w64s (i := i) (by omega), z, seval]
        refine NX () (hi := hlt) (hinv := ?_)
        rw [all_succ hlt, hw, hx, h]; rfl
      · simp only [h, z, seval]
        (refine FINS_done ?_; simp only [z, seval])
        rw [allM, all_false hlt (by rw [hx]; exact h)]
    | must k r m =>
      simp only [Ask.v, z, seval]
      (refine INVS_spec2 (n := 109) (args' := ?_) (r := ?_) (by kernel_rfl) (by kernel_rfl) ?_ ?_ ?_; rotate_left 2; (simp only [z, seval]; exact rfl); exact (must_spec k r m l e hl); simp only [z, seval])
      first | refine brk (fun h => ?_) (fun h => ?_) | fail
      · simp only [h, w64s (i := i) (by omega), z, seval]
        refine NX () (hi := hlt) (hinv := ?_)
        rw [all_succ hlt, hw, hx, h]; rfl
      · simp only [h, z, seval]
        (refine FINS_done ?_; simp only [z, seval])
        rw [allM, all_false hlt (by rw [hx]; exact h)]
    | never k r m =>
      simp only [Ask.v, z, seval]
      (refine INVS_spec2 (n := 107) (args' := ?_) (r := ?_) (by kernel_rfl) (by kernel_rfl) ?_ ?_ ?_; rotate_left 2; (simp only [z, seval]; exact rfl); exact (never_spec k r m l e hl); simp only [z, seval])
      first | refine brk (fun h => ?_) (fun h => ?_) | fail
      · simp only [h, w64s (i := i) (by omega), z, seval]
        refine NX () (hi := hlt) (hinv := ?_)
        rw [all_succ hlt, hw, hx, h]; rfl
      · simp only [h, z, seval]
        (refine FINS_done ?_; simp only [z, seval])
        rw [allM, all_false hlt (by rw [hx]; exact h)]
  · simp only [h, z, seval]
    (refine FINS_done ?_; simp only [z, seval])
    have : i = a.length := by simp at h; omega
    subst this
    rw [List.take_length] at hw
    rw [allM, hw]
end Ch

/- The program's causes of events. -/
set_option maxRecDepth 100000
set_option maxHeartbeats 4000000
set_option linter.unusedSimpArgs false
set_option linter.unusedVariables false
namespace Ch
open Go Go.Ab
theorem wu64 {n : Int} (h0 : 0 ≤ n) (h1 : n < 18446744073709551616) : IntKind.u64.wrap n = n := by
  rw [IntKind.wrap_u64]; omega
theorem in_spec (l : List Person) (n : Nat) (hn : n < 4294967296) (hl : l.length ≤ 1099511627776) : Spec PP [] 71 [peopleV l, u32 n] (.bool (decide (n < l.length))) [] := by
  refine Spec.of_runs Go.Proofs.Try.f71 Go.Proofs.Try.func71 rfl ?_
  intro w0 M0
  simp only [Go.Proofs.Try.f71, List.replicate, List.cons_append, List.nil_append, z, seval]
  simp only [wu64 (n := (n : Int)) (by omega) (by omega), wu64 (n := (l.length : Int)) (by omega) (by omega), z, seval]
  (refine FINS_done ?_; simp only [z, seval])
  simp
def zeroP : Person := ⟨0, 0, 0, [], [], false⟩
def getP (l : List Person) (n : Nat) : Person := (l[n]?).getD zeroP
theorem Get_spec (l : List Person) (n : Nat) (hn : n < 4294967296) (hl : l.length ≤ 1099511627776) : Spec PP [] 59 [peopleV l, u32 n] (.tup [(getP l n).v, .bool (decide (n < l.length))]) [] := by
  refine Spec.of_runs Go.Proofs.Try.f59 Go.Proofs.Try.func59 rfl ?_
  intro w0 M0
  simp only [Go.Proofs.Try.f59, List.replicate, List.cons_append, List.nil_append, z, seval]
  (refine CU (in_spec l n hn hl) (h := ?_); simp only [z, seval])
  first | refine brk (fun h => ?_) (fun h => ?_) | fail
  · have hlt : n < l.length := by simpa using h
    simp only [h, getMap Person.v l hlt, z, seval]
    (refine FINS_done ?_; simp only [z, seval])
    simp [getP, hlt, Person.v, wordsV, runsV]
  · have hlt : ¬ n < l.length := by simpa using h
    simp only [h, z, seval]
    (refine FINS_done ?_; simp only [z, seval])
    simp [getP, hlt, zeroP]
theorem Person_spec (w : World) (n : Nat) (hn : n < 4294967296) (hl : w.people.length ≤ 1099511627776) : Spec PP [] 36 [w.v, u32 n] (getP w.people n).v [] := by
  refine Spec.of_runs Go.Proofs.Try.f36 Go.Proofs.Try.func36 rfl ?_
  intro w0 M0
  simp only [Go.Proofs.Try.f36, List.replicate, List.cons_append, List.nil_append, z, seval]
  (refine CU (Get_spec w.people n hn hl) (h := ?_); simp only [z, seval])
  (refine FINS_done ?_; simp only [z, seval])
theorem asks_len (e : Event) : ((asksM e).getD noCauses).always.length ≤ 2 ∧ ((asksM e).getD noCauses).honestA.length ≤ 2 ∧ ((asksM e).getD noCauses).honestB.length ≤ 2 := by
  simp only [asksM, cond_eq_ite]
  repeat' split
  all_goals decide
def honest (l : List Person) (n : Int) : Bool := !(getP l n.toNat).corrupt
def causeE (l : List Person) (ahead : List Event) (e : Event) : Bool :=
  (asksM e).isSome && (allM ((asksM e).getD noCauses).always ahead e && ((!honest l e.a || allM ((asksM e).getD noCauses).honestA ahead e) && (!honest l e.b || allM ((asksM e).getD noCauses).honestB ahead e)))
def causeM (w : World) (i : Int) : Bool := if i < 0 then false else match w.log[i.toNat]? with
  | none => false
  | some e => causeE w.people (w.log.take i.toNat) e
theorem Cause_spec (w : World) (i : Int) (hlog : ∀ e ∈ w.log, U e.a ∧ U e.b) (hl : w.people.length ≤ 1099511627776) (hl2 : w.log.length ≤ 1099511627776) : Spec PP [] 11 [w.v, i64 i] (.bool (causeM w i)) [] := by
  refine Spec.of_runs Go.Proofs.Try.f11 Go.Proofs.Try.func11 rfl ?_
  intro w0 M0
  simp only [Go.Proofs.Try.f11, List.replicate, List.cons_append, List.nil_append, z, seval]
  first | refine brk (fun h => ?_) (fun h => ?_) | fail
  · obtain ⟨n, rfl⟩ := Int.eq_ofNat_of_zero_le (by simpa using h : 0 ≤ i)
    simp only [h, z, seval]
    first | refine brk (fun h => ?_) (fun h => ?_) | fail
    · have hnl : ¬ n < w.log.length := by simp at h; omega
      simp only [h, z, seval]
      (refine FINS_done ?_; simp only [z, seval])
      simp only [causeM, show ¬ ((n : Int) < 0) by omega, if_false, Int.toNat_natCast, List.getElem?_eq_none (Nat.le_of_not_lt hnl)]
    · have hlt : n < w.log.length := by simp at h; omega
      simp only [h, z, seval]
      (refine RUNs_draw 1 (by kernel_rfl) ?_; simp only [z, seval])
      simp only [getMap Event.v w.log hlt, Event.v, z, seval]
      refine DOC_ok (slc_ok (Nat.le_of_lt hlt) (by intro a; rfl)) ?_
      simp only [z, seval]
      (refine ⟨by kernel_rfl, ?_⟩)
      obtain ⟨hua, hub⟩ := hlog _ (List.getElem_mem hlt)
      have hm : causeM w n = causeE w.people (w.log.take n) w.log[n] := by
        simp only [causeM, show ¬ ((n : Int) < 0) by omega, if_false, Int.toNat_natCast, List.getElem?_eq_getElem hlt]
      rw [hm]
      generalize hev : w.log[n] = e at hua hub ⊢
      clear hm hev
      obtain ⟨ek, ep, er, ea, eb, e1, e2, e3, e4, e5⟩ := e
      obtain ⟨na, rfl⟩ := Int.eq_ofNat_of_zero_le hua.1
      obtain ⟨nb, rfl⟩ := Int.eq_ofNat_of_zero_le hub.1
      have hna2 : na < 4294967296 := by have := hua.2; simp only at this; omega
      have hnb2 : nb < 4294967296 := by have := hub.2; simp only at this; omega
      have hlt2 : (w.log.take n).length ≤ 1099511627776 := by simp; omega
      obtain ⟨c1, c2, c3⟩ := asks_len ⟨ek, ep, er, na, nb, e1, e2, e3, e4, e5⟩
      (refine CU (asks_spec ⟨ek, ep, er, na, nb, e1, e2, e3, e4, e5⟩) (h := ?_); simp only [z, seval])
      simp only [Causes.v, asksV, z, seval]
      generalize hc : (asksM ⟨ek, ep, er, na, nb, e1, e2, e3, e4, e5⟩).getD noCauses = c at c1 c2 c3 ⊢
      repeat' (first
        | (refine CU (all_spec c.always _ ⟨ek, ep, er, na, nb, e1, e2, e3, e4, e5⟩ hlt2 (by omega)) (h := ?_); simp only [z, seval])
        | (refine CU (all_spec c.honestA _ ⟨ek, ep, er, na, nb, e1, e2, e3, e4, e5⟩ hlt2 (by omega)) (h := ?_); simp only [z, seval])
        | (refine CU (all_spec c.honestB _ ⟨ek, ep, er, na, nb, e1, e2, e3, e4, e5⟩ hlt2 (by omega)) (h := ?_); simp only [z, seval])
        | (refine CALLS_in (fn := Go.Proofs.Try.f35) Go.Proofs.Try.func35 rfl (by kernel_rfl) ?_; simp only [Go.Proofs.Try.f35, List.replicate, List.cons_append, List.nil_append, z, seval])
        | (refine CU (Person_spec w na hna2 hl) (h := ?_); simp only [z, seval])
        | (refine CU (Person_spec w nb hnb2 hl) (h := ?_); simp only [z, seval])
        | ((first | refine brk (fun h => ?_) (fun h => ?_) | fail) <;> simp only [h, z, seval]))
      all_goals (refine FINS_done ?_; simp only [z, seval])
      all_goals (simp_all [causeE, honest]; done)
  · simp only [h, z, seval]
    (refine FINS_done ?_; simp only [z, seval])
    simp at h; simp [causeM, h]
def badAt (w : World) : Option Nat := (List.range w.log.length).find? fun i => !causeM w i
theorem badAt_some {w : World} {i : Nat} (h : i < w.log.length) (h1 : ∀ j, j < i → causeM w (j : Nat) = true) (h2 : causeM w i = false) : badAt w = some i := by
  rw [badAt, List.find?_range_eq_some]
  refine ⟨by simp [h2], List.mem_range.2 h, fun j hj => by simp [h1 j hj]⟩
theorem badAt_none {w : World} (h : ∀ j, j < w.log.length → causeM w (j : Nat) = true) : badAt w = none := by
  rw [badAt, List.find?_eq_none]
  intro j hj
  simp [h j (List.mem_range.1 hj)]
theorem Check_spec (w : World) (hlog : ∀ e ∈ w.log, U e.a ∧ U e.b) (hl : w.people.length ≤ 1099511627776) (hl2 : w.log.length ≤ 1099511627776) : Spec PP [] 10 [w.v] (.tup [i64 (((badAt w).getD 0 : Nat) : Int), .bool (badAt w).isNone]) [] := by
  refine Spec.of_runs Go.Proofs.Try.f10 Go.Proofs.Try.func10 rfl ?_
  intro w0 M0
  simp only [Go.Proofs.Try.f10, List.replicate, List.cons_append, List.nil_append, z, seval]
  refine RUNs_range w.log.length (fun i (_ : Unit) => ∀ j, j < i → causeM w (j : Nat) = true) (fun i _ => ([.any, .ptr 0 0, i64 0, .bool false, .any, .any, .any, i64 w.log.length, i64 i, .any, .any, .any, .any, .any, .any, .any, .any], [.var w.cells])) () (by simp) wk rfl ?_
  rintro ⟨i, _, hi, hw⟩
  simp only [z, seval]
  first | refine brk (fun h => ?_) (fun h => ?_) | fail
  · have hlt : i < w.log.length := by simpa using h
    simp only [h, z, seval]
    (refine CU (Cause_spec w i hlog hl hl2) (h := ?_); simp only [z, seval])
    first | refine brk (fun h => ?_) (fun h => ?_) | fail
    · simp only [h, w64s (i := i) (by omega), z, seval]
      refine NX () (hi := hlt) (hinv := ?_)
      intro j hj
      rcases Nat.lt_or_ge j i with h1 | h1
      · exact hw j h1
      · have : j = i := by have : j < i + 1 := hj; omega
        subst this; exact h
    · simp only [h, z, seval]
      (refine FINS_done ?_; simp only [z, seval])
      rw [badAt_some hlt hw h]; rfl
  · simp only [h, z, seval]
    (refine FINS_done ?_; simp only [z, seval])
    have : i = w.log.length := by simp at h; omega
    subst this
    rw [badAt_none hw]; rfl
end Ch

/- The document's answer: a world in memory of its own. -/
set_option maxRecDepth 100000
set_option maxHeartbeats 4000000
set_option linter.unusedSimpArgs false
set_option linter.unusedVariables false
namespace Ch
open Go Go.Ab
/-- lists are no longer than what is sure to fit -/
structure World.lim (w : World) : Prop where
  draws : w.draws.list.length ≤ 1099511627776
  rows : w.box.rows.length ≤ 1099511627776
  plain : ∀ s ∈ w.box.rows, s.plain.length ≤ 1099511627776
  grams : w.net.grams.length ≤ 1099511627776
  words : ∀ g ∈ w.net.grams, g.words.length ≤ 1099511627776
  seen : w.net.seen.length ≤ 1099511627776
  seens : ∀ l ∈ w.net.seen, l.length ≤ 1099511627776
  people : w.people.length ≤ 1099511627776
  used : ∀ p ∈ w.people, p.used.length ≤ 1099511627776
  runs : ∀ p ∈ w.people, p.runs.length ≤ 1099511627776
  log : w.log.length ≤ 1099511627776
  regs : w.regs.length ≤ 1099511627776
  reg : ∀ l ∈ w.regs, l.length ≤ 1099511627776
  leaks : w.leaks.length ≤ 1099511627776
theorem Lim_of_ok {w : World} (h : w.ok) : w.Lim := by
  obtain ⟨h1, h2, h3, h4, h5, h6, h7, h8⟩ := h
  exact ⟨h2.1.1, h3.2.1, h4.2.1.1, h4.2.2.1, h5.1, fun p hp => ⟨(h5.2 p hp).2.2.2.1.1, (h5.2 p hp).2.2.2.2.1⟩, h6.1, h7.1, h8.1⟩
theorem few_len {α : Type} {l : List α} {p : α → Bool} {n : Nat} (h : (l.take n).all p = true) (hl : l.length ≤ n) : ∀ x ∈ l, p x = true := by
  rw [List.take_of_length_le hl, List.all_eq_true] at h; exact h
theorem lim_of_few {w : World} (h : Few12 w = true) : w.lim := by
  simp only [Few12, Few07, Few06, Few10, Bool.and_eq_true, decide_eq_true_eq] at h
  obtain ⟨⟨⟨⟨⟨⟨⟨h1, h2, h3⟩, ⟨⟨h4, h5⟩, h6⟩, h7⟩, h8, h9⟩, h10⟩, h11⟩, h12⟩, h13⟩ := h
  have L : ∀ l : List Int, few l = true → l.length ≤ 1099511627776 := fun l hl => by simp only [few, decide_eq_true_eq] at hl; omega
  have P := few_len h8 (by omega)
  simp only [Bool.and_eq_true, decide_eq_true_eq] at P
  exact ⟨by omega, by omega, fun s hs => L _ (few_len h2 (by omega) s hs), by omega, fun s hs => L _ (few_len h4 (by omega) s hs), by omega, fun s hs => L _ (few_len h5 (by omega) s hs), by omega,
    fun p hp => L _ (P p hp).1, fun p hp => by have := (P p hp).2; omega, by omega, by omega, fun s hs => L _ (few_len h1 (by omega) s hs), by omega⟩
theorem okMap {α : Type} {f : α → V} {sz : Nat} (l : List α) (h : ∀ a, okE sz (f a) = true) (hl : l.length ≤ 1099511627776) : ((l.map f).all (okE sz) && decide (l.length ≤ 1099511627776)) = true := by
  simp only [Bool.and_eq_true, List.all_eq_true, decide_eq_true_eq]
  exact ⟨fun x hx => by obtain ⟨a, _, rfl⟩ := List.mem_map.1 hx; exact h a, hl⟩
theorem mapSucc {α : Type} {f : α → V} {l : List α} {i : Nat} (h : i < l.length) : (l.take i).map f ++ [f l[i]] = (l.take (i + 1)).map f := by
  rw [List.take_succ_eq_append_getElem h, List.map_append]; rfl
/-- the copy's cells, its last lists still as they are at hand -/
def cpCells (w : World) (a b c d e f g : V) : List V := [u32 w.conf.window, i64 w.conf.people, i64 w.conf.box, i64 w.conf.used, i64 w.conf.runs, i64 w.conf.net, i64 w.conf.regs, wordsV w.draws.list, i64 w.draws.next,
  i64 w.box.room, a, i64 w.net.room, b, c, d, e, f, g]
def cpV (w : World) : V := .agg (cpCells w (sldsV w.box.rows) (gramsV w.net.grams) (rowsV w.net.seen) (.row 7 w.people.length) (eventsV w.log) (.row 9 w.regs.length) (leaksV w.leaks))
def cpH (w : World) : List AB := [.dead, .dead, .dead, .dead, .dead, .dead, .dead, .row 6 ((w.people).map Person.v) w.people.length false, .dead, .row 1 ((w.regs).map wordsV) w.regs.length false]
theorem Copied_H (w : World) (hL : w.lim) : Spec PP [] 9 [w.v] (cpV w) (cpH w) := by
  refine Spec.of_runs Go.Proofs.Try.f9 Go.Proofs.Try.func9 rfl ?_
  intro w0 M0
  simp only [Go.Proofs.Try.f9, List.replicate, List.cons_append, List.nil_append, z, seval]
  refine OPC_ok (okMap _ (fun a => rfl) hL.draws) ?_
  simp only [z, seval]
  (refine RUNs_freeze 3 0 ?_ (by rfl) ?_ ?_; rotate_left 1; (simp only [z, seval]; exact rfl); simp only [z, seval])
  (refine RUNs_row0H 2 10 4 (h := ?_); simp only [z, seval])
  refine RUNs_rangeS (w.box.rows.length) (fun _ (_ : Unit) => True) (fun i _ => [(4, i64 i)]) (fun i _ => [(2, .var (cpCells w (.row 4 i) (gramsV w.net.grams) (rowsV w.net.seen) (peopleV w.people) (eventsV w.log) (rowsV w.regs) (leaksV w.leaks))), (4, .row 4 ((w.box.rows.take i).map Sld.v) i false)]) () ?_ (by simp only [z, seval]; exact wk) rfl ?_
  · trivial
  rintro ⟨i, _, hi, _⟩
  have hll : w.box.rows.length ≤ 1099511627776 := hL.rows
  simp only [cpCells, z, seval]
  first | refine brk (fun h => ?_) (fun h => ?_) | fail
  · have hlt : i < w.box.rows.length := by have := of_decide_eq_true h; omega
    simp only [h, getMap Sld.v w.box.rows hlt, z, seval]
    refine OPC_ok (okMap _ (fun a => rfl) (hL.plain _ (List.getElem_mem hlt))) ?_
    simp only [z, seval]
    refine OPC_ok (by simp; omega) ?_
    simp only [z, seval]
    have e := mapSucc (f := Sld.v) hlt
    simp only [mv] at e
    simp only [e, w64s (i := i) (by omega), z, seval]
    (refine NX () ?_ (by rfl) hlt ?_; simp only [cpCells, z, seval]; exact wk)
    trivial
  simp only [h, z, seval]
  obtain rfl : i = w.box.rows.length := by have := of_decide_eq_false h; omega
  clear hi h
  simp only [List.take_length, z, seval]
  (refine RUNs_freeze 4 w.box.rows.length ?_ (by rfl) ?_ ?_; rotate_left 1; (simp only [z, seval]; exact rfl); simp only [z, seval])
  (refine RUNs_row0H 2 12 2 (h := ?_); simp only [z, seval])
  refine RUNs_rangeS (w.net.grams.length) (fun _ (_ : Unit) => True) (fun i _ => [(6, i64 i)]) (fun i _ => [(2, .var (cpCells w (sldsV w.box.rows) (.row 5 i) (rowsV w.net.seen) (peopleV w.people) (eventsV w.log) (rowsV w.regs) (leaksV w.leaks))), (5, .row 2 ((w.net.grams.take i).map Gram.v) i false)]) () ?_ (by simp only [z, seval]; exact wk) rfl ?_
  · trivial
  rintro ⟨i, _, hi, _⟩
  have hll : w.net.grams.length ≤ 1099511627776 := hL.grams
  simp only [cpCells, z, seval]
  first | refine brk (fun h => ?_) (fun h => ?_) | fail
  · have hlt : i < w.net.grams.length := by have := of_decide_eq_true h; omega
    simp only [h, getMap Gram.v w.net.grams hlt, z, seval]
    (refine RUNs_draw 3 (by kernel_rfl) ?_; simp only [z, seval])
    simp only [getMap Gram.v w.net.grams hlt, Gram.v, z, seval]
    refine DOC_ok (okMap _ (fun a => rfl) (hL.words _ (List.getElem_mem hlt))) ?_
    simp only [z, seval]
    refine DOC_ok (by simp; omega) ?_
    simp only [z, seval]
    (refine ⟨by kernel_rfl, ?_⟩)
    have e := mapSucc (f := Gram.v) hlt
    simp only [mv] at e
    simp only [e, w64s (i := i) (by omega), z, seval]
    (refine NX () ?_ (by rfl) hlt ?_; simp only [cpCells, z, seval]; exact wk)
    trivial
  simp only [h, z, seval]
  obtain rfl : i = w.net.grams.length := by have := of_decide_eq_false h; omega
  clear hi h
  simp only [List.take_length, z, seval]
  (refine RUNs_freeze 5 w.net.grams.length ?_ (by rfl) ?_ ?_; rotate_left 1; (simp only [z, seval]; exact rfl); simp only [z, seval])
  (refine RUNs_row0H 2 13 1 (h := ?_); simp only [z, seval])
  refine RUNs_rangeS (w.net.seen.length) (fun _ (_ : Unit) => True) (fun i _ => [(7, i64 i)]) (fun i _ => [(2, .var (cpCells w (sldsV w.box.rows) (gramsV w.net.grams) (.row 6 i) (peopleV w.people) (eventsV w.log) (rowsV w.regs) (leaksV w.leaks))), (6, .row 1 ((w.net.seen.take i).map wordsV) i false)]) () ?_ (by simp only [z, seval]; exact wk) rfl ?_
  · trivial
  rintro ⟨i, _, hi, _⟩
  have hll : w.net.seen.length ≤ 1099511627776 := hL.seen
  simp only [cpCells, z, seval]
  first | refine brk (fun h => ?_) (fun h => ?_) | fail
  · have hlt : i < w.net.seen.length := by have := of_decide_eq_true h; omega
    simp only [h, getMap wordsV w.net.seen hlt, z, seval]
    (refine RUNs_draw 3 (by kernel_rfl) ?_; simp only [z, seval])
    simp only [getMap wordsV w.net.seen hlt, Gram.v, z, seval]
    refine DOC_ok (okMap _ (fun a => rfl) (hL.seens _ (List.getElem_mem hlt))) ?_
    simp only [z, seval]
    refine DOC_ok (by simp; omega) ?_
    simp only [z, seval]
    (refine ⟨by kernel_rfl, ?_⟩)
    have e := mapSucc (f := wordsV) hlt
    simp only [mv] at e
    simp only [e, w64s (i := i) (by omega), z, seval]
    (refine NX () ?_ (by rfl) hlt ?_; simp only [cpCells, z, seval]; exact wk)
    trivial
  simp only [h, z, seval]
  obtain rfl : i = w.net.seen.length := by have := of_decide_eq_false h; omega
  clear hi h
  simp only [List.take_length, z, seval]
  (refine RUNs_freeze 6 w.net.seen.length ?_ (by rfl) ?_ ?_; rotate_left 1; (simp only [z, seval]; exact rfl); simp only [z, seval])
  (refine RUNs_row0H 2 14 6 (h := ?_); simp only [z, seval])
  refine RUNs_rangeS (w.people.length) (fun _ (_ : Unit) => True) (fun i _ => [(8, i64 i)]) (fun i _ => [(2, .var (cpCells w (sldsV w.box.rows) (gramsV w.net.grams) (rowsV w.net.seen) (.row 7 i) (eventsV w.log) (rowsV w.regs) (leaksV w.leaks))), (7, .row 6 ((w.people.take i).map Person.v) i false)]) () ?_ (by simp only [z, seval]; exact wk) rfl ?_
  · trivial
  rintro ⟨i, _, hi, _⟩
  have hll : w.people.length ≤ 1099511627776 := hL.people
  simp only [cpCells, z, seval]
  first | refine brk (fun h => ?_) (fun h => ?_) | fail
  · have hlt : i < w.people.length := by have := of_decide_eq_true h; omega
    simp only [h, getMap Person.v w.people hlt, z, seval]
    refine OPC_ok (okMap _ (fun a => rfl) (hL.used _ (List.getElem_mem hlt))) ?_
    simp only [z, seval]
    refine OPC_ok (okMap _ (fun a => rfl) (hL.runs _ (List.getElem_mem hlt))) ?_
    simp only [z, seval]
    refine OPC_ok (by simp; omega) ?_
    simp only [z, seval]
    have e := mapSucc (f := Person.v) hlt
    simp only [mv] at e
    simp only [e, w64s (i := i) (by omega), z, seval]
    (refine NX () ?_ (by rfl) hlt ?_; simp only [cpCells, z, seval]; exact wk)
    trivial
  simp only [h, z, seval]
  obtain rfl : i = w.people.length := by have := of_decide_eq_false h; omega
  clear hi h
  simp only [List.take_length, z, seval]
  refine OPC_ok (okMap _ (fun a => rfl) hL.log) ?_
  simp only [z, seval]
  (refine RUNs_freeze 8 0 ?_ (by rfl) ?_ ?_; rotate_left 1; (simp only [z, seval]; exact rfl); simp only [z, seval])
  (refine RUNs_row0H 2 16 1 (h := ?_); simp only [z, seval])
  refine RUNs_rangeS (w.regs.length) (fun _ (_ : Unit) => True) (fun i _ => [(10, i64 i)]) (fun i _ => [(2, .var (cpCells w (sldsV w.box.rows) (gramsV w.net.grams) (rowsV w.net.seen) (.row 7 w.people.length) (eventsV w.log) (.row 9 i) (leaksV w.leaks))), (9, .row 1 ((w.regs.take i).map wordsV) i false)]) () ?_ (by simp only [z, seval]; exact wk) rfl ?_
  · trivial
  rintro ⟨i, _, hi, _⟩
  have hll : w.regs.length ≤ 1099511627776 := hL.regs
  simp only [cpCells, z, seval]
  first | refine brk (fun h => ?_) (fun h => ?_) | fail
  · have hlt : i < w.regs.length := by have := of_decide_eq_true h; omega
    simp only [h, getMap wordsV w.regs hlt, z, seval]
    (refine RUNs_draw 3 (by kernel_rfl) ?_; simp only [z, seval])
    simp only [getMap wordsV w.regs hlt, Gram.v, z, seval]
    refine DOC_ok (okMap _ (fun a => rfl) (hL.reg _ (List.getElem_mem hlt))) ?_
    simp only [z, seval]
    refine DOC_ok (by simp; omega) ?_
    simp only [z, seval]
    (refine ⟨by kernel_rfl, ?_⟩)
    have e := mapSucc (f := wordsV) hlt
    simp only [mv] at e
    simp only [e, w64s (i := i) (by omega), z, seval]
    (refine NX () ?_ (by rfl) hlt ?_; simp only [cpCells, z, seval]; exact wk)
    trivial
  simp only [h, z, seval]
  obtain rfl : i = w.regs.length := by have := of_decide_eq_false h; omega
  clear hi h
  simp only [List.take_length, z, seval]
  refine OPC_ok (okMap _ (fun a => rfl) hL.leaks) ?_
  simp only [z, seval]
  refine FINS_keep [7, 9] ?_ ?_
  · simp only [List.filter_cons, List.filter_nil, List.contains_cons, List.contains_nil, Nat.reduceBEq, beq_self_eq_true, Bool.or_false, Bool.false_or, Bool.or_true, Bool.true_or, Bool.not_true, Bool.not_false, Bool.false_eq_true, if_false, if_true, cpV, cpH, cpCells, z, seval]
  · simp only [List.filter_cons, List.filter_nil, List.contains_cons, List.contains_nil, Nat.reduceBEq, beq_self_eq_true, Bool.or_false, Bool.false_or, Bool.or_true, Bool.true_or, Bool.not_true, Bool.not_false, Bool.false_eq_true, if_false, if_true, cpV, cpH, cpCells, z, seval]
    exact wk
end Ch

/- The library's Clone, of events. -/
set_option maxRecDepth 100000
set_option maxHeartbeats 4000000
set_option linter.unusedSimpArgs false
set_option linter.unusedVariables false
namespace Ch
open Go Go.Ab
theorem CloneEvent_spec (l : List Event) (hl : l.length ≤ 1099511627776) : Spec PP [] 45 [.sl (l.map Event.v) .plain] (.row 0 0) [.row 10 (l.map Event.v) 0 false] := by
  refine Spec.of_runs Go.Proofs.Try.f45 Go.Proofs.Try.func45 rfl ?_
  intro w0 M0
  simp only [Go.Proofs.Try.f45, List.replicate, List.cons_append, List.nil_append, z, seval]
  refine OPV_nilq rfl rfl ty36 rfl rfl ?_
  intro b hb _
  rcases b
  · simp only [z, seval]
    refine OPC_ok (okMap _ (fun a => rfl) hl) ?_
    simp only [z, seval]
    exact FINS_own rfl rfl
  · obtain rfl : l = [] := by
      cases l with
      | nil => rfl
      | cons a l => exact absurd (hb (by simp)) (by simp)
    simp only [List.map_nil, z, seval]
    intro _
    refine RUNs_row0 2 10 (h := ?_)
    simp only [z, seval]
    exact FINS_own rfl rfl
end Ch

/- Functions handed on to the library. -/
set_option maxRecDepth 100000
set_option maxHeartbeats 4000000
set_option linter.unusedSimpArgs false
set_option linter.unusedVariables false
namespace Ch
open Go Go.Ab
theorem IndexFuncLeak_pure (l : List Leak) (p : Leak → Bool) (vf : V) (H : List AB) (hl : l.length ≤ 1099511627776) (hH : H.all (okAB H.length) = true) (hv : okN H.length vf = true) (hp : ∀ a ∈ l, PureFn PP [] vf H [Leak.v a] (.bool (p a))) :
    PureFn PP [] (.fn (.func 63) [] []) H [.sl (l.map Leak.v) .plain, vf] (i64 (idxP p l)) := by
  refine PureFn.of (fn := Go.Proofs.Try.f63) Go.Proofs.Try.func63 rfl (by kernel_rfl) hH rfl ?_
  intro w0 M0 R dst all l' k fr st h1 h2
  simp only [Go.Proofs.Try.f63, List.replicate, List.cons_append, List.nil_append, z, seval]
  refine RUNs_rangeS l.length (fun i (_ : Unit) => (l.take i).any p = false) (fun i _ => [(1, vf), (8, i64 i)]) (fun _ _ => []) () (by simp) (by simp only [z, seval]; exact WkF (by simp only [okL, okN, hv, Bool.true_and]) hH) (by simp only [z, seval]; exact stok h1 h2) ?_
  rintro ⟨i, _, hi, hw⟩
  simp only [z, seval]
  refine CONDS_split (fun h => ?_) (fun h => ?_)
  · have hlt : i < l.length := by simpa using h
    simp only [z, seval, hlt, getMap Leak.v l hlt]
    have hpi := hp _ (List.getElem_mem hlt)
    simp only [mv] at hpi
    refine PureFn.use hpi (by simp only [okL, okN, hv, Bool.true_and]) (stok h1 h2) ?_
    simp only [z, seval]
    refine CONDS_split (fun h => ?_) (fun h => ?_)
    · simp only [z, seval]
      exact RUNs_pure h1 h2 hH rfl (hle := LeH.refl H) (he := by rw [idxP_at hlt hw h])
    · simp only [z, seval, w64s (i := i) (by omega)]
      refine NX () (hw := by simp only [z, seval]; exact WkF (by simp only [okL, okN, hv, Bool.true_and]) hH) (hst := by simp only [z, seval]; exact stok h1 h2) (hi := hlt) (hinv := any_snoc hlt hw h)
  · obtain rfl : i = l.length := by simp at h; omega
    rw [List.take_length] at hw
    simp only [z, seval]
    exact RUNs_pure h1 h2 hH rfl (hle := LeH.refl H) (he := by rw [idxP_none hw])
theorem ContainsFuncLeak_pure (l : List Leak) (p : Leak → Bool) (vf : V) (H : List AB) (hl : l.length ≤ 1099511627776) (hH : H.all (okAB H.length) = true) (hv : okN H.length vf = true) (hp : ∀ a ∈ l, PureFn PP [] vf H [Leak.v a] (.bool (p a))) :
    PureFn PP [] (.fn (.func 40) [] []) H [.sl (l.map Leak.v) .plain, vf] (.bool (l.any p)) := by
  refine PureFn.of (fn := Go.Proofs.Try.f40) Go.Proofs.Try.func40 rfl (by kernel_rfl) hH rfl ?_
  intro w0 M0 R dst all l' k fr st h1 h2
  simp only [Go.Proofs.Try.f40, List.replicate, List.cons_append, List.nil_append, z, seval]
  refine PureFn.use (IndexFuncLeak_pure l p vf H hl hH hv hp) (by simp only [okL, okN, hv, Bool.true_and]) (stok h1 h2) ?_
  simp only [idxP_any, z, seval]
  exact RUNs_pure h1 h2 hH rfl (hle := LeH.refl H) (he := rfl)
end Ch

/- Words searched, and what is known. -/
set_option maxRecDepth 100000
set_option maxHeartbeats 4000000
set_option linter.unusedSimpArgs false
set_option linter.unusedVariables false
namespace Ch
open Go Go.Ab
def idxM (l : List Int) (w : Int) : Int := if w ∈ l then (l.idxOf w : Int) else -1
theorem idxM_at {l : List Int} {w : Int} {i : Nat} (hi : i < l.length) (h : w ∉ l.take i) (hw : l[i] = w) : idxM l w = i := by
  have hm : w ∈ l := hw ▸ List.getElem_mem hi
  have e : l.idxOf w = i := by
    have : (l.take i ++ l.drop i).idxOf w = i := by
      rw [List.idxOf_append, if_neg h, List.drop_eq_getElem_cons hi, hw, List.idxOf_cons_self]
      simp; omega
    rwa [List.take_append_drop] at this
  simp [idxM, hm, e]
theorem Index_spec (l : List Int) (w : Int) (hl : l.length ≤ 1099511627776) : Spec PP [] 73 [wordsV l, u32 w] (i64 (idxM l w)) [] := by
  refine Spec.of_runs Go.Proofs.Try.f73 Go.Proofs.Try.func73 rfl ?_
  intro w0 M0
  simp only [Go.Proofs.Try.f73, List.replicate, List.cons_append, List.nil_append, wordsV, z, seval]
  refine RUNs_range l.length (fun i (_ : Unit) => w ∉ l.take i) (fun i _ => ([.sl (l.map u32) .plain, u32 w, .any, .any, i64 0, .any, .sl (l.map u32) .plain, i64 l.length, i64 i, .any, .any, .any, .any, .any, .any, .any, .any, .any, .any], [])) () (by simp) wk rfl ?_
  rintro ⟨i, _, hi, hw⟩
  simp only [z, seval]
  refine CONDS_split (fun h => ?_) (fun h => ?_)
  · have hlt : i < l.length := by simpa using h
    simp only [z, seval, getMap u32 l hlt]
    refine CONDS_split (fun h => ?_) (fun h => ?_)
    · simp only [z, seval]
      (refine FINS_done ?_; simp only [z, seval])
      rw [idxM_at hlt hw (by simp at h; exact h.symm)]
    · simp only [z, seval, w64s (i := i) (by omega)]
      refine NX () (hi := hlt) (hinv := ?_)
      have h' : w ≠ l[i] := by simpa using h
      simp only [List.take_succ_eq_append_getElem hlt, List.mem_append, List.mem_singleton]
      rintro (h1 | h1)
      · exact hw h1
      · exact h' h1
  · simp only [z, seval]
    (refine FINS_done ?_; simp only [z, seval])
    have : i = l.length := by simp at h; omega
    subst this
    simp at hw; simp [idxM, hw]
theorem Contains_spec (l : List Int) (w : Int) (hl : l.length ≤ 1099511627776) : Spec PP [] 62 [wordsV l, u32 w] (.bool (decide (w ∈ l))) [] := by
  refine Spec.of_runs Go.Proofs.Try.f62 Go.Proofs.Try.func62 rfl ?_
  intro w0 M0
  simp only [Go.Proofs.Try.f62, List.replicate, List.cons_append, List.nil_append, z, seval]
  (refine CU (Index_spec l w hl) (h := ?_); simp only [z, seval])
  (refine FINS_done ?_; simp only [z, seval])
  by_cases h : w ∈ l <;> simp [idxM, h]
theorem wHas_spec (l : List Int) (w : Int) (hl : l.length ≤ 1099511627776) : Spec PP [] 39 [wordsV l, u32 w] (.bool (decide (w ∈ l))) [] := by
  refine Spec.of_runs Go.Proofs.Try.f39 Go.Proofs.Try.func39 rfl ?_
  intro w0 M0
  simp only [Go.Proofs.Try.f39, List.replicate, List.cons_append, List.nil_append, z, seval]
  (refine CU (Contains_spec l w hl) (h := ?_); simp only [z, seval])
  (refine FINS_done ?_; simp only [z, seval])
end Ch
