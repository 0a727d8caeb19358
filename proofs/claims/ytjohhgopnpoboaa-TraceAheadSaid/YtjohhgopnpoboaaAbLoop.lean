/- The abstract machine: loops, and what may be forgotten. -/
import Derived.Test.YtjohhgopnpoboaaAbCall
set_option linter.unusedVariables false
set_option linter.unusedSimpArgs false
namespace Go.Ab
open Go Go.RowKit

/-! What may be forgotten. -/
mutual
/-- no block from number n on is led to -/
def okN (n : Nat) : V → Bool
  | .ptr i _ => decide (i < n)
  | .ptrE i _ _ _ _ => decide (i < n)
  | .row i _ => decide (i < n)
  | .vs i _ _ _ => decide (i < n)
  | .mp i => decide (i < n)
  | .agg cs => okL n cs
  | .tup cs => okL n cs
  | .fn _ a b => okL n a && okL n b
  | .iface _ v => okN n v
  | _ => true
def okL (n : Nat) : List V → Bool
  | [] => true
  | v :: vs => okN n v && okL n vs
end
def okAB (n : Nat) : AB → Bool
  | .var cs => okL n cs
  | .map own _ _ => !own
  | _ => true
def Env.trunc (E : Env) (n : Nat) : Env := { E with φ := fun i v => if i < n then E.φ i v else none, H := E.H.take n }
theorem trunc_get (E : Env) {n i : Nat} (h : i < n) : (E.trunc n).H[i]? = E.H[i]? := by simp [Env.trunc, List.getElem?_take, h]
mutual
theorem Rep.trunc {E : Env} {n : Nat} : (v : V) → ∀ {x : Value}, okN n v = true → Rep E v x → Rep (E.trunc n) v x
  | .any, x, _, _ => by simp only [Rep]
  | .val v, x, _, h => by simpa only [Rep] using h
  | .ptr i o, x, k, h => by
    simp only [okN, decide_eq_true_eq] at k
    simp only [Rep] at h ⊢
    obtain ⟨b, h1, h2⟩ := h; exact ⟨b, by simp [Env.trunc, k, h1], h2⟩
  | .ptrE i ver idx sz off, x, k, h => by
    simp only [okN, decide_eq_true_eq] at k
    simp only [Rep, trunc_get E k] at h ⊢
    simpa [Env.trunc, k] using h
  | .cp cs, x, _, h => by simp only [Rep] at h ⊢; exact h
  | .sl es m, x, _, h => by simp only [Rep] at h ⊢; exact h
  | .row i ver, x, k, h => by
    simp only [okN, decide_eq_true_eq] at k
    simp only [Rep, trunc_get E k] at h ⊢
    exact h
  | .vs i o m sz, x, k, h => by
    simp only [okN, decide_eq_true_eq] at k
    simp only [Rep] at h ⊢
    obtain ⟨b, c, h1, h2⟩ := h; exact ⟨b, c, by simp [Env.trunc, k, h1], h2⟩
  | .agg cs, x, k, h => by
    simp only [okN] at k
    simp only [Rep] at h ⊢
    obtain ⟨xs, h1, h2⟩ := h; exact ⟨xs, h1, RepL.trunc cs k h2⟩
  | .tup cs, x, k, h => by
    simp only [okN] at k
    simp only [Rep] at h ⊢
    obtain ⟨xs, h1, h2⟩ := h; exact ⟨xs, h1, RepL.trunc cs k h2⟩
  | .fn f a b, x, k, h => by
    simp only [okN, Bool.and_eq_true] at k
    simp only [Rep] at h ⊢
    obtain ⟨xs, ys, h1, h2, h3⟩ := h; exact ⟨xs, ys, h1, RepL.trunc a k.1 h2, RepL.trunc b k.2 h3⟩
  | .iface t v, x, k, h => by
    simp only [okN] at k
    simp only [Rep] at h ⊢
    obtain ⟨y, h1, h2⟩ := h; exact ⟨y, h1, Rep.trunc v k h2⟩
  | .mp i, x, k, h => by
    simp only [okN, decide_eq_true_eq] at k
    simp only [Rep] at h ⊢
    obtain ⟨b, h1, h2⟩ := h; exact ⟨b, by simp [Env.trunc, k, h1], h2⟩
theorem RepL.trunc {E : Env} {n : Nat} : (vs : List V) → ∀ {xs : List Value}, okL n vs = true → RepL E vs xs → RepL (E.trunc n) vs xs
  | [], xs, _, h => by simpa only [RepL] using h
  | v :: vs, xs, k, h => by
    simp only [okL, Bool.and_eq_true] at k
    simp only [RepL] at h ⊢
    obtain ⟨y, ys, h1, h2, h3⟩ := h
    exact ⟨y, ys, h1, Rep.trunc v k.1 h2, RepL.trunc vs k.2 h3⟩
end

inductive LeV : V → V → Prop where
  | refl (v : V) : LeV v v
  | any (v : V) : LeV v .any
  | sl (es : List V) (m : Mk) : LeV (.sl es m) (.sl es .plain)
inductive LeL : List V → List V → Prop where
  | nil : LeL [] []
  | cons {v v' : V} {vs vs' : List V} (h : LeV v v') (hs : LeL vs vs') : LeL (v :: vs) (v' :: vs')
theorem Rep.le {E : Env} {v v' : V} {x : Value} (h : LeV v v') (hr : Rep E v x) : Rep E v' x := by
  cases h with
  | refl => exact hr
  | any => simp only [Rep]
  | sl es m =>
    simp only [Rep] at hr ⊢
    obtain ⟨a, n, c, h1, h2, h3, h4, _, _, h7⟩ := hr
    exact ⟨a, n, c, h1, h2, h3, h4, by simp, by simp, h7⟩
theorem RepL.le {E : Env} : ∀ {vs vs' : List V} {xs : List Value}, LeL vs vs' → RepL E vs xs → RepL E vs' xs
  | _, _, _, .nil, hr => hr
  | _, _, _, .cons h hs, hr => by
    simp only [RepL] at hr ⊢
    obtain ⟨y, ys, h1, h2, h3⟩ := hr
    exact ⟨y, ys, h1, Rep.le h h2, RepL.le hs h3⟩
theorem LeL.refl : ∀ (vs : List V), LeL vs vs
  | [] => .nil
  | v :: vs => .cons (.refl v) (LeL.refl vs)

inductive LeAB : AB → AB → Prop where
  | refl (b : AB) : LeAB b b
  | var {cs cs' : List V} (h : LeL cs cs') : LeAB (.var cs) (.var cs')
  | dead (b : AB) (h : b ≠ AB.hole) : LeAB b .dead
/-- the first blocks of H are at least H' -/
inductive LeH : List AB → List AB → Prop where
  | nil (H : List AB) : LeH H []
  | cons {b b' : AB} {H H' : List AB} (h : LeAB b b') (hs : LeH H H') : LeH (b :: H) (b' :: H')
theorem LeH.get : ∀ {H H' : List AB}, LeH H H' → ∀ (i : Nat) (b' : AB), H'[i]? = some b' → ∃ b, H[i]? = some b ∧ LeAB b b'
  | _, _, .nil H, i, b', h => by simp at h
  | _, _, .cons h hs, 0, b', k => by simp at k; subst k; exact ⟨_, by simp, h⟩
  | _, _, .cons h hs, i + 1, b', k => by simpa using hs.get i b' (by simpa using k)
theorem LeH.length : ∀ {H H' : List AB}, LeH H H' → H'.length ≤ H.length
  | _, _, .nil H => by simp
  | _, _, .cons h hs => by simpa using hs.length

structure Weak (fr : List V) (H : List AB) (fr' : List V) (H' : List AB) : Prop where
  fr : LeL fr fr'
  H : LeH H H'
  okf : okL H'.length fr' = true
  okH : H'.all (okAB H'.length) = true

theorem RelE.weak {X : Ctx} {fr fr' : List V} {st : List (List V)} {H' : List AB} {sa : List Act} {a : Act} {E : Env} (h : RelE X fr st sa a E) (hw : Weak fr E.H fr' H') (hst : st.all (okL H'.length) = true) :
    ∃ E', E'.w = E.w ∧ E'.H = H' ∧ RelE X fr' st sa a E' := by
  let n := H'.length
  let E' : Env := { E.trunc n with H := H' }
  have hTE : E'.w = E.w := rfl
  have hle : (E.trunc n).le E' := by
    refine ⟨fun _ _ _ h => h, fun _ _ _ h => h, fun i sz es v m hr => ?_, fun i hd => ?_⟩
    · have hlt : i < n := by
        rcases Nat.lt_or_ge i n with k | k
        · exact k
        · simp [Env.trunc, List.getElem?_take, Nat.not_lt.2 k] at hr
      rw [trunc_get E hlt] at hr
      obtain ⟨b', hb'⟩ : ∃ b', H'[i]? = some b' := ⟨H'[i], List.getElem?_eq_getElem hlt⟩
      obtain ⟨b, h1, h2⟩ := hw.H.get i b' hb'
      rw [hr] at h1; injection h1 with h1; subst h1
      cases h2 with
      | refl => exact .inr ⟨_, _, _, _, hb', Nat.le_refl _, fun _ => rfl⟩
      | dead => exact .inl hb'
    · have hlt : i < n := by
        rcases Nat.lt_or_ge i n with k | k
        · exact k
        · simp [Env.trunc, List.getElem?_take, Nat.not_lt.2 k] at hd
      rw [trunc_get E hlt] at hd
      obtain ⟨b', hb'⟩ : ∃ b', H'[i]? = some b' := ⟨H'[i], List.getElem?_eq_getElem hlt⟩
      obtain ⟨b, h1, h2⟩ := hw.H.get i b' hb'
      rw [hd] at h1; injection h1 with h1; subst h1
      cases h2 <;> exact hb'
  have hrep : ∀ {vs : List V} {xs : List Value}, okL n vs = true → RepL E vs xs → RepL E' vs xs := fun hk hr => RepL.mono _ hle (RepL.trunc _ hk hr)
  have hbare : E'.bare = E.bare := rfl
  refine ⟨E', rfl, rfl, ⟨⟨h.ok.below, h.ok.old, h.ok.mlt, fun i v b hp => ?_, fun i v j u b hi hj => ?_, fun i x hx => ?_, fun g cs hg => by rw [hbare]; exact h.ok.glob g cs hg⟩, hrep hw.okf (RepL.le hw.fr h.fr), h.df, ?_⟩⟩
  · have hp' : (if i < n then E.φ i v else none) = some b := hp
    split at hp'
    · rename_i hlt
      obtain ⟨⟨x, k1⟩, k2, k3, k4⟩ := h.ok.phi i v b hp'
      obtain ⟨b', hb'⟩ : ∃ b', H'[i]? = some b' := ⟨H'[i], List.getElem?_eq_getElem hlt⟩
      refine ⟨⟨b', hb'⟩, fun hh => ?_, k3, k4⟩
      have hh' : H'[i]? = some AB.hole := hh
      rw [hb'] at hh'; injection hh' with hh'; subst hh'
      obtain ⟨b0, h1, h2⟩ := hw.H.get i _ hb'
      cases h2 with
      | refl => exact k2 h1
    · cases hp'
  · have hi' : (if i < n then E.φ i v else none) = some b := hi
    have hj' : (if j < n then E.φ j u else none) = some b := hj
    split at hi' <;> try (cases hi'; done)
    split at hj' <;> try (cases hj'; done)
    exact h.ok.inj i v j u b hi' hj'
  · have hx' : H'[i]? = some x := hx
    have hlt : i < n := (List.getElem?_eq_some_iff.1 hx').1
    have hok : okAB n x = true := (List.all_eq_true.1 hw.okH) x (List.mem_of_getElem? hx')
    obtain ⟨b0, h1, h2⟩ := hw.H.get i x hx'
    have hblk := h.ok.blk i b0 h1
    have hphi : E'.φ i = E.φ i := by funext v; show (if i < n then E.φ i v else none) = _; rw [if_pos hlt]
    cases h2 with
    | refl =>
      cases x with
      | dead => trivial
      | hole => simpa [HOK, hphi] using hblk
      | var cs =>
        obtain ⟨b, C, e, g1, g2, g3, g4⟩ := hblk
        exact ⟨b, C, e, by rw [hphi, g1], g2, hrep hok g3, g4⟩
      | row sz es ver imm =>
        obtain ⟨a', m, c, g1, g2, g3, g4, g5, g6⟩ := hblk
        refine ⟨a', m, c, g1, g2, g3, g4, ⟨g5.1, fun u hu => by rw [hphi]; exact g5.2 u hu⟩, ?_⟩
        rcases g6 with g6 | ⟨b, C, e, g6, g7⟩
        · exact .inl g6
        · exact .inr ⟨b, C, e, by rw [hphi, g6], g7⟩
      | map own sg f =>
        simp only [okAB, Bool.not_eq_true'] at hok
        subst hok
        obtain ⟨b, C, k, L, g1, g2, g3, g4, g5, g6⟩ := hblk
        exact ⟨b, C, k, L, by rw [hphi, g1], g2, g3, by rw [show E'.bare = E.bare from rfl]; exact g4, g5, g6⟩
    | var hl =>
      obtain ⟨b, C, e, g1, g2, g3, g4⟩ := hblk
      exact ⟨b, C, e, by rw [hphi, g1], g2, hrep hok (RepL.le hl g3), g4⟩
    | dead => trivial
  · have : ∀ {st : List (List V)} {sa : List Act}, st.all (okL n) = true → RepStack E st sa → RepStack E' st sa := by
      intro st
      induction st with
      | nil => intro sa _ hs; exact hs
      | cons f st ih =>
        intro sa hk hs
        obtain ⟨a1, sa1, e1, e2, e3, e4⟩ := hs
        simp only [List.all_cons, Bool.and_eq_true] at hk
        exact ⟨a1, sa1, e1, hrep hk.1 e2, e3, ih hk.2 e4⟩
    exact this hst h.st

theorem RUN_weak {X : Ctx} {k : List It} {fr fr' : List V} {st : List (List V)} {H H' : List AB} (hw : Weak fr H fr' H') (hst : st.all (okL H'.length) = true) (h : RUN X ⟨k, fr', st, H'⟩) : RUN X ⟨k, fr, st, H⟩ := by
  intro sa a E hH hR
  simp only at hH hR; subst hH
  obtain ⟨E', h1, h2, h3⟩ := hR.weak hw hst
  have := h sa a E' h2 h3
  rwa [h1] at this

/-! Loops. -/
theorem wp_loop_ind {P : Program} {c : Code} {Q : Exit → Act → World → Prop} (I : Nat → Act → World → Prop)
    (round : ∀ n a w, I n a w → c.wp P (Exit.then (fun a' w' => ∃ m, m < n ∧ I m a' w') Q) a w) (n : Nat) (a : Act) (w : World) (h0 : I n a w) : (Code.loop c).wp P Q a w := by
  intro b k cs
  have key : ∀ n a w, I n a w → ∃ e a' w', Q e a' w' ∧ Arrives P (lone (b.at a (.code c :: .inLoop c :: k)) cs w) b k cs e a' w' := by
    intro n
    induction n using Nat.strongRecOn with
    | _ n ih =>
      intro a w hI
      obtain ⟨e, a₁, w₁, hq, harr⟩ := round n a w hI b (.inLoop c :: k) cs
      cases e with
      | normal =>
        obtain ⟨m, hlt, hI₁⟩ := hq
        obtain ⟨e₂, a₂, w₂, hq₂, harr₂⟩ := ih m hlt a₁ w₁ hI₁
        exact ⟨e₂, a₂, w₂, hq₂, .of_steps (Steps.trans harr (.one step_inLoop)) harr₂⟩
      | exit id => exact ⟨_, a₁, w₁, hq, .pass (x := .inLoop c) rfl (fun _ _ => .inl (by simp)) harr⟩
      | goto l => exact ⟨_, a₁, w₁, hq, .pass (x := .inLoop c) rfl (fun _ _ => .inl (by simp)) harr⟩
      | ret => exact ⟨_, a₁, w₁, hq, .pass (x := .inLoop c) rfl (fun _ _ => .inl (by simp)) harr⟩
      | panic ch => exact ⟨_, a₁, w₁, hq, .pass (x := .inLoop c) rfl (fun _ _ => .inl (by simp)) harr⟩
      | outgrown => exact ⟨_, a₁, w₁, hq, .pass (x := .inLoop c) rfl (fun _ _ => .inl (by simp)) harr⟩
  obtain ⟨e, a', w', hq, harr⟩ := key n a w h0
  exact ⟨e, a', w', hq, .of_steps (.one step_loop) harr⟩
def LoopJ (X : Ctx) {α : Type} (I : α → List V × List AB) (μ : α → Nat) (x : α) (st : List (List V)) : List Act → Act → World → Prop :=
  fun sa a w => ∃ y E, μ y < μ x ∧ E.w = w ∧ E.H = (I y).2 ∧ RelE X (I y).1 st sa a E
theorem RUN_inv {X : Ctx} {α : Type} {I : α → List V × List AB} {μ : α → Nat} {x : α} (y : α) {k : List It} {fr : List V} {st : List (List V)} {H : List AB} (hμ : μ y < μ x) (hw : Weak fr H (I y).1 (I y).2) (hst : st.all (okL (I y).2.length) = true) :
    RUN X ⟨.inv (LoopJ X I μ x st) :: k, fr, st, H⟩ := by
  intro sa a E hH hR
  simp only at hH hR; subst hH
  obtain ⟨E', h1, h2, h3⟩ := hR.weak hw hst
  simp only [post]
  exact ⟨y, E', hμ, h1, h2, h3⟩
theorem RUN_loop {X : Ctx} {α : Type} (I : α → List V × List AB) (μ : α → Nat) (x0 : α) {body : Code} {k : List It} {fr : List V} {st : List (List V)} {H : List AB}
    (h0 : Weak fr H (I x0).1 (I x0).2) (hst : st.all (okL (I x0).2.length) = true)
    (round : ∀ x, RUN X ⟨.code body :: .inv (LoopJ X I μ x st) :: k, (I x).1, st, (I x).2⟩) : RUN X ⟨.code (.loop body) :: k, fr, st, H⟩ := by
  intro sa a E hH hR
  simp only at hH hR; subst hH
  obtain ⟨E', h1, h2, h3⟩ := hR.weak h0 hst
  simp only [post]
  rw [← h1]
  refine wp_loop_ind (fun n a w => ∃ x E, μ x = n ∧ E.w = w ∧ E.H = (I x).2 ∧ RelE X (I x).1 st sa a E) ?_ _ a E'.w ⟨x0, E', rfl, rfl, h2, h3⟩
  rintro n a w ⟨x, E, rfl, rfl, hH, hR⟩
  have := round x sa a E hH hR
  simp only [post] at this
  refine Code.wp_mono (fun e a' w' q => ?_) this
  cases e <;> simp only [post] at q <;> try exact q
  obtain ⟨y, E2, k1, k2, k3, k4⟩ := q
  exact ⟨μ y, k1, y, E2, rfl, k2, k3, k4⟩
end Go.Ab
