/- The abstract machine: calls that hand back what may still be written. -/
import Derived.Test.YtjohhgopnpoboaaAbInv
set_option linter.unusedVariables false
set_option linter.unusedSimpArgs false
set_option linter.unnecessarySimpa false
namespace Go.Ab
open Go Go.RowKit
mutual
def shV (n : Nat) : V → V
  | .ptr i o => .ptr (n + i) o
  | .ptrE i v x s o => .ptrE (n + i) v x s o
  | .row i v => .row (n + i) v
  | .vs i o k s => .vs (n + i) o k s
  | .mp i => .mp (n + i)
  | .agg cs => .agg (shL n cs)
  | .tup cs => .tup (shL n cs)
  | .fn f a b => .fn f (shL n a) (shL n b)
  | .iface t v => .iface t (shV n v)
  | v => v
def shL (n : Nat) : List V → List V
  | [] => []
  | v :: vs => shV n v :: shL n vs
end
def shO (n : Nat) (own : Bool) (o : Option V) : Option V := bif own then o.map (shV n) else o
def shAB (n : Nat) : AB → AB
  | .var cs => .var (shL n cs)
  | .map own sg f => .map own sg (fun q => shO n own (f q))
  | b => b
structure Moved (n : Nat) (E E' : Env) : Prop where
  w : E'.w = E.w
  stab : ∀ b o u, E.stab b o u → E'.stab b o u
  phi : ∀ i, E'.φ (n + i) = E.φ i
  tau : ∀ i, E'.τ (n + i) = E.τ i
  H : ∀ i, E'.H[n + i]? = (E.H[i]?).map (shAB n)
theorem Moved.bare {n : Nat} {E E' : Env} (h : Moved n E E') : E.bare.le E'.bare := ⟨h.stab, fun _ _ _ h => by simp [Env.bare] at h, fun _ _ _ _ _ h => by simp [Env.bare] at h, fun _ h => by simp [Env.bare] at h⟩
mutual
theorem Rep.moved {n : Nat} {E E' : Env} (hm : Moved n E E') : (v : V) → ∀ {x : Value}, Rep E v x → Rep E' (shV n v) x
  | .any, x, _ => by simp only [shV, Rep]
  | .val v, x, h => by simpa only [shV, Rep] using h
  | .ptr i o, x, h => by simp only [shV, Rep, hm.phi] at h ⊢; exact h
  | .ptrE i ver idx sz off, x, h => by
    simp only [shV, Rep, hm.phi, hm.H] at h ⊢
    obtain ⟨h0, h⟩ := h
    refine ⟨h0, ?_⟩
    cases hH : E.H[i]? with
    | none => rw [hH] at h; exact h.elim
    | some b => rw [hH] at h; cases b <;> simpa only [Option.map_some, shAB] using h
  | .cp cs, x, h => by
    simp only [shV, Rep] at h ⊢
    obtain ⟨b, o, h1, h2⟩ := h
    exact ⟨b, o, h1, RepAt.mono cs hm.bare h2⟩
  | .sl es m, x, h => by
    simp only [shV, Rep] at h ⊢
    obtain ⟨a, k, c, h1, h2, h3, h4, h5, h6, h7⟩ := h
    refine ⟨a, k, c, h1, h2, h3, h4, h5, h6, fun he => ?_⟩
    obtain ⟨sz, b, o, h8, h9⟩ := h7 he
    exact ⟨sz, b, o, h8, RepEs.mono es hm.bare h9⟩
  | .row i ver, x, h => by
    simp only [shV, Rep, hm.H, hm.tau] at h ⊢
    obtain ⟨h0, h⟩ := h
    refine ⟨h0, ?_⟩
    cases hH : E.H[i]? with
    | none => rw [hH] at h; exact h.elim
    | some b => rw [hH] at h; cases b <;> simpa only [Option.map_some, shAB] using h
  | .vs i o k s, x, h => by simp only [shV, Rep, hm.phi] at h ⊢; exact h
  | .mp i, x, h => by simp only [shV, Rep, hm.phi] at h ⊢; exact h
  | .agg cs, x, h => by
    simp only [shV, Rep] at h ⊢
    obtain ⟨xs, h1, h2⟩ := h; exact ⟨xs, h1, RepL.moved hm cs h2⟩
  | .tup cs, x, h => by
    simp only [shV, Rep] at h ⊢
    obtain ⟨xs, h1, h2⟩ := h; exact ⟨xs, h1, RepL.moved hm cs h2⟩
  | .fn f a b, x, h => by
    simp only [shV, Rep] at h ⊢
    obtain ⟨xs, ys, h1, h2, h3⟩ := h; exact ⟨xs, ys, h1, RepL.moved hm a h2, RepL.moved hm b h3⟩
  | .iface t v, x, h => by
    simp only [shV, Rep] at h ⊢
    obtain ⟨y, h1, h2⟩ := h; exact ⟨y, h1, Rep.moved hm v h2⟩
theorem RepL.moved {n : Nat} {E E' : Env} (hm : Moved n E E') : (vs : List V) → ∀ {xs : List Value}, RepL E vs xs → RepL E' (shL n vs) xs
  | [], xs, h => by simpa only [shL, RepL] using h
  | v :: vs, xs, h => by
    simp only [shL, RepL] at h ⊢
    obtain ⟨y, ys, h1, h2, h3⟩ := h
    exact ⟨y, ys, h1, Rep.moved hm v h2, RepL.moved hm vs h3⟩
end
theorem shL_map (n : Nat) : ∀ (vs : List V), shL n vs = vs.map (shV n)
  | [] => rfl
  | v :: vs => by simp only [shL, List.map_cons, shL_map n vs]
theorem lookL_sh (n : Nat) (own : Bool) : ∀ (L : List (List Int × V)) (q : List Int), lookL (L.map fun p => (p.1, bif own then shV n p.2 else p.2)) q = shO n own (lookL L q)
  | [], q => by cases own <;> rfl
  | p :: L, q => by
    simp only [List.map_cons, lookL]
    cases eqIs q p.1 with
    | true => cases own <;> rfl
    | false => exact lookL_sh n own L q
theorem HOK.moved {n : Nat} {E E' : Env} (hm : Moved n E E') {i : Nat} {ab : AB} (hM : ∀ v b, E.φ i v = some b → ∀ o, E'.M b o ↔ E.M b o) (h : HOK E i ab) : HOK E' (n + i) (shAB n ab) := by
  cases ab with
  | dead => trivial
  | hole => intro v; rw [hm.phi]; exact h v
  | var cs =>
    obtain ⟨b, C, e, h1, h2, h3, h4⟩ := h
    exact ⟨b, C, e, by rw [hm.phi, h1], by rw [hm.w, h2], RepL.moved hm cs h3, fun o => (hM _ b h1 o).2 (h4 o)⟩
  | row sz es ver imm =>
    obtain ⟨a, k, c, h1, h2, h3, h4, h5, h6⟩ := h
    refine ⟨a, k, c, by rw [hm.tau, h1], h2, h3, h4, ⟨h5.1, fun u hu => by rw [hm.phi]; exact h5.2 u hu⟩, ?_⟩
    rcases h6 with h6 | ⟨b, C, e, h6, h7, h8, h9, h10, h11, h12⟩
    · exact .inl h6
    · exact .inr ⟨b, C, e, by rw [hm.phi, h6], h7, by rw [hm.w, h8], h9, RepL.mono _ hm.bare h10, fun o ho => (hM _ b h6 o).2 (h11 o ho), fun o ho => (hM _ b h6 o).trans (h12 o ho)⟩
  | map own sg f =>
    obtain ⟨b, C, k, L, h1, h2, h3, h4, h5, rfl⟩ := h
    refine ⟨b, C, k, L.map fun p => (p.1, bif own then shV n p.2 else p.2), by rw [hm.phi, h1], by rw [hm.w, h2], by rw [h3, List.map_map]; rfl, ?_, ?_, ?_⟩
    · rw [List.map_map]
      cases own with
      | true =>
        have := RepL.moved hm _ h4
        rw [shL_map, List.map_map] at this
        exact this
      | false => exact RepL.mono _ hm.bare h4
    · intro p hp
      obtain ⟨q, hq, rfl⟩ := List.mem_map.1 hp
      exact h5 q hq
    · funext q; exact (lookL_sh n own L q).symm

theorem RUNc_specH {X : Ctx} {n : FuncId} {args args' : List V} {r : V} {Hr : List AB} {dst : Option Tmp} {k : List It} {fr : List V} {st : List (List V)} {H : List AB}
    (ha : fzL (immL H (rowsInL args)) args = some args') (hs : Spec X.P X.G n args' r Hr)
    (h : RUN X ⟨k, putV fr dst (shV (immL H (rowsInL args)).length r), st, immL H (rowsInL args) ++ Hr.map (shAB (immL H (rowsInL args)).length)⟩) : RUNc X n args dst ⟨k, fr, st, H⟩ := by
  intro sa a E xs hH hR hx
  obtain ⟨E1, e1, e2, e3, e4⟩ := EOK.immL (rowsInL args) hR.ok
  simp only at hH
  rw [hH] at e2
  have hx1 := RepL.mono _ e4 hx
  have hx' := fzL_sound e3 args hx1 (by rw [e2]; exact ha)
  have hb : EOK X.G E1.w E1.M E1.bare := ⟨Below.refl _ _, fun _ _ _ => Iff.rfl, e3.mlt, fun i v b hp => by simp [Env.bare] at hp, fun i v j u b hp => by simp [Env.bare] at hp, fun i h hh => by simp [Env.bare] at hh, e3.glob⟩
  have hcalls := hs E1 xs hb hx'
  rw [e1] at hcalls
  refine hcalls.mono ?_
  rintro e w' ⟨v, E2, rfl, hw, hH2, hok, hle, hv⟩
  refine ⟨v, rfl, ?_⟩
  let N := (immL H (rowsInL args)).length
  have hN : E1.H.length = N := by rw [e2]
  let E3 : Env := { w := E2.w, φ := fun i v => if i < N then E1.φ i v else E2.φ (i - N) v, τ := fun i => if i < N then E1.τ i else E2.τ (i - N), M := fun b o => if b < E.w.heap.size then E1.M b o else E2.M b o, H := E1.H ++ E2.H.map (shAB N) }
  have hstab : ∀ b o u, E1.stab b o u → E3.stab b o u := by
    intro b o u hs
    have hlt : b < E.w.heap.size := by rw [← e1]; exact EOK.lt_of_stab E1 hs
    have := hle.stab b o u hs
    refine ⟨this.1, ?_⟩
    show ¬ (if b < E.w.heap.size then E1.M b o else E2.M b o)
    rw [if_pos hlt]; exact hs.2
  have hget : ∀ (i : Nat) (x : AB), E1.H[i]? = some x → E3.H[i]? = some x := fun i x hx => by
    show (E1.H ++ _)[i]? = _
    rw [List.getElem?_append_left (List.getElem?_eq_some_iff.1 hx).1]; exact hx
  have hlt1 : ∀ (i : Nat) (x : AB), E1.H[i]? = some x → i < N := fun i x hx => by rw [← hN]; exact (List.getElem?_eq_some_iff.1 hx).1
  have hphi1 : ∀ i v b, E1.φ i v = some b → i < N := fun i v b hp => by
    obtain ⟨⟨x, hx⟩, _⟩ := e3.phi i v b hp
    exact hlt1 i x hx
  have hle3 : E1.le E3 := by
    refine ⟨hstab, fun i v b hp => ?_, fun i sz es v m hr => .inr ⟨_, _, _, _, hget _ _ hr, Nat.le_refl _, fun _ => ?_⟩, fun i hd => hget _ _ hd⟩
    · show (if i < N then E1.φ i v else _) = _
      rw [if_pos (hphi1 i v b hp)]; exact hp
    · show (if i < N then E1.τ i else _) = _
      rw [if_pos (hlt1 _ _ hr)]
  have hmv : Moved N E2 E3 := by
    refine ⟨rfl, fun b o u hs => ⟨hs.1, ?_⟩, fun i => ?_, fun i => ?_, fun i => ?_⟩
    · show ¬ (if b < E.w.heap.size then E1.M b o else E2.M b o)
      split
      · rename_i hlt; exact fun hm => hs.2 ((hok.old b o hlt).2 hm)
      · exact hs.2
    · funext v
      show (if N + i < N then _ else E2.φ (N + i - N) v) = _
      rw [if_neg (by omega), Nat.add_sub_cancel_left]
    · show (if N + i < N then _ else E2.τ (N + i - N)) = _
      rw [if_neg (by omega), Nat.add_sub_cancel_left]
    · show (E1.H ++ E2.H.map (shAB N))[N + i]? = _
      rw [List.getElem?_append_right (by omega), hN, Nat.add_sub_cancel_left, List.getElem?_map]
  have hsize := hok.below.size
  have h0 : X.w0.heap.size ≤ E.w.heap.size := by
    have h1 : Below X.w0.heap.size X.w0 E.w := by rw [← e1]; exact e3.below
    exact h1.size
  have hphi3 : ∀ i v b, E3.φ i v = some b → (i < N ∧ E1.φ i v = some b) ∨ ∃ j, i = N + j ∧ E2.φ j v = some b := by
    intro i v b hp
    have hp' : (if i < N then E1.φ i v else E2.φ (i - N) v) = some b := hp
    split at hp'
    · rename_i hlt; exact .inl ⟨hlt, hp'⟩
    · exact .inr ⟨i - N, by omega, hp'⟩
  have hE3 : EOK X.G X.w0 X.M0 E3 := by
    refine ⟨?_, fun b o hb => ?_, fun b o hm => ?_, fun i v b hp => ?_, fun i v j u b hi hj => ?_, fun i x hx => ?_, fun g cs hg => RepAt.mono cs hle3.bare (e3.glob g cs hg)⟩
    · have h1 : Below X.w0.heap.size X.w0 E.w := by rw [← e1]; exact e3.below
      exact h1.trans (hok.below.mono h1.size)
    · show (if b < E.w.heap.size then E1.M b o else E2.M b o) ↔ _
      rw [if_pos (Nat.lt_of_lt_of_le hb h0)]
      exact e3.old b o hb
    · have hm' : (if b < E.w.heap.size then E1.M b o else E2.M b o) := hm
      split at hm'
      · rename_i hb; exact Nat.lt_of_lt_of_le hb hsize
      · exact hok.mlt b o hm'
    · rcases hphi3 i v b hp with ⟨hlt, hq⟩ | ⟨j, rfl, hq⟩
      · obtain ⟨⟨x, k1⟩, k2, k3, k4⟩ := e3.phi i v b hq
        rw [e1] at k4
        exact ⟨⟨x, hget _ _ k1⟩, by rw [hget _ _ k1, ← k1]; exact k2, k3, Nat.lt_of_lt_of_le k4 hsize⟩
      · obtain ⟨⟨x, k1⟩, k2, k3, k4⟩ := hok.phi j v b hq
        refine ⟨⟨shAB N x, by rw [hmv.H, k1]; rfl⟩, ?_, Nat.le_trans h0 k3, k4⟩
        rw [hmv.H, k1]
        rw [k1] at k2
        cases x <;> simp [shAB] at k2 ⊢
    · rcases hphi3 i v b hi with ⟨hlt, gi⟩ | ⟨i', rfl, gi⟩ <;> rcases hphi3 j u b hj with ⟨hlt', gj⟩ | ⟨j', rfl, gj⟩
      · exact e3.inj i v j u b gi gj
      · have h1 := (e3.phi i v b gi).2.2.2
        have h2 := (hok.phi j' u b gj).2.2.1
        rw [e1] at h1; omega
      · have h1 := (e3.phi j u b gj).2.2.2
        have h2 := (hok.phi i' v b gi).2.2.1
        rw [e1] at h1; omega
      · rw [hok.inj i' v j' u b gi gj]
    · rcases Nat.lt_or_ge i N with hi | hi
      · have hx1 : E1.H[i]? = some x := by
          have hx' : (E1.H ++ E2.H.map (shAB N))[i]? = some x := hx
          rwa [List.getElem?_append_left (by omega)] at hx'
        refine HOK.mono hle3 ?_ ?_ (fun v b hb => ?_) (e3.blk i x hx1)
        · funext v
          show (if i < N then E1.φ i v else _) = _
          rw [if_pos hi]
        · show (if i < N then E1.τ i else _) = _
          rw [if_pos hi]
        · have hb4 := (e3.phi i v b hb).2.2.2
          rw [e1] at hb4
          refine ⟨?_, fun o => ?_⟩
          · show E2.w.heap[b]? = E1.w.heap[b]?
            rw [e1]; exact hok.below.block b hb4
          · show (if b < E.w.heap.size then E1.M b o else E2.M b o) ↔ _
            rw [if_pos hb4]
      · obtain ⟨j, rfl⟩ : ∃ j, i = N + j := ⟨i - N, by omega⟩
        rw [hmv.H, Option.map_eq_some_iff] at hx
        obtain ⟨y, hy, rfl⟩ := hx
        refine HOK.moved hmv (fun v b hp o => ?_) (hok.blk j y hy)
        have h2 := (hok.phi j v b hp).2.2.1
        show (if b < E.w.heap.size then E1.M b o else E2.M b o) ↔ _
        rw [if_neg (by omega)]
  have hR1 : RelE X fr st sa a E1 := ⟨e3, RepL.mono _ e4 hR.fr, hR.df, hR.st.mono e4⟩
  have := h sa (a.put dst v) E3 (by show E1.H ++ E2.H.map (shAB N) = _; rw [e2, hH2]) (hR1.put hle3 hE3 (Rep.moved hmv r hv) dst)
  rw [← hw]; exact this
section
variable {P : Program} {G : Glob} {w0 : World} {M0 : Nat → Nat → Prop} {R : Value → World → Prop}
theorem CALLS_specH {f : Operand} {args : List Operand} {ats : Array TypeId} {n : FuncId} {first cap vargs args' : List V} {r : V} {Hr : List AB} {dst : Option Tmp} {ty : TypeId} {p : String} {af : Array Edge} {all l : List Oper} {k : List It} {fr : List V} {st : List (List V)} {H : List AB}
    (hn : callB P n = true) (ha : fzL (immL H (rowsInL (first ++ vargs ++ cap))) (first ++ vargs ++ cap) = some args') (hs : Spec P G n args' r Hr)
    (h : RUNs P G w0 M0 R ⟨.ops all l :: k, putV fr dst (shV (immL H (rowsInL (first ++ vargs ++ cap))).length r), st, immL H (rowsInL (first ++ vargs ++ cap)) ++ Hr.map (shAB (immL H (rowsInL (first ++ vargs ++ cap))).length)⟩) :
    CALLS P G w0 M0 R ⟨.ops all (⟨dst, .call ⟨.value f, args.toArray, ats⟩, ty, p, af, none⟩ :: l) :: k, fr, st, H⟩ f args (.fn (.func n) first cap) vargs dst all l k fr st H :=
  RUNs_call hn (RUNc_specH (X := ⟨P, G, w0, M0, R⟩) ha hs (RUN_of_RUNs h))
end
-- the rules
theorem shM_nil (n : Nat) : ([] : List AB).map (shAB n) = [] := rfl
theorem shM_cons (n : Nat) (b : AB) (l : List AB) : (b :: l).map (shAB n) = shAB n b :: l.map (shAB n) := rfl
theorem shAB_dead (n : Nat) : shAB n .dead = .dead := rfl
theorem shAB_var (n : Nat) (cs : List V) : shAB n (.var cs) = .var (shL n cs) := rfl
theorem shAB_row (n sz : Nat) (es : List V) (v : Nat) (m : Bool) : shAB n (.row sz es v m) = .row sz es v m := rfl
theorem shAB_map (n : Nat) (sg : KS) (f : List Int → Option V) : shAB n (.map false sg f) = .map false sg f := rfl
theorem shAB_mapO (n : Nat) (sg : KS) (f : List Int → Option V) : shAB n (.map true sg f) = .map true sg (fun q => (f q).map (shV n)) := rfl
theorem shV_val (n : Nat) (w : Value) : shV n (.val w) = .val w := by simp only [shV]
theorem shV_any (n : Nat) : shV n .any = .any := by simp only [shV]
theorem shV_ptr (n i o : Nat) : shV n (.ptr i o) = .ptr (n + i) o := by simp only [shV]
theorem shV_cp (n : Nat) (cs : List V) : shV n (.cp cs) = .cp cs := by simp only [shV]
theorem shV_sl (n : Nat) (es : List V) (m : Mk) : shV n (.sl es m) = .sl es m := by simp only [shV]
theorem shV_row (n i v : Nat) : shV n (.row i v) = .row (n + i) v := by simp only [shV]
theorem shV_vs (n i o k s : Nat) : shV n (.vs i o k s) = .vs (n + i) o k s := by simp only [shV]
theorem shV_mp (n i : Nat) : shV n (.mp i) = .mp (n + i) := by simp only [shV]
theorem shV_agg (n : Nat) (cs : List V) : shV n (.agg cs) = .agg (shL n cs) := by simp only [shV]
theorem shV_tup (n : Nat) (cs : List V) : shV n (.tup cs) = .tup (shL n cs) := by simp only [shV]
theorem shV_fn (n : Nat) (f : Fn) (a b : List V) : shV n (.fn f a b) = .fn f (shL n a) (shL n b) := by simp only [shV]
theorem shV_iface (n : Nat) (t : TypeId) (v : V) : shV n (.iface t v) = .iface t (shV n v) := by simp only [shV]
theorem shL_nil (n : Nat) : shL n [] = [] := by simp only [shL]
theorem shL_cons (n : Nat) (v : V) (vs : List V) : shL n (v :: vs) = shV n v :: shL n vs := by simp only [shL]

/-! The end, where some rows are handed on to be written, the others for good. -/
mutual
def fzK (keep : List Nat) (H : List AB) : V → Option V
  | .row i ver => bif keep.contains i then some (.row i ver) else fzRow H i ver
  | .agg cs => (fzKL keep H cs).map .agg
  | .tup cs => (fzKL keep H cs).map .tup
  | .val v => some (.val v)
  | .sl es m => some (.sl es .plain)
  | .cp cs => some (.cp cs)
  | _ => none
def fzKL (keep : List Nat) (H : List AB) : List V → Option (List V)
  | [] => some []
  | v :: vs => (fzK keep H v).bind fun v' => (fzKL keep H vs).map (v' :: ·)
end
mutual
theorem fzK_sound {G : Glob} {w0 : World} {M0 : Nat → Nat → Prop} {E : Env} (hE : EOK G w0 M0 E) {keep : List Nat} : (v : V) → ∀ {v' : V} {x : Value}, Rep E v x → fzK keep E.H v = some v' → Rep E v' x
  | .row i ver, v', x, h, k => by
    simp only [fzK] at k
    cases hc : keep.contains i with
    | true => rw [hc] at k; simp only [cond_true] at k; injection k with k; subst k; exact h
    | false =>
      rw [hc] at k; simp only [cond_false] at k
      exact Rep.mono _ E.bare_le (fz_sound hE (.row i ver) h (by simp only [fz]; exact k))
  | .agg cs, v', x, h, k => by
    simp only [fzK, Option.map_eq_some_iff] at k
    obtain ⟨cs', k1, rfl⟩ := k
    simp only [Rep] at h ⊢
    obtain ⟨xs, h1, h2⟩ := h; exact ⟨xs, h1, fzKL_sound hE cs h2 k1⟩
  | .tup cs, v', x, h, k => by
    simp only [fzK, Option.map_eq_some_iff] at k
    obtain ⟨cs', k1, rfl⟩ := k
    simp only [Rep] at h ⊢
    obtain ⟨xs, h1, h2⟩ := h; exact ⟨xs, h1, fzKL_sound hE cs h2 k1⟩
  | .val v, v', x, h, k => by simp only [fzK] at k; injection k with k; subst k; exact h
  | .sl es m, v', x, h, k => by simp only [fzK] at k; injection k with k; subst k; exact Rep.le (.sl es m) h
  | .cp cs, v', x, h, k => by simp only [fzK] at k; injection k with k; subst k; exact h
  | .any, v', x, h, k => by simp [fzK] at k
  | .ptr _ _, v', x, h, k => by simp [fzK] at k
  | .ptrE _ _ _ _ _, v', x, h, k => by simp [fzK] at k
  | .vs _ _ _ _, v', x, h, k => by simp [fzK] at k
  | .fn _ _ _, v', x, h, k => by simp [fzK] at k
  | .iface _ _, v', x, h, k => by simp [fzK] at k
  | .mp _, v', x, h, k => by simp [fzK] at k
theorem fzKL_sound {G : Glob} {w0 : World} {M0 : Nat → Nat → Prop} {E : Env} (hE : EOK G w0 M0 E) {keep : List Nat} : (vs : List V) → ∀ {vs' : List V} {xs : List Value}, RepL E vs xs → fzKL keep E.H vs = some vs' → RepL E vs' xs
  | [], vs', xs, h, k => by simp only [fzKL] at k; injection k with k; subst k; exact h
  | v :: vs, vs', xs, h, k => by
    simp only [fzKL, Option.bind_eq_some_iff, Option.map_eq_some_iff] at k
    obtain ⟨v', k1, vs'', k2, rfl⟩ := k
    simp only [RepL] at h ⊢
    obtain ⟨y, ys, h1, h2, h3⟩ := h
    exact ⟨y, ys, h1, fzK_sound hE v h2 k1, fzKL_sound hE vs h3 k2⟩
end
section
variable {P : Program} {G : Glob} {w0 : World} {M0 : Nat → Nat → Prop} {R : Value → World → Prop}
theorem FINS_keep (keep : List Nat) {r : V} {Hr : List AB} {rs : List ResultVar} {k : List It} {fr : List V} {st : List (List V)} {H : List AB} {vs : List V}
    (h : fzK keep (immL H ((rowsIn (resV vs)).filter fun i => !keep.contains i)) (resV vs) = some r) (hw : Weak [r] (immL H ((rowsIn (resV vs)).filter fun i => !keep.contains i)) [r] Hr) : FINS P G w0 M0 r Hr ⟨.fin rs :: k, fr, st, H⟩ rs (some vs) fr H := by
  intro h1
  refine RUNs_stop (by rfl) ?_
  intro sa a E hH hRel
  simp only at hH hRel; subst hH
  simp only [post]
  obtain ⟨x, k1, k2⟩ := results_sound hRel.ok hRel.fr h1
  obtain ⟨E1, e1, e2, e3, e4⟩ := EOK.immL ((rowsIn (resV vs)).filter fun i => !keep.contains i) hRel.ok
  refine ⟨hRel.df, x, k1, ?_⟩
  have hr : Rep E1 r x := fzK_sound e3 _ (Rep.mono _ e4 k2) (by rw [e2]; exact h)
  have hR1 : RelE ⟨P, G, w0, M0, RES G w0 M0 r Hr⟩ [r] [] [] ⟨#[x], []⟩ E1 := ⟨e3, RepL.cons hr (RepL.nil _), rfl, rfl⟩
  rw [← e2] at hw
  obtain ⟨E2, f1, f2, f3⟩ := hR1.weak hw (by rfl)
  have := f3.fr
  simp only [RepL.cons_iff] at this
  exact ⟨E2, by rw [f1, e1], f2, f3.ok, this.1⟩
end
theorem fzK_row (keep : List Nat) (H : List AB) (i ver : Nat) : fzK keep H (.row i ver) = bif keep.contains i then some (.row i ver) else fzRow H i ver := by simp only [fzK]
theorem fzK_agg (keep : List Nat) (H : List AB) (cs : List V) : fzK keep H (.agg cs) = (fzKL keep H cs).map .agg := by simp only [fzK]
theorem fzK_tup (keep : List Nat) (H : List AB) (cs : List V) : fzK keep H (.tup cs) = (fzKL keep H cs).map .tup := by simp only [fzK]
theorem fzK_val (keep : List Nat) (H : List AB) (v : Value) : fzK keep H (.val v) = some (.val v) := by simp only [fzK]
theorem fzK_sl (keep : List Nat) (H : List AB) (es : List V) (m : Mk) : fzK keep H (.sl es m) = some (.sl es .plain) := by simp only [fzK]
theorem fzK_cp (keep : List Nat) (H : List AB) (cs : List V) : fzK keep H (.cp cs) = some (.cp cs) := by simp only [fzK]
theorem fzKL_nil (keep : List Nat) (H : List AB) : fzKL keep H [] = some [] := by simp only [fzKL]
theorem fzKL_cons (keep : List Nat) (H : List AB) (v : V) (vs : List V) : fzKL keep H (v :: vs) = (fzK keep H v).bind fun v' => (fzKL keep H vs).map (v' :: ·) := by simp only [fzKL]

/-! A row that is written no more: from here on it is read as a slice. -/
mutual
def frV (i ver : Nat) (s : V) : V → V
  | .row j v => bif j == i && v == ver then s else .row j v
  | .agg cs => .agg (frL i ver s cs)
  | .tup cs => .tup (frL i ver s cs)
  | .fn f a b => .fn f (frL i ver s a) (frL i ver s b)
  | .iface t v => .iface t (frV i ver s v)
  | v => v
def frL (i ver : Nat) (s : V) : List V → List V
  | [] => []
  | v :: vs => frV i ver s v :: frL i ver s vs
end
def frAB (i ver : Nat) (s : V) : AB → AB
  | .var cs => .var (frL i ver s cs)
  | b => b
mutual
theorem Rep.fr {G : Glob} {w0 : World} {M0 : Nat → Nat → Prop} {E : Env} (hE : EOK G w0 M0 E) {i ver : Nat} {s : V} (hs : fzRow E.H i ver = some s) : (v : V) → ∀ {x : Value}, Rep E v x → Rep E (frV i ver s v) x
  | .row j v, x, h => by
    simp only [frV]
    cases hc : (j == i && v == ver) with
    | false => exact h
    | true =>
      simp only [Bool.and_eq_true, beq_iff_eq] at hc
      obtain ⟨rfl, rfl⟩ := hc
      exact Rep.mono _ E.bare_le (fz_sound hE (.row j v) h (by simp only [fz]; exact hs))
  | .agg cs, x, h => by
    simp only [frV, Rep] at h ⊢
    obtain ⟨xs, h1, h2⟩ := h; exact ⟨xs, h1, RepL.fr hE hs cs h2⟩
  | .tup cs, x, h => by
    simp only [frV, Rep] at h ⊢
    obtain ⟨xs, h1, h2⟩ := h; exact ⟨xs, h1, RepL.fr hE hs cs h2⟩
  | .fn f a b, x, h => by
    simp only [frV, Rep] at h ⊢
    obtain ⟨xs, ys, h1, h2, h3⟩ := h; exact ⟨xs, ys, h1, RepL.fr hE hs a h2, RepL.fr hE hs b h3⟩
  | .iface t v, x, h => by
    simp only [frV, Rep] at h ⊢
    obtain ⟨y, h1, h2⟩ := h; exact ⟨y, h1, Rep.fr hE hs v h2⟩
  | .any, x, h => by simpa only [frV] using h
  | .val v, x, h => by simpa only [frV] using h
  | .ptr _ _, x, h => by simpa only [frV] using h
  | .ptrE _ _ _ _ _, x, h => by simpa only [frV] using h
  | .cp _, x, h => by simpa only [frV] using h
  | .sl _ _, x, h => by simpa only [frV] using h
  | .vs _ _ _ _, x, h => by simpa only [frV] using h
  | .mp _, x, h => by simpa only [frV] using h
theorem RepL.fr {G : Glob} {w0 : World} {M0 : Nat → Nat → Prop} {E : Env} (hE : EOK G w0 M0 E) {i ver : Nat} {s : V} (hs : fzRow E.H i ver = some s) : (vs : List V) → ∀ {xs : List Value}, RepL E vs xs → RepL E (frL i ver s vs) xs
  | [], xs, h => by simpa only [frL] using h
  | v :: vs, xs, h => by
    simp only [frL, RepL] at h ⊢
    obtain ⟨y, ys, h1, h2, h3⟩ := h
    exact ⟨y, ys, h1, Rep.fr hE hs v h2, RepL.fr hE hs vs h3⟩
end
theorem RepStack.fr {G : Glob} {w0 : World} {M0 : Nat → Nat → Prop} {E : Env} (hE : EOK G w0 M0 E) {i ver : Nat} {s : V} (hs : fzRow E.H i ver = some s) : ∀ {st : List (List V)} {sa : List Act}, RepStack E st sa → RepStack E (st.map (frL i ver s)) sa
  | [], sa, h => h
  | f :: st, sa, h => by
    obtain ⟨a, sa', rfl, h1, h2, h3⟩ := h
    exact ⟨a, sa', rfl, RepL.fr hE hs f h1, h2, RepStack.fr hE hs h3⟩
theorem EOK.frozen {G : Glob} {w0 : World} {M0 : Nat → Nat → Prop} {E : Env} (hE : EOK G w0 M0 E) {i ver : Nat} {s : V} (hs : fzRow E.H i ver = some s) : EOK G w0 M0 { E with H := E.H.map (frAB i ver s) } ∧ E.le { E with H := E.H.map (frAB i ver s) } := by
  have hget : ∀ j, (E.H.map (frAB i ver s))[j]? = (E.H[j]?).map (frAB i ver s) := fun j => List.getElem?_map ..
  have hle : E.le { E with H := E.H.map (frAB i ver s) } := by
    refine ⟨fun _ _ _ h => h, fun _ _ _ h => h, fun j sz es v m hr => .inr ⟨sz, es, v, m, ?_, Nat.le_refl _, fun _ => rfl⟩, fun j hd => ?_⟩
    · show (E.H.map _)[j]? = _
      rw [hget, hr]; rfl
    · show (E.H.map _)[j]? = _
      rw [hget, hd]; rfl
  refine ⟨⟨hE.below, hE.old, hE.mlt, fun j v b hp => ?_, hE.inj, fun j x hx => ?_, fun g cs hg => RepAt.mono cs hle.bare (hE.glob g cs hg)⟩, hle⟩
  · obtain ⟨⟨x, k1⟩, k2, k3⟩ := hE.phi j v b hp
    refine ⟨⟨frAB i ver s x, by show (E.H.map _)[j]? = _; rw [hget, k1]; rfl⟩, ?_, k3⟩
    show (E.H.map _)[j]? ≠ _
    rw [hget, k1]; rw [k1] at k2
    cases x <;> simp [frAB] at k2 ⊢
  · have hx' : (E.H.map (frAB i ver s))[j]? = some x := hx
    rw [hget, Option.map_eq_some_iff] at hx'
    obtain ⟨y, hy, rfl⟩ := hx'
    have hb := hE.blk j y hy
    cases y with
    | var cs =>
      obtain ⟨b, C, e, h1, h2, h3, h4⟩ := hb
      exact ⟨b, C, e, h1, h2, RepL.mono _ hle (RepL.fr hE hs cs h3), h4⟩
    | _ => exact HOK.mono hle rfl rfl (fun v b hb => ⟨rfl, fun _ => Iff.rfl⟩) hb
theorem RUN_freeze {X : Ctx} (i ver : Nat) (s : V) {k : List It} {fr : List V} {st : List (List V)} {H : List AB} (hs : fzRow (immAt H i) i ver = some s)
    (h : RUN X ⟨k, frL i ver s fr, st.map (frL i ver s), (immAt H i).map (frAB i ver s)⟩) : RUN X ⟨k, fr, st, H⟩ := by
  intro sa a E hH hR
  simp only at hH hR; subst hH
  obtain ⟨E1, e1, e2, e3, e4⟩ := hR.ok.immAt i
  rw [← e2] at hs
  obtain ⟨f1, f2⟩ := e3.frozen hs
  have := h sa a { E1 with H := E1.H.map (frAB i ver s) } (by show E1.H.map _ = _; rw [e2]) ⟨f1, RepL.mono _ f2 (RepL.fr e3 hs fr (RepL.mono _ e4 hR.fr)), hR.df, (RepStack.fr e3 hs (hR.st.mono e4)).mono f2⟩
  rw [← e1]; exact this
section
variable {P : Program} {G : Glob} {w0 : World} {M0 : Nat → Nat → Prop} {R : Value → World → Prop}
theorem RUNs_freeze (i ver : Nat) (s : V) {k : List It} {fr : List V} {st : List (List V)} {H : List AB} (hn : step P G ⟨k, fr, st, H⟩ = none) (hs : fzRow (immAt H i) i ver = some s)
    (h : RUNs P G w0 M0 R ⟨k, frL i ver s fr, st.map (frL i ver s), (immAt H i).map (frAB i ver s)⟩) : RUNs P G w0 M0 R ⟨k, fr, st, H⟩ :=
  RUNs_stop hn (RUN_freeze (X := ⟨P, G, w0, M0, R⟩) i ver s hs (RUN_of_RUNs h))
theorem RUNs_weak {k : List It} {fr fr' : List V} {st : List (List V)} {H H' : List AB} (hn : step P G ⟨k, fr, st, H⟩ = none) (hw : Weak fr H fr' H') (hst : st.all (okL H'.length) = true) (h : RUNs P G w0 M0 R ⟨k, fr', st, H'⟩) : RUNs P G w0 M0 R ⟨k, fr, st, H⟩ :=
  RUNs_stop hn (RUN_weak (X := ⟨P, G, w0, M0, R⟩) hw hst (RUN_of_RUNs h))
end
theorem frV_row (i ver : Nat) (s : V) (j v : Nat) : frV i ver s (.row j v) = bif j == i && v == ver then s else .row j v := by simp only [frV]
theorem frV_agg (i ver : Nat) (s : V) (cs : List V) : frV i ver s (.agg cs) = .agg (frL i ver s cs) := by simp only [frV]
theorem frV_tup (i ver : Nat) (s : V) (cs : List V) : frV i ver s (.tup cs) = .tup (frL i ver s cs) := by simp only [frV]
theorem frV_fn (i ver : Nat) (s : V) (f : Fn) (a b : List V) : frV i ver s (.fn f a b) = .fn f (frL i ver s a) (frL i ver s b) := by simp only [frV]
theorem frV_iface (i ver : Nat) (s : V) (t : TypeId) (v : V) : frV i ver s (.iface t v) = .iface t (frV i ver s v) := by simp only [frV]
theorem frV_any (i ver : Nat) (s : V) : frV i ver s .any = .any := by simp only [frV]
theorem frV_val (i ver : Nat) (s : V) (w : Value) : frV i ver s (.val w) = .val w := by simp only [frV]
theorem frV_ptr (i ver : Nat) (s : V) (j o : Nat) : frV i ver s (.ptr j o) = .ptr j o := by simp only [frV]
theorem frV_ptrE (i ver : Nat) (s : V) (j v x z o : Nat) : frV i ver s (.ptrE j v x z o) = .ptrE j v x z o := by simp only [frV]
theorem frV_cp (i ver : Nat) (s : V) (cs : List V) : frV i ver s (.cp cs) = .cp cs := by simp only [frV]
theorem frV_sl (i ver : Nat) (s : V) (es : List V) (m : Mk) : frV i ver s (.sl es m) = .sl es m := by simp only [frV]
theorem frV_vs (i ver : Nat) (s : V) (j o n z : Nat) : frV i ver s (.vs j o n z) = .vs j o n z := by simp only [frV]
theorem frV_mp (i ver : Nat) (s : V) (j : Nat) : frV i ver s (.mp j) = .mp j := by simp only [frV]
theorem frL_nil (i ver : Nat) (s : V) : frL i ver s [] = [] := by simp only [frL]
theorem frL_cons (i ver : Nat) (s : V) (v : V) (vs : List V) : frL i ver s (v :: vs) = frV i ver s v :: frL i ver s vs := by simp only [frL]
theorem frM_nil (i ver : Nat) (s : V) : ([] : List AB).map (frAB i ver s) = [] := rfl
theorem frM_cons (i ver : Nat) (s : V) (b : AB) (l : List AB) : (b :: l).map (frAB i ver s) = frAB i ver s b :: l.map (frAB i ver s) := rfl
theorem stM_nil (i ver : Nat) (s : V) : ([] : List (List V)).map (frL i ver s) = [] := rfl
theorem stM_cons (i ver : Nat) (s : V) (f : List V) (l : List (List V)) : (f :: l).map (frL i ver s) = frL i ver s f :: l.map (frL i ver s) := rfl
theorem frAB_var (i ver : Nat) (s : V) (cs : List V) : frAB i ver s (.var cs) = .var (frL i ver s cs) := rfl
theorem frAB_row (i ver : Nat) (s : V) (sz : Nat) (es : List V) (v : Nat) (m : Bool) : frAB i ver s (.row sz es v m) = .row sz es v m := rfl
theorem frAB_dead (i ver : Nat) (s : V) : frAB i ver s .dead = .dead := rfl
theorem frAB_map (i ver : Nat) (s : V) (own : Bool) (sg : KS) (f : List Int → Option V) : frAB i ver s (.map own sg f) = .map own sg f := rfl
end Go.Ab
