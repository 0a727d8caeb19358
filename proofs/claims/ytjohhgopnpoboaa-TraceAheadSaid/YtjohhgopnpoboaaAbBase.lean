/- The abstract machine: what is represented stays represented. -/
import Derived.Test.YtjohhgopnpoboaaAbDefs
set_option linter.unusedVariables false
namespace Go.Ab
open Go Go.RowKit
structure Env.le (E E' : Env) : Prop where
  stab : ∀ b o u, E.stab b o u → E'.stab b o u
  phi : ∀ i v b, E.φ i v = some b → E'.φ i v = some b
  row : ∀ (i sz : Nat) (es : List V) (v : Nat) (m : Bool), E.H[i]? = some (.row sz es v m) → E'.H[i]? = some AB.dead ∨ ∃ sz' es' v' m', E'.H[i]? = some (AB.row sz' es' v' m') ∧ v ≤ v' ∧ (v = v' → E'.τ i = E.τ i)
  dead : ∀ i : Nat, E.H[i]? = some AB.dead → E'.H[i]? = some AB.dead
theorem Env.le.bare {E E' : Env} (h : E.le E') : E.bare.le E'.bare := ⟨h.stab, fun _ _ _ h => by simp [Env.bare] at h, fun _ _ _ _ _ h => by simp [Env.bare] at h, fun _ h => by simp [Env.bare] at h⟩
theorem Env.le.refl (E : Env) : E.le E := ⟨fun _ _ _ h => h, fun _ _ _ h => h, fun _ _ _ _ _ h => .inr ⟨_, _, _, _, h, Nat.le_refl _, fun _ => rfl⟩, fun _ h => h⟩
theorem Env.le.trans {E E' E'' : Env} (h : E.le E') (k : E'.le E'') : E.le E'' := by
  refine ⟨fun b o u h1 => k.stab _ _ _ (h.stab _ _ _ h1), fun _ _ _ h1 => k.phi _ _ _ (h.phi _ _ _ h1), fun i sz es v m h1 => ?_, fun i h1 => k.dead _ (h.dead _ h1)⟩
  rcases h.row _ _ _ _ _ h1 with h2 | ⟨sz', es', v', m', h2, h3, h4⟩
  · exact .inl (k.dead _ h2)
  · rcases k.row _ _ _ _ _ h2 with h5 | ⟨sz2, es2, v2, m2, h5, h6, h7⟩
    · exact .inl h5
    · exact .inr ⟨_, _, _, _, h5, by omega, fun e => by rw [h7 (by omega), h4 (by omega)]⟩
mutual
theorem Rep.mono : (v : V) → ∀ {E E' : Env} {x : Value}, E.le E' → Rep E v x → Rep E' v x
  | .any, _, _, _, _, _ => by simp only [Rep]
  | .val v, _, _, _, _, h => by simpa only [Rep] using h
  | .ptr i o, _, _, _, hl, h => by
    simp only [Rep] at h ⊢
    obtain ⟨b, h1, h2⟩ := h; exact ⟨b, hl.phi _ _ _ h1, h2⟩
  | .ptrE i ver idx sz off, E, E', x, hl, h => by
    simp only [Rep] at h ⊢
    obtain ⟨h0, h⟩ := h
    refine ⟨h0, ?_⟩
    split at h
    · rename_i heq
      rcases hl.row _ _ _ _ _ heq with h2 | ⟨_, _, v', _, h2, h3, h4⟩
      · simp only [h2]
      · simp only [h2]
        refine ⟨by omega, fun e => ?_⟩
        obtain ⟨b, h5, h6⟩ := h.2 (by omega)
        exact ⟨b, hl.phi _ _ _ h5, h6⟩
    · rename_i heq; simp only [hl.dead _ heq]
    · exact h.elim
  | .cp cs, _, _, _, hl, h => by
    simp only [Rep] at h ⊢
    obtain ⟨b, o, h1, h2⟩ := h
    exact ⟨b, o, h1, RepAt.mono cs hl.bare h2⟩
  | .sl es m, _, _, _, hl, h => by
    simp only [Rep] at h ⊢
    obtain ⟨a, n, c, h1, h2, h3, h4, h5, h6, h7⟩ := h
    refine ⟨a, n, c, h1, h2, h3, h4, h5, h6, fun he => ?_⟩
    obtain ⟨sz, b, o, h8, h9⟩ := h7 he
    exact ⟨sz, b, o, h8, RepEs.mono es hl.bare h9⟩
  | .vs i off n sz, _, _, _, hl, h => by
    simp only [Rep] at h ⊢
    obtain ⟨b, c, h1, h2⟩ := h; exact ⟨b, c, hl.phi _ _ _ h1, h2⟩
  | .row i ver, _, _, _, hl, h => by
    simp only [Rep] at h ⊢
    obtain ⟨h0, h⟩ := h
    refine ⟨h0, ?_⟩
    split at h
    · rename_i heq
      rcases hl.row _ _ _ _ _ heq with h2 | ⟨_, _, v', _, h2, h3, h4⟩
      · simp only [h2]
      · simp only [h2]
        exact ⟨by omega, fun e => by rw [h.2 (by omega), h4 (by omega)]⟩
    · rename_i heq; simp only [hl.dead _ heq]
    · exact h.elim
  | .agg cs, _, _, _, hl, h => by
    simp only [Rep] at h ⊢
    obtain ⟨xs, h1, h2⟩ := h; exact ⟨xs, h1, RepL.mono cs hl h2⟩
  | .tup cs, _, _, _, hl, h => by
    simp only [Rep] at h ⊢
    obtain ⟨xs, h1, h2⟩ := h; exact ⟨xs, h1, RepL.mono cs hl h2⟩
  | .fn f first cap, _, _, _, hl, h => by
    simp only [Rep] at h ⊢
    obtain ⟨xs, ys, h1, h2, h3⟩ := h; exact ⟨xs, ys, h1, RepL.mono first hl h2, RepL.mono cap hl h3⟩
  | .iface t v, _, _, _, hl, h => by
    simp only [Rep] at h ⊢
    obtain ⟨y, h1, h2⟩ := h; exact ⟨y, h1, Rep.mono v hl h2⟩
  | .mp i, _, _, _, hl, h => by
    simp only [Rep] at h ⊢
    obtain ⟨b, h1, h2⟩ := h; exact ⟨b, hl.phi _ _ _ h1, h2⟩
theorem RepL.mono : (vs : List V) → ∀ {E E' : Env} {xs : List Value}, E.le E' → RepL E vs xs → RepL E' vs xs
  | [], _, _, _, _, h => by simpa only [RepL] using h
  | v :: vs, _, _, _, hl, h => by
    simp only [RepL] at h ⊢
    obtain ⟨y, ys, h1, h2, h3⟩ := h
    exact ⟨y, ys, h1, Rep.mono v hl h2, RepL.mono vs hl h3⟩
theorem RepAt.mono : (vs : List V) → ∀ {E E' : Env} {b o : Nat}, E.le E' → RepAt E vs b o → RepAt E' vs b o
  | [], _, _, _, _, _, _ => by simp only [RepAt]
  | v :: vs, _, _, _, _, hl, h => by
    simp only [RepAt] at h ⊢
    obtain ⟨⟨u, h1, h2⟩, h3⟩ := h
    exact ⟨⟨u, hl.stab _ _ _ h1, Rep.mono v hl h2⟩, RepAt.mono vs hl h3⟩
theorem RepEs.mono : (vs : List V) → ∀ {E E' : Env} {sz b o : Nat}, E.le E' → RepEs E sz vs b o → RepEs E' sz vs b o
  | [], _, _, _, _, _, _, _ => by simp only [RepEs]
  | v :: vs, E, E', sz, b, o, hl, h => by
    by_cases hv : ∃ cs, v = .agg cs
    · obtain ⟨cs, rfl⟩ := hv
      simp only [RepEs] at h ⊢
      exact ⟨⟨h.1.1, RepAt.mono cs hl h.1.2⟩, RepEs.mono vs hl h.2⟩
    · rw [RepEs.eq_3 _ _ _ _ _ _ (fun cs e => hv ⟨cs, e⟩)] at h ⊢
      obtain ⟨⟨h0, u, h1, h2⟩, h3⟩ := h
      exact ⟨⟨h0, u, hl.stab _ _ _ h1, Rep.mono v hl h2⟩, RepEs.mono vs hl h3⟩
end

theorem Env.bare_le (E : Env) : E.bare.le E := ⟨fun _ _ _ h => h, fun _ _ _ h => by simp [Env.bare] at h, fun _ _ _ _ _ h => by simp [Env.bare] at h, fun _ h => by simp [Env.bare] at h⟩
theorem Env.bare_bare (E : Env) : E.bare.bare = E.bare := rfl

/-! Lists. -/
theorem RepL.nil (E : Env) : RepL E [] [] := by simp [RepL]
theorem RepL.cons {E : Env} {v : V} {vs : List V} {x : Value} {xs : List Value} (h : Rep E v x) (hs : RepL E vs xs) : RepL E (v :: vs) (x :: xs) := by
  simp only [RepL]; exact ⟨x, xs, rfl, h, hs⟩
theorem RepL.cons_iff {E : Env} {v : V} {vs : List V} {x : Value} {xs : List Value} : RepL E (v :: vs) (x :: xs) ↔ Rep E v x ∧ RepL E vs xs := by
  simp only [RepL, List.cons.injEq]
  exact ⟨fun ⟨_, _, ⟨h1, h2⟩, h3, h4⟩ => by subst h1; subst h2; exact ⟨h3, h4⟩, fun ⟨h1, h2⟩ => ⟨_, _, ⟨rfl, rfl⟩, h1, h2⟩⟩
theorem RepL.nil_iff {E : Env} {xs : List Value} : RepL E [] xs ↔ xs = [] := by simp only [RepL]
theorem RepL.length {E : Env} : ∀ {vs : List V} {xs : List Value}, RepL E vs xs → xs.length = vs.length
  | [], xs, h => by simp only [RepL] at h; simp [h]
  | v :: vs, xs, h => by
    simp only [RepL] at h
    obtain ⟨y, ys, rfl, _, h2⟩ := h
    simp [h2.length]
theorem RepL.get {E : Env} : ∀ {vs : List V} {xs : List Value}, RepL E vs xs → ∀ (i : Nat) (v : V), vs[i]? = some v → ∃ x, xs[i]? = some x ∧ Rep E v x
  | [], xs, h, i, v, hv => by simp at hv
  | u :: vs, xs, h, i, v, hv => by
    simp only [RepL] at h
    obtain ⟨y, ys, rfl, h1, h2⟩ := h
    cases i with
    | zero => simp at hv; subst hv; exact ⟨y, by simp, h1⟩
    | succ i => simpa using h2.get i v (by simpa using hv)
theorem RepL.append {E : Env} : ∀ {vs ws : List V} {xs ys : List Value}, RepL E vs xs → RepL E ws ys → RepL E (vs ++ ws) (xs ++ ys)
  | [], ws, xs, ys, h, k => by simp only [RepL] at h; subst h; simpa using k
  | v :: vs, ws, xs, ys, h, k => by
    simp only [RepL] at h
    obtain ⟨y, zs, rfl, h1, h2⟩ := h
    exact RepL.cons h1 (h2.append k)
theorem RepL.take {E : Env} : ∀ {vs : List V} {xs : List Value} (n : Nat), RepL E vs xs → RepL E (vs.take n) (xs.take n)
  | _, _, 0, _ => by simp [RepL]
  | [], xs, n + 1, h => by simp only [RepL] at h; subst h; simp [RepL]
  | v :: vs, xs, n + 1, h => by
    simp only [RepL] at h
    obtain ⟨y, zs, rfl, h1, h2⟩ := h
    exact RepL.cons h1 (h2.take n)
theorem RepL.drop {E : Env} : ∀ {vs : List V} {xs : List Value} (n : Nat), RepL E vs xs → RepL E (vs.drop n) (xs.drop n)
  | _, _, 0, h => by simpa using h
  | [], xs, n + 1, h => by simp only [RepL] at h; subst h; simp [RepL]
  | v :: vs, xs, n + 1, h => by
    simp only [RepL] at h
    obtain ⟨y, zs, rfl, h1, h2⟩ := h
    exact h2.drop n
theorem RepL.set {E : Env} : ∀ {vs : List V} {xs : List Value} (n : Nat) {v : V} {x : Value}, RepL E vs xs → Rep E v x → RepL E (vs.set n v) (xs.set n x)
  | [], xs, n, _, _, h, _ => by simp only [RepL] at h; subst h; simp [RepL]
  | u :: vs, xs, 0, v, x, h, k => by
    simp only [RepL] at h
    obtain ⟨y, zs, rfl, h1, h2⟩ := h
    exact RepL.cons k h2
  | u :: vs, xs, n + 1, v, x, h, k => by
    simp only [RepL] at h
    obtain ⟨y, zs, rfl, h1, h2⟩ := h
    exact RepL.cons h1 (h2.set n k)
theorem RepL.split {E : Env} : ∀ {vs ws : List V} {xs : List Value}, RepL E (vs ++ ws) xs → ∃ ys zs, xs = ys ++ zs ∧ RepL E vs ys ∧ RepL E ws zs
  | [], ws, xs, h => ⟨[], xs, rfl, RepL.nil E, by simpa using h⟩
  | v :: vs, ws, xs, h => by
    simp only [List.cons_append, RepL] at h
    obtain ⟨y, ys, rfl, h1, h2⟩ := h
    obtain ⟨as, bs, rfl, h3, h4⟩ := h2.split
    exact ⟨y :: as, bs, rfl, RepL.cons h1 h3, h4⟩

theorem Rep.undef (E : Env) : Rep E undefV undef := by
  simp only [undefV, Rep]; exact ⟨[], rfl, RepL.nil E⟩
theorem RepL.getD {E : Env} {vs : List V} {xs : List Value} (h : RepL E vs xs) (i : Nat) : Rep E (vs.getD i undefV) (xs.getD i undef) := by
  simp only [List.getD_eq_getElem?_getD]
  cases hv : vs[i]? with
  | some v =>
    obtain ⟨x, hx, hr⟩ := h.get i v hv
    simpa [hx] using hr
  | none =>
    have : xs[i]? = none := by
      have := h.length
      simp at hv ⊢
      omega
    simpa [this] using Rep.undef E

theorem Rep.ofCell (E : Env) (v : Value) (h : v.oneCell' = true) : Rep E (ofCell v) v := by
  unfold Ab.ofCell
  split
  · simp only [Rep]; refine ⟨none, 0, 0, rfl, rfl, Nat.le_refl _, by simp [maxLen], ?_, ?_, ?_⟩ <;> simp
  · simp [Rep, h]
theorem RepL.ofCells (E : Env) : ∀ (vs : List Value), (vs.all Value.oneCell') = true → RepL E (vs.map ofCell) vs
  | [], _ => RepL.nil E
  | v :: vs, h => by
    simp at h
    exact RepL.cons (Rep.ofCell E v h.1) (RepL.ofCells E vs (by simpa using h.2))
theorem Rep.ofConst (E : Env) (v : Value) : Rep E (ofConst v) v := by
  unfold Ab.ofConst
  split
  · rename_i vs
    split
    · rename_i h
      have : vs = #[] := by
        have : vs.toList = [] := by simpa using h
        rw [← Array.toArray_toList (xs := vs), this]
      subst this
      exact Rep.undef E
    · simp [Rep]
  · rename_i cs
    split
    · rename_i h
      simp only [Rep]
      exact ⟨cs.toList, by simp, RepL.ofCells E _ h⟩
    · simp [Rep]
  · rename_i h1 h2
    refine Rep.ofCell E v ?_
    cases v <;> simp_all [Value.oneCell']
end Go.Ab
