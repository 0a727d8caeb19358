/- The abstract machine: 'eff' is sound. -/
import Derived.Test.YtjohhgopnpoboaaAbApp
import Derived.Test.YtjohhgopnpoboaaAbMap2
set_option linter.unusedVariables false
set_option linter.unusedSimpArgs false
namespace Go.Ab
open Go Go.RowKit
section
variable {P : Program} {G : Glob} {w0 : World} {M0 : Nat → Nat → Prop} {E : Env} {a : Act} {fr : List V} {o : Oper} {nid : Nat} {v : V} {u : Upd} {H' : List AB}

theorem lenV_sound {c : Call} {x : Operand} {t : TypeId} (ho : o.op = .call c) (hc : c.callee = .builtin .len) (ha : c.args.toList = [x]) (ht : c.argTypes.toList = [t]) (hE : EOK G w0 M0 E) (hfr : RepL E fr a.tmps.toList) {d : TD} (hd : tdOf P t = some d)
    (h : lenV E.H d.sh (evalO G fr x) = some (v, u)) : u = .no ∧ Comes P G w0 M0 E a o v E.H := by
  obtain ⟨i, ds, z, h1, h2, h3, h4, rfl⟩ := tdOf_some hd
  have hr := evalO_sound hE hfr x
  generalize evalO G fr x = y at hr h
  cases y <;> simp only [lenV] at h <;> try (cases h; done)
  · rename_i w
    cases w <;> simp only [lenV] at h <;> try (cases h; done)
    rename_i s
    split at h
    · rename_i hsh
      injection h with h; injection h with h5 h6; subst h5; subst h6
      simp only [Rep] at hr
      have : ds = .string := by cases ds <;> simp only [shOf] at hsh <;> first | rfl | (cases hsh; done) | (split at hsh <;> cases hsh; done)
      subst this
      refine ⟨rfl, Comes.pure hE (x := goInt s.size) ?_ (goInt_rep _)⟩
      have h1 : c.args = #[x] := by rw [← Array.toArray_toList (xs := c.args), ha]
      have h7 : c.argTypes = #[t] := by rw [← Array.toArray_toList (xs := c.argTypes), ht]
      simp [execOp, ho, resolve, hc, invoke, builtin, Builtin.len_, h1, h7, run_underlying h2, hr.1]
    · cases h
  · split at h
    · rename_i e esz by_ hsh
      obtain ⟨ie, rfl, hie, rfl, rfl⟩ := shOf_slice hsh
      injection h with h; injection h with h5 h6; subst h5; subst h6
      simp only [Rep] at hr
      obtain ⟨ad, n, cp, q1, q2, _⟩ := hr
      exact ⟨rfl, ok_len ho hc ha ht hE hfr h2 ⟨ad, cp, by rw [q1, q2]⟩⟩
    · cases h
  · split at h
    · rename_i e esz by_ sz es v' imm hsh hH
      obtain ⟨ie, rfl, hie, rfl, rfl⟩ := shOf_slice hsh
      split at h
      · rename_i hv; subst hv
        injection h with h; injection h with h5 h6; subst h5; subst h6
        simp only [Rep, hH] at hr
        obtain ⟨_, _, hr⟩ := hr
        have hr := hr trivial
        obtain ⟨a', n, c', q1, q2, q3⟩ := hE.blk _ _ hH
        exact ⟨rfl, ok_len ho hc ha ht hE hfr h2 ⟨a', c', by rw [hr, q1, q2]⟩⟩
      · cases h
    · cases h
  · split at h
    · rename_i e esz by_ hsh
      obtain ⟨ie, rfl, hie, rfl, rfl⟩ := shOf_slice hsh
      injection h with h; injection h with h5 h6; subst h5; subst h6
      simp only [Rep] at hr
      obtain ⟨b, c', q1, q2, _⟩ := hr
      exact ⟨rfl, ok_len ho hc ha ht hE hfr h2 ⟨_, c', q2⟩⟩
    · cases h

theorem condR_some' {r : Option (Bool × V × Upd)} {q : V × Upd} (h : condR r = some q) : r = some (true, q) := by
  unfold condR at h
  split at h
  · injection h with h; subst h; rfl
  · cases h
theorem binV_sound {op : BinOp} {t yt : TypeId} {x y : Operand} (ho : o.op = .binOp op t x y yt) (hE : EOK G w0 M0 E) (hfr : RepL E fr a.tmps.toList) (h : binV P op t (evalO G fr x) (evalO G fr y) = some v) : Comes P G w0 M0 E a o v E.H := by
  unfold binV at h
  split at h
  · rename_i k m j n hx hy
    split at h
    · rename_i hkj; subst hkj; exact ok_binI ho hE hfr hx hy h
    · cases h
  · rename_i m n hx hy
    split at h
    · rename_i d hd
      obtain ⟨i, ds, z, h1, h2, h3, h4, rfl⟩ := tdOf_some hd
      split at h
      · rename_i hsh
        have : ds = .bool := by
          simp only at hsh
          cases ds <;> simp only [shOf] at hsh <;> first | rfl | (cases hsh; done) | (split at hsh <;> cases hsh; done)
        subst this
        split at h
        · injection h with h; exact ok_binB ho hE hfr hx hy h2 (.inl ⟨rfl, h.symm⟩)
        · injection h with h; exact ok_binB ho hE hfr hx hy h2 (.inr ⟨rfl, h.symm⟩)
        · cases h
      · cases h
    · cases h
  · rename_i xs ys hx hy
    split at h
    · rename_i d hd
      split at h
      · rename_i hfl
        split at h
        · simp only [Option.map_eq_some_iff] at h
          obtain ⟨b, hb, rfl⟩ := h
          exact ok_binS ho hE hfr hx hy hd hfl.1 hfl.2 hb (.inl ⟨rfl, rfl⟩)
        · simp only [Option.map_eq_some_iff] at h
          obtain ⟨b, hb, rfl⟩ := h
          exact ok_binS ho hE hfr hx hy hd hfl.1 hfl.2 hb (.inr ⟨rfl, rfl⟩)
        · cases h
      · cases h
    · cases h
  · cases h

theorem eff_sound (hE : EOK G w0 M0 E) (hfr : RepL E fr a.tmps.toList) (h : eff P G fr E.H nid o.op = some (v, u)) (hA : After E.H nid u H') : Comes P G w0 M0 E a o v H' := by
  have hno : ∀ {v' : V}, Comes P G w0 M0 E a o v' E.H → u = .no → v = v' → Comes P G w0 M0 E a o v H' := by
    rintro v' hc rfl rfl
    have : H' = E.H := hA.no
    rw [this]; exact hc
  cases ho : o.op <;> rw [ho] at h <;> simp only [eff] at h <;> try (cases h; done)
  case move x => injection h with h; injection h with h1 h2; exact hno (ok_move ho hE hfr) h2.symm h1.symm
  case assign x => injection h with h; injection h with h1 h2; exact hno (ok_assign ho hE hfr) h2.symm h1.symm
  case pick c x y =>
    split at h
    · rename_i t ht; injection h with h; injection h with h1 h2; exact hno (ok_pick ho hE hfr ht) h2.symm h1.symm
    · cases h
  case alloc t =>
    simp only [Option.map_eq_some_iff, Prod.mk.injEq] at h
    obtain ⟨d, hd, rfl, rfl⟩ := h
    exact ok_alloc ho hE hd hA
  case box t x =>
    split at h
    · cases h
    · cases h
    · rename_i h1 h2
      injection h with h; injection h with h3 h4; subst h3; subst h4
      exact ok_box ho hE hfr (fun hh => h1 hh) hA
  case build t ps =>
    simp only [Option.bind_eq_some_iff] at h
    obtain ⟨d, hd, h⟩ := h
    split at h
    · rename_i fs hsh
      simp only [Option.map_eq_some_iff, Prod.mk.injEq] at h
      obtain ⟨cs, hcs, rfl, rfl⟩ := h
      exact hno (ok_build ho hE hfr hd hsh hcs) rfl rfl
    · cases h
  case buildSlice t n ps =>
    simp only [Option.bind_eq_some_iff] at h
    obtain ⟨d, hd, h⟩ := h
    split at h
    · rename_i e esz by_ hsh
      simp only [Option.bind_eq_some_iff] at h
      obtain ⟨vs, hvs, h⟩ := h
      cases hes : fzL (immL E.H (rowsInL vs)) vs with
      | some es =>
        rw [hes] at h
        have h := condR_some' h
        simp only [bsR, Option.some.injEq, Prod.mk.injEq] at h
        obtain ⟨hc, rfl, rfl⟩ := h
        simp only [Bool.and_eq_true, decide_eq_true_eq] at hc
        obtain ⟨⟨⟨⟨c1, c2⟩, c3⟩, c4⟩, c5⟩ := hc
        obtain ⟨de, hde⟩ := Option.isSome_iff_exists.1 c5
        obtain ⟨ie, dse, ze, k1, _, k3, _, _⟩ := tdOf_some hde
        have hH : H' = setH E.H (immS E.H (rowsInL vs)) := hA
        rw [setH_immS] at hH
        obtain ⟨E1, q1, q2, q3, q4⟩ := EOK.immL (rowsInL vs) hE
        obtain ⟨x', E', r1, r2, r3, r4, r5⟩ := ok_buildSlice (E := E1) ho q3 (RepL.mono _ q4 hfr) hd hsh hvs (by rw [q2]; exact hes) c1 (fun e he => by simpa using (List.all_eq_true.1 c2) e he) c3 c4 (by simp [k1, k3])
        exact ⟨x', E', by rw [← q1]; exact r1, by rw [r2, q2, hH], q4.trans r3, r4, r5⟩
      | none =>
        rw [hes] at h
        have h := condR_some' h
        simp only [bsR, Option.some.injEq, Prod.mk.injEq] at h
        obtain ⟨hc, rfl, rfl⟩ := h
        simp only [Bool.and_eq_true, decide_eq_true_eq] at hc
        obtain ⟨⟨⟨⟨c1, c2⟩, c3⟩, c4⟩, c5⟩ := hc
        obtain ⟨de, hde⟩ := Option.isSome_iff_exists.1 c5
        obtain ⟨ie, dse, ze, k1, _, k3, _, _⟩ := tdOf_some hde
        exact ok_buildSliceOwn ho hE hfr hd hsh hvs c1 (fun e he => (List.all_eq_true.1 c2) e he) c3 c4 (by simp [k1, k3]) hA
    · cases h
  case load t x =>
    simp only [Option.bind_eq_some_iff, Option.map_eq_some_iff, Prod.mk.injEq] at h
    obtain ⟨d, hd, v', hv, rfl, rfl⟩ := h
    exact hno (ok_load ho hE hfr hd hv) rfl rfl
  case store t p x =>
    simp only [Option.bind_eq_some_iff] at h
    obtain ⟨d, hd, h⟩ := h
    split at h
    · rename_i hc
      simp only [Option.map_eq_some_iff, Prod.mk.injEq] at h
      obtain ⟨u', hu, rfl, rfl⟩ := h
      exact ok_store ho hE hfr hd hc.1 hc.2 hu hA
    · cases h
  case nilCheck x =>
    split at h <;> rename_i heq
    · injection h with h; injection h with h1 h2; exact hno (ok_nilCheck ho hE hfr (.inl ⟨_, _, heq⟩)) h2.symm (by rw [heq]; exact h1.symm)
    · injection h with h; injection h with h1 h2; exact hno (ok_nilCheck ho hE hfr (.inr (.inl ⟨_, heq⟩))) h2.symm (by rw [heq]; exact h1.symm)
    · injection h with h; injection h with h1 h2; exact hno (ok_nilCheck ho hE hfr (.inr (.inr (.inl ⟨_, _, heq⟩)))) h2.symm (by rw [heq]; exact h1.symm)
    · injection h with h; injection h with h1 h2; exact hno (ok_nilCheck ho hE hfr (.inr (.inr (.inr ⟨_, _, _, heq⟩)))) h2.symm (by rw [heq]; exact h1.symm)
    · cases h
  case fieldAddr t x f =>
    simp only [Option.bind_eq_some_iff] at h
    obtain ⟨d, hd, h⟩ := h
    split at h
    · rename_i fs hsh
      simp only [Option.bind_eq_some_iff] at h
      obtain ⟨fd, hfd, h⟩ := h
      split at h
      · cases h
      · rename_i h0
        simp only [Option.map_eq_some_iff, Prod.mk.injEq] at h
        obtain ⟨v', hv, rfl, rfl⟩ := h
        exact hno (ok_fieldAddr ho hE hfr hd hsh hfd h0 hv) rfl rfl
    · cases h
  case field t x f =>
    simp only [Option.bind_eq_some_iff] at h
    obtain ⟨d, hd, h⟩ := h
    split at h
    · rename_i fs cs hsh hx
      simp only [Option.bind_eq_some_iff, Option.map_eq_some_iff, Prod.mk.injEq] at h
      obtain ⟨fd, hfd, v', hv, rfl, rfl⟩ := h
      exact hno (ok_field ho hE hfr hd hsh hx hfd hv) rfl rfl
    · cases h
  case indexAddr t x ix =>
    simp only [Option.bind_eq_some_iff] at h
    obtain ⟨d, hd, h⟩ := h
    split at h
    · rename_i k m hi
      simp only [Option.bind_eq_some_iff, Option.map_eq_some_iff, Prod.mk.injEq] at h
      obtain ⟨j, hj, v', hv, rfl, rfl⟩ := h
      exact hno (ok_indexAddr ho hE hfr hd hi hj hv) rfl rfl
    · cases h
  case index t x ix =>
    simp only [Option.bind_eq_some_iff] at h
    obtain ⟨d, hd, h⟩ := h
    split at h
    · rename_i k esz ea cs kk m hsh hx hi
      simp only [Option.bind_eq_some_iff] at h
      obtain ⟨j, hj, h⟩ := h
      split at h
      · rename_i hlt
        simp only [Option.map_eq_some_iff, Prod.mk.injEq] at h
        obtain ⟨v', hv, rfl, rfl⟩ := h
        exact hno (ok_index ho hE hfr hd hsh hx hi hj hlt hv) rfl rfl
      · cases h
    · cases h
  case binOp op t x y yt =>
    simp only [Option.map_eq_some_iff, Prod.mk.injEq] at h
    obtain ⟨v', hv, rfl, rfl⟩ := h
    exact hno (binV_sound ho hE hfr hv) rfl rfl
  case unOp op t x =>
    split at h
    · rename_i b hx; injection h with h; injection h with h1 h2
      exact hno (ok_unOp (v := .bool (!b)) ho hE hfr (.inl ⟨rfl, b, hx, rfl⟩)) h2.symm h1.symm
    · rename_i k n hx; injection h with h; injection h with h1 h2
      exact hno (ok_unOp (v := .int k (k.wrap (0 - n))) ho hE hfr (.inr ⟨rfl, k, n, hx, rfl⟩)) h2.symm h1.symm
    · cases h
  case convert s t x =>
    simp only [Option.bind_eq_some_iff] at h
    obtain ⟨ds, hds, d, hd, h⟩ := h
    split at h
    · rename_i j k k' n h1 h2 h3
      injection h with h; injection h with h4 h5
      exact hno (ok_convert ho hE hfr hds hd h1 h2 h3) h5.symm h4.symm
    · cases h
  case makeFunc f first cap =>
    injection h with h; injection h with h1 h2
    exact hno (ok_makeFunc ho hE hfr) h2.symm h1.symm
  case extract x i =>
    split at h
    · rename_i vs hx
      simp only [Option.map_eq_some_iff, Prod.mk.injEq] at h
      obtain ⟨v', hv, rfl, rfl⟩ := h
      exact hno (ok_extract ho hE hfr hx hv) rfl rfl
    · cases h
  case call c =>
    split at h
    · rename_i hc
      split at h
      · rename_i x t ha ht
        split at h
        · rename_i d hd
          obtain ⟨h1, h2⟩ := lenV_sound ho hc ha ht hE hfr hd h
          exact hno h2 h1 rfl
        · cases h
      · cases h
    · rename_i hc
      split at h
      · rename_i x y t tx ha ht
        simp only [Option.bind_eq_some_iff] at h
        obtain ⟨esz, h1, xs, h2, h3⟩ := h
        exact append_sound ho hc ha ht hE hfr h1 h2 h3 hA
      · cases h
    · cases h
  case slice t x lo hi mx =>
    simp only [Option.bind_eq_some_iff] at h
    obtain ⟨esz, h1, l, h2, hh, h3, m, h4, h5⟩ := h
    exact slice_sound ho hE hfr h1 h2 h3 h4 h5 hA
  case makeMap t r =>
    cases r with
    | some r => cases h
    | none =>
      simp only [Option.bind_eq_some_iff, Option.map_eq_some_iff, Prod.mk.injEq] at h
      obtain ⟨kt, _, sg, _, rfl, rfl⟩ := h
      exact ok_makeMap ho hE hA
  case insert t m k x =>
    simp only [Option.bind_eq_some_iff, Option.map_eq_some_iff, Prod.mk.injEq] at h
    obtain ⟨⟨kt, et⟩, h1, s, h2, rfl, rfl⟩ := h
    obtain ⟨i, own, sg, f, q, q1, q2, q3, q4, rfl⟩ := insR_some h2
    have hH : H' = E.H.set i (.map (insV E.H own (evalO G fr x)).1 sg (updF f q (insV E.H own (evalO G fr x)).2)) := hA
    subst hH
    exact ok_insert (.inl ho) hE hfr (mapT_some h1) q1 q2 q3 q4
  case mapUpdate t m k x =>
    simp only [Option.bind_eq_some_iff, Option.map_eq_some_iff, Prod.mk.injEq] at h
    obtain ⟨⟨kt, et⟩, h1, s, h2, rfl, rfl⟩ := h
    obtain ⟨i, own, sg, f, q, q1, q2, q3, q4, rfl⟩ := insR_some h2
    have hH : H' = E.H.set i (.map (insV E.H own (evalO G fr x)).1 sg (updF f q (insV E.H own (evalO G fr x)).2)) := hA
    subst hH
    exact ok_insert (.inr ho) hE hfr (mapT_some h1) q1 q2 q3 q4
  case lookup t m k ok =>
    simp only [Option.bind_eq_some_iff, Option.map_eq_some_iff, Prod.mk.injEq] at h
    obtain ⟨⟨kt, et⟩, h1, v', h2, rfl, rfl⟩ := h
    obtain ⟨i, own, sg, f, q, z, q1, q2, q3, q4, q5, rfl⟩ := lkR_some h2
    exact hno (ok_lookup ho hE hfr (mapT_some h1) q1 q2 q3 q4 q5) rfl rfl
  case makeInterface t x =>
    cases hT : ifcT P t with
    | false => rw [hT] at h; cases h
    | true =>
      rw [hT] at h
      simp only [cond_true, Option.map_eq_some_iff, Prod.mk.injEq] at h
      obtain ⟨v', hv, rfl, rfl⟩ := h
      exact hno (ifc_sound ho hE hfr hT hv) rfl rfl
end
end Go.Ab
