/- The abstract machine: maps of the call's own, go on. -/
import Derived.Test.YtjohhgopnpoboaaAbMap
import Derived.Test.YtjohhgopnpoboaaAbOps2
import Derived.MapKept
set_option linter.unusedVariables false
set_option linter.unusedSimpArgs false
namespace Go.Ab
open Go Go.RowKit
section
variable {P : Program} {G : Glob} {w0 : World} {M0 : Nat → Nat → Prop} {E : Env} {a : Act} {fr : List V} {o : Oper} {nid : Nat} {v : V} {H' : List AB}

theorem mapT_some {t kt et : TypeId} (h : mapT P t = some (kt, et)) : P.underlying t = some (.map kt et) := by
  unfold mapT at h
  split at h
  · rename_i d hd
    split at h
    · rename_i k e hsh
      injection h with h; injection h with h5 h6; subst h5; subst h6
      obtain ⟨i, ds, z, h1, h2, h3, h4, rfl⟩ := tdOf_some hd
      simp only at hsh
      cases ds <;> simp only [shOf] at hsh <;> first | (injection hsh with q1 q2; subst q1; subst q2; exact h2) | (cases hsh; done) | (split at hsh <;> cases hsh; done)
    · cases h
  · cases h
theorem ok_makeMap {t : TypeId} {sg : KS} (ho : o.op = .makeMap t none) (hE : EOK G w0 M0 E) (hn : NewAt E.H nid (.map false sg noF) H') : Comes P G w0 M0 E a o (.mp nid) H' := by
  obtain ⟨h1, h2⟩ := hE.allocOwn (.map #[] 0) hn (.bool false) (fun _ => True) (by simp)
    (fun hle => ⟨E.w.heap.size, #[], 0, [], by simp [Env.allocOwn], alloc_at _ _, by simp, by simp [RepL], by simp, rfl⟩)
  refine ⟨.map (some E.w.heap.size), _, .inl ?_, rfl, h2, h1, ?_⟩
  · simp [execOp, ho, Instr.makeMap, Env.allocOwn]
  · simp only [Rep]
    exact ⟨E.w.heap.size, by simp [Env.allocOwn], rfl⟩

theorem sameBits_key (sg : KS) (q : List Int) (hl : sg.1 = true ∨ ∃ k n, sg.2 = [k] ∧ q = [n]) : Instr.sameBits 10000 (keyVal sg q) (keyVal sg q) = true := by
  obtain ⟨b, ks⟩ := sg
  cases b with
  | false =>
    rcases hl with hl | ⟨k, n, h1, h2⟩
    · cases hl
    · simp only at h1; subst h1; subst h2
      simp [keyVal, Instr.sameBits]
  | true =>
    simp only [keyVal, cond_true, Instr.sameBits, beq_self_eq_true, Bool.true_and, List.all_eq_true]
    rintro ⟨x, y⟩ hxy
    have h1 : x = y := by
      obtain ⟨i, hi⟩ := List.getElem?_of_mem hxy
      rw [List.getElem?_zip_eq_some] at hi
      have := hi.1.symm.trans hi.2
      injection this
    subst h1
    have hx : x ∈ List.zipWith Value.int ks q := (List.of_mem_zip hxy).1
    obtain ⟨i, hi⟩ := List.getElem?_of_mem hx
    rw [List.getElem?_zipWith] at hi
    split at hi
    · injection hi with hi; subst hi; simp [Instr.sameBits]
    · cases hi
theorem findL_get {q : List Int} : ∀ {L : List (List Int × V)} {i j : Nat} {v : V}, findL q L i = some (j, v) → ∃ k p, j = i + k ∧ L[k]? = some p ∧ p.1 = q ∧ p.2 = v ∧ ∀ x q', lookL (L.set k (q, x)) q' = updF (lookL L) q x q'
  | [], i, j, v, h => by simp [findL] at h
  | p :: L, i, j, v, h => by
    simp only [findL] at h
    cases he : eqIs q p.1 with
    | true =>
      rw [he] at h; simp only [cond_true] at h; injection h with h; injection h with h1 h2; subst h1; subst h2
      have hq := eqIs_iff.1 he
      refine ⟨0, p, rfl, rfl, hq.symm, rfl, fun x q' => ?_⟩
      simp only [List.set_cons_zero, lookL, updF]
      cases hb : eqIs q' q with
      | true => rfl
      | false => rw [← hq, hb]; rfl
    | false =>
      rw [he] at h; simp only [cond_false] at h
      obtain ⟨k, p', h1, h2, h3, h4, h5⟩ := findL_get h
      refine ⟨k + 1, p', by omega, by simpa using h2, h3, h4, fun x q' => ?_⟩
      simp only [List.set_cons_succ, lookL, h5, updF]
      cases hb : eqIs q' q with
      | true =>
        have := eqIs_iff.1 hb; subst this
        rw [he]; rfl
      | false => simp
theorem findL_none {q : List Int} : ∀ {L : List (List Int × V)} {i : Nat}, findL q L i = none → ∀ x q', lookL (L ++ [(q, x)]) q' = updF (lookL L) q x q'
  | [], i, h, x, q' => by simp [lookL, updF]
  | p :: L, i, h, x, q' => by
    simp only [findL] at h
    cases he : eqIs q p.1 with
    | true => rw [he] at h; simp at h
    | false =>
      rw [he] at h; simp only [cond_false] at h
      simp only [List.cons_append, lookL, findL_none h, updF]
      cases hb : eqIs q' q with
      | true =>
        have := eqIs_iff.1 hb; subst this
        rw [he]; rfl
      | false => simp
theorem RepL.set' {E : Env} {vs : List V} {xs : List Value} (n : Nat) {v : V} {x : Value} (h : RepL E vs xs) (hv : Rep E v x) : RepL E (vs.set n v) (xs.set n x) := h.set n hv
theorem ok_insert {t kt et : TypeId} {m k x : Operand} (ho : o.op = .insert t m k x ∨ o.op = .mapUpdate t m k x) (hE : EOK G w0 M0 E) (hfr : RepL E fr a.tmps.toList) (ht : P.underlying t = some (.map kt et)) {i : Nat} {own : Bool} {sg : KS} {f : List Int → Option V} (hm : evalO G fr m = .mp i) (hi : E.H[i]? = some (.map own sg f))
    (hs : sgT P kt = some sg) {q : List Int} (hq : keyI sg (evalO G fr k) = some q) : Comes P G w0 M0 E a o undefV (E.H.set i (.map (insV E.H own (evalO G fr x)).1 sg (updF f q (insV E.H own (evalO G fr x)).2))) := by
  have hmr := evalO_sound hE hfr m
  have hkr := evalO_sound hE hfr k
  have hxr := evalO_sound hE hfr x
  rw [hm] at hmr
  simp only [Rep] at hmr
  obtain ⟨b, hb, hme⟩ := hmr
  obtain ⟨b', C, clock, L, q1, q2, q3, q4, q5, rfl⟩ := hE.blk i _ hi
  rw [hb] at q1; injection q1 with q1; subst q1
  obtain ⟨hkx, hql⟩ := keyI_sound hs hq hkr
  -- the value, as it is kept
  obtain ⟨own', x', hv', hx', hown⟩ : ∃ own' x', insV E.H own (evalO G fr x) = (own', x') ∧ Rep (bif own' then E else E.bare) x' (a.eval x) ∧ (own' = false → own = false) := by
    unfold insV
    cases hfz : fz E.H (evalO G fr x) with
    | some x' =>
      refine ⟨own, x', rfl, ?_, id⟩
      have := fz_sound hE _ hxr hfz
      cases own
      · exact this
      · exact Rep.mono _ E.bare_le this
    | none => exact ⟨true, evalO G fr x, rfl, hxr, fun h => by cases h⟩
  rw [hv']
  simp only
  have q4' : RepL (bif own' then E else E.bare) (L.map (·.2)) (C.toList.map (·.val)) := by
    cases own' with
    | false => rw [hown rfl] at q4; exact q4
    | true =>
      cases own with
      | true => exact q4
      | false => exact RepL.mono _ E.bare_le q4
  have q4E : RepL E (L.map (·.2)) (C.toList.map (·.val)) := by
    cases own with
    | true => exact q4
    | false => exact RepL.mono _ E.bare_le q4
  obtain ⟨⟨r', f1, f2⟩, f3⟩ := findKey_abs (l := C.toList) hs hql E.w q3 q4E q5
  rw [← hkx] at f1 f3
  have hbl : b < E.w.heap.size := (hE.phi i 0 b hb).2.2.2
  -- what is written
  obtain ⟨C', clk', L', hrun, g3, g4, g5, g6⟩ : ∃ C' clk' L', (Instr.mapUpdate t (.map (some b)) (a.eval k) (a.eval x)).run P E.w = .ok () { E.w with heap := E.w.heap.setIfInBounds b (.map C' clk') } ∧
      C'.toList.map (·.key) = L'.map (fun p => keyVal sg p.1) ∧ RepL (bif own' then E else E.bare) (L'.map (·.2)) (C'.toList.map (·.val)) ∧ (∀ p ∈ L', p.1.length = sg.2.length) ∧ updF (lookL L) q x' = lookL L' := by
    have hc := f3 false 9998
    have hgo : (getObj b).run P E.w = .ok (.map C clock) E.w := by simp [getObj, Sem.run, q2]
    have hso : ∀ C' clk', (setObj b (.map C' clk')).run P E.w = .ok () { E.w with heap := E.w.heap.setIfInBounds b (.map C' clk') } := fun C' clk' => by simp [setObj, Sem.run, q2]
    cases hfl : findL q L 0 with
    | none =>
      rw [hfl] at f2
      have hr' : r' = none := by cases r' with | none => rfl | some p => exact f2.elim
      subst hr'
      refine ⟨C.push { key := a.eval k, val := a.eval x, born := clock }, clock + 1, L ++ [(q, x')], ?_, ?_, ?_, ?_, ?_⟩
      · simp only [Instr.mapUpdate, Sem.run_bind, run_underlying ht, Result.andThen_ok, hgo, hc, f1, hso]
      · simp [q3, hkx]
      · simp only [Array.toList_push, List.map_append, List.map_cons, List.map_nil]
        exact q4'.append (RepL.cons hx' (RepL.nil _))
      · intro p hp
        rcases List.mem_append.1 hp with hp | hp
        · exact q5 p hp
        · rw [List.mem_singleton.1 hp]; exact hql
      · funext q'; exact (findL_none hfl x' q').symm
    | some jv =>
      obtain ⟨j, v⟩ := jv
      rw [hfl] at f2
      cases r' with
      | none => exact f2.elim
      | some p' =>
        obtain ⟨j', y⟩ := p'
        obtain ⟨rfl, _⟩ := f2
        obtain ⟨kk, p, e1, e2, e3, e4, e5⟩ := findL_get hfl
        have hj : j = kk := by omega
        subst hj
        obtain ⟨en, hen, hkey⟩ : ∃ en, C.toList[j]? = some en ∧ en.key = a.eval k := by
          have hl : C.toList.length = L.length := by simpa using congrArg List.length q3
          have hjl : j < C.toList.length := by rw [hl]; exact (List.getElem?_eq_some_iff.1 e2).1
          refine ⟨C.toList[j], List.getElem?_eq_getElem hjl, ?_⟩
          have := congrArg (fun l => l[j]?) q3
          simp only [List.getElem?_map, List.getElem?_eq_getElem hjl, e2, Option.map_some] at this
          injection this with this
          rw [this, hkx, e3]
        have hsb : Instr.sameBits 10000 (a.eval k) (a.eval k) = true := by
          rw [hkx]
          refine sameBits_key sg q ?_
          rcases sgT_cases hs with ⟨k0, _, rfl⟩ | ⟨d, ks, _, _, rfl, _⟩
          · match q, hql with
            | [n], _ => exact .inr ⟨k0, n, rfl, rfl⟩
          · exact .inl rfl
        have hks : (((C[j]?).map (·.key)).getD (a.eval k)) = a.eval k := by
          rw [← Array.getElem?_toList, hen]; simpa using hkey
        refine ⟨C.modify j fun e => { e with key := a.eval k, val := a.eval x }, clock, L.set j (q, x'), ?_, ?_, ?_, ?_, ?_⟩
        · simp only [Instr.mapUpdate, Sem.run_bind, run_underlying ht, Result.andThen_ok, hgo, hc, f1, hks, Instr.keyThatStays, hsb, if_true, Sem.run_pure, hso]
        · apply List.ext_getElem?
          intro n
          simp only [List.getElem?_map, Array.getElem?_toList, Array.getElem?_modify, List.getElem?_set]
          have hqn := congrArg (fun l => l[n]?) q3
          simp only [List.getElem?_map, Array.getElem?_toList] at hqn
          by_cases hn : j = n
          · subst hn
            have hlt := (List.getElem?_eq_some_iff.1 e2).1
            rw [← Array.getElem?_toList, hen] at *
            simp [hlt, hkx]
          · simp [hn, hqn]
        · have := RepL.set' j q4' hx'
          have ea : (L.set j (q, x')).map (·.2) = (L.map (·.2)).set j x' := by rw [List.map_set]
          have eb : (C.modify j fun e => { e with key := a.eval k, val := a.eval x }).toList.map (·.val) = (C.toList.map (·.val)).set j (a.eval x) := by
            apply List.ext_getElem?
            intro n
            simp only [List.getElem?_map, Array.getElem?_toList, Array.getElem?_modify, List.getElem?_set]
            by_cases hn : j = n
            · subst hn
              have hjl := (List.getElem?_eq_some_iff.1 hen).1
              rw [← Array.getElem?_toList, hen]
              simp at hjl
              simp [hjl]
            · simp [hn]
          rw [ea, eb]; exact this
        · intro p hp
          rcases List.mem_or_eq_of_mem_set hp with hp | rfl
          · exact q5 p hp
          · exact hql
        · funext q'; exact (e5 x' q').symm
  let w' : World := { E.w with heap := E.w.heap.setIfInBounds b (.map C' clk') }
  have hw'b : w'.heap[b]? = some (.map C' clk') := by
    show (E.w.heap.setIfInBounds b _)[b]? = _
    rw [Array.getElem?_setIfInBounds_self]; simp [hbl]
  have hoth : ∀ k, k ≠ b → w'.heap[k]? = E.w.heap[k]? := fun k hk => by
    show (E.w.heap.setIfInBounds b _)[k]? = _
    rw [Array.getElem?_setIfInBounds_ne (Ne.symm hk)]
  obtain ⟨g1, g2⟩ := hE.write w' i b _ (.map own' sg (updF (lookL L) q x')) hb hi (by simp [w']) rfl rfl rfl hoth
    (fun o u hs => by
      have h1 := hs.1
      unfold World.cell? at h1
      simp [q2] at h1)
    (fun _ _ _ _ e => by cases e) (by simp) (by simp)
    (fun hle => ⟨b, C', clk', L', hb, hw'b, g3, by
      cases own'
      · exact RepL.mono _ hle.bare g4
      · exact RepL.mono _ hle g4, g5, g6⟩)
  refine ⟨undef, { E with w := w', H := E.H.set i (.map own' sg (updF (lookL L) q x')) }, .inr ⟨?_, rfl⟩, rfl, g2, g1, Rep.undef _⟩
  rcases ho with ho | ho <;> simp only [execOp, ho, hme, Sem.run_bind, hrun, Result.andThen_ok, Sem.run_pure] <;> rfl

theorem Rep.ofCellP (E : Env) (v : Value) (h : v.oneCell' = true) : Rep E (ofCellP v) v := by
  unfold Ab.ofCellP
  split
  · simp only [Rep]; refine ⟨none, 0, 0, rfl, rfl, Nat.le_refl _, by simp [maxLen], ?_, ?_, ?_⟩ <;> simp
  · simp [Rep, h]
theorem RepL.ofCellsP (E : Env) : ∀ (vs : List Value), (vs.all Value.oneCell') = true → RepL E (vs.map ofCellP) vs
  | [], _ => RepL.nil E
  | v :: vs, h => by
    simp at h
    exact RepL.cons (Rep.ofCellP E v h.1) (RepL.ofCellsP E vs (by simpa using h.2))
theorem zeroT_sound {t : TypeId} {z : V} (hz : zeroT P t = some z) (w : World) : ∃ x, (zeroValue t).run P w = .ok x w ∧ Rep E z x := by
  unfold zeroT at hz
  split at hz
  · rename_i i h1
    split at hz
    · rename_i cs h2
      split at hz
      · rename_i h3
        injection hz with hz; subst hz
        refine ⟨.agg cs, by simp [zeroValue, typeInfo, h1, h2], ?_⟩
        simp only [Rep]
        exact ⟨cs.toList, by simp, RepL.ofCellsP E _ h3⟩
      · cases hz
    · rename_i v h2 h3
      split at hz
      · rename_i h4
        injection hz with hz; subst hz
        exact ⟨v, by simp [zeroValue, typeInfo, h1, h3], Rep.ofCellP E v h4⟩
      · cases hz
    · cases hz
  · cases hz

theorem ok_lookup {t kt et : TypeId} {m k : Operand} {ok : Bool} (ho : o.op = .lookup t m k ok) (hE : EOK G w0 M0 E) (hfr : RepL E fr a.tmps.toList) (ht : P.underlying t = some (.map kt et)) {i : Nat} {own : Bool} {sg : KS} {f : List Int → Option V} (hm : evalO G fr m = .mp i) (hi : E.H[i]? = some (.map own sg f))
    (hs : sgT P kt = some sg) {q : List Int} (hq : keyI sg (evalO G fr k) = some q) {z : V} (hz : zeroT P et = some z) : Comes P G w0 M0 E a o (lookR ok z (f q)) E.H := by
  have hmr := evalO_sound hE hfr m
  have hkr := evalO_sound hE hfr k
  rw [hm] at hmr
  simp only [Rep] at hmr
  obtain ⟨b, hb, hme⟩ := hmr
  obtain ⟨b', C, clock, L, q1, q2, q3, q4, q5, rfl⟩ := hE.blk i _ hi
  rw [hb] at q1; injection q1 with q1; subst q1
  obtain ⟨hkx, hql⟩ := keyI_sound hs hq hkr
  have q4E : RepL E (L.map (·.2)) (C.toList.map (·.val)) := by
    cases own with
    | true => exact q4
    | false => exact RepL.mono _ E.bare_le q4
  obtain ⟨⟨r', f1, f2⟩, f3⟩ := findKey_abs (l := C.toList) hs hql E.w q3 q4E q5
  rw [← hkx] at f1 f3
  rw [findL_look q L 0]
  have hgo : (getObj b).run P E.w = .ok (.map C clock) E.w := by simp [getObj, Sem.run, q2]
  have hc := f3 C.isEmpty 9998
  obtain ⟨zx, z1, z2⟩ := zeroT_sound (P := P) (E := E) hz E.w
  cases hfl : findL q L 0 with
  | none =>
    rw [hfl] at f2
    have hr' : r' = none := by cases r' with | none => rfl | some p => exact f2.elim
    subst hr'
    cases ok with
    | true =>
      refine Comes.pure hE (x := .tuple #[zx, .bool false]) ?_ ?_
      · simp only [execOp, ho, hme, Instr.lookup, Sem.run_bind, run_underlying ht, Result.andThen_ok, hgo, Sem.run_pure, hc, f1, z1]
        rfl
      · simp only [Option.map_none, lookR, cond_true, Rep]
        exact ⟨[zx, .bool false], rfl, RepL.cons z2 (RepL.cons (by simp [Rep, Value.oneCell']) (RepL.nil _))⟩
    | false =>
      refine Comes.pure hE (x := zx) ?_ z2
      simp only [execOp, ho, hme, Instr.lookup, Sem.run_bind, run_underlying ht, Result.andThen_ok, hgo, Sem.run_pure, hc, f1, z1]
      rfl
  | some p =>
    obtain ⟨j, v⟩ := p
    rw [hfl] at f2
    cases r' with
    | none => exact f2.elim
    | some p' =>
      obtain ⟨j', x⟩ := p'
      obtain ⟨_, hx⟩ := f2
      cases ok with
      | true =>
        refine Comes.pure hE (x := .tuple #[x, .bool true]) ?_ ?_
        · simp only [execOp, ho, hme, Instr.lookup, Sem.run_bind, run_underlying ht, Result.andThen_ok, hgo, Sem.run_pure, hc, f1]
          rfl
        · simp only [Option.map_some, lookR, cond_true, Rep]
          exact ⟨[x, .bool true], rfl, RepL.cons hx (RepL.cons (by simp [Rep, Value.oneCell']) (RepL.nil _))⟩
      | false =>
        refine Comes.pure hE (x := x) ?_ hx
        simp only [execOp, ho, hme, Instr.lookup, Sem.run_bind, run_underlying ht, Result.andThen_ok, hgo, Sem.run_pure, hc, f1]
        rfl

theorem insR_some {H : List AB} {kt : TypeId} {m k x : V} {s : List (Nat × AB)} (h : insR P H kt m k x = some s) : ∃ i own sg f q, m = .mp i ∧ H[i]? = some (.map own sg f) ∧ sgT P kt = some sg ∧ keyI sg k = some q ∧ s = [(i, .map (insV H own x).1 sg (updF f q (insV H own x).2))] := by
  cases m <;> simp only [insR] at h <;> try (cases h; done)
  rename_i i
  split at h
  · rename_i own sg f hi
    split at h
    · rename_i hk
      split at h
      · rename_i q hf; injection h with h; exact ⟨i, own, sg, f, q, rfl, hi, hk, hf, h.symm⟩
      · cases h
    · cases h
  · cases h
theorem lkR_some {H : List AB} {kt et : TypeId} {ok : Bool} {m k v : V} (h : lkR P H kt et ok m k = some v) : ∃ i own sg f q z, m = .mp i ∧ H[i]? = some (.map own sg f) ∧ sgT P kt = some sg ∧ keyI sg k = some q ∧ zeroT P et = some z ∧ v = lookR ok z (f q) := by
  cases m <;> simp only [lkR] at h <;> try (cases h; done)
  rename_i i
  split at h
  · rename_i own sg f hi
    split at h
    · rename_i hk
      simp only [Option.bind_eq_some_iff, Option.map_eq_some_iff] at h
      obtain ⟨q, h1, z, h2, rfl⟩ := h
      exact ⟨i, own, sg, f, q, z, rfl, hi, hk, h1, h2, rfl⟩
    · cases h
  · cases h
end
end Go.Ab
