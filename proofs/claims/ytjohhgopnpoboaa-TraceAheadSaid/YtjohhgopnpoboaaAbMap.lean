/- The abstract machine: maps of the call's own. -/
import Derived.Test.YtjohhgopnpoboaaAbEq
set_option linter.unusedVariables false
set_option linter.unusedSimpArgs false
namespace Go.Ab
open Go Go.RowKit
section
variable {P : Program}

theorem checkKey_int {t : TypeId} {k : IntKind} (ht : P.underlying t = some (.int k)) (em : Bool) (n : Nat) (v : Value) (w : World) : (Instr.checkKey em (n + 1) t v).run P w = .ok () w := by
  rw [Instr.checkKey, Sem.run_bind, run_underlying ht]
  simp
def ckBody (em : Bool) (n : Nat) (xs : Array Value) (f : Field) (s : PUnit) : Sem (ForInStep PUnit) :=
  if f.name ≠ "_" then do
    let x ← part f.type xs f.offset
    Instr.checkKey em n f.type x
    pure (ForInStep.yield PUnit.unit)
  else pure (ForInStep.yield PUnit.unit)
theorem checkKey_loop (xs : Array Value) (em : Bool) (n : Nat) (w : World) : ∀ (l : List Field), (∀ f ∈ l, f.name ≠ "_" ∧ (∃ kd, P.underlying f.type = some (.int kd)) ∧ f.offset < xs.size) →
    (forIn l PUnit.unit (ckBody em (n + 1) xs)).run P w = .ok PUnit.unit w
  | [], _ => by simp
  | f :: l, h => by
    obtain ⟨g1, ⟨kd, g2⟩, g3⟩ := h f (by simp)
    have hag : (isAgg f.type).run P w = .ok false w := by simp [isAgg, run_underlying g2]
    have hp1 : (part f.type xs f.offset).run P w = .ok xs[f.offset] w := by simp [part, hag, g3]
    rw [List.forIn_cons, Sem.run_bind]
    simp only [ckBody, if_pos g1, Sem.run_bind, hp1, Result.andThen_ok, checkKey_int g2 em n, Sem.run_pure]
    exact checkKey_loop xs em n w l fun f' hf' => h f' (List.mem_cons_of_mem _ hf')
theorem run_checkKey_flat {t : TypeId} {d : TD} (ht : tdOf P t = some d) (hf : d.flat = true) {xs : Array Value} (hl : xs.size = d.size) (em : Bool) (n : Nat) (w : World) : (Instr.checkKey em (n + 2) t (.agg xs)).run P w = .ok () w := by
  obtain ⟨i, ds, z, h1, h2, h3, h4, rfl⟩ := tdOf_some ht
  simp only [flatOf, h2] at hf
  cases ds <;> simp only [Bool.false_eq_true] at hf
  rename_i fields
  simp only [Bool.and_eq_true, Bool.not_eq_true'] at hf
  obtain ⟨⟨⟨f0, f1⟩, f2⟩, f3⟩ := hf
  have f0' : fields.size = i.size := by simpa [szOf, h1] using f0
  have hl' : xs.size = i.size := hl
  have := checkKey_loop (P := P) xs em n w fields.toList (fun f hfm => by
    obtain ⟨j, hj⟩ := List.getElem?_of_mem hfm
    have h5 := (List.all_eq_true.1 f3) (f, j) (by rw [List.mem_zipIdx_iff_getElem?]; simpa using hj)
    simp only [Bool.and_eq_true, bne_iff_ne, ne_eq, beq_iff_eq] at h5
    obtain ⟨⟨g1, g2⟩, g3⟩ := h5
    refine ⟨g1, ?_, ?_⟩
    · split at g3
      · rename_i kd hk; exact ⟨kd, hk⟩
      · cases g3
    · have := (List.getElem?_eq_some_iff.1 hj).1
      simp at this; omega)
  rw [Instr.checkKey, Sem.run_bind, run_underlying h2]
  simp only [Result.andThen_ok]
  have e : (forIn fields PUnit.unit (fun f s => ckBody em (n + 1) xs f s)) = (forIn fields.toList PUnit.unit (ckBody em (n + 1) xs)) := by
    rw [← Array.forIn_toList]
  have e2 := congrArg (fun s => s.run P w) e
  simp only [this] at e2
  unfold ckBody at e2
  first | exact e2 | (rw [Sem.run_bind, e2]; simp) | (simp only [Sem.run_bind]; rw [e2]; simp)

def FoundAs (E : Env) : Option (Nat × V) → Option (Nat × Value) → Prop
  | none, none => True
  | some (i, v), some (j, x) => i = j ∧ Rep E v x
  | _, _ => False
def findL (q : List Int) : List (List Int × V) → Nat → Option (Nat × V)
  | [], _ => none
  | p :: L, i => bif eqIs q p.1 then some (i, p.2) else findL q L (i + 1)
theorem findL_look (q : List Int) : ∀ (L : List (List Int × V)) (i : Nat), lookL L q = (findL q L i).map (·.2)
  | [], i => rfl
  | p :: L, i => by
    simp only [lookL, findL]
    cases eqIs q p.1
    · simpa using findL_look q L (i + 1)
    · rfl
theorem eqIs_iff : ∀ {a b : List Int}, eqIs a b = true ↔ a = b
  | [], [] => by simp [eqIs]
  | [], _ :: _ => by simp [eqIs]
  | _ :: _, [] => by simp [eqIs]
  | a :: as, b :: bs => by simp [eqIs, eqIs_iff (a := as)]
theorem eqNums_zip : ∀ {ks : List IntKind} {p q : List Int}, p.length = ks.length → q.length = ks.length → eqNums (List.zipWith Value.int ks p) (List.zipWith Value.int ks q) = some (eqIs p q)
  | [], [], [], _, _ => rfl
  | k :: ks, a :: p, b :: q, h1, h2 => by
    simp only [List.zipWith_cons_cons, eqNums, if_true, eqNums_zip (ks := ks) (p := p) (q := q) (by simpa using h1) (by simpa using h2), Option.map_some, eqIs]
  | [], _ :: _, _, h1, _ => by simp at h1
  | [], [], _ :: _, _, h2 => by simp at h2
  | _ :: _, [], _, h1, _ => by simp at h1
  | _ :: _, _ :: _, [], _, h2 => by simp at h2
theorem intsOf_sound {E : Env} : ∀ {ks : List IntKind} {xs : List V} {us : List Value} {q : List Int}, intsOf ks xs = some q → RepL E xs us → us = List.zipWith Value.int ks q ∧ q.length = ks.length ∧ xs.length = ks.length
  | [], [], us, q, h, hr => by
    simp only [intsOf] at h; injection h with h; subst h
    simp only [RepL] at hr; subst hr; exact ⟨rfl, rfl, rfl⟩
  | [], x :: xs, us, q, h, hr => by simp [intsOf] at h
  | k :: ks, [], us, q, h, hr => by simp [intsOf] at h
  | k :: ks, x :: xs, us, q, h, hr => by
    unfold intsOf at h
    split at h
    · rename_i e1 e2; cases e2
    · rename_i k' ks' j n xs' e1 e2
      cases e1; cases e2
      split at h
      · rename_i hj; subst hj
        simp only [Option.map_eq_some_iff] at h
        obtain ⟨q', h1, rfl⟩ := h
        simp only [RepL, Rep] at hr
        obtain ⟨y, ys, rfl, ⟨rfl, _⟩, hr⟩ := hr
        obtain ⟨rfl, h3, h4⟩ := intsOf_sound h1 hr
        exact ⟨rfl, by simp [h3], by simp [h4]⟩
      · cases h
    · cases h
theorem sgT_cases {t : TypeId} {sg : KS} (h : sgT P t = some sg) : (∃ k, P.underlying t = some (.int k) ∧ sg = (false, [k])) ∨ (∃ d ks, tdOf P t = some d ∧ d.flat = true ∧ sg = (true, ks) ∧ ks.length = d.size) := by
  unfold sgT at h
  split at h
  · rename_i d hd
    split at h
    · rename_i k hsh
      injection h with h; subst h
      obtain ⟨i, ds, z, g1, g2, g3, g4, rfl⟩ := tdOf_some hd
      refine .inl ⟨k, ?_, rfl⟩
      simp only at hsh
      cases ds <;> simp only [shOf] at hsh <;> first | (injection hsh with hsh; rw [← hsh]; exact g2) | (cases hsh; done) | (split at hsh <;> cases hsh; done)
    · split at h
      · rename_i hf
        split at h
        · rename_i ks hk
          split at h
          · rename_i hl
            injection h with h; subst h
            exact .inr ⟨d, ks, hd, hf, rfl, hl⟩
          · cases h
        · cases h
      · cases h
  · cases h
theorem keyI_sound {E : Env} {t : TypeId} {sg : KS} {k : V} {kx : Value} {q : List Int} (hs : sgT P t = some sg) (h : keyI sg k = some q) (hk : Rep E k kx) : kx = keyVal sg q ∧ q.length = sg.2.length := by
  rcases sgT_cases hs with ⟨k0, _, rfl⟩ | ⟨d, ks, _, _, rfl, _⟩
  · simp only [keyI] at h
    obtain ⟨h1, h2, _⟩ := intsOf_sound h (RepL.cons hk (RepL.nil E))
    refine ⟨?_, h2⟩
    match q, h1, h2 with
    | [n], h1, _ => simp at h1; simpa [keyVal] using h1
  · cases k <;> simp only [keyI] at h <;> try (cases h; done)
    rename_i xs
    simp only [Rep] at hk
    obtain ⟨us, rfl, hx⟩ := hk
    obtain ⟨rfl, h2, _⟩ := intsOf_sound h hx
    exact ⟨by simp [keyVal], h2⟩
theorem find_abs {E : Env} {t : TypeId} {sg : KS} (hs : sgT P t = some sg) {q : List Int} (hq : q.length = sg.2.length) (w : World) : ∀ (L : List (List Int × V)) (l : List MapEntry) (i : Nat), l.map (·.key) = L.map (fun p => keyVal sg p.1) → RepL E (L.map (·.2)) (l.map (·.val)) → (∀ p ∈ L, p.1.length = sg.2.length) →
    ∃ r', (∀ ds, P.underlying t = some ds → (match Instr.findNow ds (keyVal sg q) l i with
      | some r => r = r'
      | none => (Instr.findAsking t (keyVal sg q) l i).run P w = .ok r' w)) ∧ (sg.1 = true → (Instr.findAsking t (keyVal sg q) l i).run P w = .ok r' w) ∧ FoundAs E (findL q L i) r'
  | [], [], i, _, _, _ => ⟨none, fun ds _ => by simp [Instr.findNow], fun _ => by simp [Instr.findAsking], trivial⟩
  | [], m :: l, i, h1, _, _ => by simp at h1
  | p :: L, [], i, h1, _, _ => by simp at h1
  | p :: L, m :: l, i, h1, h2, h3 => by
    simp only [List.map_cons, List.cons.injEq] at h1
    simp only [List.map_cons, RepL.cons_iff] at h2
    obtain ⟨r', g1, g2, g3⟩ := find_abs hs hq w L l (i + 1) h1.2 h2.2 fun p hp => h3 p (List.mem_cons_of_mem _ hp)
    have hp := h3 p (by simp)
    rcases sgT_cases hs with ⟨k0, hu, rfl⟩ | ⟨d, ks, hd, hf, rfl, hl⟩
    · match q, hq, p.1, hp, h1.1 with
      | [a], _, [b], _, hm =>
        simp only [keyVal, cond_false] at hm
        have e : eqIs [a] p.1 = (a == b) := by
          have : p.1 = [b] := by
            have hk := h1.1
            match hpp : p.1, hp with
            | [c], _ => rw [hpp] at hk; simp only [keyVal, cond_false] at hk; rw [hm] at hk; injection hk with _ hk; rw [hk]
          rw [this]; simp [eqIs]
        cases hab : (a == b) with
        | true =>
          refine ⟨some (i, m.val), fun ds hds => ?_, fun h => (by simp at h), ?_⟩
          · rw [hu] at hds; injection hds with hds; subst hds
            simp only [keyVal, cond_false, Instr.findNow, Instr.sameNow, hm, if_true, hab]
          · simp only [findL, e, hab, cond_true]; exact ⟨rfl, h2.1⟩
        | false =>
          refine ⟨r', fun ds hds => ?_, fun h => (by simp at h), ?_⟩
          · have := g1 ds hds
            rw [hu] at hds; injection hds with hds; subst hds
            simp only [keyVal, cond_false] at this ⊢
            simp only [Instr.findNow, Instr.sameNow, hm, if_true, hab]
            have hn : ∀ (l : List MapEntry) (L : List (List Int × V)) (i : Nat), l.map (·.key) = L.map (fun p => keyVal (false, [k0]) p.1) → (∀ p ∈ L, p.1.length = 1) → ∃ r, Instr.findNow (.int k0) (.int k0 a) l i = some r := by
              intro l
              induction l with
              | nil => intro L i _ _; exact ⟨none, rfl⟩
              | cons m l ih =>
                intro L i hk hlen
                cases L with
                | nil => simp at hk
                | cons p L =>
                  simp only [List.map_cons, List.cons.injEq] at hk
                  obtain ⟨r, hr⟩ := ih L (i + 1) hk.2 fun p hp => hlen p (List.mem_cons_of_mem _ hp)
                  have hpl := hlen p (by simp)
                  match hpp : p.1, hpl with
                  | [c], _ =>
                    have hk1 := hk.1
                    rw [hpp] at hk1; simp only [keyVal, cond_false] at hk1
                    simp only [Instr.findNow, Instr.sameNow, hk1, if_true, hr]
                    cases (a == c) <;> exact ⟨_, rfl⟩
            obtain ⟨r, hr⟩ := hn l L (i + 1) h1.2 (fun p hp => by simpa using h3 p (List.mem_cons_of_mem _ hp))
            rw [hr] at this ⊢
            exact this
          · simp only [findL, e, hab, cond_false]; exact g3
    · have hq' : q.length = ks.length := hq
      have hp' : p.1.length = ks.length := hp
      have hz : (List.zipWith Value.int ks q).length = d.size := by simp [hq', hl]
      have heq := (run_equal_flat (E := E) hd hf (eqNums_zip hq' hp') hz w).1
      have hk := h1.1
      simp only [keyVal, cond_true] at hk
      have hstr : ∀ ds, P.underlying t = some ds → ∃ fs, ds = .struct fs := by
        intro ds hds
        obtain ⟨i, ds', z, e1, e2, e3, e4, rfl⟩ := tdOf_some hd
        rw [e2] at hds; injection hds with hds; subst hds
        simp only [flatOf, e2] at hf
        cases ds' <;> simp only [Bool.false_eq_true] at hf
        exact ⟨_, rfl⟩
      have hnow : ∀ ds, P.underlying t = some ds → Instr.findNow ds (keyVal (true, ks) q) (m :: l) i = none := by
        intro ds hds
        obtain ⟨fs, rfl⟩ := hstr ds hds
        simp [keyVal, Instr.findNow, Instr.sameNow]
      cases hab : eqIs q p.1 with
      | true =>
        rw [hab] at heq
        have ha : (Instr.findAsking t (keyVal (true, ks) q) (m :: l) i).run P w = .ok (some (i, m.val)) w := by
          simp only [keyVal, cond_true, Instr.findAsking, Sem.run_bind, hk, heq, Result.andThen_ok, if_true, Sem.run_pure]
        refine ⟨some (i, m.val), fun ds hds => ?_, fun _ => ha, ?_⟩
        · rw [hnow ds hds]; exact ha
        · simp only [findL, hab, cond_true]; exact ⟨rfl, h2.1⟩
      | false =>
        rw [hab] at heq
        have ha : (Instr.findAsking t (keyVal (true, ks) q) (m :: l) i).run P w = .ok r' w := by
          have := g2 rfl
          simp only [keyVal, cond_true] at this ⊢
          simp only [Instr.findAsking, Sem.run_bind, hk, heq, Result.andThen_ok, Bool.false_eq_true, if_false]
          exact this
        refine ⟨r', fun ds hds => ?_, fun _ => ha, ?_⟩
        · rw [hnow ds hds]; exact ha
        · simp only [findL, hab, cond_false]; exact g3
theorem findKey_abs {E : Env} {t : TypeId} {sg : KS} (hs : sgT P t = some sg) {q : List Int} (hq : q.length = sg.2.length) (w : World) {L : List (List Int × V)} {l : List MapEntry}
    (h1 : l.map (·.key) = L.map (fun p => keyVal sg p.1)) (h2 : RepL E (L.map (·.2)) (l.map (·.val))) (h3 : ∀ p ∈ L, p.1.length = sg.2.length) :
    (∃ r', (Instr.findKey t (keyVal sg q) l).run P w = .ok r' w ∧ FoundAs E (findL q L 0) r') ∧ ∀ em n, (Instr.checkKey em (n + 2) t (keyVal sg q)).run P w = .ok () w := by
  obtain ⟨r', g1, g2, g3⟩ := find_abs hs hq w L l 0 h1 h2 h3
  constructor
  · refine ⟨r', ?_, g3⟩
    have hu : ∃ ds, P.underlying t = some ds := by
      rcases sgT_cases hs with ⟨k0, hu, rfl⟩ | ⟨d, ks, hd, hf, rfl, hl⟩
      · exact ⟨_, hu⟩
      · obtain ⟨i, ds', z, e1, e2, e3, e4, rfl⟩ := tdOf_some hd
        exact ⟨_, e2⟩
    obtain ⟨ds, hu⟩ := hu
    have := g1 ds hu
    simp only [Instr.findKey, Sem.run_bind, run_underlying hu, Result.andThen_ok]
    cases hn : Instr.findNow ds (keyVal sg q) l 0 with
    | some r => rw [hn] at this; simp only at this; simp [this]
    | none => rw [hn] at this; exact this
  · intro em n
    rcases sgT_cases hs with ⟨k0, hu, rfl⟩ | ⟨d, ks, hd, hf, rfl, hl⟩
    · exact checkKey_int hu em (n + 1) _ w
    · have hq' : q.length = ks.length := hq
      simp only [keyVal, cond_true]
      exact run_checkKey_flat hd hf (by simp [hq', hl]) em n w
end
end Go.Ab
