/- The abstract machine: every operation of 'eff', sound. -/
import Derived.Test.YtjohhgopnpoboaaAbOps2
set_option linter.unusedVariables false
set_option linter.unusedSimpArgs false
namespace Go.Ab
open Go Go.RowKit
section
variable {P : Program} {G : Glob} {w0 : World} {M0 : Nat → Nat → Prop} {E : Env} {a : Act} {fr : List V} {o : Oper} {nid : Nat} {v : V} {u : Upd} {H' : List AB}

theorem ok_field {t : TypeId} {x : Operand} {f : Nat} (ho : o.op = .field t x f) (hE : EOK G w0 M0 E) (hfr : RepL E fr a.tmps.toList) {d : TD} (ht : tdOf P t = some d) {fs : List (Nat × Nat × Bool)} (hd : d.sh = .struct fs)
    {cs : List V} (hx : evalO G fr x = .agg cs) {fd : Nat × Nat × Bool} (hf : fs[f]? = some fd) (h : partV fd.2.2 fd.2.1 (cs.drop fd.1) = some v) : Comes P G w0 M0 E a o v E.H := by
  obtain ⟨i, ds, z, h1, h2, h3, h4, rfl⟩ := tdOf_some ht
  obtain ⟨fields, rfl, rfl, hall⟩ := shOf_struct hd
  obtain ⟨g, hg, rfl⟩ := struct_field hf
  have hr := evalO_sound hE hfr x
  rw [hx] at hr; simp only [Rep] at hr
  obtain ⟨xs, hax, hxs⟩ := hr
  have hgi := (List.all_eq_true.1 hall) g (List.mem_of_getElem? (by simpa using hg))
  simp only [Bool.and_eq_true] at hgi
  obtain ⟨j, hj⟩ := Option.isSome_iff_exists.1 hgi.1
  obtain ⟨y, k1, k2⟩ := partV_sound (P := P) (t := g.type) (xs := xs.toArray) (w := E.w) hj (by simp [szOf, hj]) rfl hgi.2 (by simpa using hxs) h
  exact Comes.pure hE (x := y) (by simp [execOp, ho, hax, Instr.field, run_underlying h2, hg, asAgg, k1]) k2

theorem idxN_some {n : Int} {k : Nat} (h : idxN n = some k) : 0 ≤ n ∧ n = k ∧ n.toNat = k := by
  unfold idxN at h
  split at h
  · injection h with h; exact ⟨by assumption, by omega, h⟩
  · cases h

theorem ok_index {t : TypeId} {x ix : Operand} (ho : o.op = .index t x ix) (hE : EOK G w0 M0 E) (hfr : RepL E fr a.tmps.toList) {d : TD} (ht : tdOf P t = some d) {n esz : Nat} {ea : Bool} (hd : d.sh = .array n esz ea)
    {cs : List V} (hx : evalO G fr x = .agg cs) {k : IntKind} {m : Int} (hi : evalO G fr ix = .val (.int k m)) {j : Nat} (hj : idxN m = some j) (hlt : j < n) (h : partV ea esz (cs.drop (j * esz)) = some v)
    : Comes P G w0 M0 E a o v E.H := by
  obtain ⟨i, ds, z, h1, h2, h3, h4, rfl⟩ := tdOf_some ht
  obtain ⟨e, ie, rfl, hie, rfl, rfl, hun⟩ := shOf_array hd
  have hr := evalO_sound hE hfr x
  have hr2 := evalO_sound hE hfr ix
  rw [hx] at hr; simp only [Rep] at hr
  rw [hi] at hr2; simp only [Rep] at hr2
  obtain ⟨xs, hax, hxs⟩ := hr
  obtain ⟨g1, g2, g3⟩ := idxN_some hj
  obtain ⟨y, k1, k2⟩ := partV_sound (P := P) (t := e) (xs := xs.toArray) (w := E.w) hie rfl rfl hun (by simpa using hxs) h
  refine Comes.pure hE (x := y) ?_ k2
  have hb : 0 ≤ m ∧ m < (n : Int) := ⟨g1, by omega⟩
  simp [execOp, ho, hax, hr2.1, Instr.index, asIntOf, run_underlying h2, hb, sizeOf, typeInfo, hie, g3, k1]

theorem ok_indexAddr {t : TypeId} {x ix : Operand} (ho : o.op = .indexAddr t x ix) (hE : EOK G w0 M0 E) (hfr : RepL E fr a.tmps.toList) {d : TD} (ht : tdOf P t = some d)
    {k : IntKind} {m : Int} (hi : evalO G fr ix = .val (.int k m)) {j : Nat} (hj : idxN m = some j) (h : indexAddrV E.H d.sh j (evalO G fr x) = some v) : Comes P G w0 M0 E a o v E.H := by
  obtain ⟨i, ds, z, h1, h2, h3, h4, rfl⟩ := tdOf_some ht
  have hr := evalO_sound hE hfr x
  have hr2 := evalO_sound hE hfr ix
  rw [hi] at hr2; simp only [Rep] at hr2
  obtain ⟨g1, g2, g3⟩ := idxN_some hj
  have hsl : ∀ {e : TypeId} {ie : TypeInfo} {b k' n c : Nat}, ds = .slice e → P.info? e = some ie → a.eval x = .slice (some ⟨b, k', none⟩) n c → j < n →
      (execOp a.eval o).run P E.w = .ok (.value (.pointer (some ⟨b, k' + j * ie.size, none⟩))) E.w := by
    intro e ie b k' n c hds hie hx hlt
    subst hds
    have hb : 0 ≤ m ∧ m < (n : Int) := ⟨g1, by omega⟩
    simp [execOp, ho, hx, hr2.1, Instr.indexAt, asIntOf, run_underlying h2, hb, sizeOf, typeInfo, hie, g3, Addr.add_none]
  have har : ∀ {e : TypeId} {ie : TypeInfo} {b k' n : Nat}, ds = .array n e → P.info? e = some ie → a.eval x = .pointer (some ⟨b, k', none⟩) → j < n →
      (execOp a.eval o).run P E.w = .ok (.value (.pointer (some ⟨b, k' + j * ie.size, none⟩))) E.w := by
    intro e ie b k' n hds hie hx hlt
    subst hds
    have hb : 0 ≤ m ∧ m < (n : Int) := ⟨g1, by omega⟩
    simp [execOp, ho, hx, hr2.1, Instr.indexAt, Instr.sureAddr, asIntOf, run_underlying h2, hb, sizeOf, typeInfo, hie, g3, Addr.add_none]
  generalize evalO G fr x = y at hr h
  cases y <;> simp only [indexAddrV] at h <;> try (cases h; done)
  · -- a pointer to an array
    rename_i i' off
    split at h
    · rename_i n esz ea hsh
      obtain ⟨e, ie, rfl, hie, rfl, rfl, _⟩ := shOf_array hsh
      split at h
      · rename_i hlt
        injection h with h; subst h
        simp only [Rep] at hr
        obtain ⟨b, k1, k2⟩ := hr
        exact Comes.pure hE (har rfl hie k2 hlt) (by simp only [Rep]; exact ⟨b, k1, rfl⟩)
      · cases h
    · cases h
  · rename_i cs
    split at h
    · rename_i n esz ea hsh
      obtain ⟨e, ie, rfl, hie, rfl, rfl, _⟩ := shOf_array hsh
      split at h
      · rename_i hlt
        injection h with h; subst h
        simp only [Rep] at hr
        obtain ⟨b, k', k1, k2⟩ := hr
        exact Comes.pure hE (har rfl hie k1 hlt) (by simp only [Rep]; exact ⟨b, _, rfl, k2.drop _⟩)
      · cases h
    · cases h
  · rename_i es mk
    split at h
    · rename_i e esz by_ hsh
      obtain ⟨ie, rfl, hie, rfl, rfl⟩ := shOf_slice hsh
      simp only [Option.bind_eq_some_iff] at h
      obtain ⟨e', he', h⟩ := h
      split at h
      · rename_i hsz
        injection h with h; subst h
        simp only [Rep] at hr
        obtain ⟨ad, n, c, q1, q2, q3, q4, q5, q6, q7⟩ := hr
        have hjl : j < es.length := by
          rcases Nat.lt_or_ge j es.length with hh | hh
          · exact hh
          · rw [List.getElem?_eq_none hh] at he'; cases he'
        obtain ⟨sz, b, k', rfl, q9⟩ := q7 (by intro hh; subst hh; simp at hjl)
        obtain ⟨q10, q11⟩ := q9.get j e' he'
        have : sz = ie.size := by omega
        subst this
        exact Comes.pure hE (hsl rfl hie q1 (by omega)) (by simp only [Rep]; exact ⟨b, _, rfl, q11⟩)
      · cases h
    · cases h
  · rename_i i' ver
    split at h
    · rename_i e esz by_ sz es v' imm hsh hH
      obtain ⟨ie, rfl, hie, rfl, rfl⟩ := shOf_slice hsh
      split at h
      · rename_i hc
        obtain ⟨rfl, rfl, hlt⟩ := hc
        injection h with h; subst h
        simp only [Rep, hH] at hr
        obtain ⟨_, _, hr⟩ := hr
        have hr := hr trivial
        obtain ⟨a', n, c, q1, q2, q3, q4, q5, q6⟩ := hE.blk _ _ hH
        rcases q6 with ⟨q6, _⟩ | ⟨b, C, ty, q6, q7, q8, q9, q10, q11, q12⟩
        · omega
        · subst q7
          have hp : (⟨b, 0 + j * ie.size, none⟩ : Addr) = ⟨b, j * ie.size + 0, none⟩ := by simp
          exact Comes.pure hE (hsl rfl hie (hr.trans q1) (by omega)) (by simp only [Rep, hH]; exact ⟨⟨_, rfl⟩, Nat.le_refl _, fun _ => ⟨b, q6, by rw [hp]⟩⟩)
      · cases h
    · cases h
  · rename_i i' off n sz
    split at h
    · rename_i e esz by_ hsh
      obtain ⟨ie, rfl, hie, rfl, rfl⟩ := shOf_slice hsh
      split at h
      · rename_i hc
        obtain ⟨rfl, hlt⟩ := hc
        injection h with h; subst h
        simp only [Rep] at hr
        obtain ⟨b, c, q1, q2, q3⟩ := hr
        exact Comes.pure hE (hsl rfl hie q2 hlt) (by simp only [Rep]; exact ⟨b, q1, rfl⟩)
      · cases h
    · cases h

theorem ok_unOp {op : UnOp} {t : TypeId} {x : Operand} (ho : o.op = .unOp op t x) (hE : EOK G w0 M0 E) (hfr : RepL E fr a.tmps.toList)
    (h : (op = .not ∧ ∃ b, evalO G fr x = .val (.bool b) ∧ v = .bool (!b)) ∨ (op = .neg ∧ ∃ k n, evalO G fr x = .val (.int k n) ∧ v = .int k (k.wrap (0 - n)))) : Comes P G w0 M0 E a o v E.H := by
  have hr := evalO_sound hE hfr x
  rcases h with ⟨rfl, b, h, rfl⟩ | ⟨rfl, k, n, h, rfl⟩ <;> rw [h] at hr <;> simp only [Rep] at hr
  · exact Comes.pure hE (x := .bool (!b)) (by simp [execOp, ho, hr.1, Op.unary]) (by simp [Rep, Value.oneCell'])
  · exact Comes.pure hE (x := .int k (k.wrap (0 - n))) (by simp [execOp, ho, hr.1, Op.unary, Op.intArith]) (by simp [Rep, Value.oneCell'])

theorem ok_convert {s t : TypeId} {x : Operand} (ho : o.op = .convert s t x) (hE : EOK G w0 M0 E) (hfr : RepL E fr a.tmps.toList) {ds d : TD} (hs : tdOf P s = some ds) (ht : tdOf P t = some d) {j k k' : IntKind} {n : Int} (hsh : ds.sh = .int j) (hd : d.sh = .int k)
    (hx : evalO G fr x = .val (.int k' n)) : Comes P G w0 M0 E a o (.int k (k.wrap n)) E.H := by
  obtain ⟨i, dds, z, h1, h2, h3, h4, rfl⟩ := tdOf_some ht
  obtain ⟨i', dds', z', h1', h2', h3', h4', rfl⟩ := tdOf_some hs
  have hr := evalO_sound hE hfr x
  rw [hx] at hr; simp only [Rep] at hr
  have e1 : dds = .int k := by
    cases dds <;> simp only [shOf] at hd <;> try (first | (cases hd; done) | (split at hd <;> cases hd; done))
    injection hd with hd; rw [hd]
  have e2 : dds' = .int j := by
    cases dds' <;> simp only [shOf] at hsh <;> try (first | (cases hsh; done) | (split at hsh <;> cases hsh; done))
    injection hsh with hsh; rw [hsh]
  subst e1; subst e2
  refine Comes.pure hE (x := .int k (k.wrap n)) ?_ (by simp [Rep, Value.oneCell'])
  simp [execOp, ho, hr.1, convert, run_underlying h2, run_underlying h2', Conv.intToInt]

theorem ok_makeFunc {f : Fn} {first cap : Array Operand} (ho : o.op = .makeFunc f first cap) (hE : EOK G w0 M0 E) (hfr : RepL E fr a.tmps.toList) :
    Comes P G w0 M0 E a o (.fn f (first.toList.map (evalO G fr)) (cap.toList.map (evalO G fr))) E.H := by
  refine Comes.pure hE (x := .func f (first.map a.eval) (cap.map a.eval)) (by simp [execOp, ho, Instr.makeFunc]) ?_
  simp only [Rep]
  exact ⟨first.toList.map a.eval, cap.toList.map a.eval, by congr 1 <;> (apply Array.ext'; simp), evalL_sound hE hfr _, evalL_sound hE hfr _⟩

theorem ok_extract {x : Operand} {i : Nat} (ho : o.op = .extract x i) (hE : EOK G w0 M0 E) (hfr : RepL E fr a.tmps.toList) {vs : List V} (hx : evalO G fr x = .tup vs) (h : vs[i]? = some v) : Comes P G w0 M0 E a o v E.H := by
  have hr := evalO_sound hE hfr x
  rw [hx] at hr; simp only [Rep] at hr
  obtain ⟨xs, h1, h2⟩ := hr
  obtain ⟨y, h3, h4⟩ := h2.get i v h
  exact Comes.pure hE (x := y) (by simp [execOp, ho, h1, Instr.extract, h3]) h4

theorem goInt_rep (n : Int) : Rep E (.int .i64 n) (goInt n) := by simp [Rep, goInt, Value.oneCell']
theorem ok_len {t : TypeId} {x : Operand} {c : Call} (ho : o.op = .call c) (hc : c.callee = .builtin .len) (ha : c.args.toList = [x]) (ht : c.argTypes.toList = [t]) (hE : EOK G w0 M0 E) (hfr : RepL E fr a.tmps.toList)
    {e : TypeId} (hu : P.underlying t = some (.slice e)) {n : Nat} (h : ∃ ad cp, a.eval x = .slice ad n cp) : Comes P G w0 M0 E a o (.int .i64 n) E.H := by
  obtain ⟨ad, cp, h⟩ := h
  refine Comes.pure hE (x := goInt n) ?_ (goInt_rep _)
  have h1 : c.args = #[x] := by rw [← Array.toArray_toList (xs := c.args), ha]
  have h2 : c.argTypes = #[t] := by rw [← Array.toArray_toList (xs := c.argTypes), ht]
  simp [execOp, ho, resolve, hc, invoke, builtin, Builtin.len_, h1, h2, run_underlying hu, h]

theorem ok_binI {op : BinOp} {t yt : TypeId} {x y : Operand} (ho : o.op = .binOp op t x y yt) (hE : EOK G w0 M0 E) (hfr : RepL E fr a.tmps.toList) {k : IntKind} {m n : Int} (hx : evalO G fr x = .val (.int k m)) (hy : evalO G fr y = .val (.int k n))
    (h : binI op k m n = some v) : Comes P G w0 M0 E a o v E.H := by
  have hr := evalO_sound hE hfr x
  have hr2 := evalO_sound hE hfr y
  rw [hx] at hr; rw [hy] at hr2; simp only [Rep] at hr hr2
  have key : ∀ z : Value, v = .val z → z.oneCell' = true → (execOp a.eval o).run P E.w = .ok (.value z) E.w → Comes P G w0 M0 E a o v E.H := by
    rintro z rfl hz hrun
    exact Comes.pure hE hrun (by simp [Rep, hz])
  have hg : (eqGuard op t x y (.int k m) (.int k n)).run P E.w = .ok () E.w := by
    cases op <;> simp [eqGuard]
  cases op <;> simp only [binI, cmpI] at h <;> first
    | (injection h with h; subst h
       refine key _ rfl rfl ?_
       simp [execOp, ho, hr.1, hr2.1, hg, binOp, Op.intArith, Op.intCmp, Op.intBits]; done)
    | (split at h
       · cases h
       · injection h with h; subst h
         rename_i hne
         refine key _ rfl rfl ?_
         simp [execOp, ho, hr.1, hr2.1, hg, binOp, Op.intDiv, Op.shift, hne]; done)
    | (cases h; done)


theorem run_equal_bool {t : TypeId} (ht : P.underlying t = some .bool) (m n : Bool) (w : World) : (Op.equal t (.bool m) (.bool n)).run P w = .ok (m == n) w := by
  unfold Op.equal Op.maxDepth
  rw [show (10000 : Nat) = 9999 + 1 from rfl, Op.equalIn]
  rw [Sem.run_bind, run_underlying ht]
  rfl
theorem ok_binB {op : BinOp} {t yt : TypeId} {x y : Operand} (ho : o.op = .binOp op t x y yt) (hE : EOK G w0 M0 E) (hfr : RepL E fr a.tmps.toList) {m n : Bool} (hx : evalO G fr x = .val (.bool m)) (hy : evalO G fr y = .val (.bool n)) (ht : P.underlying t = some .bool)
    (h : (op = .eql ∧ v = .bool (m == n)) ∨ (op = .neq ∧ v = .bool (m != n))) : Comes P G w0 M0 E a o v E.H := by
  have hr := evalO_sound hE hfr x
  have hr2 := evalO_sound hE hfr y
  rw [hx] at hr; rw [hy] at hr2; simp only [Rep] at hr hr2
  have e1 : binOp .eql t (.bool m) (.bool n) = (do pure (.bool (← Op.equal t (.bool m) (.bool n)))) := rfl
  have e2 : binOp .neq t (.bool m) (.bool n) = (do pure (.bool (!(← Op.equal t (.bool m) (.bool n))))) := rfl
  have g1 : ∀ op, (eqGuard op t x y (.bool m) (.bool n)).run P E.w = .ok () E.w := by intro op; cases op <;> simp [eqGuard]
  have q := fun w => run_equal_bool ht m n w
  rcases h with ⟨rfl, rfl⟩ | ⟨rfl, rfl⟩
  · refine Comes.pure hE (x := .bool (m == n)) ?_ (by simp [Rep, Value.oneCell'])
    simp only [execOp, ho, hr.1, hr2.1, Sem.run_bind, g1, Result.andThen_ok, e1, q, Sem.run_pure]
  · refine Comes.pure hE (x := .bool (m != n)) ?_ (by simp [Rep, Value.oneCell'])
    simp only [execOp, ho, hr.1, hr2.1, Sem.run_bind, g1, Result.andThen_ok, e2, q, Sem.run_pure]
    rfl

theorem optN_sound (hE : EOK G w0 M0 E) (hfr : RepL E fr a.tmps.toList) {x : Option Operand} {r : Option Nat} (h : optN G fr x = some r) :
    (x = none ∧ r = none) ∨ ∃ y k n, x = some y ∧ r = some n ∧ a.eval y = .int k (n : Nat) := by
  cases x with
  | none => simp only [optN] at h; injection h with h; exact .inl ⟨rfl, h.symm⟩
  | some y =>
    have hr := evalO_sound hE hfr y
    simp only [optN] at h
    split at h
    · rename_i k m heq
      rw [heq] at hr; simp only [Rep] at hr
      simp only [Option.map_eq_some_iff] at h
      obtain ⟨n, h1, rfl⟩ := h
      exact .inr ⟨y, k, n, rfl, rfl, by rw [hr.1, (idxN_some h1).2.1]⟩
    · cases h

theorem run_sliceBound (k : IntKind) (n y : Nat) (c : BoundsCode) (h : n ≤ y) (w : World) : (Instr.sliceBound (.int k (n : Nat)) y c).run P w = .ok n w := by
  have : (0 : Int) ≤ (n : Int) ∧ (n : Int) ≤ (y : Int) := by omega
  simp [Instr.sliceBound, asIntOf, this]

theorem ok_slice {t : TypeId} {x : Operand} {lo hi mx : Option Operand} (ho : o.op = .slice t x lo hi mx) (hE : EOK G w0 M0 E) (hfr : RepL E fr a.tmps.toList) {d : TD} (ht : tdOf P t = some d) {e esz by_ : Nat} (hd : d.sh = .slice e esz by_)
    {l h m : Option Nat} (hl : optN G fr lo = some l) (hh : optN G fr hi = some h) (hm : optN G fr mx = some m) {es : List V} {mk : Mk} (hr : Rep E (.sl es mk) (a.eval x)) (hB : slcB es.length l h m = true) (hesz : ∀ e ∈ es, e.cells.length = esz) :
    Comes P G w0 M0 E a o (.sl ((es.take (h.getD es.length)).drop (l.getD 0)) (slcM es.length h m)) E.H := by
  obtain ⟨i, ds, z, h1, h2, h3, h4, rfl⟩ := tdOf_some ht
  obtain ⟨ie, rfl, hie, rfl, rfl⟩ := shOf_slice hd
  simp only [slcB, Bool.and_eq_true, Bool.or_eq_true, decide_eq_true_eq, Option.isNone_iff_eq_none] at hB
  obtain ⟨⟨⟨⟨c1, c2⟩, c3⟩, c4⟩, c5⟩ := hB
  have hmh : m = none ∨ h ≠ none := c5.elim .inl (fun hc => .inr (by intro h0; rw [h0] at hc; cases hc))
  have hmk : slcM es.length h m = .tight → m = some (h.getD es.length) := by
    intro hq
    unfold slcM at hq
    cases m with
    | none => simp at hq
    | some mm =>
      cases hb : ((some mm).isSome && (some mm == some (h.getD es.length))) with
      | true => simpa using hb
      | false => rw [hb] at hq; cases hq
  have hmn : slcM es.length h m ≠ .nil := by
    unfold slcM
    cases (m.isSome && (m == some (h.getD es.length))) <;> simp
  simp only [Rep] at hr
  obtain ⟨ad, n, c, q1, q2, q3, q4, q5, q6, q7⟩ := hr
  subst q2
  have hbounds : ∃ mm, (Instr.sliceBounds true es.length c (lo.map a.eval) (hi.map a.eval) (mx.map a.eval)).run P E.w = .ok (l.getD 0, h.getD es.length, mm) E.w ∧ h.getD es.length ≤ mm ∧ mm ≤ c ∧ (m = some (h.getD es.length) → mm = h.getD es.length) := by
    rcases optN_sound hE hfr hm with ⟨rfl, rfl⟩ | ⟨my, mk', mn, rfl, rfl, hme⟩
    · rcases optN_sound hE hfr hh with ⟨rfl, rfl⟩ | ⟨hy, hk, hn, rfl, rfl, hhe⟩
      · rcases optN_sound hE hfr hl with ⟨rfl, rfl⟩ | ⟨ly, lk, ln, rfl, rfl, hle⟩
        · simp only [Option.getD_none] at *
          exact ⟨c, by simp [Instr.sliceBounds], by omega, by omega, by simp⟩
        · simp only [Option.getD_none, Option.getD_some] at *
          exact ⟨c, by simp [Instr.sliceBounds, hle, run_sliceBound _ _ _ _ c1], by omega, by omega, by simp⟩
      · rcases optN_sound hE hfr hl with ⟨rfl, rfl⟩ | ⟨ly, lk, ln, rfl, rfl, hle⟩
        · simp only [Option.getD_none, Option.getD_some] at *
          exact ⟨c, by simp [Instr.sliceBounds, hhe, run_sliceBound (P := P) _ hn c _ (by omega)], by omega, by omega, by simp⟩
        · simp only [Option.getD_none, Option.getD_some] at *
          exact ⟨c, by simp [Instr.sliceBounds, hhe, hle, run_sliceBound (P := P) _ hn c _ (by omega), run_sliceBound (P := P) _ ln hn _ (by omega)], by omega, by omega, by simp⟩
    · rcases optN_sound hE hfr hh with ⟨rfl, rfl⟩ | ⟨hy, hk, hn, rfl, rfl, hhe⟩
      · simp at hmh
      · rcases optN_sound hE hfr hl with ⟨rfl, rfl⟩ | ⟨ly, lk, ln, rfl, rfl, hle⟩
        · simp only [Option.getD_none, Option.getD_some] at *
          exact ⟨mn, by simp [Instr.sliceBounds, hhe, hme, run_sliceBound (P := P) _ mn c _ (by omega), run_sliceBound (P := P) _ hn mn _ (by omega)], by omega, by omega, by simp⟩
        · simp only [Option.getD_none, Option.getD_some] at *
          exact ⟨mn, by simp [Instr.sliceBounds, hhe, hme, hle, run_sliceBound (P := P) _ mn c _ (by omega), run_sliceBound (P := P) _ hn mn _ (by omega), run_sliceBound (P := P) _ ln hn _ (by omega)], by omega, by omega, by simp⟩
  obtain ⟨mm, hb, m1, m2, m3⟩ := hbounds
  refine Comes.pure hE (x := .slice (if mm = l.getD 0 then ad else ad.map (·.add (l.getD 0 * ie.size))) (h.getD es.length - l.getD 0) (mm - l.getD 0)) ?_ ?_
  · have : (sizeOf e).run P E.w = .ok ie.size E.w := by simp [sizeOf, typeInfo, hie]
    simp [execOp, ho, q1, Instr.sliceAt, run_underlying h2, Instr.slice, hb, this]
  · simp only [Rep]
    refine ⟨_, _, _, rfl, by simp; omega, by omega, by omega, ?_, ?_, fun hne => ?_⟩
    · intro hq; exact absurd hq hmn
    · intro hq; have := m3 (hmk hq); omega
    · have hlt : l.getD 0 < h.getD es.length := by
        rcases Nat.lt_or_ge (l.getD 0) (h.getD es.length) with k | k
        · exact k
        · exfalso; apply hne; apply List.eq_nil_of_length_eq_zero; simp; omega
      have hes : es ≠ [] := by rintro rfl; simp only [List.length_nil] at *; omega
      obtain ⟨sz, b, k, rfl, q9⟩ := q7 hes
      have hsz : sz = ie.size := by
        obtain ⟨u, us, rfl⟩ := List.exists_cons_of_ne_nil hes
        have := (q9.get 0 u (by simp)).1
        have := hesz u (by simp)
        omega
      subst hsz
      rw [if_neg (by omega)]
      refine ⟨ie.size, b, k + l.getD 0 * ie.size, by simp [Addr.add_none], ?_⟩
      exact (q9.take _).drop _ (by simp; omega)
end
end Go.Ab
