/- The abstract machine: the code, run. -/
import Derived.Test.YtjohhgopnpoboaaAbEffAll
set_option linter.unusedVariables false
set_option linter.unusedSimpArgs false
namespace Go.Ab
open Go Go.RowKit

def resultsA (rs : List ResultVar) (tmps : Array Value) : Sem Value := results { (default : Func) with results := rs.toArray } tmps
theorem results_eq (fn : Func) (tmps : Array Value) : results fn tmps = resultsA fn.results.toList tmps := by
  simp [resultsA, results]

/-- What is still to be done, as a post: what holds at the end of what went before. -/
def post (P : Program) (R : Value → World → Prop) : List It → List Act → Exit → Act → World → Prop
  | [], _, _, _, _ => False
  | .code c :: k, sa, e, a, w => match e with
    | .normal => c.wp P (post P R k sa) a w
    | e => post P R k sa e a w
  | .ops all l :: k, sa, e, a, w => match e with
    | .normal => wpList P all.toArray (post P R k sa) l a w
    | e => post P R k sa e a w
  | .blk id :: k, sa, e, a, w => match e with
    | .exit id' => if id' = id then post P R k sa .normal a w else post P R k sa (.exit id') a w
    | e => post P R k sa e a w
  | .ret rs dst :: k, sa, e, a, w => match e with
    | .normal | .ret => a.defers = [] ∧ ∃ v, (resultsA rs a.tmps).run P w = .ok v w ∧ ∃ a0 sa', sa = a0 :: sa' ∧ post P R k sa' .normal (a0.put dst v) w
    | _ => False
  | .inv J :: k, sa, e, a, w => match e with
    | .normal => J sa a w
    | e => post P R k sa e a w
  | .fin rs :: _, _, e, a, w => match e with
    | .normal | .ret => a.defers = [] ∧ ∃ v, (resultsA rs a.tmps).run P w = .ok v w ∧ R v w
    | _ => False

def RepStack (E : Env) : List (List V) → List Act → Prop
  | [], sa => sa = []
  | f :: st, sa => ∃ a sa', sa = a :: sa' ∧ RepL E f a.tmps.toList ∧ a.defers = [] ∧ RepStack E st sa'
theorem RepStack.mono {E E' : Env} (h : E.le E') : ∀ {st : List (List V)} {sa : List Act}, RepStack E st sa → RepStack E' st sa
  | [], sa, k => k
  | f :: st, sa, ⟨a, sa', h1, h2, h3, h4⟩ => ⟨a, sa', h1, RepL.mono _ h h2, h3, RepStack.mono h h4⟩

/-- Whose call it is: the program, what its variables hold, the world in which it began, and what is to hold in the end. -/
structure Ctx where
  P : Program
  G : Glob
  w0 : World
  M0 : Nat → Nat → Prop
  R : Value → World → Prop

structure RelE (X : Ctx) (fr : List V) (st : List (List V)) (sa : List Act) (a : Act) (E : Env) : Prop where
  ok : EOK X.G X.w0 X.M0 E
  fr : RepL E fr a.tmps.toList
  df : a.defers = []
  st : RepStack E st sa

def RUN (X : Ctx) (c : Cfg) : Prop := ∀ sa a E, E.H = c.H → RelE X c.fr c.st sa a E → post X.P X.R c.k sa .normal a E.w

theorem RelE.put {X : Ctx} {fr : List V} {st : List (List V)} {sa : List Act} {a : Act} {E E' : Env} (h : RelE X fr st sa a E) (hle : E.le E') (hE : EOK X.G X.w0 X.M0 E') {v : V} {x : Value} (hv : Rep E' v x) (d : Option Tmp) :
    RelE X (putV fr d v) st sa (a.put d x) E' := by
  refine ⟨hE, ?_, ?_, h.st.mono hle⟩
  · have := RepL.mono _ hle h.fr
    cases d with
    | none => exact this
    | some d => simpa [putV, Act.put, Array.toList_setIfInBounds] using this.set d hv
  · cases d <;> simpa [Act.put] using h.df

theorem guardV_sound {X : Ctx} {fr : List V} {a : Act} {E : Env} (hfr : RepL E fr a.tmps.toList) {all : List Oper} {o : Oper} {g : Bool} (h : guardV all fr o = some g) : Region.wanted o (yielded all.toArray a.tmps) = g := by
  unfold guardV at h
  unfold Region.wanted
  cases hg : o.guard with
  | none => rw [hg] at h; injection h
  | some jw =>
    obtain ⟨j, want⟩ := jw
    rw [hg] at h
    simp only at h
    simp only [yielded, List.getElem?_toArray]
    cases hd : (all[j]?).bind (·.dst) with
    | none =>
      rw [hd] at h
      have : g = false := by simpa using h.symm
      subst this; cases want <;> rfl
    | some t =>
      rw [hd] at h
      simp only at h
      simp only [Option.bind_some]
      have hr := hfr.getD t
      rw [List.getD_eq_getElem?_getD, List.getD_eq_getElem?_getD] at hr
      rw [List.getD_eq_getElem?_getD] at h
      have hl := hfr.length
      split at h
      · rename_i b heq
        rw [heq] at hr
        simp only [Rep] at hr
        injection h with h; subst h
        have : a.tmps[t]? = some (.bool b) := by
          cases hq : a.tmps.toList[t]? with
          | none => rw [hq] at hr; simp [undef] at hr
          | some x => rw [hq] at hr; simp at hr; rw [Array.getElem?_toList] at hq; rw [hq, hr.1]
        rw [this]; cases b <;> cases want <;> first | rfl | simp
      · rename_i vs heq
        rw [heq] at hr
        simp only [Rep] at hr
        injection h with h; subst h
        obtain ⟨xs, hx, _⟩ := hr
        have : ∀ b, a.tmps[t]? ≠ some (.bool b) := by
          intro b hb
          rw [← Array.getElem?_toList] at hb
          rw [hb] at hx; simp at hx
        cases hq : a.tmps[t]? with
        | none => cases want <;> rfl
        | some x =>
          cases x <;> first | (cases want <;> rfl) | exact absurd hq (this _)
      · cases h

theorem post_ret {P : Program} {R : Value → World → Prop} : ∀ {k : List It} {sa : List Act} {a : Act} {w : World}, post P R (toRet k) sa .normal a w → post P R k sa .ret a w
  | [], sa, a, w, h => h
  | .code c :: k, sa, a, w, h => by simp only [post]; exact post_ret (by simpa only [toRet] using h)
  | .ops all l :: k, sa, a, w, h => by simp only [post]; exact post_ret (by simpa only [toRet] using h)
  | .blk id :: k, sa, a, w, h => by simp only [post]; exact post_ret (by simpa only [toRet] using h)
  | .inv J :: k, sa, a, w, h => by simp only [post]; exact post_ret (by simpa only [toRet] using h)
  | .ret rs d :: k, sa, a, w, h => by simpa only [toRet, post] using h
  | .fin rs :: k, sa, a, w, h => by simpa only [toRet, post] using h
theorem post_exit {P : Program} {R : Value → World → Prop} {id : Nat} : ∀ {k k' : List It} {sa : List Act} {a : Act} {w : World}, toBlk id k = some k' → post P R k' sa .normal a w → post P R k sa (.exit id) a w
  | [], k', sa, a, w, h, _ => by simp [toBlk] at h
  | .code c :: k, k', sa, a, w, h, hp => by simp only [post]; exact post_exit (by simpa only [toBlk] using h) hp
  | .ops all l :: k, k', sa, a, w, h, hp => by simp only [post]; exact post_exit (by simpa only [toBlk] using h) hp
  | .inv J :: k, k', sa, a, w, h, hp => by simp only [post]; exact post_exit (by simpa only [toBlk] using h) hp
  | .blk j :: k, k', sa, a, w, h, hp => by
    simp only [toBlk] at h
    simp only [post]
    split at h
    · rename_i hj; injection h with h; subst h; rw [if_pos hj.symm]; exact hp
    · rename_i hj; rw [if_neg (fun e => hj e.symm)]; exact post_exit h hp
  | .ret rs d :: k, k', sa, a, w, h, _ => by simp [toBlk] at h
  | .fin rs :: k, k', sa, a, w, h, _ => by simp [toBlk] at h

theorem then_post {P : Program} {R : Value → World → Prop} {k : List It} {sa : List Act} {y : Code} : Exit.then (y.wp P (post P R k sa)) (post P R k sa) = post P R (.code y :: k) sa := by
  funext e a w
  cases e <;> simp [Exit.then, post]
theorem inBlock_post {P : Program} {R : Value → World → Prop} {k : List It} {sa : List Act} {id : Nat} : Exit.inBlock id (post P R k sa) = post P R (.blk id :: k) sa := by
  funext e a w
  cases e <;> simp [Exit.inBlock, post]

theorem resOne_sound {P : Program} {G : Glob} {w0 : World} {M0 : Nat → Nat → Prop} {fr : List V} {a : Act} {E : Env} (hE : EOK G w0 M0 E) (hfr : RepL E fr a.tmps.toList) {r : ResultVar} {v : V} (h : resOne P fr E.H r = some v) :
    ∃ x, (match r with | .tmp t => (Pure.pure (a.tmps.getD t undef) : Sem Value) | .cell p t => do loadVar t (← asAddr (a.tmps.getD p undef))).run P E.w = .ok x E.w ∧ Rep E v x := by
  have hg : ∀ t, Rep E (fr.getD t undefV) (a.tmps.getD t undef) := fun t => by
    have := hfr.getD t
    simpa [List.getD_eq_getElem?_getD, Array.getD_eq_getD_getElem?] using this
  cases r with
  | tmp t =>
    simp only [resOne] at h
    injection h with h; subst h
    exact ⟨_, rfl, hg t⟩
  | cell p t =>
    simp only [resOne, Option.bind_eq_some_iff] at h
    obtain ⟨d, hd, hl⟩ := h
    obtain ⟨b, o, y, h1, h2, h3⟩ := loadV_sound hE hd (hg p) hl
    refine ⟨y, ?_, h3⟩
    simp only [h1, asAddr, Sem.run_bind, Sem.run_pure, Result.andThen_ok, h2]
theorem resL_sound {P : Program} {G : Glob} {w0 : World} {M0 : Nat → Nat → Prop} {fr : List V} {a : Act} {E : Env} (hE : EOK G w0 M0 E) (hfr : RepL E fr a.tmps.toList) : ∀ {rs : List ResultVar} {vs : List V}, resL P fr E.H rs = some vs →
    ∃ xs, (rs.mapM fun (r : ResultVar) => (match r with | .tmp t => (Pure.pure (a.tmps.getD t undef) : Sem Value) | .cell p t => do loadVar t (← asAddr (a.tmps.getD p undef)))).run P E.w = .ok xs E.w ∧ RepL E vs xs
  | [], vs, h => by simp only [resL] at h; injection h with h; subst h; exact ⟨[], by simp, RepL.nil E⟩
  | r :: rs, vs, h => by
    simp only [resL, Option.bind_eq_some_iff, Option.map_eq_some_iff] at h
    obtain ⟨v, h1, ws, h2, rfl⟩ := h
    obtain ⟨x, h3, h4⟩ := resOne_sound hE hfr h1
    obtain ⟨xs, h5, h6⟩ := resL_sound hE hfr h2
    refine ⟨x :: xs, ?_, RepL.cons h4 h6⟩
    rw [List.mapM_cons]
    simp only [Sem.run_bind, h3, h5, Result.andThen_ok, Sem.run_pure]
theorem results_sound {P : Program} {G : Glob} {w0 : World} {M0 : Nat → Nat → Prop} {fr : List V} {a : Act} {E : Env} (hE : EOK G w0 M0 E) (hfr : RepL E fr a.tmps.toList) {rs : List ResultVar} {vs : List V} (h : resL P fr E.H rs = some vs) :
    ∃ x, (resultsA rs a.tmps).run P E.w = .ok x E.w ∧ Rep E (resV vs) x := by
  obtain ⟨xs, h1, h2⟩ := resL_sound hE hfr h
  have hl := h2.length
  refine ⟨if h : xs.toArray.size = 1 then xs.toArray[0] else .tuple xs.toArray, ?_, ?_⟩
  · have e : (rs.toArray.mapM fun (r : ResultVar) => (match r with | .tmp t => (Pure.pure (a.tmps.getD t undef) : Sem Value) | .cell p t => do loadVar t (← asAddr (a.tmps.getD p undef)))) =
        List.toArray <$> (rs.mapM fun (r : ResultVar) => (match r with | .tmp t => (Pure.pure (a.tmps.getD t undef) : Sem Value) | .cell p t => do loadVar t (← asAddr (a.tmps.getD p undef)))) := by
      rw [List.mapM_toArray]
    simp only [resultsA, results]
    rw [Sem.run_bind]
    have e2 := congrArg (fun s => s.run P E.w) e
    simp only [Sem.run_map, h1, Result.andThen_ok] at e2
    refine (congrArg (fun r => Result.andThen r _) e2).trans ?_
    simp
  · match vs, xs, h2, hl with
    | [], [], h2, _ => simp only [resV, Rep]; exact ⟨[], by simp, RepL.nil E⟩
    | [v], [x], h2, _ => simpa [resV] using (RepL.cons_iff.1 h2).1
    | v :: v' :: vs, x :: x' :: xs, h2, _ => simp only [resV, Rep]; exact ⟨_, by simp, h2⟩

theorem step_sound {X : Ctx} {c c' : Cfg} (h : step X.P X.G c = some c') (hr : RUN X c') : RUN X c := by
  intro sa a E hH hR
  obtain ⟨k, fr, st, H⟩ := c
  simp only at hH hR
  subst hH
  cases k with
  | nil => simp [step] at h
  | cons it k =>
    cases it with
    | code cd =>
      simp only [step] at h
      simp only [post]
      cases cd <;> (try simp only at h) <;> try (cases h; done)
      case skip => injection h with h; subst h; exact wp_skip (hr sa a E rfl hR)
      case region id ops draw =>
        cases draw
        · injection h with h; subst h
          exact wp_region_list (by simpa [post] using hr sa a E rfl hR)
        · cases h
      case seq x y =>
        injection h with h; subst h
        refine wp_seq ?_
        rw [then_post]
        exact hr sa a E rfl hR
      case cond cc x y =>
        split at h
        · rename_i t ht
          injection h with h; subst h
          have hc := evalO_sound hR.ok hR.fr cc
          rw [ht] at hc; simp only [Rep] at hc
          refine wp_cond hc.1 ?_
          have := hr sa a E rfl hR
          cases t <;> exact this
        · cases h
      case block id b =>
        injection h with h; subst h
        refine wp_block ?_
        rw [inBlock_post]
        exact hr sa a E rfl hR
      case exit id =>
        simp only [Option.map_eq_some_iff] at h
        obtain ⟨k', h1, rfl⟩ := h
        exact wp_exit (post_exit h1 (hr sa a E rfl hR))
      case ret => injection h with h; subst h; exact wp_ret (post_ret (hr sa a E rfl hR))
    | ops all l =>
      cases l with
      | nil => simp only [step] at h; injection h with h; subst h; exact hr sa a E rfl hR
      | cons o l =>
        simp only [step, opStep] at h
        simp only [post]
        split at h
        · rename_i hgn
          simp only [Option.map_eq_some_iff] at h
          obtain ⟨⟨v, u⟩, he, rfl⟩ := h
          have hw : Region.wanted o (yielded all.toArray a.tmps) = true := by simp [Region.wanted, hgn]
          have hA : After E.H E.H.length u (applyU E.H u) := by
            unfold After applyU
            cases u.new with
            | none => rfl
            | some b =>
              have hl : ∀ (s : List (Nat × AB)) (H : List AB), (setH H s).length = H.length := by
                intro s
                induction s with
                | nil => intro H; rfl
                | cons p s ih => intro H; obtain ⟨i, b⟩ := p; simp [setH, ih]
              have := NewAt.push (setH E.H u.sets) b
              rwa [hl] at this
          obtain ⟨x, E', h1, h2, h3, h4, h5⟩ := eff_sound (o := o) hR.ok hR.fr he hA
          have hn := hr sa (a.put o.dst x) E' h2 (hR.put h3 h4 h5 o.dst)
          unfold wpList
          rw [if_pos hw]
          refine .inl ?_
          unfold Oper.wp
          rcases h1 with h1 | ⟨h1, rfl⟩ <;> rw [h1]
          · exact hn
          · exact hn
        · rename_i jw hgs
          split at h
          · rename_i hg
            injection h with h; subst h
            have hw := guardV_sound (X := X) hR.fr hg
            have hn := hr sa a E rfl hR
            simp only [post] at hn
            unfold wpList at hn ⊢
            rw [if_pos hw]
            rw [if_pos (by simp [Region.wanted])] at hn
            have e : execOp a.eval { o with guard := none } = execOp a.eval o := rfl
            rcases hn with hn | ⟨hn, hl⟩
            · refine .inl ?_
              unfold Oper.wp at hn ⊢
              rw [e] at hn
              exact hn
            · exact .inr ⟨hn, hl⟩
          · rename_i hg
            injection h with h; subst h
            have hw := guardV_sound (X := X) hR.fr hg
            unfold wpList
            rw [if_neg (by rw [hw]; simp)]
            exact hr sa (a.put o.dst undef) E rfl (hR.put (Env.le.refl E) hR.ok (Rep.undef E) o.dst)
          · cases h
    | blk id => simp only [step] at h; injection h with h; subst h; exact hr sa a E rfl hR
    | ret rs dst =>
      cases st with
      | nil => simp [step] at h
      | cons f st =>
        simp only [step, Option.map_eq_some_iff] at h
        obtain ⟨vs, h1, rfl⟩ := h
        simp only [post]
        obtain ⟨x, h2, h3⟩ := results_sound hR.ok hR.fr h1
        have hs : RepStack E (f :: st) sa := hR.st
        obtain ⟨a0, sa', rfl, h4, h5, h6⟩ := hs
        refine ⟨hR.df, x, h2, a0, sa', rfl, ?_⟩
        exact hr sa' (a0.put dst x) E rfl (RelE.put ⟨hR.ok, h4, h5, h6⟩ (Env.le.refl E) hR.ok h3 dst)
    | fin rs => cases (show (none : Option Cfg) = some c' from h)
    | inv J => cases (show (none : Option Cfg) = some c' from h)
end Go.Ab
