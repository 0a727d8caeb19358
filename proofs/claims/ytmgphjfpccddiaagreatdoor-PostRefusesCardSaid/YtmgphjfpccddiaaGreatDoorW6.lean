/- The abstract machine: a range over a function. -/
import Derived.Test.YtmgphjfpccddiaaGreatDoorW5
import Derived.RangeFuncIn
import Derived.RangeFuncRecord
import Derived.Test.YtmgphjfpccddiaaGreatDoorProg
import Derived.Shelf.Spec.SlicesGrow
set_option linter.unusedVariables false
set_option linter.unusedSimpArgs false
namespace Go.Ab
open Go Go.RowKit

theorem Oper.wpIn_monoQ {F : Fence} {n : Nat} {P : Program} {o : Oper} {a : Act} {w : World} {K K' : Act → World → Prop} {Q Q' : Exit → Act → World → Prop} (h : ∀ a w, K a w → K' a w) (hq : ∀ e a w, Q e a w → Q' e a w)
    (hh : o.wpIn F n P a w K Q) : o.wpIn F n P a w K' Q' := by
  have hl : LetsOut Q → LetsOut Q' := fun ⟨a, w, x⟩ => ⟨a, w, hq _ _ _ x⟩
  unfold Oper.wpIn at *
  refine ⟨hh.1, ?_⟩
  have hh := hh.2
  generalize (o.semAt F.round a.eval).run P w = r at *
  cases r with
  | ok x w' =>
    cases x <;> simp only [Oper.uponIn] at hh ⊢ <;>
      first
        | exact h _ _ hh
        | exact ⟨hh.1, CallsIn.mono hh.2 (fun e w'' he => by cases e <;> first | exact h _ _ he | exact hq _ _ _ he | exact hl he)⟩
        | exact ⟨hh.1, RowsIn.mono hh.2 (fun _ _ he => h _ _ he)⟩
        | exact ⟨hh.1, RoundIn.mono hh.2 (fun e w'' he => by cases e <;> first | exact h _ _ he | exact hq _ _ _ he | exact hl he)⟩
  | halt x w' => cases x <;> simp only [Oper.uponIn] at hh ⊢ <;> first | exact hh | exact hq _ _ _ hh
theorem wpListIn_monoQ {F : Fence} {n : Nat} {P : Program} {ops : Array Oper} {Q Q' : Exit → Act → World → Prop} (hq : ∀ e a w, Q e a w → Q' e a w) : ∀ {l : List Oper} {a : Act} {w : World}, wpListIn F n P ops Q l a w → wpListIn F n P ops Q' l a w
  | [], a, w, h => hq _ _ _ h
  | o :: l, a, w, h => by
    unfold wpListIn at h ⊢
    split
    · rename_i hw; rw [if_pos hw] at h; exact Oper.wpIn_monoQ (fun a w => wpListIn_monoQ hq) hq h
    · rename_i hw; rw [if_neg hw] at h; exact ⟨h.1, wpListIn_monoQ hq h.2⟩

def addMk (D : Nat) : List It → List It
  | [] => []
  | .fin rs :: k => .mk D :: .fin rs :: k
  | .code c :: k => .code c :: addMk D k
  | .ops all l :: k => .ops all l :: addMk D k
  | .blk id :: k => .blk id :: addMk D k
  | k => k
/-- nothing but code ahead of the end -/
def okMk : List It → Bool
  | .fin _ :: _ => true
  | .code _ :: k => okMk k
  | .ops _ _ :: k => okMk k
  | .blk _ :: k => okMk k
  | _ => false
theorem rd_addMk {D : Nat} : ∀ {k : List It}, okMk k = true → rd (addMk D k) = none ∧ rd k = none
  | [], h => by simp [okMk] at h
  | .fin _ :: _, _ => ⟨rfl, rfl⟩
  | .code _ :: k, h => by simpa only [addMk, rd] using rd_addMk (k := k) (by simpa only [okMk] using h)
  | .ops _ _ :: k, h => by simpa only [addMk, rd] using rd_addMk (k := k) (by simpa only [okMk] using h)
  | .blk _ :: k, h => by simpa only [addMk, rd] using rd_addMk (k := k) (by simpa only [okMk] using h)
  | .ret _ _ :: _, h => by simp [okMk] at h
  | .inv _ :: _, h => by simp [okMk] at h
  | .mk _ :: _, h => by simp [okMk] at h
  | .beg _ :: _, h => by simp [okMk] at h
  | .rnd _ _ :: _, h => by simp [okMk] at h
  | .rndj _ _ _ :: _, h => by simp [okMk] at h
  | .erf _ :: _, h => by simp [okMk] at h
theorem post_addMk {P : Program} {R : Value → World → Prop} {D : Nat} : ∀ {k : List It}, okMk k = true → ∀ {sa : List Act} {e : Exit} {a : Act} {w : World}, post P R (addMk D k) sa e a w → post P R k sa e a w
  | [], h, _, _, _, _, _ => by simp [okMk] at h
  | .fin rs :: k, _, sa, e, a, w, h => by
    simp only [addMk, post] at h ⊢
    cases e <;> simp only at h ⊢ <;> try exact h
    all_goals
      obtain ⟨ds, w', h1, h2, h3⟩ := h
      rw [h1]
      exact ⟨D, w', rfl, h2, h3⟩
  | .code c :: k, h, sa, e, a, w, hp => by
    simp only [okMk] at h
    simp only [addMk, post] at hp ⊢
    cases e <;> simp only at hp ⊢ <;> try exact post_addMk h hp
    rw [(rd_addMk (D := D) h).1] at hp
    rw [(rd_addMk (D := D) h).2]
    exact wpIn_mono hp fun e a w q => post_addMk h q
  | .ops all l :: k, h, sa, e, a, w, hp => by
    simp only [okMk] at h
    simp only [addMk, post] at hp ⊢
    cases e <;> simp only at hp ⊢ <;> try exact post_addMk h hp
    rw [(rd_addMk (D := D) h).1] at hp
    rw [(rd_addMk (D := D) h).2]
    exact wpListIn_monoQ (fun e a w q => post_addMk h q) hp
  | .blk id :: k, h, sa, e, a, w, hp => by
    simp only [okMk] at h
    simp only [addMk, post] at hp ⊢
    cases e <;> simp only at hp ⊢ <;> try exact post_addMk h hp
    split
    · rename_i hi; rw [if_pos hi] at hp; exact post_addMk h hp
    · rename_i hi; rw [if_neg hi] at hp; exact post_addMk h hp
  | .ret _ _ :: _, h, _, _, _, _, _ => by simp [okMk] at h
  | .inv _ :: _, h, _, _, _, _, _ => by simp [okMk] at h
  | .mk _ :: _, h, _, _, _, _, _ => by simp [okMk] at h
  | .beg _ :: _, h, _, _, _, _, _ => by simp [okMk] at h
  | .rnd _ _ :: _, h, _, _, _, _, _ => by simp [okMk] at h
  | .rndj _ _ _ :: _, h, _, _, _, _, _ => by simp [okMk] at h
  | .erf _ :: _, h, _, _, _, _, _ => by simp [okMk] at h
theorem DF_addMk {D : Nat} : ∀ {k : List It}, okMk k = true → ∀ {ds : List Deferred} {sa : List Act}, DF k ds sa → DF (addMk D k) (mkD D :: ds) sa
  | [], h, _, _, _ => by simp [okMk] at h
  | .fin rs :: k, _, ds, sa, h => by simp only [addMk, DF] at h ⊢; exact ⟨ds, rfl, h⟩
  | .code c :: k, h, ds, sa, hp => by simp only [addMk, DF] at hp ⊢; exact DF_addMk (by simpa only [okMk] using h) hp
  | .ops all l :: k, h, ds, sa, hp => by simp only [addMk, DF] at hp ⊢; exact DF_addMk (by simpa only [okMk] using h) hp
  | .blk id :: k, h, ds, sa, hp => by simp only [addMk, DF] at hp ⊢; exact DF_addMk (by simpa only [okMk] using h) hp
  | .ret _ _ :: _, h, _, _, _ => by simp [okMk] at h
  | .inv _ :: _, h, _, _, _ => by simp [okMk] at h
  | .mk _ :: _, h, _, _, _ => by simp [okMk] at h
  | .beg _ :: _, h, _, _, _ => by simp [okMk] at h
  | .rnd _ _ :: _, h, _, _, _ => by simp [okMk] at h
  | .rndj _ _ _ :: _, h, _, _, _ => by simp [okMk] at h
  | .erf _ :: _, h, _, _, _ => by simp [okMk] at h

theorem RepL.undefs (E : Env) : ∀ m, RepL E (List.replicate m undefV) (List.replicate m undef)
  | 0 => RepL.nil E
  | m + 1 => RepL.cons (Rep.undef E) (RepL.undefs E m)

/-- The loop's record and the block for its rounds' deferred calls, laid. -/
theorem EOK.enter {G : Glob} {w0 : World} {M0 : Nat → Nat → Prop} {E : Env} (h : EOK G w0 M0 E) (fn : FuncId) {tmps : Array Value} {ps : List Tmp} {asg body : Code} {fr : List V} (hfr : RepL E fr tmps.toList) :
    ∃ E', E'.w = (E.w.alloc (.deferred (some []))).alloc (.loop { state := .ready, pending := none, fn, tmps, params := ps.toArray, assign := asg, body, defers := E.w.heap.size }) ∧
      E'.H = E.H ++ [.dfr E.w.heap.size, .lp (E.w.heap.size + 1) .ready none fr ps asg body] ∧ EOK G w0 M0 E' ∧ E.le E' := by
  obtain ⟨h1, l1⟩ := h.allocOwn (.deferred (some [])) (NewAt.push E.H (.dfr E.w.heap.size)) (.bool false) (fun _ => False) (by simp) (fun _ => by
    refine ⟨by simp [Env.allocOwn], ?_⟩
    show (E.w.alloc _).heap[_]? = _
    exact World.alloc_heap_new _ _)
  obtain ⟨h2, l2⟩ := h1.allocOwn (.loop { state := .ready, pending := none, fn, tmps, params := ps.toArray, assign := asg, body, defers := E.w.heap.size }) (NewAt.push _ (.lp (E.w.heap.size + 1) .ready none fr ps asg body)) (.bool false) (fun _ => False) (by simp) (fun l => by
    refine ⟨fn, tmps, E.w.heap.size, by simp [Env.allocOwn], ?_, RepL.mono _ (l1.trans l) hfr⟩
    show (World.alloc (Env.allocOwn ..).w _).heap[_]? = _
    have := World.alloc_heap_new (E.allocOwn (.deferred (some [])) E.H.length (E.H ++ [AB.dfr E.w.heap.size]) (.bool false) (fun _ => False)).w (.loop { state := .ready, pending := none, fn, tmps, params := ps.toArray, assign := asg, body, defers := E.w.heap.size })
    rwa [show (E.allocOwn (.deferred (some [])) E.H.length (E.H ++ [AB.dfr E.w.heap.size]) (.bool false) (fun _ => False)).w.heap.size = E.w.heap.size + 1 by simp [Env.allocOwn]] at this)
  exact ⟨_, rfl, by simp [Env.allocOwn], h2, l1.trans l2⟩

abbrev yieldV (l : Nat) : V := .val (.func (.yield l) #[] #[])
theorem RUN_rangeFunc {X : Ctx} {g : Operand} {ps : List Tmp} {asg body : Code} {k : List It} {fr : List V} {H : List AB} {n : FuncId} {first cap : List V} {fn : Func} {gbody : Code}
    (hf : evalO X.G fr g = .fn (.func n) first cap) (hn : callB X.P n = true) (hfn : X.P.funcs[n]? = some fn) (hb : fn.body = some gbody) (hk : okMk k = true)
    (h : ∀ D l, RUN X ⟨.code gbody :: .ret fn.results.toList none :: .erf l :: addMk D k, (first ++ [yieldV l] ++ cap) ++ List.replicate (fn.ntmps - (first ++ [yieldV l] ++ cap).length) undefV, [fr], H ++ [.dfr D, .lp l .ready none fr ps asg body]⟩) :
    RUN X ⟨.code (.rangeFunc g ps.toArray asg body) :: k, fr, [], H⟩ := by
  intro sa a E hH hR hD
  simp only at hH hR hD
  simp only [DF] at hD
  simp only [post]
  have hsa : sa = [] := hR.st
  subst hsa
  rw [(rd_addMk (D := 0) hk).2]
  have hg := evalO_sound hR.ok hR.fr g
  rw [hf] at hg; simp only [Rep] at hg
  obtain ⟨xs, ys, hfv, h1, h2⟩ := hg
  refine wpIn_rangeFunc fun fn0 _ => ?_
  obtain ⟨E', e1, e2, e3, e4⟩ := hR.ok.enter fn0 (ps := ps) (asg := asg) (body := body) hR.fr
  rw [hH] at e2
  have hn' := hn
  unfold callB at hn'
  rw [hfn] at hn'
  simp only [Bool.and_eq_true, Bool.not_eq_true'] at hn'
  have hbn : fn.body.isNone = false := by simp [hb]
  refine ⟨E.w.heap.size + 1, [mkD E.w.heap.size], E'.w, ⟨.fn (.func n) ys.toArray, (xs ++ [(Value.func (.yield (E.w.heap.size + 1)) #[] #[])]).toArray⟩, E'.w, n, (xs ++ [(Value.func (.yield (E.w.heap.size + 1)) #[] #[])] ++ ys).toArray, E'.w, ?_, ?_, fun _ _ => trivial, ?_, ?_, ?_⟩
  · rw [e1]; exact run_enterLoop_outer _ _ _ _ _
  · simp only [resolve, rangeCall, hfv, Deferred.ofValue, Sem.run_bind, Sem.run_pure, Result.andThen_ok]
    simp [Act.eval]
  · simp only [invoke, callFunc, Sem.run_bind, run_program, Result.andThen_ok, hfn, hn'.2, hbn, Bool.false_eq_true, if_false]
    simp
  · intro hd; simp [FR, Fence.wide] at hd
  · refine callsIn_wide.2 (calls_of_wp hfn hb ?_)
    have hrep : RepL E' ((first ++ [yieldV (E.w.heap.size + 1)] ++ cap) ++ List.replicate (fn.ntmps - (first ++ [yieldV (E.w.heap.size + 1)] ++ cap).length) undefV)
        ((xs ++ [(Value.func (.yield (E.w.heap.size + 1)) #[] #[])] ++ ys).toArray ++ Array.replicate (fn.ntmps - (xs ++ [(Value.func (.yield (E.w.heap.size + 1)) #[] #[])] ++ ys).toArray.size) undef).toList := by
      have hh : RepL E' (first ++ [yieldV (E.w.heap.size + 1)] ++ cap) (xs ++ [(Value.func (.yield (E.w.heap.size + 1)) #[] #[])] ++ ys) :=
        ((RepL.mono _ e4 h1).append (RepL.cons (by simp [yieldV, Rep, Value.oneCell']) (RepL.nil _))).append (RepL.mono _ e4 h2)
      have hl := hh.length
      have := hh.append (RepL.undefs E' (fn.ntmps - (first ++ [yieldV (E.w.heap.size + 1)] ++ cap).length))
      rw [← hl] at this
      rw [← hl, Array.toList_append, Array.toList_replicate, List.size_toArray]
      exact this
    have := h E.w.heap.size (E.w.heap.size + 1) [{ a with defers := mkD E.w.heap.size :: a.defers }] ⟨_, []⟩ E' e2
      ⟨e3, hrep, ⟨_, _, rfl, RepL.mono _ e4 hR.fr, rfl⟩⟩ (by simp only [DF]; exact ⟨trivial, fun a0 sa' e => by injection e with e5 e6; subst e5; subst e6; exact DF_addMk hk hD⟩)
    simp only [post, rd, FR_none, wpIn_wide] at this
    refine Code.wp_mono (fun e a' w' q => ?_) this
    cases e <;> simp only [post] at q <;> try exact q.elim
    all_goals
      obtain ⟨k1, v, k2, a0, sa', k3, jump, w4, k5, k6⟩ := q
      injection k3 with k3 k4; subst k3; subst k4
      refine ⟨k1, v, by rw [results_eq]; exact k2, ?_⟩
      refine ⟨jump, w4, k5, ?_⟩
      cases jump with
      | none => exact post_addMk hk k6
      | some c => 
        simp only [(rd_addMk (D := E.w.heap.size) hk).1] at k6
        exact wpIn_mono k6 (fun e a w q => post_addMk hk q)

theorem cell_none_of {w : World} {b : Nat} {o : Obj} (h : w.heap[b]? = some o) (hc : ∀ C e d, o ≠ .cells C e d) (off : Nat) : w.cell? ⟨b, off, none⟩ = none := by
  cases o <;> simp_all [World.cell?]
theorem EOK.put {G : Glob} {w0 : World} {M0 : Nat → Nat → Prop} {E : Env} (h : EOK G w0 M0 E) (i b : Nat) (ab ab' : AB) (o o' : Obj) (hφ : E.φ i 0 = some b) (hi : E.H[i]? = some ab) (ho : E.w.heap[b]? = some o) (hc : ∀ C e d, o ≠ .cells C e d)
    (hrow : ∀ sz es v m, ab ≠ AB.row sz es v m) (hdead : ab ≠ AB.dead) (hhole : ab' ≠ AB.hole)
    (hk : E.le { E with w := E.w.putObj b o', H := E.H.set i ab' } → HOK { E with w := E.w.putObj b o', H := E.H.set i ab' } i ab') :
    EOK G w0 M0 { E with w := E.w.putObj b o', H := E.H.set i ab' } ∧ E.le { E with w := E.w.putObj b o', H := E.H.set i ab' } :=
  h.write (E.w.putObj b o') i b ab ab' hφ hi World.putObj_size rfl rfl rfl (fun k hk => World.putObj_heap_other hk) (fun off u hs => by have := hs.1; rw [cell_none_of ho hc] at this; cases this) (fun sz es v m e => absurd e (hrow sz es v m)) hdead hhole hk
theorem lt_of_some {w : World} {b : Nat} {o : Obj} (h : w.heap[b]? = some o) : b < w.heap.size := by
  rcases Nat.lt_or_ge b w.heap.size with k | k
  · exact k
  · rw [Array.getElem?_eq_none k] at h; cases h
theorem RUN_mk {X : Ctx} {i D : Nat} {k : List It} {fr : List V} {st : List (List V)} {H : List AB} (hi : H[i]? = some (.dfr D)) (h : RUN X ⟨toRet k, fr, st, H.set i .dead⟩) : RUN X ⟨.mk D :: k, fr, st, H⟩ := by
  intro sa a E hH hR hD
  simp only at hH hR; subst hH
  simp only [DF] at hD
  obtain ⟨ds, hds, hD⟩ := hD
  simp only [post]
  have hb := hR.ok.blk i _ hi
  obtain ⟨h1, h2⟩ := hb
  obtain ⟨k1, k2⟩ := hR.ok.put i D (.dfr D) .dead _ (.deferred none) h1 hi h2 (by simp) (by simp) (by simp) (by simp) (fun _ => trivial)
  refine ⟨ds, _, hds, run_takeDeferred h2, post_ret ?_⟩
  exact h sa { a with defers := ds } { E with w := E.w.putObj D (.deferred none), H := E.H.set i .dead } rfl ⟨k1, RepL.mono _ k2 hR.fr, hR.st.mono k2⟩ (DF_ret hD)
theorem EOK.loop {G : Glob} {w0 : World} {M0 : Nat → Nat → Prop} {E : Env} (h : EOK G w0 M0 E) {i l : Nat} {s : LoopState} {p : Option Code} {frL : List V} {ps : List Tmp} {asg body : Code} (hi : E.H[i]? = some (.lp l s p frL ps asg body)) (s' : LoopState) (p' : Option Code) :
    ∃ r : Loop, E.w.heap[l]? = some (.loop r) ∧ r.state = s ∧ r.pending = p ∧ r.params = ps.toArray ∧ r.assign = asg ∧ r.body = body ∧ RepL E frL r.tmps.toList ∧
      EOK G w0 M0 { E with w := E.w.putObj l (.loop { r with state := s', pending := p' }), H := E.H.set i (.lp l s' p' frL ps asg body) } ∧ E.le { E with w := E.w.putObj l (.loop { r with state := s', pending := p' }), H := E.H.set i (.lp l s' p' frL ps asg body) } := by
  obtain ⟨fn, tmps, D, h1, h2, h3⟩ := h.blk i _ hi
  refine ⟨_, h2, rfl, rfl, rfl, rfl, rfl, h3, ?_⟩
  exact h.put i l _ (.lp l s' p' frL ps asg body) _ _ h1 hi h2 (by simp) (by simp) (by simp) (by simp) (fun hle => ⟨fn, tmps, D, h1, World.putObj_heap_same (lt_of_some h2), RepL.mono _ hle h3⟩)
theorem RUN_beg {X : Ctx} {i l : Nat} {p : Option Code} {frL : List V} {ps : List Tmp} {asg body : Code} {k : List It} {fr : List V} {st : List (List V)} {H : List AB} (hi : H[i]? = some (.lp l .ready p frL ps asg body))
    (h : RUN X ⟨k, fr, st, H.set i (.lp l .busy p frL ps asg body)⟩) : RUN X ⟨.beg l :: k, fr, st, H⟩ := by
  intro sa a E hH hR hD
  simp only at hH hR; subst hH
  simp only [DF] at hD
  simp only [post]
  obtain ⟨r, h1, h2, h3, h4, h5, h6, h7, k1, k2⟩ := hR.ok.loop hi .busy p
  refine ⟨_, run_beginRound h1 h2, ?_⟩
  have := h sa a _ rfl ⟨k1, RepL.mono _ k2 hR.fr, hR.st.mono k2⟩ hD
  subst h3
  exact this
theorem RUN_rnd {X : Ctx} {i l : Nat} {s : LoopState} {p : Option Code} {frL : List V} {ps : List Tmp} {asg body : Code} {dst : Option Tmp} {k : List It} {fr f : List V} {st : List (List V)} {H : List AB} (hi : H[i]? = some (.lp l s p frL ps asg body))
    (h : RUN X ⟨k, putV f dst (.bool true), st, H.set i (.lp l .ready none frL ps asg body)⟩) : RUN X ⟨.rnd l dst :: k, fr, f :: st, H⟩ := by
  intro sa a E hH hR hD
  simp only at hH hR; subst hH
  simp only [DF] at hD
  simp only [post]
  obtain ⟨r, h1, h2, h3, h4, h5, h6, h7, k1, k2⟩ := hR.ok.loop hi .ready none
  have hs : RepStack E (f :: st) sa := hR.st
  obtain ⟨a0, sa', rfl, h8, h9⟩ := hs
  refine ⟨_, _, run_endRound none h1, a0, sa', rfl, ?_⟩
  exact h sa' (a0.put dst (.bool true)) _ rfl (RelE.put (E := { E with w := E.w.putObj l (.loop { r with state := .ready, pending := none }), H := E.H.set i (.lp l .ready none frL ps asg body) }) ⟨k1, RepL.mono _ k2 h8, h9.mono k2⟩ (Env.le.refl _) k1 (v := .bool true) (by simp [Rep, Value.oneCell']) dst) (by rw [put_defers]; exact hD.2 a0 sa' rfl)
theorem RUN_rndj {X : Ctx} {i l : Nat} {c : Code} {s : LoopState} {p : Option Code} {frL : List V} {ps : List Tmp} {asg body : Code} {dst : Option Tmp} {k : List It} {fr f : List V} {st : List (List V)} {H : List AB} (hi : H[i]? = some (.lp l s p frL ps asg body))
    (h : RUN X ⟨k, putV f dst (.bool false), st, H.set i (.lp l .done (some c) frL ps asg body)⟩) : RUN X ⟨.rndj l c dst :: k, fr, f :: st, H⟩ := by
  intro sa a E hH hR hD
  simp only at hH hR; subst hH
  simp only [DF] at hD
  simp only [post]
  obtain ⟨r, h1, h2, h3, h4, h5, h6, h7, k1, k2⟩ := hR.ok.loop hi .done (some c)
  have hs : RepStack E (f :: st) sa := hR.st
  obtain ⟨a0, sa', rfl, h8, h9⟩ := hs
  refine ⟨_, _, run_endRound (some c) h1, a0, sa', rfl, ?_⟩
  exact h sa' (a0.put dst (.bool false)) _ rfl (RelE.put (E := { E with w := E.w.putObj l (.loop { r with state := .done, pending := some c }), H := E.H.set i (.lp l .done (some c) frL ps asg body) }) ⟨k1, RepL.mono _ k2 h8, h9.mono k2⟩ (Env.le.refl _) k1 (v := .bool false) (by simp [Rep, Value.oneCell']) dst) (by rw [put_defers]; exact hD.2 a0 sa' rfl)
def pendK (p : Option Code) (k : List It) : List It := match p with | none => k | some c => .code c :: k
theorem RUN_erf {X : Ctx} {i l : Nat} {s : LoopState} {p : Option Code} {frL : List V} {ps : List Tmp} {asg body : Code} {k : List It} {fr : List V} {st : List (List V)} {H : List AB} (hi : H[i]? = some (.lp l s p frL ps asg body)) (hs : s ≠ .busy)
    (h : RUN X ⟨pendK p k, fr, st, H.set i (.lp l .exhausted p frL ps asg body)⟩) : RUN X ⟨.erf l :: k, fr, st, H⟩ := by
  intro sa a E hH hR hD
  simp only at hH hR; subst hH
  simp only [DF] at hD
  simp only [post]
  obtain ⟨r, h1, h2, h3, h4, h5, h6, h7, k1, k2⟩ := hR.ok.loop hi .exhausted p
  subst h3
  refine ⟨_, _, run_endLoop h1 (by rw [h2]; exact hs), ?_⟩
  have := h sa a _ rfl ⟨k1, RepL.mono _ k2 hR.fr, hR.st.mono k2⟩ (by cases r.pending <;> simpa only [pendK, DF] using hD)
  cases hp : r.pending with
  | none => rw [hp] at this; simpa only [pendK, hp] using this
  | some c => rw [hp] at this; simpa only [pendK, post, hp] using this

def setPs : List V → List (Tmp × V) → List V
  | f, [] => f
  | f, p :: ps => setPs (f.set p.1 p.2) ps
theorem RepL.setPs {E : Env} : ∀ {ps : List Tmp} {vs : List V} {xs : List Value} {f : List V} {t : Array Value}, RepL E f t.toList → RepL E vs xs → RepL E (setPs f (ps.zip vs)) ((ps.zip xs).foldl (fun tmps (t, a) => tmps.setIfInBounds t a) t).toList
  | [], vs, xs, f, t, h, hv => by simpa [Ab.setPs] using h
  | p :: ps, [], xs, f, t, h, hv => by simp only [RepL] at hv; subst hv; simpa [Ab.setPs] using h
  | p :: ps, v :: vs, xs, f, t, h, hv => by
    simp only [RepL] at hv
    obtain ⟨y, ys, rfl, h1, h2⟩ := hv
    simp only [List.zip_cons_cons, Ab.setPs, List.foldl_cons]
    refine RepL.setPs (t := t.setIfInBounds p y) ?_ h2
    rw [Array.toList_setIfInBounds]
    exact h.set p h1
theorem RUN_yield {X : Ctx} {all l' : List Oper} {o : Oper} {k : List It} {fr : List V} {st : List (List V)} {H : List AB} {c : Call} {f : Operand} {i l : Nat} {s : LoopState} {p : Option Code} {frL : List V} {ps : List Tmp} {asg body : Code}
    (hg : guardV all fr o = some true) (ho : o.op = .call c) (hc : c.callee = .value f) (hf : evalO X.G fr f = yieldV l) (hi : H[i]? = some (.lp l s p frL ps asg body)) (hlen : c.args.toList.length = ps.length)
    (h : RUN X ⟨.code asg :: .beg l :: .code body :: .rnd l o.dst :: .ops all l' :: k, setPs frL (ps.zip (c.args.toList.map (evalO X.G fr))), fr :: st, H⟩) : RUN X ⟨.ops all (o :: l') :: k, fr, st, H⟩ := by
  intro sa a E hH hR hD
  simp only at hH hR hD
  subst hH
  simp only [DF] at hD
  simp only [post]
  unfold wpListIn
  rw [if_pos (guardV_sound (X := X) hR.fr hg)]
  refine ⟨fun _ _ => trivial, ?_⟩
  have hfr := evalO_sound hR.ok hR.fr f
  rw [hf] at hfr; simp only [yieldV, Rep] at hfr
  have hargs := evalL_sound hR.ok hR.fr c.args.toList
  obtain ⟨r, h1, h2, h3, h4, h5, h6, h7, k1, k2⟩ := hR.ok.loop hi s p
  have hrun : (execOp a.eval o).run X.P E.w = .ok (.round l r.fn ((r.params.zip (c.args.map a.eval)).foldl (fun tmps (t, a) => tmps.setIfInBounds t a) r.tmps) r.assign r.body) E.w := by
    have := run_yield (P := X.P) (args := c.args.map a.eval) h1 (by rw [h4]; simpa using hlen)
    simp only [execOp, ho, resolve, hc, hfr.1, Deferred.ofValue, Sem.run_bind, Sem.run_pure, Result.andThen_ok, invoke]
    simpa using this
  rw [Oper.semAt_eq _ _ _ (by intro c' hc'; rw [ho] at hc'; cases hc'), hrun, Oper.uponIn_round]
  refine ⟨(fun hd => by simp [FR, Fence.wide] at hd), ?_⟩
  refine roundIn_of_wpIn trivial ?_
  rw [h5, h6]
  have htmps : RepL E (setPs frL (ps.zip (c.args.toList.map (evalO X.G fr)))) ((r.params.zip (c.args.map a.eval)).foldl (fun tmps (t, a) => tmps.setIfInBounds t a) r.tmps).toList := by
    have := RepL.setPs (ps := ps) h7 hargs
    rw [h4]
    rw [← Array.foldl_toList]
    simpa using this
  have := h (a :: sa) ⟨_, []⟩ E rfl ⟨hR.ok, htmps, ⟨a, sa, rfl, hR.fr, hR.st⟩⟩ (by simp only [DF]; exact ⟨trivial, fun a0 sa' e => by injection e with e1 e2; subst e1; subst e2; exact hD⟩)
  simp only [post, rd] at this
  refine wpIn_mono this (fun e a1 w1 q => ?_)
  cases e <;> simp only [post] at q <;> try exact q.elim
  obtain ⟨w2, q1, q2⟩ := q
  refine ⟨w2, q1, ?_⟩
  refine wpIn_mono q2 (fun e a3 w3 q => ?_)
  cases e <;> simp only [post] at q <;> try exact q.elim
  all_goals
    obtain ⟨v, w4, q3, a0, sa', q4, q5⟩ := q
    injection q4 with q4 q6; subst q4; subst q6
    exact ⟨v, w4, q3, q5⟩
end Go.Ab
namespace Go.Ab
open Go Go.RowKit
section
variable {P : Program} {G : Glob} {w0 : World} {M0 : Nat → Nat → Prop} {R : Value → World → Prop}
theorem RUNs_rangeFunc {g : Operand} {ps : List Tmp} {asg body : Code} {k : List It} {fr : List V} {H : List AB} {n : FuncId} {first cap : List V} (fn : Func) {gbody : Code}
    (hfn : P.funcs[n]? = some fn) (hb : fn.body = some gbody) (hn : callB P n = true) (hf : evalO G fr g = .fn (.func n) first cap) (hk : okMk k = true)
    (h : ∀ D l, RUNs P G w0 M0 R ⟨.code gbody :: .ret fn.results.toList none :: .erf l :: addMk D k, (first ++ [yieldV l] ++ cap) ++ List.replicate (fn.ntmps - (first ++ [yieldV l] ++ cap).length) undefV, [fr], H ++ [.dfr D, .lp l .ready none fr ps asg body]⟩) :
    RUNs P G w0 M0 R ⟨.code (.rangeFunc g ps.toArray asg body) :: k, fr, [], H⟩ :=
  RUNs_stop (by rfl) (RUN_rangeFunc (X := ⟨P, G, w0, M0, R⟩) hf hn hfn hb hk fun D l => RUN_of_RUNs (h D l))
theorem RUNs_mk (i : Nat) {D : Nat} {k : List It} {fr : List V} {st : List (List V)} {H : List AB} (hi : H[i]? = some (.dfr D)) (h : RUNs P G w0 M0 R ⟨toRet k, fr, st, H.set i .dead⟩) : RUNs P G w0 M0 R ⟨.mk D :: k, fr, st, H⟩ :=
  RUNs_stop (by rfl) (RUN_mk (X := ⟨P, G, w0, M0, R⟩) hi (RUN_of_RUNs h))
theorem RUNs_beg (i : Nat) {l : Nat} {p : Option Code} {frL : List V} {ps : List Tmp} {asg body : Code} {k : List It} {fr : List V} {st : List (List V)} {H : List AB} (hi : H[i]? = some (.lp l .ready p frL ps asg body))
    (h : RUNs P G w0 M0 R ⟨k, fr, st, H.set i (.lp l .busy p frL ps asg body)⟩) : RUNs P G w0 M0 R ⟨.beg l :: k, fr, st, H⟩ :=
  RUNs_stop (by rfl) (RUN_beg (X := ⟨P, G, w0, M0, R⟩) hi (RUN_of_RUNs h))
theorem RUNs_rnd (i : Nat) {l : Nat} {s : LoopState} {p : Option Code} {frL : List V} {ps : List Tmp} {asg body : Code} {dst : Option Tmp} {k : List It} {fr f : List V} {st : List (List V)} {H : List AB} (hi : H[i]? = some (.lp l s p frL ps asg body))
    (h : RUNs P G w0 M0 R ⟨k, putV f dst (.bool true), st, H.set i (.lp l .ready none frL ps asg body)⟩) : RUNs P G w0 M0 R ⟨.rnd l dst :: k, fr, f :: st, H⟩ :=
  RUNs_stop (by rfl) (RUN_rnd (X := ⟨P, G, w0, M0, R⟩) hi (RUN_of_RUNs h))
theorem RUNs_rndj (i : Nat) {l : Nat} {c : Code} {s : LoopState} {p : Option Code} {frL : List V} {ps : List Tmp} {asg body : Code} {dst : Option Tmp} {k : List It} {fr f : List V} {st : List (List V)} {H : List AB} (hi : H[i]? = some (.lp l s p frL ps asg body))
    (h : RUNs P G w0 M0 R ⟨k, putV f dst (.bool false), st, H.set i (.lp l .done (some c) frL ps asg body)⟩) : RUNs P G w0 M0 R ⟨.rndj l c dst :: k, fr, f :: st, H⟩ :=
  RUNs_stop (by rfl) (RUN_rndj (X := ⟨P, G, w0, M0, R⟩) hi (RUN_of_RUNs h))
theorem RUNs_erf (i : Nat) {l : Nat} {s : LoopState} {p : Option Code} {frL : List V} {ps : List Tmp} {asg body : Code} {k : List It} {fr : List V} {st : List (List V)} {H : List AB} (hi : H[i]? = some (.lp l s p frL ps asg body)) (hs : s ≠ .busy)
    (h : RUNs P G w0 M0 R ⟨pendK p k, fr, st, H.set i (.lp l .exhausted p frL ps asg body)⟩) : RUNs P G w0 M0 R ⟨.erf l :: k, fr, st, H⟩ :=
  RUNs_stop (by rfl) (RUN_erf (X := ⟨P, G, w0, M0, R⟩) hi hs (RUN_of_RUNs h))
theorem CALLS_yield (i : Nat) {l : Nat} {s : LoopState} {p : Option Code} {frL : List V} {ps : List Tmp} {asg body : Code} {f : Operand} {args : List Operand} {ats : Array TypeId} {vargs : List V} {dst : Option Tmp} {ty : TypeId} {pp : String} {af : Array Edge} {all l' : List Oper} {k : List It} {fr : List V} {st : List (List V)} {H : List AB}
    (hi : H[i]? = some (.lp l s p frL ps asg body)) (hlen : args.length = ps.length)
    (h : RUNs P G w0 M0 R ⟨.code asg :: .beg l :: .code body :: .rnd l dst :: .ops all l' :: k, setPs frL (ps.zip vargs), fr :: st, H⟩) :
    CALLS P G w0 M0 R ⟨.ops all (⟨dst, .call ⟨.value f, args.toArray, ats⟩, ty, pp, af, none⟩ :: l') :: k, fr, st, H⟩ f args (.val (.func (.yield l) #[] #[])) vargs dst all l' k fr st H := by
  intro h1 h2
  refine RUNs_stop (by rfl) ?_
  refine RUN_yield (X := ⟨P, G, w0, M0, R⟩) (c := ⟨.value f, args.toArray, ats⟩) rfl rfl rfl h1 hi (by simpa using hlen) ?_
  rw [show (Call.args ⟨.value f, args.toArray, ats⟩).toList = args by rfl, h2]
  exact RUN_of_RUNs h
end
theorem addMk_fin (D : Nat) (rs : List ResultVar) (k : List It) : addMk D (.fin rs :: k) = .mk D :: .fin rs :: k := rfl
theorem addMk_code (D : Nat) (c : Code) (k : List It) : addMk D (.code c :: k) = .code c :: addMk D k := rfl
theorem addMk_ops (D : Nat) (a l : List Oper) (k : List It) : addMk D (.ops a l :: k) = .ops a l :: addMk D k := rfl
theorem addMk_blk (D : Nat) (i : Nat) (k : List It) : addMk D (.blk i :: k) = .blk i :: addMk D k := rfl
theorem toRet_mk (D : Nat) (k : List It) : toRet (.mk D :: k) = .mk D :: k := rfl
theorem toRet_rnd (l : Nat) (d : Option Tmp) (k : List It) : toRet (.rnd l d :: k) = .rndj l .ret d :: k := rfl
theorem toBlk_rnd (i l : Nat) (d : Option Tmp) (k : List It) : toBlk i (.rnd l d :: k) = some (.rndj l (.exit i) d :: k) := rfl
theorem pendK_none (k : List It) : pendK none k = k := rfl
theorem pendK_some (c : Code) (k : List It) : pendK (some c) k = .code c :: k := rfl
theorem setPs_nil (f : List V) (xs : List V) : setPs f (([] : List Tmp).zip xs) = f := rfl
theorem setPs_cons (f : List V) (t : Tmp) (ts : List Tmp) (x : V) (xs : List V) : setPs f ((t :: ts).zip (x :: xs)) = setPs (f.set t x) (ts.zip xs) := rfl
end Go.Ab

/- The abstract machine: all rules, in one. -/
set_option linter.unusedVariables false
set_option linter.unusedSimpArgs false
namespace Go.Ab
open Go Go.RowKit
theorem ab : (((((((type_of% @AB1) ∧ (type_of% @AB2)) ∧ ((type_of% @AB3) ∧ (type_of% @AB4))) ∧ (((type_of% @AB5) ∧ (type_of% @AB6)) ∧ ((type_of% @AB7) ∧ ((type_of% @S_call) ∧ (type_of% @S_fin))))) ∧ ((((type_of% @S_inv) ∧ (type_of% @GRDN_f)) ∧ ((type_of% @GRDN_t) ∧ ((type_of% @shM_nil) ∧ (type_of% @shM_cons)))) ∧ (((type_of% @shAB_dead) ∧ (type_of% @shAB_var)) ∧ ((type_of% @shAB_row) ∧ ((type_of% @shAB_map) ∧ (type_of% @shAB_mapO)))))) ∧ (((((type_of% @shV_val) ∧ (type_of% @shV_any)) ∧ ((type_of% @shV_ptr) ∧ ((type_of% @shV_cp) ∧ (type_of% @shV_sl)))) ∧ (((type_of% @shV_row) ∧ (type_of% @shV_vs)) ∧ ((type_of% @shV_mp) ∧ ((type_of% @shV_agg) ∧ (type_of% @shV_tup))))) ∧ ((((type_of% @shV_fn) ∧ (type_of% @shV_iface)) ∧ ((type_of% @shL_nil) ∧ ((type_of% @shL_cons) ∧ (type_of% @fzK_row)))) ∧ (((type_of% @fzK_agg) ∧ (type_of% @fzK_tup)) ∧ ((type_of% @fzK_val) ∧ ((type_of% @fzK_sl) ∧ (type_of% @fzK_cp))))))) ∧ ((((((type_of% @fzKL_nil) ∧ (type_of% @fzKL_cons)) ∧ ((type_of% @frV_row) ∧ ((type_of% @frV_agg) ∧ (type_of% @frV_tup)))) ∧ (((type_of% @frV_fn) ∧ (type_of% @frV_iface)) ∧ ((type_of% @frV_any) ∧ ((type_of% @frV_val) ∧ (type_of% @frV_ptr))))) ∧ ((((type_of% @frV_ptrE) ∧ (type_of% @frV_cp)) ∧ ((type_of% @frV_sl) ∧ ((type_of% @frV_vs) ∧ (type_of% @frV_mp)))) ∧ (((type_of% @frL_nil) ∧ (type_of% @frL_cons)) ∧ ((type_of% @frM_nil) ∧ ((type_of% @frM_cons) ∧ (type_of% @frAB_var)))))) ∧ (((((type_of% @frAB_row) ∧ (type_of% @frAB_dead)) ∧ ((type_of% @frAB_map) ∧ ((type_of% @stM_nil) ∧ (type_of% @stM_cons)))) ∧ (((type_of% @addMk_fin) ∧ (type_of% @addMk_code)) ∧ ((type_of% @addMk_ops) ∧ ((type_of% @addMk_blk) ∧ (type_of% @toRet_mk))))) ∧ ((((type_of% @toRet_rnd) ∧ (type_of% @toBlk_rnd)) ∧ ((type_of% @pendK_none) ∧ ((type_of% @pendK_some) ∧ (type_of% @setPs_nil)))) ∧ (((type_of% @setPs_cons) ∧ (type_of% @shAB_dfr)) ∧ ((type_of% @shAB_lp) ∧ ((type_of% @frAB_dfr) ∧ (type_of% @frAB_lp)))))))) := ⟨⟨⟨⟨⟨⟨@AB1, @AB2⟩, ⟨@AB3, @AB4⟩⟩, ⟨⟨@AB5, @AB6⟩, ⟨@AB7, ⟨@S_call, @S_fin⟩⟩⟩⟩, ⟨⟨⟨@S_inv, @GRDN_f⟩, ⟨@GRDN_t, ⟨@shM_nil, @shM_cons⟩⟩⟩, ⟨⟨@shAB_dead, @shAB_var⟩, ⟨@shAB_row, ⟨@shAB_map, @shAB_mapO⟩⟩⟩⟩⟩, ⟨⟨⟨⟨@shV_val, @shV_any⟩, ⟨@shV_ptr, ⟨@shV_cp, @shV_sl⟩⟩⟩, ⟨⟨@shV_row, @shV_vs⟩, ⟨@shV_mp, ⟨@shV_agg, @shV_tup⟩⟩⟩⟩, ⟨⟨⟨@shV_fn, @shV_iface⟩, ⟨@shL_nil, ⟨@shL_cons, @fzK_row⟩⟩⟩, ⟨⟨@fzK_agg, @fzK_tup⟩, ⟨@fzK_val, ⟨@fzK_sl, @fzK_cp⟩⟩⟩⟩⟩⟩, ⟨⟨⟨⟨⟨@fzKL_nil, @fzKL_cons⟩, ⟨@frV_row, ⟨@frV_agg, @frV_tup⟩⟩⟩, ⟨⟨@frV_fn, @frV_iface⟩, ⟨@frV_any, ⟨@frV_val, @frV_ptr⟩⟩⟩⟩, ⟨⟨⟨@frV_ptrE, @frV_cp⟩, ⟨@frV_sl, ⟨@frV_vs, @frV_mp⟩⟩⟩, ⟨⟨@frL_nil, @frL_cons⟩, ⟨@frM_nil, ⟨@frM_cons, @frAB_var⟩⟩⟩⟩⟩, ⟨⟨⟨⟨@frAB_row, @frAB_dead⟩, ⟨@frAB_map, ⟨@stM_nil, @stM_cons⟩⟩⟩, ⟨⟨@addMk_fin, @addMk_code⟩, ⟨@addMk_ops, ⟨@addMk_blk, @toRet_mk⟩⟩⟩⟩, ⟨⟨⟨@toRet_rnd, @toBlk_rnd⟩, ⟨@pendK_none, ⟨@pendK_some, @setPs_nil⟩⟩⟩, ⟨⟨@setPs_cons, @shAB_dfr⟩, ⟨@shAB_lp, ⟨@frAB_dfr, @frAB_lp⟩⟩⟩⟩⟩⟩⟩
theorem ab2 : (((((type_of% @List.drop_zero.{0}) ∧ ((type_of% @if_true.{1}) ∧ (type_of% @if_false.{1}))) ∧ (((type_of% @eq_self.{1}) ∧ (type_of% @and_self)) ∧ ((type_of% @and_true) ∧ (type_of% @true_and)))) ∧ ((((type_of% @Option.isSome_some.{0}) ∧ (type_of% @Nat.zero_add)) ∧ ((type_of% @Bool.and_self) ∧ (type_of% @decide_true))) ∧ (((type_of% @decide_false) ∧ (type_of% @cond_true.{1})) ∧ ((type_of% @cond_false.{1}) ∧ (type_of% @Bool.and_true))))) ∧ (((((type_of% @Bool.true_and) ∧ (type_of% @Bool.false_and)) ∧ ((type_of% @Bool.and_false) ∧ (type_of% @beq_self_eq_true.{0}))) ∧ (((type_of% @Int.toNat_natCast) ∧ (type_of% @not_true)) ∧ ((type_of% @not_false_eq_true) ∧ (type_of% @and_false)))) ∧ ((((type_of% @false_and) ∧ (type_of% @ite_true.{1})) ∧ ((type_of% @ite_false.{1}) ∧ (type_of% @lenMap))) ∧ (((type_of% @takeMap) ∧ (type_of% @dropMap)) ∧ ((type_of% @List.length_cons.{0}) ∧ (type_of% @List.length_nil.{0})))))) := ⟨⟨⟨⟨@List.drop_zero, ⟨@if_true, @if_false⟩⟩, ⟨⟨@eq_self, @and_self⟩, ⟨@and_true, @true_and⟩⟩⟩, ⟨⟨⟨@Option.isSome_some, @Nat.zero_add⟩, ⟨@Bool.and_self, @decide_true⟩⟩, ⟨⟨@decide_false, @cond_true⟩, ⟨@cond_false, @Bool.and_true⟩⟩⟩⟩, ⟨⟨⟨⟨@Bool.true_and, @Bool.false_and⟩, ⟨@Bool.and_false, @beq_self_eq_true⟩⟩, ⟨⟨@Int.toNat_natCast, @not_true⟩, ⟨@not_false_eq_true, @and_false⟩⟩⟩, ⟨⟨⟨@false_and, @ite_true⟩, ⟨@ite_false, @lenMap⟩⟩, ⟨⟨@takeMap, @dropMap⟩, ⟨@List.length_cons, @List.length_nil⟩⟩⟩⟩⟩
end Go.Ab

/- The data of this program, as Lean has it, and as the abstract machine holds it. -/
namespace Ch
open Go Go.Ab
structure Draws where
  list : List Int
  next : Int
structure Gram where
  to : Int
  words : List Int
structure Net where
  room : Int
  grams : List Gram
  seen : List (List Int)
structure Sld where
  handle : Int
  key : Int
  label : Int
  plain : List Int
structure Box where
  room : Int
  rows : List Sld
structure Run where
  proto : Int
  role : Int
  peer : Int
  mine : Int
  their : Int
  m : Int
  k : Int
  t : Int
  state : Int
structure Person where
  name : Int
  key : Int
  clock : Int
  used : List Int
  runs : List Run
  corrupt : Bool
structure Event where
  kind : Int
  proto : Int
  role : Int
  a : Int
  b : Int
  k : Int
  t : Int
  m : Int
  n : Int
  clock : Int
structure Leak where
  k : Int
  at_ : Int
structure Conf where
  window : Int
  people : Int
  box : Int
  used : Int
  runs : Int
  net : Int
  regs : Int
structure World where
  conf : Conf
  draws : Draws
  box : Box
  net : Net
  people : List Person
  log : List Event
  regs : List (List Int)
  leaks : List Leak
structure Op where
  kind : Int
  a : Int
  b : Int
  c : Int
  d : Int
  words : List Int

structure Msg where
  kind : Int
  run : Int
  a : Int
  b : Int
  nonce : Int
  box : Int
  more : Int
structure Part where
  n : Int
  m : Int
  a : Int
  b : Int
  k : Int
  t : Int
  h : Int
structure Field where
  tag : Int
  data : List Int

abbrev u32 (n : Int) : V := .int .u32 n
abbrev i64 (n : Int) : V := .int .i64 n
def wordsV (l : List Int) : V := .sl (l.map u32) .plain
def rowsV (l : List (List Int)) : V := .sl (l.map wordsV) .plain
def Gram.v (g : Gram) : V := .agg [u32 g.to, wordsV g.words]
def Sld.v (s : Sld) : V := .agg [u32 s.handle, u32 s.key, u32 s.label, wordsV s.plain]
def Run.v (r : Run) : V := .agg [i64 r.proto, i64 r.role, u32 r.peer, u32 r.mine, u32 r.their, u32 r.m, u32 r.k, u32 r.t, i64 r.state]
def runsV (l : List Run) : V := .sl (l.map Run.v) .plain
def Person.v (p : Person) : V := .agg [u32 p.name, u32 p.key, u32 p.clock, wordsV p.used, runsV p.runs, .bool p.corrupt]
def Event.v (e : Event) : V := .agg [i64 e.kind, i64 e.proto, i64 e.role, u32 e.a, u32 e.b, u32 e.k, u32 e.t, u32 e.m, u32 e.n, u32 e.clock]
def Leak.v (e : Leak) : V := .agg [u32 e.k, u32 e.at_]
def Op.v (o : Op) : V := .agg [i64 o.kind, i64 o.a, i64 o.b, i64 o.c, i64 o.d, wordsV o.words]
def Msg.v (m : Msg) : V := .agg [u32 m.kind, u32 m.run, u32 m.a, u32 m.b, u32 m.nonce, u32 m.box, u32 m.more]
def Part.v (p : Part) : V := .agg [u32 p.n, u32 p.m, u32 p.a, u32 p.b, u32 p.k, u32 p.t, u32 p.h]
def Field.v (f : Field) : V := .agg [u32 f.tag, wordsV f.data]
def fieldsV (l : List Field) : V := .sl (l.map Field.v) .plain
def intsV (l : List Int) : V := .sl (l.map i64) .plain
def sldsV (l : List Sld) : V := .sl (l.map Sld.v) .plain
def gramsV (l : List Gram) : V := .sl (l.map Gram.v) .plain
def peopleV (l : List Person) : V := .sl (l.map Person.v) .plain
def eventsV (l : List Event) : V := .sl (l.map Event.v) .plain
def leaksV (l : List Leak) : V := .sl (l.map Leak.v) .plain
def opsV (l : List Op) : V := .sl (l.map Op.v) .plain
def Draws.v (d : Draws) : V := .agg [wordsV d.list, i64 d.next]
def Box.v (b : Box) : V := .agg [i64 b.room, sldsV b.rows]
def Net.v (n : Net) : V := .agg [i64 n.room, gramsV n.grams, rowsV n.seen]
def Conf.v (c : Conf) : V := .agg [u32 c.window, i64 c.people, i64 c.box, i64 c.used, i64 c.runs, i64 c.net, i64 c.regs]
def World.cells (w : World) : List V := [u32 w.conf.window, i64 w.conf.people, i64 w.conf.box, i64 w.conf.used, i64 w.conf.runs, i64 w.conf.net, i64 w.conf.regs, wordsV w.draws.list, i64 w.draws.next,
  i64 w.box.room, sldsV w.box.rows, i64 w.net.room, gramsV w.net.grams, rowsV w.net.seen, peopleV w.people, eventsV w.log, rowsV w.regs, leaksV w.leaks]
def World.v (w : World) : V := .agg w.cells
/-! What numbers and lists may be. -/
def U (n : Int) : Prop := 0 ≤ n ∧ n < 4294967296
def I (n : Int) : Prop := -9223372036854775808 ≤ n ∧ n ≤ 9223372036854775807
def LL {α : Type} (p : α → Prop) (l : List α) : Prop := l.length ≤ 9223372036854775807 ∧ ∀ x ∈ l, p x
def Gram.ok (g : Gram) : Prop := U g.to ∧ LL U g.words
def Sld.ok (s : Sld) : Prop := U s.handle ∧ U s.key ∧ U s.label ∧ LL U s.plain
def Run.ok (r : Run) : Prop := I r.proto ∧ I r.role ∧ U r.peer ∧ U r.mine ∧ U r.their ∧ U r.m ∧ U r.k ∧ U r.t ∧ I r.state
def Person.ok (p : Person) : Prop := U p.name ∧ U p.key ∧ U p.clock ∧ LL U p.used ∧ LL Run.ok p.runs
def Event.ok (e : Event) : Prop := I e.kind ∧ I e.proto ∧ I e.role ∧ U e.a ∧ U e.b ∧ U e.k ∧ U e.t ∧ U e.m ∧ U e.n ∧ U e.clock
def Leak.ok (e : Leak) : Prop := U e.k ∧ U e.at_
def Op.ok (o : Op) : Prop := I o.kind ∧ I o.a ∧ I o.b ∧ I o.c ∧ I o.d ∧ LL U o.words
def Msg.ok (m : Msg) : Prop := U m.kind ∧ U m.run ∧ U m.a ∧ U m.b ∧ U m.nonce ∧ U m.box ∧ U m.more
def Part.ok (p : Part) : Prop := U p.n ∧ U p.m ∧ U p.a ∧ U p.b ∧ U p.k ∧ U p.t ∧ U p.h
def Field.ok (f : Field) : Prop := U f.tag ∧ LL U f.data
instance (n : Int) : Decidable (U n) := inferInstanceAs (Decidable (_ ∧ _))
instance (n : Int) : Decidable (I n) := inferInstanceAs (Decidable (_ ∧ _))
def Draws.ok (d : Draws) : Prop := LL U d.list ∧ I d.next
def Box.ok (b : Box) : Prop := I b.room ∧ LL Sld.ok b.rows
def Net.ok (n : Net) : Prop := I n.room ∧ LL Gram.ok n.grams ∧ LL (LL U) n.seen
def Conf.ok (c : Conf) : Prop := U c.window ∧ I c.people ∧ I c.box ∧ I c.used ∧ I c.runs ∧ I c.net ∧ I c.regs
def World.ok (w : World) : Prop := w.conf.ok ∧ w.draws.ok ∧ w.box.ok ∧ w.net.ok ∧ LL Person.ok w.people ∧ LL Event.ok w.log ∧ LL (LL U) w.regs ∧ LL Leak.ok w.leaks
theorem mv : (type_of% @wordsV.eq_1) ∧ (type_of% @rowsV.eq_1) ∧ (type_of% @runsV.eq_1) ∧ (type_of% @sldsV.eq_1) ∧ (type_of% @gramsV.eq_1) ∧ (type_of% @peopleV.eq_1) ∧ (type_of% @eventsV.eq_1) ∧ (type_of% @leaksV.eq_1) ∧ (type_of% @opsV.eq_1) ∧ (type_of% @fieldsV.eq_1) ∧ (type_of% @intsV.eq_1) ∧ (type_of% @Draws.v.eq_1) ∧ (type_of% @Box.v.eq_1) ∧ (type_of% @Net.v.eq_1) ∧ (type_of% @Conf.v.eq_1) ∧ (type_of% @Gram.v.eq_1) ∧ (type_of% @Sld.v.eq_1) ∧ (type_of% @Run.v.eq_1) ∧ (type_of% @Person.v.eq_1) ∧ (type_of% @Event.v.eq_1) ∧ (type_of% @Leak.v.eq_1) ∧ (type_of% @Op.v.eq_1) ∧ (type_of% @Msg.v.eq_1) ∧ (type_of% @Part.v.eq_1) ∧ (type_of% @Field.v.eq_1) ∧ (type_of% @World.v.eq_1) ∧ (type_of% @World.cells.eq_1) := ⟨@wordsV.eq_1, @rowsV.eq_1, @runsV.eq_1, @sldsV.eq_1, @gramsV.eq_1, @peopleV.eq_1, @eventsV.eq_1, @leaksV.eq_1, @opsV.eq_1, @fieldsV.eq_1, @intsV.eq_1, @Draws.v.eq_1, @Box.v.eq_1, @Net.v.eq_1, @Conf.v.eq_1, @Gram.v.eq_1, @Sld.v.eq_1, @Run.v.eq_1, @Person.v.eq_1, @Event.v.eq_1, @Leak.v.eq_1, @Op.v.eq_1, @Msg.v.eq_1, @Part.v.eq_1, @Field.v.eq_1, @World.v.eq_1, @World.cells.eq_1⟩
end Ch

/- The types of what is handed in, and their data. -/
namespace Ch
open Go Go.Ab
abbrev tU : Ty := .int .u32
abbrev tI : Ty := .int .i64
abbrev tW : Ty := .slice tU false
abbrev tR : Ty := .slice tW false
abbrev tConf : Ty := .struct (.prod tU (.prod tI (.prod tI (.prod tI (.prod tI (.prod tI (.prod tI .unit)))))))
abbrev tDraws : Ty := .struct (.prod tW (.prod tI .unit))
abbrev tSld : Ty := .struct (.prod tU (.prod tU (.prod tU (.prod tW .unit))))
abbrev tBox : Ty := .struct (.prod tI (.prod (.slice tSld true) .unit))
abbrev tGram : Ty := .struct (.prod tU (.prod tW .unit))
abbrev tNet : Ty := .struct (.prod tI (.prod (.slice tGram true) (.prod tR .unit)))
abbrev tRun : Ty := .struct (.prod tI (.prod tI (.prod tU (.prod tU (.prod tU (.prod tU (.prod tU (.prod tU (.prod tI .unit)))))))))
abbrev tPerson : Ty := .struct (.prod tU (.prod tU (.prod tU (.prod tW (.prod (.slice tRun true) (.prod .bool .unit))))))
abbrev tEvent : Ty := .struct (.prod tI (.prod tI (.prod tI (.prod tU (.prod tU (.prod tU (.prod tU (.prod tU (.prod tU (.prod tU .unit))))))))))
abbrev tLeak : Ty := .struct (.prod tU (.prod tU .unit))
abbrev tOp : Ty := .struct (.prod tI (.prod tI (.prod tI (.prod tI (.prod tI (.prod tW .unit))))))
abbrev tSeven : Ty := .struct (.prod tU (.prod tU (.prod tU (.prod tU (.prod tU (.prod tU (.prod tU .unit)))))))
abbrev tMsg : Ty := tSeven
abbrev tPart : Ty := tSeven
abbrev tWorld : Ty := .struct (.prod tConf (.prod tDraws (.prod tBox (.prod tNet (.prod (.slice tPerson true) (.prod (.slice tEvent true) (.prod tR (.prod (.slice tLeak true) .unit))))))))
def confOf : tConf.den → Conf | (a, b, c, d, e, f, g, _) => ⟨a, b, c, d, e, f, g⟩
def sldOf : tSld.den → Sld | (a, b, c, d, _) => ⟨a, b, c, d⟩
def gramOf : tGram.den → Gram | (a, b, _) => ⟨a, b⟩
def runOf : tRun.den → Run | (a, b, c, d, e, f, g, h, i, _) => ⟨a, b, c, d, e, f, g, h, i⟩
def personOf : tPerson.den → Person | (a, b, c, d, e, f, _) => ⟨a, b, c, d, List.map runOf e, f⟩
def eventOf : tEvent.den → Event | (a, b, c, d, e, f, g, h, i, j, _) => ⟨a, b, c, d, e, f, g, h, i, j⟩
def leakOf : tLeak.den → Leak | (a, b, _) => ⟨a, b⟩
def opOf : tOp.den → Op | (a, b, c, d, e, f, _) => ⟨a, b, c, d, e, f⟩
def msgOf : tMsg.den → Msg | (a, b, c, d, e, f, g, _) => ⟨a, b, c, d, e, f, g⟩
def partOf : tPart.den → Part | (a, b, c, d, e, f, g, _) => ⟨a, b, c, d, e, f, g⟩
def worldOf : tWorld.den → World | (c, (d, n, _), (r, s, _), (m, g, l, _), p, e, q, k, _) => ⟨confOf c, ⟨d, n⟩, ⟨r, List.map sldOf s⟩, ⟨m, List.map gramOf g, l⟩, List.map personOf p, List.map eventOf e, q, List.map leakOf k⟩
theorem enc_sld (x : tSld.den) : elV true (encC tSld x) = (sldOf x).v := by obtain ⟨a, b, c, d, _⟩ := x; rfl
theorem enc_gram (x : tGram.den) : elV true (encC tGram x) = (gramOf x).v := by obtain ⟨a, b, _⟩ := x; rfl
theorem enc_run (x : tRun.den) : elV true (encC tRun x) = (runOf x).v := by obtain ⟨a, b, c, d, e, f, g, h, i, _⟩ := x; rfl
theorem enc_event (x : tEvent.den) : elV true (encC tEvent x) = (eventOf x).v := by obtain ⟨a, b, c, d, e, f, g, h, i, j, _⟩ := x; rfl
theorem enc_leak (x : tLeak.den) : elV true (encC tLeak x) = (leakOf x).v := by obtain ⟨a, b, _⟩ := x; rfl
theorem enc_op (x : tOp.den) : elV true (encC tOp x) = (opOf x).v := by obtain ⟨a, b, c, d, e, f, _⟩ := x; rfl
theorem enc_list {t : Ty} {α : Type} {f : t.den → α} {g : α → V} (h : ∀ x, elV true (encC t x) = g (f x)) (l : List t.den) : List.map (fun x => elV true (encC t x)) l = (l.map f).map g := by
  rw [List.map_map]; exact List.map_congr_left fun x _ => h x
theorem enc_msg (x : tMsg.den) : elV true (encC tMsg x) = (msgOf x).v := by obtain ⟨a, b, c, d, e, f, g, _⟩ := x; rfl
theorem enc_part (x : tPart.den) : elV true (encC tPart x) = (partOf x).v := by obtain ⟨a, b, c, d, e, f, g, _⟩ := x; rfl
theorem enc_intsA (x : (Ty.slice tI false).den) : elV false (encC (.slice tI false) x) = intsV x := rfl
theorem enc_person (x : tPerson.den) : elV true (encC tPerson x) = (personOf x).v := by
  obtain ⟨a, b, c, d, e, f, _⟩ := x
  have := enc_list enc_run e
  simp only [personOf, Person.v, runsV, ← this]
  rfl
theorem enc_world (x : tWorld.den) : encC tWorld x = (worldOf x).cells := by
  obtain ⟨⟨c1, c2, c3, c4, c5, c6, c7, _⟩, ⟨d, n, _⟩, ⟨r, s, _⟩, ⟨m, g, l, _⟩, p, e, q, k, _⟩ := x
  simp only [worldOf, World.cells, sldsV, gramsV, peopleV, eventsV, leaksV, ← enc_list enc_sld s, ← enc_list enc_gram g, ← enc_list enc_person p, ← enc_list enc_event e, ← enc_list enc_leak k]
  rfl
theorem lim_u {n : Int} (h : lim tU n) : U n := by
  obtain ⟨h1, h2⟩ := h
  have e1 : IntKind.u32.min = 0 := by decide
  have e2 : IntKind.u32.max = 4294967295 := by decide
  rw [e1] at h1; rw [e2] at h2
  exact ⟨h1, Int.lt_of_le_of_lt h2 (by decide)⟩
theorem lim_i {n : Int} (h : lim tI n) : I n := by
  obtain ⟨h1, h2⟩ := h
  have e1 : IntKind.i64.min = -9223372036854775808 := by decide
  have e2 : IntKind.i64.max = 9223372036854775807 := by decide
  rw [e1] at h1; rw [e2] at h2
  exact ⟨h1, h2⟩
theorem lim_list {t : Ty} {a : Bool} {α : Type} {f : t.den → α} {p : α → Prop} (h : ∀ x, lim t x → p (f x)) {l : List t.den} (hl : lim (.slice t a) l) : LL p (l.map f) :=
  ⟨by rw [List.length_map]; exact hl.1, fun x hx => by obtain ⟨y, hy, rfl⟩ := List.mem_map.1 hx; exact h y (hl.2 y hy)⟩
theorem lim_words {l : List Int} (h : lim tW l) : LL U l := ⟨h.1, fun x hx => lim_u (h.2 x hx)⟩
theorem lim_rows {l : List (List Int)} (h : lim tR l) : LL (LL U) l := ⟨h.1, fun x hx => lim_words (h.2 x hx)⟩
theorem lim_sld (x : tSld.den) (h : lim tSld x) : (sldOf x).ok := by
  obtain ⟨a, b, c, d, _⟩ := x; obtain ⟨h1, h2, h3, h4, _⟩ := h; exact ⟨lim_u h1, lim_u h2, lim_u h3, lim_words h4⟩
theorem lim_gram (x : tGram.den) (h : lim tGram x) : (gramOf x).ok := by
  obtain ⟨a, b, _⟩ := x; obtain ⟨h1, h2, _⟩ := h; exact ⟨lim_u h1, lim_words h2⟩
theorem lim_run (x : tRun.den) (h : lim tRun x) : (runOf x).ok := by
  obtain ⟨a, b, c, d, e, f, g, k, i, _⟩ := x; obtain ⟨h1, h2, h3, h4, h5, h6, h7, h8, h9, _⟩ := h
  exact ⟨lim_i h1, lim_i h2, lim_u h3, lim_u h4, lim_u h5, lim_u h6, lim_u h7, lim_u h8, lim_i h9⟩
theorem lim_person (x : tPerson.den) (h : lim tPerson x) : (personOf x).ok := by
  obtain ⟨a, b, c, d, e, f, _⟩ := x; obtain ⟨h1, h2, h3, h4, h5, _⟩ := h
  exact ⟨lim_u h1, lim_u h2, lim_u h3, lim_words h4, lim_list lim_run h5⟩
theorem lim_event (x : tEvent.den) (h : lim tEvent x) : (eventOf x).ok := by
  obtain ⟨a, b, c, d, e, f, g, k, i, j, _⟩ := x; obtain ⟨h1, h2, h3, h4, h5, h6, h7, h8, h9, h10, _⟩ := h
  exact ⟨lim_i h1, lim_i h2, lim_i h3, lim_u h4, lim_u h5, lim_u h6, lim_u h7, lim_u h8, lim_u h9, lim_u h10⟩
theorem lim_leak (x : tLeak.den) (h : lim tLeak x) : (leakOf x).ok := by
  obtain ⟨a, b, _⟩ := x; obtain ⟨h1, h2, _⟩ := h; exact ⟨lim_u h1, lim_u h2⟩
theorem lim_op (x : tOp.den) (h : lim tOp x) : (opOf x).ok := by
  obtain ⟨a, b, c, d, e, f, _⟩ := x; obtain ⟨h1, h2, h3, h4, h5, h6, _⟩ := h
  exact ⟨lim_i h1, lim_i h2, lim_i h3, lim_i h4, lim_i h5, lim_words h6⟩
theorem lim_msg (x : tMsg.den) (h : lim tMsg x) : (msgOf x).ok := by
  obtain ⟨a, b, c, d, e, f, g, _⟩ := x; obtain ⟨h1, h2, h3, h4, h5, h6, h7, _⟩ := h
  exact ⟨lim_u h1, lim_u h2, lim_u h3, lim_u h4, lim_u h5, lim_u h6, lim_u h7⟩
theorem lim_part (x : tPart.den) (h : lim tPart x) : (partOf x).ok := by
  obtain ⟨a, b, c, d, e, f, g, _⟩ := x; obtain ⟨h1, h2, h3, h4, h5, h6, h7, _⟩ := h
  exact ⟨lim_u h1, lim_u h2, lim_u h3, lim_u h4, lim_u h5, lim_u h6, lim_u h7⟩
theorem lim_ints {l : List Int} (h : lim (.slice tI false) l) : LL I l := ⟨h.1, fun x hx => lim_i (h.2 x hx)⟩
theorem lim_conf (x : tConf.den) (h : lim tConf x) : (confOf x).ok := by
  obtain ⟨a, b, c, d, e, f, g, _⟩ := x; obtain ⟨h1, h2, h3, h4, h5, h6, h7, _⟩ := h
  exact ⟨lim_u h1, lim_i h2, lim_i h3, lim_i h4, lim_i h5, lim_i h6, lim_i h7⟩
theorem lim_world (x : tWorld.den) (h : lim tWorld x) : (worldOf x).ok := by
  obtain ⟨c, ⟨d, n, _⟩, ⟨r, s, _⟩, ⟨m, g, l, _⟩, p, e, q, k, _⟩ := x
  obtain ⟨h1, ⟨h2, h3, _⟩, ⟨h4, h5, _⟩, ⟨h6, h7, h8, _⟩, h9, h10, h11, h12, _⟩ := h
  exact ⟨lim_conf c h1, ⟨lim_words h2, lim_i h3⟩, ⟨lim_i h4, lim_list lim_sld h5⟩, ⟨lim_i h6, lim_list lim_gram h7, lim_rows h8⟩, lim_list lim_person h9, lim_list lim_event h10, lim_rows h11, lim_list lim_leak h12⟩
end Ch
namespace Ch
open Go Go.Ab
theorem enc_worldA (x : tWorld.den) : elV true (encC tWorld x) = (worldOf x).v := by rw [enc_world]; rfl
theorem enc_conf (x : tConf.den) : elV true (encC tConf x) = (confOf x).v := by obtain ⟨a, b, c, d, e, f, g, _⟩ := x; rfl
theorem enc_ops (x : (Ty.slice tOp true).den) : elV false (encC (.slice tOp true) x) = opsV (List.map opOf x) :=
  congrArg (V.sl · .plain) (enc_list enc_op (show List tOp.den from x))
theorem lim_ops (x : (Ty.slice tOp true).den) (h : lim (.slice tOp true) x) : LL Op.ok (List.map opOf x) := lim_list lim_op h
theorem enc_wordsA (x : tW.den) : elV false (encC tW x) = wordsV x := rfl
theorem lim_u8 {n : Int} (h : lim (.int .u8) n) : 0 ≤ n ∧ n ≤ 255 := by
  obtain ⟨h1, h2⟩ := h
  have e1 : IntKind.u8.min = 0 := by decide
  have e2 : IntKind.u8.max = 255 := by decide
  rw [e1] at h1; rw [e2] at h2; exact ⟨h1, h2⟩
end Ch

/- The types of this translation. -/
namespace Go.Ab
open Go
noncomputable abbrev PP : Program := Go.Proofs.Tryz.prog
theorem ty1 : tdOf PP 1 = some ⟨1, false, .other, [.val .nilFunc], false⟩ := by kernel_rfl
theorem ty2 : tdOf PP 2 = some ⟨1, false, .int .i64, [.int .i64 0], false⟩ := by kernel_rfl
theorem ty3 : tdOf PP 3 = some ⟨1, false, .int .i64, [.int .i64 0], false⟩ := by kernel_rfl
theorem ty4 : tdOf PP 4 = some ⟨1, false, .bool, [.bool false], false⟩ := by kernel_rfl
theorem ty5 : tdOf PP 5 = some ⟨1, false, .int .u8, [.int .u8 0], false⟩ := by kernel_rfl
theorem ty6 : tdOf PP 6 = some ⟨1, false, .int .u8, [.int .u8 0], false⟩ := by kernel_rfl
theorem ty7 : tdOf PP 7 = some ⟨4, true, .struct [(0, 1, false), (1, 1, false), (2, 1, false), (3, 1, false)], [.int .i64 0, .int .i64 0, .bool false, .int .u8 0], false⟩ := by kernel_rfl
theorem ty8 : tdOf PP 8 = some ⟨4, true, .struct [(0, 1, false), (1, 1, false), (2, 1, false), (3, 1, false)], [.int .i64 0, .int .i64 0, .bool false, .int .u8 0], false⟩ := by kernel_rfl
theorem ty9 : tdOf PP 9 = some ⟨1, false, .str, [.val (.string ⟨#[]⟩)], false⟩ := by kernel_rfl
theorem ty10 : tdOf PP 10 = some ⟨1, false, .str, [.val (.string ⟨#[]⟩)], false⟩ := by kernel_rfl
theorem ty11 : tdOf PP 11 = some ⟨1, false, .str, [.val (.string ⟨#[]⟩)], false⟩ := by kernel_rfl
theorem ty12 : tdOf PP 12 = some ⟨1, false, .int .u64, [.int .u64 0], false⟩ := by kernel_rfl
theorem ty13 : tdOf PP 13 = some ⟨2, true, .struct [(0, 1, false), (1, 1, false)], [.val (.string ⟨#[]⟩), .int .u64 0], false⟩ := by kernel_rfl
theorem ty14 : tdOf PP 14 = some ⟨2, true, .struct [(0, 1, false), (1, 1, false)], [.val (.string ⟨#[]⟩), .int .u64 0], false⟩ := by kernel_rfl
theorem ty15 : tdOf PP 15 = some ⟨1, false, .other, [.val (.pointer none)], false⟩ := by kernel_rfl
theorem ty16 : tdOf PP 16 = some ⟨1, false, .other, [.val (.pointer none)], false⟩ := by kernel_rfl
theorem ty17 : tdOf PP 17 = some ⟨1, false, .other, [.val (.pointer none)], false⟩ := by kernel_rfl
theorem ty18 : tdOf PP 18 = some ⟨1, true, .struct [(0, 1, false)], [.val (.pointer none)], false⟩ := by kernel_rfl
theorem ty19 : tdOf PP 19 = some ⟨1, true, .struct [(0, 1, false)], [.val (.pointer none)], false⟩ := by kernel_rfl
theorem ty20 : tdOf PP 20 = some ⟨1, false, .other, [.val .nilIface], false⟩ := by kernel_rfl
theorem ty21 : tdOf PP 21 = some ⟨1, false, .int .i32, [.int .i32 0], false⟩ := by kernel_rfl
theorem ty22 : tdOf PP 22 = some ⟨1, false, .int .u32, [.int .u32 0], false⟩ := by kernel_rfl
theorem ty23 : tdOf PP 23 = some ⟨7, true, .struct [(0, 1, false), (1, 1, false), (2, 1, false), (3, 1, false), (4, 1, false), (5, 1, false), (6, 1, false)], [.int .u32 0, .int .i64 0, .int .i64 0, .int .i64 0, .int .i64 0, .int .i64 0, .int .i64 0], true⟩ := by kernel_rfl
theorem ty24 : tdOf PP 24 = some ⟨7, true, .struct [(0, 1, false), (1, 1, false), (2, 1, false), (3, 1, false), (4, 1, false), (5, 1, false), (6, 1, false)], [.int .u32 0, .int .i64 0, .int .i64 0, .int .i64 0, .int .i64 0, .int .i64 0, .int .i64 0], true⟩ := by kernel_rfl
theorem ty25 : tdOf PP 25 = some ⟨1, false, .slice 22 1 4, [.sl [] .nil], false⟩ := by kernel_rfl
theorem ty26 : tdOf PP 26 = some ⟨2, true, .struct [(0, 1, false), (1, 1, false)], [.sl [] .nil, .int .i64 0], false⟩ := by kernel_rfl
theorem ty27 : tdOf PP 27 = some ⟨2, true, .struct [(0, 1, false), (1, 1, false)], [.sl [] .nil, .int .i64 0], false⟩ := by kernel_rfl
theorem ty28 : tdOf PP 28 = some ⟨1, false, .slice 120 4 40, [.sl [] .nil], false⟩ := by kernel_rfl
theorem ty29 : tdOf PP 29 = some ⟨2, true, .struct [(0, 1, false), (1, 1, false)], [.int .i64 0, .sl [] .nil], false⟩ := by kernel_rfl
theorem ty30 : tdOf PP 30 = some ⟨2, true, .struct [(0, 1, false), (1, 1, false)], [.int .i64 0, .sl [] .nil], false⟩ := by kernel_rfl
theorem ty31 : tdOf PP 31 = some ⟨1, false, .slice 71 2 32, [.sl [] .nil], false⟩ := by kernel_rfl
theorem ty32 : tdOf PP 32 = some ⟨1, false, .slice 25 1 24, [.sl [] .nil], false⟩ := by kernel_rfl
theorem ty33 : tdOf PP 33 = some ⟨3, true, .struct [(0, 1, false), (1, 1, false), (2, 1, false)], [.int .i64 0, .sl [] .nil, .sl [] .nil], false⟩ := by kernel_rfl
theorem ty34 : tdOf PP 34 = some ⟨3, true, .struct [(0, 1, false), (1, 1, false), (2, 1, false)], [.int .i64 0, .sl [] .nil, .sl [] .nil], false⟩ := by kernel_rfl
theorem ty35 : tdOf PP 35 = some ⟨1, false, .slice 53 6 72, [.sl [] .nil], false⟩ := by kernel_rfl
theorem ty36 : tdOf PP 36 = some ⟨1, false, .slice 61 10 56, [.sl [] .nil], false⟩ := by kernel_rfl
theorem ty37 : tdOf PP 37 = some ⟨1, false, .slice 111 2 8, [.sl [] .nil], false⟩ := by kernel_rfl
theorem ty38 : tdOf PP 38 = some ⟨18, true, .struct [(0, 7, true), (7, 2, true), (9, 2, true), (11, 3, true), (14, 1, false), (15, 1, false), (16, 1, false), (17, 1, false)], [.int .u32 0, .int .i64 0, .int .i64 0, .int .i64 0, .int .i64 0, .int .i64 0, .int .i64 0, .sl [] .nil, .int .i64 0, .int .i64 0, .sl [] .nil, .int .i64 0, .sl [] .nil, .sl [] .nil, .sl [] .nil, .sl [] .nil, .sl [] .nil, .sl [] .nil], false⟩ := by kernel_rfl
theorem ty39 : tdOf PP 39 = some ⟨18, true, .struct [(0, 7, true), (7, 2, true), (9, 2, true), (11, 3, true), (14, 1, false), (15, 1, false), (16, 1, false), (17, 1, false)], [.int .u32 0, .int .i64 0, .int .i64 0, .int .i64 0, .int .i64 0, .int .i64 0, .int .i64 0, .sl [] .nil, .int .i64 0, .int .i64 0, .sl [] .nil, .int .i64 0, .sl [] .nil, .sl [] .nil, .sl [] .nil, .sl [] .nil, .sl [] .nil, .sl [] .nil], false⟩ := by kernel_rfl
theorem ty40 : tdOf PP 40 = some ⟨7, true, .struct [(0, 1, false), (1, 1, false), (2, 1, false), (3, 1, false), (4, 1, false), (5, 1, false), (6, 1, false)], [.int .u32 0, .int .u32 0, .int .u32 0, .int .u32 0, .int .u32 0, .int .u32 0, .int .u32 0], true⟩ := by kernel_rfl
theorem ty41 : tdOf PP 41 = some ⟨7, true, .struct [(0, 1, false), (1, 1, false), (2, 1, false), (3, 1, false), (4, 1, false), (5, 1, false), (6, 1, false)], [.int .u32 0, .int .u32 0, .int .u32 0, .int .u32 0, .int .u32 0, .int .u32 0, .int .u32 0], true⟩ := by kernel_rfl
theorem ty42 : tdOf PP 42 = some ⟨1, false, .other, [.val .nilFunc], false⟩ := by kernel_rfl
theorem ty43 : tdOf PP 43 = some ⟨1, false, .other, [.val .nilFunc], false⟩ := by kernel_rfl
theorem ty44 : tdOf PP 44 = some ⟨1, false, .int .i64, [.int .i64 0], false⟩ := by kernel_rfl
theorem ty46 : tdOf PP 46 = some ⟨1, false, .other, [.val .nilFunc], false⟩ := by kernel_rfl
theorem ty48 : tdOf PP 48 = some ⟨1, false, .other, [.val .nilFunc], false⟩ := by kernel_rfl
theorem ty49 : tdOf PP 49 = some ⟨1, false, .other, [.val .nilFunc], false⟩ := by kernel_rfl
theorem ty50 : tdOf PP 50 = some ⟨1, false, .other, [.val .nilFunc], false⟩ := by kernel_rfl
theorem ty51 : tdOf PP 51 = some ⟨1, false, .slice 55 9 48, [.sl [] .nil], false⟩ := by kernel_rfl
theorem ty52 : tdOf PP 52 = some ⟨6, true, .struct [(0, 1, false), (1, 1, false), (2, 1, false), (3, 1, false), (4, 1, false), (5, 1, false)], [.int .u32 0, .int .u32 0, .int .u32 0, .sl [] .nil, .sl [] .nil, .bool false], false⟩ := by kernel_rfl
theorem ty53 : tdOf PP 53 = some ⟨6, true, .struct [(0, 1, false), (1, 1, false), (2, 1, false), (3, 1, false), (4, 1, false), (5, 1, false)], [.int .u32 0, .int .u32 0, .int .u32 0, .sl [] .nil, .sl [] .nil, .bool false], false⟩ := by kernel_rfl
theorem ty54 : tdOf PP 54 = some ⟨9, true, .struct [(0, 1, false), (1, 1, false), (2, 1, false), (3, 1, false), (4, 1, false), (5, 1, false), (6, 1, false), (7, 1, false), (8, 1, false)], [.int .i64 0, .int .i64 0, .int .u32 0, .int .u32 0, .int .u32 0, .int .u32 0, .int .u32 0, .int .u32 0, .int .i64 0], true⟩ := by kernel_rfl
theorem ty55 : tdOf PP 55 = some ⟨9, true, .struct [(0, 1, false), (1, 1, false), (2, 1, false), (3, 1, false), (4, 1, false), (5, 1, false), (6, 1, false), (7, 1, false), (8, 1, false)], [.int .i64 0, .int .i64 0, .int .u32 0, .int .u32 0, .int .u32 0, .int .u32 0, .int .u32 0, .int .u32 0, .int .i64 0], true⟩ := by kernel_rfl
theorem ty56 : tdOf PP 56 = some ⟨7, true, .struct [(0, 1, false), (1, 1, false), (2, 1, false), (3, 1, false), (4, 1, false), (5, 1, false), (6, 1, false)], [.int .u32 0, .int .u32 0, .int .u32 0, .int .u32 0, .int .u32 0, .int .u32 0, .int .u32 0], true⟩ := by kernel_rfl
theorem ty57 : tdOf PP 57 = some ⟨7, true, .struct [(0, 1, false), (1, 1, false), (2, 1, false), (3, 1, false), (4, 1, false), (5, 1, false), (6, 1, false)], [.int .u32 0, .int .u32 0, .int .u32 0, .int .u32 0, .int .u32 0, .int .u32 0, .int .u32 0], true⟩ := by kernel_rfl
theorem ty59 : tdOf PP 59 = some ⟨1, false, .other, [.val .nilFunc], false⟩ := by kernel_rfl
theorem ty60 : tdOf PP 60 = some ⟨10, true, .struct [(0, 1, false), (1, 1, false), (2, 1, false), (3, 1, false), (4, 1, false), (5, 1, false), (6, 1, false), (7, 1, false), (8, 1, false), (9, 1, false)], [.int .i64 0, .int .i64 0, .int .i64 0, .int .u32 0, .int .u32 0, .int .u32 0, .int .u32 0, .int .u32 0, .int .u32 0, .int .u32 0], true⟩ := by kernel_rfl
theorem ty61 : tdOf PP 61 = some ⟨10, true, .struct [(0, 1, false), (1, 1, false), (2, 1, false), (3, 1, false), (4, 1, false), (5, 1, false), (6, 1, false), (7, 1, false), (8, 1, false), (9, 1, false)], [.int .i64 0, .int .i64 0, .int .i64 0, .int .u32 0, .int .u32 0, .int .u32 0, .int .u32 0, .int .u32 0, .int .u32 0, .int .u32 0], true⟩ := by kernel_rfl
theorem ty62 : tdOf PP 62 = some ⟨1, false, .other, [.val .nilFunc], false⟩ := by kernel_rfl
theorem ty63 : tdOf PP 63 = some ⟨1, false, .other, [.val .nilFunc], false⟩ := by kernel_rfl
theorem ty64 : tdOf PP 64 = some ⟨1, false, .other, [.val .nilFunc], false⟩ := by kernel_rfl
theorem ty65 : tdOf PP 65 = some ⟨1, false, .other, [.val .nilFunc], false⟩ := by kernel_rfl
theorem ty66 : tdOf PP 66 = some ⟨1, false, .other, [.val .nilFunc], false⟩ := by kernel_rfl
theorem ty67 : tdOf PP 67 = some ⟨1, false, .other, [.val .nilFunc], false⟩ := by kernel_rfl
theorem ty69 : tdOf PP 69 = some ⟨1, false, .other, [.val .nilFunc], false⟩ := by kernel_rfl
theorem ty70 : tdOf PP 70 = some ⟨2, true, .struct [(0, 1, false), (1, 1, false)], [.int .u32 0, .sl [] .nil], false⟩ := by kernel_rfl
theorem ty71 : tdOf PP 71 = some ⟨2, true, .struct [(0, 1, false), (1, 1, false)], [.int .u32 0, .sl [] .nil], false⟩ := by kernel_rfl
theorem ty72 : tdOf PP 72 = some ⟨1, false, .other, [.val .nilFunc], false⟩ := by kernel_rfl
theorem ty73 : tdOf PP 73 = some ⟨1, false, .other, [.val .nilFunc], false⟩ := by kernel_rfl
theorem ty74 : tdOf PP 74 = some ⟨1, false, .other, [.val .nilFunc], false⟩ := by kernel_rfl
theorem ty75 : tdOf PP 75 = some ⟨1, false, .other, [.val .nilFunc], false⟩ := by kernel_rfl
theorem ty76 : tdOf PP 76 = some ⟨1, false, .other, [.val .nilFunc], false⟩ := by kernel_rfl
theorem ty77 : tdOf PP 77 = some ⟨1, false, .int .u64, [.int .u64 0], false⟩ := by kernel_rfl
theorem ty78 : tdOf PP 78 = some ⟨1, false, .other, [.val .nilFunc], false⟩ := by kernel_rfl
theorem ty79 : tdOf PP 79 = some ⟨1, false, .other, [.val .nilFunc], false⟩ := by kernel_rfl
theorem ty80 : tdOf PP 80 = some ⟨1, false, .other, [.val .nilFunc], false⟩ := by kernel_rfl
theorem ty82 : tdOf PP 82 = some ⟨1, false, .other, [.val .nilFunc], false⟩ := by kernel_rfl
theorem ty83 : tdOf PP 83 = some ⟨1, false, .other, [.val .nilFunc], false⟩ := by kernel_rfl
theorem ty84 : tdOf PP 84 = some ⟨1, false, .other, [.val (.pointer none)], false⟩ := by kernel_rfl
theorem ty85 : tdOf PP 85 = some ⟨1, false, .other, [.val .nilFunc], false⟩ := by kernel_rfl
theorem ty86 : tdOf PP 86 = some ⟨24, true, .struct [(0, 18, true), (18, 6, true)], [.int .u32 0, .int .i64 0, .int .i64 0, .int .i64 0, .int .i64 0, .int .i64 0, .int .i64 0, .sl [] .nil, .int .i64 0, .int .i64 0, .sl [] .nil, .int .i64 0, .sl [] .nil, .sl [] .nil, .sl [] .nil, .sl [] .nil, .sl [] .nil, .sl [] .nil, .int .u32 0, .int .u32 0, .int .u32 0, .sl [] .nil, .sl [] .nil, .bool false], false⟩ := by kernel_rfl
theorem ty87 : tdOf PP 87 = some ⟨24, true, .struct [(0, 18, true), (18, 6, true)], [.int .u32 0, .int .i64 0, .int .i64 0, .int .i64 0, .int .i64 0, .int .i64 0, .int .i64 0, .sl [] .nil, .int .i64 0, .int .i64 0, .sl [] .nil, .int .i64 0, .sl [] .nil, .sl [] .nil, .sl [] .nil, .sl [] .nil, .sl [] .nil, .sl [] .nil, .int .u32 0, .int .u32 0, .int .u32 0, .sl [] .nil, .sl [] .nil, .bool false], false⟩ := by kernel_rfl
theorem ty88 : tdOf PP 88 = some ⟨1, false, .other, [.val .nilFunc], false⟩ := by kernel_rfl
theorem ty90 : tdOf PP 90 = some ⟨1, false, .other, [.val .nilFunc], false⟩ := by kernel_rfl
theorem ty92 : tdOf PP 92 = some ⟨1, false, .other, [.val .nilFunc], false⟩ := by kernel_rfl
theorem ty94 : tdOf PP 94 = some ⟨1, false, .other, [.val .nilFunc], false⟩ := by kernel_rfl
theorem ty96 : tdOf PP 96 = some ⟨1, false, .other, [.val .nilFunc], false⟩ := by kernel_rfl
theorem ty97 : tdOf PP 97 = some ⟨1, false, .other, [.val .nilFunc], false⟩ := by kernel_rfl
theorem ty98 : tdOf PP 98 = some ⟨1, false, .other, [.val .nilFunc], false⟩ := by kernel_rfl
theorem ty99 : tdOf PP 99 = some ⟨1, false, .other, [.val .nilFunc], false⟩ := by kernel_rfl
theorem ty100 : tdOf PP 100 = some ⟨1, false, .other, [.val .nilFunc], false⟩ := by kernel_rfl
theorem ty101 : tdOf PP 101 = some ⟨1, false, .other, [.val .nilFunc], false⟩ := by kernel_rfl
theorem ty102 : tdOf PP 102 = some ⟨1, false, .other, [.val .nilFunc], false⟩ := by kernel_rfl
theorem ty103 : tdOf PP 103 = some ⟨1, false, .other, [.val .nilFunc], false⟩ := by kernel_rfl
theorem ty104 : tdOf PP 104 = some ⟨1, false, .other, [.val .nilFunc], false⟩ := by kernel_rfl
theorem ty105 : tdOf PP 105 = some ⟨1, false, .other, [.val .nilFunc], false⟩ := by kernel_rfl
theorem ty106 : tdOf PP 106 = some ⟨1, false, .other, [.val .nilFunc], false⟩ := by kernel_rfl
theorem ty107 : tdOf PP 107 = some ⟨1, false, .other, [.val .nilFunc], false⟩ := by kernel_rfl
theorem ty108 : tdOf PP 108 = some ⟨1, false, .other, [.val .nilFunc], false⟩ := by kernel_rfl
theorem ty109 : tdOf PP 109 = some ⟨1, false, .other, [.val .nilFunc], false⟩ := by kernel_rfl
theorem ty110 : tdOf PP 110 = some ⟨2, true, .struct [(0, 1, false), (1, 1, false)], [.int .u32 0, .int .u32 0], true⟩ := by kernel_rfl
theorem ty111 : tdOf PP 111 = some ⟨2, true, .struct [(0, 1, false), (1, 1, false)], [.int .u32 0, .int .u32 0], true⟩ := by kernel_rfl
theorem ty113 : tdOf PP 113 = some ⟨1, false, .other, [.val .nilFunc], false⟩ := by kernel_rfl
theorem ty114 : tdOf PP 114 = some ⟨1, false, .other, [.val .nilFunc], false⟩ := by kernel_rfl
theorem ty116 : tdOf PP 116 = some ⟨1, false, .other, [.val .nilFunc], false⟩ := by kernel_rfl
theorem ty118 : tdOf PP 118 = some ⟨1, false, .other, [.val .nilFunc], false⟩ := by kernel_rfl
theorem ty119 : tdOf PP 119 = some ⟨4, true, .struct [(0, 1, false), (1, 1, false), (2, 1, false), (3, 1, false)], [.int .u32 0, .int .u32 0, .int .u32 0, .sl [] .nil], false⟩ := by kernel_rfl
theorem ty120 : tdOf PP 120 = some ⟨4, true, .struct [(0, 1, false), (1, 1, false), (2, 1, false), (3, 1, false)], [.int .u32 0, .int .u32 0, .int .u32 0, .sl [] .nil], false⟩ := by kernel_rfl
theorem ty121 : tdOf PP 121 = some ⟨1, false, .other, [.val .nilFunc], false⟩ := by kernel_rfl
theorem ty122 : tdOf PP 122 = some ⟨1, false, .other, [.val .nilFunc], false⟩ := by kernel_rfl
theorem ty123 : tdOf PP 123 = some ⟨1, false, .other, [.val .nilFunc], false⟩ := by kernel_rfl
theorem ty124 : tdOf PP 124 = some ⟨1, false, .other, [.val .nilFunc], false⟩ := by kernel_rfl
theorem ty125 : tdOf PP 125 = some ⟨1, false, .other, [.val .nilFunc], false⟩ := by kernel_rfl
theorem ty126 : tdOf PP 126 = some ⟨1, false, .other, [.val .nilFunc], false⟩ := by kernel_rfl
theorem ty127 : tdOf PP 127 = some ⟨1, false, .other, [.val .nilFunc], false⟩ := by kernel_rfl
theorem ty128 : tdOf PP 128 = some ⟨1, false, .other, [.val .nilFunc], false⟩ := by kernel_rfl
theorem ty129 : tdOf PP 129 = some ⟨1, false, .other, [.val .nilFunc], false⟩ := by kernel_rfl
theorem ty130 : tdOf PP 130 = some ⟨1, false, .other, [.val .nilFunc], false⟩ := by kernel_rfl
theorem ty131 : tdOf PP 131 = some ⟨1, false, .other, [.val .nilFunc], false⟩ := by kernel_rfl
theorem ty132 : tdOf PP 132 = some ⟨1, false, .other, [.val .nilFunc], false⟩ := by kernel_rfl
theorem ty133 : tdOf PP 133 = some ⟨1, false, .slice 137 2 32, [.sl [] .nil], false⟩ := by kernel_rfl
theorem ty135 : tdOf PP 135 = some ⟨1, false, .other, [.val .nilFunc], false⟩ := by kernel_rfl
theorem ty136 : tdOf PP 136 = some ⟨2, true, .struct [(0, 1, false), (1, 1, false)], [.int .u32 0, .sl [] .nil], false⟩ := by kernel_rfl
theorem ty137 : tdOf PP 137 = some ⟨2, true, .struct [(0, 1, false), (1, 1, false)], [.int .u32 0, .sl [] .nil], false⟩ := by kernel_rfl
theorem ty138 : tdOf PP 138 = some ⟨1, false, .other, [.val .nilFunc], false⟩ := by kernel_rfl
theorem ty140 : tdOf PP 140 = some ⟨1, false, .other, [.val .nilFunc], false⟩ := by kernel_rfl
theorem ty142 : tdOf PP 142 = some ⟨1, false, .other, [.val .nilFunc], false⟩ := by kernel_rfl
theorem ty144 : tdOf PP 144 = some ⟨1, false, .other, [.val .nilFunc], false⟩ := by kernel_rfl
theorem ty145 : tdOf PP 145 = some ⟨1, false, .other, [.val .nilIface], false⟩ := by kernel_rfl
theorem ty146 : tdOf PP 146 = some ⟨1, false, .other, [.val .nilIface], false⟩ := by kernel_rfl
theorem ty148 : tdOf PP 148 = some ⟨1, false, .map 22 146, [.val (.map none)], false⟩ := by kernel_rfl
theorem ty149 : tdOf PP 149 = some ⟨1, false, .other, [.val .nilFunc], false⟩ := by kernel_rfl
theorem ty150 : tdOf PP 150 = some ⟨1, false, .other, [.val .nilFunc], false⟩ := by kernel_rfl
theorem ty151 : tdOf PP 151 = some ⟨1, false, .other, [.val .nilFunc], false⟩ := by kernel_rfl
theorem ty153 : tdOf PP 153 = some ⟨1, false, .other, [.val .nilFunc], false⟩ := by kernel_rfl
theorem ty154 : tdOf PP 154 = some ⟨1, false, .other, [.val .nilFunc], false⟩ := by kernel_rfl
theorem ty156 : tdOf PP 156 = some ⟨1, false, .other, [.val .nilFunc], false⟩ := by kernel_rfl
theorem ty157 : tdOf PP 157 = some ⟨1, false, .other, [.val .nilFunc], false⟩ := by kernel_rfl
theorem ty159 : tdOf PP 159 = some ⟨1, false, .other, [.val .nilFunc], false⟩ := by kernel_rfl
theorem ty160 : tdOf PP 160 = some ⟨1, false, .other, [.val .nilFunc], false⟩ := by kernel_rfl
theorem ty162 : tdOf PP 162 = some ⟨1, false, .other, [.val .nilFunc], false⟩ := by kernel_rfl
theorem ty163 : tdOf PP 163 = some ⟨1, false, .other, [.val .nilFunc], false⟩ := by kernel_rfl
theorem ty165 : tdOf PP 165 = some ⟨1, false, .other, [.val .nilFunc], false⟩ := by kernel_rfl
theorem ty166 : tdOf PP 166 = some ⟨1, false, .other, [.val .nilFunc], false⟩ := by kernel_rfl
theorem ty167 : tdOf PP 167 = some ⟨1, false, .other, [.val .nilFunc], false⟩ := by kernel_rfl
theorem ty168 : tdOf PP 168 = some ⟨1, false, .other, [.val .nilFunc], false⟩ := by kernel_rfl
theorem ty169 : tdOf PP 169 = some ⟨1, false, .other, [.val .nilFunc], false⟩ := by kernel_rfl
theorem ty171 : tdOf PP 171 = some ⟨1, false, .other, [.val .nilFunc], false⟩ := by kernel_rfl
theorem ty172 : tdOf PP 172 = some ⟨1, false, .other, [.val .nilFunc], false⟩ := by kernel_rfl
theorem ty174 : tdOf PP 174 = some ⟨1, false, .other, [.val .nilFunc], false⟩ := by kernel_rfl
theorem ty176 : tdOf PP 176 = some ⟨1, false, .other, [.val .nilFunc], false⟩ := by kernel_rfl
theorem ty177 : tdOf PP 177 = some ⟨1, false, .other, [.val .nilFunc], false⟩ := by kernel_rfl
theorem ty178 : tdOf PP 178 = some ⟨1, false, .other, [.val .nilFunc], false⟩ := by kernel_rfl
theorem ty179 : tdOf PP 179 = some ⟨1, false, .other, [.val .nilFunc], false⟩ := by kernel_rfl
theorem ty180 : tdOf PP 180 = some ⟨1, false, .other, [.val .nilFunc], false⟩ := by kernel_rfl
theorem ty181 : tdOf PP 181 = some ⟨1, false, .other, [.val .nilFunc], false⟩ := by kernel_rfl
theorem ty182 : tdOf PP 182 = some ⟨1, false, .other, [.val .nilFunc], false⟩ := by kernel_rfl
theorem ty183 : tdOf PP 183 = some ⟨1, false, .other, [.val .nilFunc], false⟩ := by kernel_rfl
theorem ty184 : tdOf PP 184 = some ⟨1, false, .other, [.val .nilFunc], false⟩ := by kernel_rfl
theorem ty185 : tdOf PP 185 = some ⟨1, false, .other, [.val .nilFunc], false⟩ := by kernel_rfl
theorem ty187 : tdOf PP 187 = some ⟨1, false, .other, [.val .nilFunc], false⟩ := by kernel_rfl
theorem ty189 : tdOf PP 189 = some ⟨1, false, .other, [.val .nilFunc], false⟩ := by kernel_rfl
theorem ty190 : tdOf PP 190 = some ⟨1, false, .other, [.val (.pointer none)], false⟩ := by kernel_rfl
theorem ty191 : tdOf PP 191 = some ⟨8, true, .array 8 1 false, [.val (.pointer none), .val (.pointer none), .val (.pointer none), .val (.pointer none), .val (.pointer none), .val (.pointer none), .val (.pointer none), .val (.pointer none)], false⟩ := by kernel_rfl
theorem ty192 : tdOf PP 192 = some ⟨1, false, .other, [.val .nilFunc], false⟩ := by kernel_rfl
theorem ty193 : tdOf PP 193 = some ⟨1, false, .other, [.val (.pointer none)], false⟩ := by kernel_rfl
theorem ty194 : tdOf PP 194 = some ⟨1, false, .other, [.val .nilFunc], false⟩ := by kernel_rfl
theorem ty195 : tdOf PP 195 = some ⟨1, false, .other, [.val .nilFunc], false⟩ := by kernel_rfl
theorem ty196 : tdOf PP 196 = some ⟨1, false, .other, [.val .nilFunc], false⟩ := by kernel_rfl
theorem ty197 : tdOf PP 197 = some ⟨1, false, .other, [.val .nilFunc], false⟩ := by kernel_rfl
theorem ty199 : tdOf PP 199 = some ⟨1, false, .other, [.val .nilFunc], false⟩ := by kernel_rfl
theorem ty200 : tdOf PP 200 = some ⟨1, false, .other, [.val .nilFunc], false⟩ := by kernel_rfl
theorem ty201 : tdOf PP 201 = some ⟨1, false, .slice 190 1 8, [.sl [] .nil], false⟩ := by kernel_rfl
theorem ty203 : tdOf PP 203 = some ⟨1, false, .other, [.val .nilFunc], false⟩ := by kernel_rfl
theorem ty204 : tdOf PP 204 = some ⟨1, false, .other, [.val (.pointer none)], false⟩ := by kernel_rfl
theorem ty205 : tdOf PP 205 = some ⟨1, false, .other, [.val .nilFunc], false⟩ := by kernel_rfl
theorem ty206 : tdOf PP 206 = some ⟨1, false, .other, [.val .nilFunc], false⟩ := by kernel_rfl
theorem ty207 : tdOf PP 207 = some ⟨1, false, .other, [.val .nilFunc], false⟩ := by kernel_rfl
theorem ty208 : tdOf PP 208 = some ⟨1, false, .other, [.val .nilFunc], false⟩ := by kernel_rfl
theorem ty209 : tdOf PP 209 = some ⟨1, false, .other, [.val .nilFunc], false⟩ := by kernel_rfl
theorem ty210 : tdOf PP 210 = some ⟨1, false, .slice 51 1 24, [.sl [] .nil], false⟩ := by kernel_rfl
theorem ty211 : tdOf PP 211 = some ⟨1, false, .other, [.val .nilFunc], false⟩ := by kernel_rfl
theorem ty212 : tdOf PP 212 = some ⟨1, false, .other, [.val .nilFunc], false⟩ := by kernel_rfl
theorem ty213 : tdOf PP 213 = some ⟨1, false, .other, [.val .nilFunc], false⟩ := by kernel_rfl
theorem ty214 : tdOf PP 214 = some ⟨1, false, .other, [.val .nilFunc], false⟩ := by kernel_rfl
theorem ty215 : tdOf PP 215 = some ⟨1, false, .other, [.val .nilFunc], false⟩ := by kernel_rfl
theorem ty216 : tdOf PP 216 = some ⟨1, false, .slice 36 1 24, [.sl [] .nil], false⟩ := by kernel_rfl
theorem ty217 : tdOf PP 217 = some ⟨1, false, .other, [.val .nilFunc], false⟩ := by kernel_rfl
theorem ty218 : tdOf PP 218 = some ⟨1, false, .other, [.val .nilFunc], false⟩ := by kernel_rfl
theorem ty219 : tdOf PP 219 = some ⟨10, true, .array 10 1 false, [.int .u32 0, .int .u32 0, .int .u32 0, .int .u32 0, .int .u32 0, .int .u32 0, .int .u32 0, .int .u32 0, .int .u32 0, .int .u32 0], false⟩ := by kernel_rfl
theorem ty220 : tdOf PP 220 = some ⟨1, false, .other, [.val .nilFunc], false⟩ := by kernel_rfl
theorem ty221 : tdOf PP 221 = some ⟨1, false, .other, [.val (.pointer none)], false⟩ := by kernel_rfl
theorem ty222 : tdOf PP 222 = some ⟨19, true, .struct [(0, 18, true), (18, 1, false)], [.int .u32 0, .int .i64 0, .int .i64 0, .int .i64 0, .int .i64 0, .int .i64 0, .int .i64 0, .sl [] .nil, .int .i64 0, .int .i64 0, .sl [] .nil, .int .i64 0, .sl [] .nil, .sl [] .nil, .sl [] .nil, .sl [] .nil, .sl [] .nil, .sl [] .nil, .int .i64 0], false⟩ := by kernel_rfl
theorem ty223 : tdOf PP 223 = some ⟨19, true, .struct [(0, 18, true), (18, 1, false)], [.int .u32 0, .int .i64 0, .int .i64 0, .int .i64 0, .int .i64 0, .int .i64 0, .int .i64 0, .sl [] .nil, .int .i64 0, .int .i64 0, .sl [] .nil, .int .i64 0, .sl [] .nil, .sl [] .nil, .sl [] .nil, .sl [] .nil, .sl [] .nil, .sl [] .nil, .int .i64 0], false⟩ := by kernel_rfl
theorem ty224 : tdOf PP 224 = some ⟨1, false, .other, [.val .nilFunc], false⟩ := by kernel_rfl
theorem ty225 : tdOf PP 225 = some ⟨1, false, .other, [.val .nilFunc], false⟩ := by kernel_rfl
theorem ty226 : tdOf PP 226 = some ⟨1, false, .other, [.val (.pointer none)], false⟩ := by kernel_rfl
theorem ty227 : tdOf PP 227 = some ⟨48, true, .struct [(0, 18, true), (18, 7, true), (25, 6, true), (31, 6, true), (37, 6, true), (43, 1, false), (44, 1, false), (45, 1, false), (46, 1, false), (47, 1, false)], [.int .u32 0, .int .i64 0, .int .i64 0, .int .i64 0, .int .i64 0, .int .i64 0, .int .i64 0, .sl [] .nil, .int .i64 0, .int .i64 0, .sl [] .nil, .int .i64 0, .sl [] .nil, .sl [] .nil, .sl [] .nil, .sl [] .nil, .sl [] .nil, .sl [] .nil, .int .u32 0, .int .u32 0, .int .u32 0, .int .u32 0, .int .u32 0, .int .u32 0, .int .u32 0, .int .u32 0, .int .u32 0, .int .u32 0, .sl [] .nil, .sl [] .nil, .bool false, .int .u32 0, .int .u32 0, .int .u32 0, .sl [] .nil, .sl [] .nil, .bool false, .int .u32 0, .int .u32 0, .int .u32 0, .sl [] .nil, .sl [] .nil, .bool false, .int .u32 0, .int .u32 0, .int .u32 0, .int .u32 0, .int .u32 0], false⟩ := by kernel_rfl
theorem ty228 : tdOf PP 228 = some ⟨48, true, .struct [(0, 18, true), (18, 7, true), (25, 6, true), (31, 6, true), (37, 6, true), (43, 1, false), (44, 1, false), (45, 1, false), (46, 1, false), (47, 1, false)], [.int .u32 0, .int .i64 0, .int .i64 0, .int .i64 0, .int .i64 0, .int .i64 0, .int .i64 0, .sl [] .nil, .int .i64 0, .int .i64 0, .sl [] .nil, .int .i64 0, .sl [] .nil, .sl [] .nil, .sl [] .nil, .sl [] .nil, .sl [] .nil, .sl [] .nil, .int .u32 0, .int .u32 0, .int .u32 0, .int .u32 0, .int .u32 0, .int .u32 0, .int .u32 0, .int .u32 0, .int .u32 0, .int .u32 0, .sl [] .nil, .sl [] .nil, .bool false, .int .u32 0, .int .u32 0, .int .u32 0, .sl [] .nil, .sl [] .nil, .bool false, .int .u32 0, .int .u32 0, .int .u32 0, .sl [] .nil, .sl [] .nil, .bool false, .int .u32 0, .int .u32 0, .int .u32 0, .int .u32 0, .int .u32 0], false⟩ := by kernel_rfl
theorem ty229 : tdOf PP 229 = some ⟨1, false, .other, [.val .nilFunc], false⟩ := by kernel_rfl
theorem ty230 : tdOf PP 230 = some ⟨1, true, .struct [(0, 1, false)], [.val .nilFunc], false⟩ := by kernel_rfl
theorem ty231 : tdOf PP 231 = some ⟨1, true, .struct [(0, 1, false)], [.val .nilFunc], false⟩ := by kernel_rfl
theorem ty232 : tdOf PP 232 = some ⟨1, false, .slice 231 1 8, [.sl [] .nil], false⟩ := by kernel_rfl
theorem ty233 : tdOf PP 233 = some ⟨1, false, .other, [.val .nilFunc], false⟩ := by kernel_rfl
theorem ty234 : tdOf PP 234 = some ⟨1, false, .other, [.val .nilFunc], false⟩ := by kernel_rfl
theorem ty235 : tdOf PP 235 = some ⟨1, false, .other, [.val .nilFunc], false⟩ := by kernel_rfl
theorem ty236 : tdOf PP 236 = some ⟨1, false, .other, [.val .nilFunc], false⟩ := by kernel_rfl
theorem ty237 : tdOf PP 237 = some ⟨1, false, .other, [.val .nilFunc], false⟩ := by kernel_rfl
theorem ty238 : tdOf PP 238 = some ⟨1, false, .other, [.val .nilFunc], false⟩ := by kernel_rfl
theorem ty239 : tdOf PP 239 = some ⟨1, false, .other, [.val .nilFunc], false⟩ := by kernel_rfl
theorem ty240 : tdOf PP 240 = some ⟨1, false, .map 22 239, [.val (.map none)], false⟩ := by kernel_rfl
theorem ty242 : tdOf PP 242 = some ⟨1, false, .other, [.val .nilFunc], false⟩ := by kernel_rfl
theorem ty243 : tdOf PP 243 = some ⟨1, false, .other, [.val .nilFunc], false⟩ := by kernel_rfl
theorem ty244 : tdOf PP 244 = some ⟨1, false, .slice 28 1 24, [.sl [] .nil], false⟩ := by kernel_rfl
theorem ty245 : tdOf PP 245 = some ⟨1, false, .other, [.val .nilFunc], false⟩ := by kernel_rfl
theorem ty246 : tdOf PP 246 = some ⟨1, false, .other, [.val .nilFunc], false⟩ := by kernel_rfl
theorem ty247 : tdOf PP 247 = some ⟨1, false, .slice 32 1 24, [.sl [] .nil], false⟩ := by kernel_rfl
theorem ty248 : tdOf PP 248 = some ⟨1, false, .other, [.val .nilFunc], false⟩ := by kernel_rfl
theorem ty250 : tdOf PP 250 = some ⟨1, false, .other, [.val .nilFunc], false⟩ := by kernel_rfl
theorem ty251 : tdOf PP 251 = some ⟨1, false, .slice 229 1 8, [.sl [] .nil], false⟩ := by kernel_rfl
theorem ty252 : tdOf PP 252 = some ⟨1, false, .other, [.val .nilFunc], false⟩ := by kernel_rfl
theorem ty253 : tdOf PP 253 = some ⟨4, true, .struct [(0, 1, false), (1, 1, false), (2, 1, false), (3, 1, false)], [.val (.pointer none), .val (.pointer none), .val (.pointer none), .val (.string ⟨#[]⟩)], false⟩ := by kernel_rfl
theorem ty254 : tdOf PP 254 = some ⟨4, true, .struct [(0, 1, false), (1, 1, false), (2, 1, false), (3, 1, false)], [.val (.pointer none), .val (.pointer none), .val (.pointer none), .val (.string ⟨#[]⟩)], false⟩ := by kernel_rfl
theorem ty255 : tdOf PP 255 = some ⟨0, true, .array 0 1 false, [], false⟩ := by kernel_rfl
theorem ty256 : tdOf PP 256 = some ⟨0, true, .struct [(0, 0, true)], [], false⟩ := by kernel_rfl
theorem ty257 : tdOf PP 257 = some ⟨0, true, .struct [(0, 0, true)], [], false⟩ := by kernel_rfl
theorem ty258 : tdOf PP 258 = some ⟨1, false, .other, [.val .nilFunc], false⟩ := by kernel_rfl
theorem ty259 : tdOf PP 259 = some ⟨1, false, .int .u8, [.int .u8 0], false⟩ := by kernel_rfl
theorem ty260 : tdOf PP 260 = some ⟨1, false, .int .u8, [.int .u8 0], false⟩ := by kernel_rfl
theorem ty261 : tdOf PP 261 = some ⟨1, false, .other, [.val .nilFunc], false⟩ := by kernel_rfl
theorem ty262 : tdOf PP 262 = some ⟨1, false, .other, [.val (.pointer none)], false⟩ := by kernel_rfl
theorem ty263 : tdOf PP 263 = some ⟨1, false, .int .i32, [.int .i32 0], false⟩ := by kernel_rfl
theorem ty264 : tdOf PP 264 = some ⟨1, false, .int .i32, [.int .i32 0], false⟩ := by kernel_rfl
theorem ty265 : tdOf PP 265 = some ⟨11, true, .struct [(0, 1, false), (1, 1, false), (2, 1, false), (3, 1, false), (4, 1, false), (5, 1, false), (6, 1, false), (7, 1, false), (8, 1, false), (9, 1, false), (10, 1, false)], [.int .u64 0, .int .u64 0, .int .u32 0, .int .u8 0, .int .u8 0, .int .u8 0, .int .u8 0, .val .nilFunc, .val (.pointer none), .int .i32 0, .int .i32 0], false⟩ := by kernel_rfl
theorem ty266 : tdOf PP 266 = some ⟨11, true, .struct [(0, 1, false), (1, 1, false), (2, 1, false), (3, 1, false), (4, 1, false), (5, 1, false), (6, 1, false), (7, 1, false), (8, 1, false), (9, 1, false), (10, 1, false)], [.int .u64 0, .int .u64 0, .int .u32 0, .int .u8 0, .int .u8 0, .int .u8 0, .int .u8 0, .val .nilFunc, .val (.pointer none), .int .i32 0, .int .i32 0], false⟩ := by kernel_rfl
theorem ty267 : tdOf PP 267 = some ⟨1, false, .other, [.val (.pointer none)], false⟩ := by kernel_rfl
theorem if2 : ifcT PP 2 = true := by kernel_rfl
theorem if3 : ifcT PP 3 = true := by kernel_rfl
theorem if4 : ifcT PP 4 = true := by kernel_rfl
theorem if5 : ifcT PP 5 = true := by kernel_rfl
theorem if6 : ifcT PP 6 = true := by kernel_rfl
theorem if7 : ifcT PP 7 = true := by kernel_rfl
theorem if8 : ifcT PP 8 = true := by kernel_rfl
theorem if9 : ifcT PP 9 = true := by kernel_rfl
theorem if10 : ifcT PP 10 = true := by kernel_rfl
theorem if11 : ifcT PP 11 = true := by kernel_rfl
theorem if12 : ifcT PP 12 = true := by kernel_rfl
theorem if13 : ifcT PP 13 = true := by kernel_rfl
theorem if14 : ifcT PP 14 = true := by kernel_rfl
theorem if18 : ifcT PP 18 = true := by kernel_rfl
theorem if19 : ifcT PP 19 = true := by kernel_rfl
theorem if21 : ifcT PP 21 = true := by kernel_rfl
theorem if22 : ifcT PP 22 = true := by kernel_rfl
theorem if23 : ifcT PP 23 = true := by kernel_rfl
theorem if24 : ifcT PP 24 = true := by kernel_rfl
theorem sl25 : slcT PP 25 = some 1 := by kernel_rfl
theorem ap25 : appT PP 25 25 = some 1 := by kernel_rfl
theorem if25 : ifcT PP 25 = true := by kernel_rfl
theorem if26 : ifcT PP 26 = true := by kernel_rfl
theorem if27 : ifcT PP 27 = true := by kernel_rfl
theorem sl28 : slcT PP 28 = some 4 := by kernel_rfl
theorem ap28 : appT PP 28 28 = some 4 := by kernel_rfl
theorem if28 : ifcT PP 28 = true := by kernel_rfl
theorem if29 : ifcT PP 29 = true := by kernel_rfl
theorem if30 : ifcT PP 30 = true := by kernel_rfl
theorem sl31 : slcT PP 31 = some 2 := by kernel_rfl
theorem ap31 : appT PP 31 31 = some 2 := by kernel_rfl
theorem if31 : ifcT PP 31 = true := by kernel_rfl
theorem sl32 : slcT PP 32 = some 1 := by kernel_rfl
theorem ap32 : appT PP 32 32 = some 1 := by kernel_rfl
theorem if32 : ifcT PP 32 = true := by kernel_rfl
theorem if33 : ifcT PP 33 = true := by kernel_rfl
theorem if34 : ifcT PP 34 = true := by kernel_rfl
theorem sl35 : slcT PP 35 = some 6 := by kernel_rfl
theorem ap35 : appT PP 35 35 = some 6 := by kernel_rfl
theorem if35 : ifcT PP 35 = true := by kernel_rfl
theorem sl36 : slcT PP 36 = some 10 := by kernel_rfl
theorem ap36 : appT PP 36 36 = some 10 := by kernel_rfl
theorem if36 : ifcT PP 36 = true := by kernel_rfl
theorem sl37 : slcT PP 37 = some 2 := by kernel_rfl
theorem ap37 : appT PP 37 37 = some 2 := by kernel_rfl
theorem if37 : ifcT PP 37 = true := by kernel_rfl
theorem if38 : ifcT PP 38 = true := by kernel_rfl
theorem if39 : ifcT PP 39 = true := by kernel_rfl
theorem if40 : ifcT PP 40 = true := by kernel_rfl
theorem if41 : ifcT PP 41 = true := by kernel_rfl
theorem if44 : ifcT PP 44 = true := by kernel_rfl
theorem sl51 : slcT PP 51 = some 9 := by kernel_rfl
theorem ap51 : appT PP 51 51 = some 9 := by kernel_rfl
theorem if51 : ifcT PP 51 = true := by kernel_rfl
theorem if52 : ifcT PP 52 = true := by kernel_rfl
theorem if53 : ifcT PP 53 = true := by kernel_rfl
theorem if54 : ifcT PP 54 = true := by kernel_rfl
theorem if55 : ifcT PP 55 = true := by kernel_rfl
theorem if56 : ifcT PP 56 = true := by kernel_rfl
theorem if57 : ifcT PP 57 = true := by kernel_rfl
theorem if60 : ifcT PP 60 = true := by kernel_rfl
theorem if61 : ifcT PP 61 = true := by kernel_rfl
theorem if70 : ifcT PP 70 = true := by kernel_rfl
theorem if71 : ifcT PP 71 = true := by kernel_rfl
theorem if77 : ifcT PP 77 = true := by kernel_rfl
theorem if86 : ifcT PP 86 = true := by kernel_rfl
theorem if87 : ifcT PP 87 = true := by kernel_rfl
theorem if110 : ifcT PP 110 = true := by kernel_rfl
theorem if111 : ifcT PP 111 = true := by kernel_rfl
theorem if119 : ifcT PP 119 = true := by kernel_rfl
theorem if120 : ifcT PP 120 = true := by kernel_rfl
theorem sl133 : slcT PP 133 = some 2 := by kernel_rfl
theorem ap133 : appT PP 133 133 = some 2 := by kernel_rfl
theorem if133 : ifcT PP 133 = true := by kernel_rfl
theorem if136 : ifcT PP 136 = true := by kernel_rfl
theorem if137 : ifcT PP 137 = true := by kernel_rfl
theorem mt148 : mapT PP 148 = some (22, 146) := by kernel_rfl
theorem sg22 : sgT PP 22 = some (false, [.u32]) := by kernel_rfl
theorem zt146 : zeroT PP 146 = some (.val .nilIface) := by kernel_rfl
theorem if191 : ifcT PP 191 = true := by kernel_rfl
theorem sl201 : slcT PP 201 = some 1 := by kernel_rfl
theorem ap201 : appT PP 201 201 = some 1 := by kernel_rfl
theorem if201 : ifcT PP 201 = true := by kernel_rfl
theorem sl210 : slcT PP 210 = some 1 := by kernel_rfl
theorem ap210 : appT PP 210 210 = some 1 := by kernel_rfl
theorem if210 : ifcT PP 210 = true := by kernel_rfl
theorem sl216 : slcT PP 216 = some 1 := by kernel_rfl
theorem ap216 : appT PP 216 216 = some 1 := by kernel_rfl
theorem if216 : ifcT PP 216 = true := by kernel_rfl
theorem if219 : ifcT PP 219 = true := by kernel_rfl
theorem if222 : ifcT PP 222 = true := by kernel_rfl
theorem if223 : ifcT PP 223 = true := by kernel_rfl
theorem if227 : ifcT PP 227 = true := by kernel_rfl
theorem if228 : ifcT PP 228 = true := by kernel_rfl
theorem if230 : ifcT PP 230 = true := by kernel_rfl
theorem if231 : ifcT PP 231 = true := by kernel_rfl
theorem sl232 : slcT PP 232 = some 1 := by kernel_rfl
theorem ap232 : appT PP 232 232 = some 1 := by kernel_rfl
theorem if232 : ifcT PP 232 = true := by kernel_rfl
theorem mt240 : mapT PP 240 = some (22, 239) := by kernel_rfl
theorem zt239 : zeroT PP 239 = some (.val .nilFunc) := by kernel_rfl
theorem sl244 : slcT PP 244 = some 1 := by kernel_rfl
theorem ap244 : appT PP 244 244 = some 1 := by kernel_rfl
theorem if244 : ifcT PP 244 = true := by kernel_rfl
theorem sl247 : slcT PP 247 = some 1 := by kernel_rfl
theorem ap247 : appT PP 247 247 = some 1 := by kernel_rfl
theorem if247 : ifcT PP 247 = true := by kernel_rfl
theorem sl251 : slcT PP 251 = some 1 := by kernel_rfl
theorem ap251 : appT PP 251 251 = some 1 := by kernel_rfl
theorem if251 : ifcT PP 251 = true := by kernel_rfl
theorem if253 : ifcT PP 253 = true := by kernel_rfl
theorem if254 : ifcT PP 254 = true := by kernel_rfl
theorem if255 : ifcT PP 255 = true := by kernel_rfl
theorem if256 : ifcT PP 256 = true := by kernel_rfl
theorem if257 : ifcT PP 257 = true := by kernel_rfl
theorem if259 : ifcT PP 259 = true := by kernel_rfl
theorem if260 : ifcT PP 260 = true := by kernel_rfl
theorem if263 : ifcT PP 263 = true := by kernel_rfl
theorem if264 : ifcT PP 264 = true := by kernel_rfl
theorem if265 : ifcT PP 265 = true := by kernel_rfl
theorem if266 : ifcT PP 266 = true := by kernel_rfl
theorem tys : (((((((((type_of% ty1) ∧ (type_of% ty2)) ∧ ((type_of% ty3) ∧ ((type_of% ty4) ∧ (type_of% ty5)))) ∧ (((type_of% ty6) ∧ ((type_of% ty7) ∧ (type_of% ty8))) ∧ ((type_of% ty9) ∧ ((type_of% ty10) ∧ (type_of% ty11))))) ∧ ((((type_of% ty12) ∧ (type_of% ty13)) ∧ ((type_of% ty14) ∧ ((type_of% ty15) ∧ (type_of% ty16)))) ∧ (((type_of% ty17) ∧ ((type_of% ty18) ∧ (type_of% ty19))) ∧ ((type_of% ty20) ∧ ((type_of% ty21) ∧ (type_of% ty22)))))) ∧ (((((type_of% ty23) ∧ (type_of% ty24)) ∧ ((type_of% ty25) ∧ ((type_of% ty26) ∧ (type_of% ty27)))) ∧ (((type_of% ty28) ∧ ((type_of% ty29) ∧ (type_of% ty30))) ∧ ((type_of% ty31) ∧ ((type_of% ty32) ∧ (type_of% ty33))))) ∧ ((((type_of% ty34) ∧ (type_of% ty35)) ∧ ((type_of% ty36) ∧ ((type_of% ty37) ∧ (type_of% ty38)))) ∧ (((type_of% ty39) ∧ ((type_of% ty40) ∧ (type_of% ty41))) ∧ ((type_of% ty42) ∧ ((type_of% ty43) ∧ (type_of% ty44))))))) ∧ ((((((type_of% ty46) ∧ (type_of% ty48)) ∧ ((type_of% ty49) ∧ ((type_of% ty50) ∧ (type_of% ty51)))) ∧ (((type_of% ty52) ∧ ((type_of% ty53) ∧ (type_of% ty54))) ∧ ((type_of% ty55) ∧ ((type_of% ty56) ∧ (type_of% ty57))))) ∧ ((((type_of% ty59) ∧ (type_of% ty60)) ∧ ((type_of% ty61) ∧ ((type_of% ty62) ∧ (type_of% ty63)))) ∧ (((type_of% ty64) ∧ ((type_of% ty65) ∧ (type_of% ty66))) ∧ ((type_of% ty67) ∧ ((type_of% ty69) ∧ (type_of% ty70)))))) ∧ (((((type_of% ty71) ∧ (type_of% ty72)) ∧ ((type_of% ty73) ∧ ((type_of% ty74) ∧ (type_of% ty75)))) ∧ (((type_of% ty76) ∧ ((type_of% ty77) ∧ (type_of% ty78))) ∧ ((type_of% ty79) ∧ ((type_of% ty80) ∧ (type_of% ty82))))) ∧ ((((type_of% ty83) ∧ ((type_of% ty84) ∧ (type_of% ty85))) ∧ ((type_of% ty86) ∧ ((type_of% ty87) ∧ (type_of% ty88)))) ∧ (((type_of% ty90) ∧ ((type_of% ty92) ∧ (type_of% ty94))) ∧ ((type_of% ty96) ∧ ((type_of% ty97) ∧ (type_of% ty98)))))))) ∧ (((((((type_of% ty99) ∧ (type_of% ty100)) ∧ ((type_of% ty101) ∧ ((type_of% ty102) ∧ (type_of% ty103)))) ∧ (((type_of% ty104) ∧ ((type_of% ty105) ∧ (type_of% ty106))) ∧ ((type_of% ty107) ∧ ((type_of% ty108) ∧ (type_of% ty109))))) ∧ ((((type_of% ty110) ∧ (type_of% ty111)) ∧ ((type_of% ty113) ∧ ((type_of% ty114) ∧ (type_of% ty116)))) ∧ (((type_of% ty118) ∧ ((type_of% ty119) ∧ (type_of% ty120))) ∧ ((type_of% ty121) ∧ ((type_of% ty122) ∧ (type_of% ty123)))))) ∧ (((((type_of% ty124) ∧ (type_of% ty125)) ∧ ((type_of% ty126) ∧ ((type_of% ty127) ∧ (type_of% ty128)))) ∧ (((type_of% ty129) ∧ ((type_of% ty130) ∧ (type_of% ty131))) ∧ ((type_of% ty132) ∧ ((type_of% ty133) ∧ (type_of% ty135))))) ∧ ((((type_of% ty136) ∧ (type_of% ty137)) ∧ ((type_of% ty138) ∧ ((type_of% ty140) ∧ (type_of% ty142)))) ∧ (((type_of% ty144) ∧ ((type_of% ty145) ∧ (type_of% ty146))) ∧ ((type_of% ty148) ∧ ((type_of% ty149) ∧ (type_of% ty150))))))) ∧ ((((((type_of% ty151) ∧ (type_of% ty153)) ∧ ((type_of% ty154) ∧ ((type_of% ty156) ∧ (type_of% ty157)))) ∧ (((type_of% ty159) ∧ ((type_of% ty160) ∧ (type_of% ty162))) ∧ ((type_of% ty163) ∧ ((type_of% ty165) ∧ (type_of% ty166))))) ∧ ((((type_of% ty167) ∧ (type_of% ty168)) ∧ ((type_of% ty169) ∧ ((type_of% ty171) ∧ (type_of% ty172)))) ∧ (((type_of% ty174) ∧ ((type_of% ty176) ∧ (type_of% ty177))) ∧ ((type_of% ty178) ∧ ((type_of% ty179) ∧ (type_of% ty180)))))) ∧ (((((type_of% ty181) ∧ (type_of% ty182)) ∧ ((type_of% ty183) ∧ ((type_of% ty184) ∧ (type_of% ty185)))) ∧ (((type_of% ty187) ∧ ((type_of% ty189) ∧ (type_of% ty190))) ∧ ((type_of% ty191) ∧ ((type_of% ty192) ∧ (type_of% ty193))))) ∧ ((((type_of% ty194) ∧ ((type_of% ty195) ∧ (type_of% ty196))) ∧ ((type_of% ty197) ∧ ((type_of% ty199) ∧ (type_of% ty200)))) ∧ (((type_of% ty201) ∧ ((type_of% ty203) ∧ (type_of% ty204))) ∧ ((type_of% ty205) ∧ ((type_of% ty206) ∧ (type_of% ty207))))))))) ∧ ((((((((type_of% ty208) ∧ (type_of% ty209)) ∧ ((type_of% ty210) ∧ ((type_of% ty211) ∧ (type_of% ty212)))) ∧ (((type_of% ty213) ∧ ((type_of% ty214) ∧ (type_of% ty215))) ∧ ((type_of% ty216) ∧ ((type_of% ty217) ∧ (type_of% ty218))))) ∧ ((((type_of% ty219) ∧ (type_of% ty220)) ∧ ((type_of% ty221) ∧ ((type_of% ty222) ∧ (type_of% ty223)))) ∧ (((type_of% ty224) ∧ ((type_of% ty225) ∧ (type_of% ty226))) ∧ ((type_of% ty227) ∧ ((type_of% ty228) ∧ (type_of% ty229)))))) ∧ (((((type_of% ty230) ∧ (type_of% ty231)) ∧ ((type_of% ty232) ∧ ((type_of% ty233) ∧ (type_of% ty234)))) ∧ (((type_of% ty235) ∧ ((type_of% ty236) ∧ (type_of% ty237))) ∧ ((type_of% ty238) ∧ ((type_of% ty239) ∧ (type_of% ty240))))) ∧ ((((type_of% ty242) ∧ (type_of% ty243)) ∧ ((type_of% ty244) ∧ ((type_of% ty245) ∧ (type_of% ty246)))) ∧ (((type_of% ty247) ∧ ((type_of% ty248) ∧ (type_of% ty250))) ∧ ((type_of% ty251) ∧ ((type_of% ty252) ∧ (type_of% ty253))))))) ∧ ((((((type_of% ty254) ∧ (type_of% ty255)) ∧ ((type_of% ty256) ∧ ((type_of% ty257) ∧ (type_of% ty258)))) ∧ (((type_of% ty259) ∧ ((type_of% ty260) ∧ (type_of% ty261))) ∧ ((type_of% ty262) ∧ ((type_of% ty263) ∧ (type_of% ty264))))) ∧ ((((type_of% ty265) ∧ (type_of% ty266)) ∧ ((type_of% ty267) ∧ ((type_of% if2) ∧ (type_of% if3)))) ∧ (((type_of% if4) ∧ ((type_of% if5) ∧ (type_of% if6))) ∧ ((type_of% if7) ∧ ((type_of% if8) ∧ (type_of% if9)))))) ∧ (((((type_of% if10) ∧ (type_of% if11)) ∧ ((type_of% if12) ∧ ((type_of% if13) ∧ (type_of% if14)))) ∧ (((type_of% if18) ∧ ((type_of% if19) ∧ (type_of% if21))) ∧ ((type_of% if22) ∧ ((type_of% if23) ∧ (type_of% if24))))) ∧ ((((type_of% sl25) ∧ ((type_of% ap25) ∧ (type_of% if25))) ∧ ((type_of% if26) ∧ ((type_of% if27) ∧ (type_of% sl28)))) ∧ (((type_of% ap28) ∧ ((type_of% if28) ∧ (type_of% if29))) ∧ ((type_of% if30) ∧ ((type_of% sl31) ∧ (type_of% ap31)))))))) ∧ (((((((type_of% if31) ∧ (type_of% sl32)) ∧ ((type_of% ap32) ∧ ((type_of% if32) ∧ (type_of% if33)))) ∧ (((type_of% if34) ∧ ((type_of% sl35) ∧ (type_of% ap35))) ∧ ((type_of% if35) ∧ ((type_of% sl36) ∧ (type_of% ap36))))) ∧ ((((type_of% if36) ∧ (type_of% sl37)) ∧ ((type_of% ap37) ∧ ((type_of% if37) ∧ (type_of% if38)))) ∧ (((type_of% if39) ∧ ((type_of% if40) ∧ (type_of% if41))) ∧ ((type_of% if44) ∧ ((type_of% sl51) ∧ (type_of% ap51)))))) ∧ (((((type_of% if51) ∧ (type_of% if52)) ∧ ((type_of% if53) ∧ ((type_of% if54) ∧ (type_of% if55)))) ∧ (((type_of% if56) ∧ ((type_of% if57) ∧ (type_of% if60))) ∧ ((type_of% if61) ∧ ((type_of% if70) ∧ (type_of% if71))))) ∧ ((((type_of% if77) ∧ ((type_of% if86) ∧ (type_of% if87))) ∧ ((type_of% if110) ∧ ((type_of% if111) ∧ (type_of% if119)))) ∧ (((type_of% if120) ∧ ((type_of% sl133) ∧ (type_of% ap133))) ∧ ((type_of% if133) ∧ ((type_of% if136) ∧ (type_of% if137))))))) ∧ ((((((type_of% mt148) ∧ (type_of% sg22)) ∧ ((type_of% zt146) ∧ ((type_of% if191) ∧ (type_of% sl201)))) ∧ (((type_of% ap201) ∧ ((type_of% if201) ∧ (type_of% sl210))) ∧ ((type_of% ap210) ∧ ((type_of% if210) ∧ (type_of% sl216))))) ∧ ((((type_of% ap216) ∧ (type_of% if216)) ∧ ((type_of% if219) ∧ ((type_of% if222) ∧ (type_of% if223)))) ∧ (((type_of% if227) ∧ ((type_of% if228) ∧ (type_of% if230))) ∧ ((type_of% if231) ∧ ((type_of% sl232) ∧ (type_of% ap232)))))) ∧ (((((type_of% if232) ∧ (type_of% mt240)) ∧ ((type_of% zt239) ∧ ((type_of% sl244) ∧ (type_of% ap244)))) ∧ (((type_of% if244) ∧ ((type_of% sl247) ∧ (type_of% ap247))) ∧ ((type_of% if247) ∧ ((type_of% sl251) ∧ (type_of% ap251))))) ∧ ((((type_of% if251) ∧ ((type_of% if253) ∧ (type_of% if254))) ∧ ((type_of% if255) ∧ ((type_of% if256) ∧ (type_of% if257)))) ∧ (((type_of% if259) ∧ ((type_of% if260) ∧ (type_of% if263))) ∧ ((type_of% if264) ∧ ((type_of% if265) ∧ (type_of% if266)))))))))) := ⟨⟨⟨⟨⟨⟨⟨⟨ty1, ty2⟩, ⟨ty3, ⟨ty4, ty5⟩⟩⟩, ⟨⟨ty6, ⟨ty7, ty8⟩⟩, ⟨ty9, ⟨ty10, ty11⟩⟩⟩⟩, ⟨⟨⟨ty12, ty13⟩, ⟨ty14, ⟨ty15, ty16⟩⟩⟩, ⟨⟨ty17, ⟨ty18, ty19⟩⟩, ⟨ty20, ⟨ty21, ty22⟩⟩⟩⟩⟩, ⟨⟨⟨⟨ty23, ty24⟩, ⟨ty25, ⟨ty26, ty27⟩⟩⟩, ⟨⟨ty28, ⟨ty29, ty30⟩⟩, ⟨ty31, ⟨ty32, ty33⟩⟩⟩⟩, ⟨⟨⟨ty34, ty35⟩, ⟨ty36, ⟨ty37, ty38⟩⟩⟩, ⟨⟨ty39, ⟨ty40, ty41⟩⟩, ⟨ty42, ⟨ty43, ty44⟩⟩⟩⟩⟩⟩, ⟨⟨⟨⟨⟨ty46, ty48⟩, ⟨ty49, ⟨ty50, ty51⟩⟩⟩, ⟨⟨ty52, ⟨ty53, ty54⟩⟩, ⟨ty55, ⟨ty56, ty57⟩⟩⟩⟩, ⟨⟨⟨ty59, ty60⟩, ⟨ty61, ⟨ty62, ty63⟩⟩⟩, ⟨⟨ty64, ⟨ty65, ty66⟩⟩, ⟨ty67, ⟨ty69, ty70⟩⟩⟩⟩⟩, ⟨⟨⟨⟨ty71, ty72⟩, ⟨ty73, ⟨ty74, ty75⟩⟩⟩, ⟨⟨ty76, ⟨ty77, ty78⟩⟩, ⟨ty79, ⟨ty80, ty82⟩⟩⟩⟩, ⟨⟨⟨ty83, ⟨ty84, ty85⟩⟩, ⟨ty86, ⟨ty87, ty88⟩⟩⟩, ⟨⟨ty90, ⟨ty92, ty94⟩⟩, ⟨ty96, ⟨ty97, ty98⟩⟩⟩⟩⟩⟩⟩, ⟨⟨⟨⟨⟨⟨ty99, ty100⟩, ⟨ty101, ⟨ty102, ty103⟩⟩⟩, ⟨⟨ty104, ⟨ty105, ty106⟩⟩, ⟨ty107, ⟨ty108, ty109⟩⟩⟩⟩, ⟨⟨⟨ty110, ty111⟩, ⟨ty113, ⟨ty114, ty116⟩⟩⟩, ⟨⟨ty118, ⟨ty119, ty120⟩⟩, ⟨ty121, ⟨ty122, ty123⟩⟩⟩⟩⟩, ⟨⟨⟨⟨ty124, ty125⟩, ⟨ty126, ⟨ty127, ty128⟩⟩⟩, ⟨⟨ty129, ⟨ty130, ty131⟩⟩, ⟨ty132, ⟨ty133, ty135⟩⟩⟩⟩, ⟨⟨⟨ty136, ty137⟩, ⟨ty138, ⟨ty140, ty142⟩⟩⟩, ⟨⟨ty144, ⟨ty145, ty146⟩⟩, ⟨ty148, ⟨ty149, ty150⟩⟩⟩⟩⟩⟩, ⟨⟨⟨⟨⟨ty151, ty153⟩, ⟨ty154, ⟨ty156, ty157⟩⟩⟩, ⟨⟨ty159, ⟨ty160, ty162⟩⟩, ⟨ty163, ⟨ty165, ty166⟩⟩⟩⟩, ⟨⟨⟨ty167, ty168⟩, ⟨ty169, ⟨ty171, ty172⟩⟩⟩, ⟨⟨ty174, ⟨ty176, ty177⟩⟩, ⟨ty178, ⟨ty179, ty180⟩⟩⟩⟩⟩, ⟨⟨⟨⟨ty181, ty182⟩, ⟨ty183, ⟨ty184, ty185⟩⟩⟩, ⟨⟨ty187, ⟨ty189, ty190⟩⟩, ⟨ty191, ⟨ty192, ty193⟩⟩⟩⟩, ⟨⟨⟨ty194, ⟨ty195, ty196⟩⟩, ⟨ty197, ⟨ty199, ty200⟩⟩⟩, ⟨⟨ty201, ⟨ty203, ty204⟩⟩, ⟨ty205, ⟨ty206, ty207⟩⟩⟩⟩⟩⟩⟩⟩, ⟨⟨⟨⟨⟨⟨⟨ty208, ty209⟩, ⟨ty210, ⟨ty211, ty212⟩⟩⟩, ⟨⟨ty213, ⟨ty214, ty215⟩⟩, ⟨ty216, ⟨ty217, ty218⟩⟩⟩⟩, ⟨⟨⟨ty219, ty220⟩, ⟨ty221, ⟨ty222, ty223⟩⟩⟩, ⟨⟨ty224, ⟨ty225, ty226⟩⟩, ⟨ty227, ⟨ty228, ty229⟩⟩⟩⟩⟩, ⟨⟨⟨⟨ty230, ty231⟩, ⟨ty232, ⟨ty233, ty234⟩⟩⟩, ⟨⟨ty235, ⟨ty236, ty237⟩⟩, ⟨ty238, ⟨ty239, ty240⟩⟩⟩⟩, ⟨⟨⟨ty242, ty243⟩, ⟨ty244, ⟨ty245, ty246⟩⟩⟩, ⟨⟨ty247, ⟨ty248, ty250⟩⟩, ⟨ty251, ⟨ty252, ty253⟩⟩⟩⟩⟩⟩, ⟨⟨⟨⟨⟨ty254, ty255⟩, ⟨ty256, ⟨ty257, ty258⟩⟩⟩, ⟨⟨ty259, ⟨ty260, ty261⟩⟩, ⟨ty262, ⟨ty263, ty264⟩⟩⟩⟩, ⟨⟨⟨ty265, ty266⟩, ⟨ty267, ⟨if2, if3⟩⟩⟩, ⟨⟨if4, ⟨if5, if6⟩⟩, ⟨if7, ⟨if8, if9⟩⟩⟩⟩⟩, ⟨⟨⟨⟨if10, if11⟩, ⟨if12, ⟨if13, if14⟩⟩⟩, ⟨⟨if18, ⟨if19, if21⟩⟩, ⟨if22, ⟨if23, if24⟩⟩⟩⟩, ⟨⟨⟨sl25, ⟨ap25, if25⟩⟩, ⟨if26, ⟨if27, sl28⟩⟩⟩, ⟨⟨ap28, ⟨if28, if29⟩⟩, ⟨if30, ⟨sl31, ap31⟩⟩⟩⟩⟩⟩⟩, ⟨⟨⟨⟨⟨⟨if31, sl32⟩, ⟨ap32, ⟨if32, if33⟩⟩⟩, ⟨⟨if34, ⟨sl35, ap35⟩⟩, ⟨if35, ⟨sl36, ap36⟩⟩⟩⟩, ⟨⟨⟨if36, sl37⟩, ⟨ap37, ⟨if37, if38⟩⟩⟩, ⟨⟨if39, ⟨if40, if41⟩⟩, ⟨if44, ⟨sl51, ap51⟩⟩⟩⟩⟩, ⟨⟨⟨⟨if51, if52⟩, ⟨if53, ⟨if54, if55⟩⟩⟩, ⟨⟨if56, ⟨if57, if60⟩⟩, ⟨if61, ⟨if70, if71⟩⟩⟩⟩, ⟨⟨⟨if77, ⟨if86, if87⟩⟩, ⟨if110, ⟨if111, if119⟩⟩⟩, ⟨⟨if120, ⟨sl133, ap133⟩⟩, ⟨if133, ⟨if136, if137⟩⟩⟩⟩⟩⟩, ⟨⟨⟨⟨⟨mt148, sg22⟩, ⟨zt146, ⟨if191, sl201⟩⟩⟩, ⟨⟨ap201, ⟨if201, sl210⟩⟩, ⟨ap210, ⟨if210, sl216⟩⟩⟩⟩, ⟨⟨⟨ap216, if216⟩, ⟨if219, ⟨if222, if223⟩⟩⟩, ⟨⟨if227, ⟨if228, if230⟩⟩, ⟨if231, ⟨sl232, ap232⟩⟩⟩⟩⟩, ⟨⟨⟨⟨if232, mt240⟩, ⟨zt239, ⟨sl244, ap244⟩⟩⟩, ⟨⟨if244, ⟨sl247, ap247⟩⟩, ⟨if247, ⟨sl251, ap251⟩⟩⟩⟩, ⟨⟨⟨if251, ⟨if253, if254⟩⟩, ⟨if255, ⟨if256, if257⟩⟩⟩, ⟨⟨if259, ⟨if260, if263⟩⟩, ⟨if264, ⟨if265, if266⟩⟩⟩⟩⟩⟩⟩⟩⟩
end Go.Ab

/- The abstract machine: the library's Grow, of nothing. -/
set_option linter.unusedVariables false
set_option linter.unusedSimpArgs false
namespace Go.Ab
open Go Go.RowKit Go.Proofs Go.Shelf Go.Lib
theorem Grow_nil {P : Program} {ρ : Ren} (L : Lays8.n4 P ρ) (G : Glob) {i0 : TypeInfo} {z : Value} (hi0 : P.info? (ρ.t 25) = some i0) (hz0 : i0.zero = some z) (hs0 : 0 < i0.size) (hzs : z.cells.size = i0.size) (n : Nat) (hb : n * i0.bytes ≤ 140737488355328) (h63 : n ≤ 1099511627776) :
    Spec P G (ρ.f 4) [.sl [] .nil, .int .i64 n] (.row 0 0) [.row i0.size [] 0 false] := by
  intro E xs hE hx
  simp only [RepL, Rep] at hx
  obtain ⟨x1, _, rfl, ⟨a, m, c, h1, h2, h3, h4, h5, h6⟩, x2, _, rfl, ⟨rfl, h7⟩, rfl⟩ := hx
  have hx1 := h5 trivial
  subst hx1
  rcases Nat.eq_zero_or_pos n with hn | hn
  · subst hn
    refine (Any8.slices_Grow_room L none 0 0 0 E.w (by omega) (by omega) (by omega) (by omega)).mono ?_
    rintro e w' ⟨rfl, rfl⟩
    refine ⟨_, { E.bare with τ := fun _ => .slice none 0 0, H := [.row i0.size [] 0 false] }, rfl, rfl, rfl, ⟨hE.below, hE.old, hE.mlt, fun i v b hp => by simp [Env.bare] at hp, fun i v j u b hp => by simp [Env.bare] at hp, fun i h hh => ?_, fun g cs hg => RepAt.mono cs (show E.bare.bare.le _ from ⟨fun _ _ _ h => h, fun _ _ _ h => h, fun _ _ _ _ _ h => by simp [Env.bare] at h, fun _ h => by simp [Env.bare] at h⟩) (hE.glob g cs hg)⟩, ?_, ?_⟩
    · match i, hh with
      | 0, hh =>
        injection hh with hh; subst hh
        exact ⟨none, 0, 0, rfl, rfl, Nat.le_refl _, by unfold maxLen; omega, ⟨by simp, fun u hu => rfl⟩, .inl ⟨rfl, rfl⟩⟩
      | i + 1, hh => simp at hh
    · exact ⟨fun _ _ _ h => h, fun _ _ _ h => h, fun _ _ _ _ _ h => by simp [Env.bare] at h, fun _ h => by simp [Env.bare] at h⟩
    · simp [Rep]
  · refine (Any8.slices_Grow_grow L i0 z hi0 hz0 hs0 none 0 0 n [] E.w (by omega) (by omega) (by simpa using hb) (by omega) (by simp) (fun _ => rfl) (fun a h => by cases h)).mono ?_
    rintro e w' ⟨rfl, rfl⟩
    obtain ⟨g1, g2⟩ := hE.drew
    have hG := grownCap_ge E.w (0 + n) 0 (ρ.t 25)
    have hG2 := grownCap_le_maxLen E.w (0 + n) 0 (ρ.t 25) (by unfold maxLen; omega)
    generalize hg : grownCap E.w (0 + n) 0 (ρ.t 25) = g at hG hG2 ⊢
    obtain ⟨k1, k2⟩ := g1.allocOwn (.cells ((#[] : Array Value) ++ Builtin.zeroCells z.cells (0 + n - 0) ++ Builtin.zeroCells z.cells (g - (0 + n))) (ρ.t 25)) (nid := 0) (NewAt.push _ (.row i0.size [] 0 false)) (.slice (some ⟨E.w.heap.size, 0, none⟩) 0 g) (fun _ => True) (by simp) (fun _ => by
      simp only [HOK]
      refine ⟨some ⟨E.w.heap.size, 0, none⟩, 0, g, rfl, rfl, Nat.zero_le _, hG2, ⟨by simp, fun u hu => by simp [Env.allocOwn]; omega⟩, .inr ⟨E.w.heap.size, ((#[] : Array Value) ++ Builtin.zeroCells z.cells (0 + n - 0) ++ Builtin.zeroCells z.cells (g - (0 + n))), ρ.t 25, rfl, rfl, ?_, ?_, ?_, ?_, ?_⟩⟩
      · show (E.w.drew.alloc _).heap[_]? = _
        exact World.alloc_heap_new _ _
      · simp only [Array.size_append, size_zeroCells, hzs, Array.size_empty]
        rw [Nat.zero_add, ← Nat.add_mul]
        congr 1
        omega
      · simp [flatV, RepL]
      · intro o _; right; exact ⟨rfl, trivial⟩
      · intro o ho; simp at ho)
    refine ⟨_, _, rfl, rfl, rfl, ?_, g2.trans k2, ?_⟩
    · exact k1
    · simp only [Rep]; exact ⟨⟨_, _, _, rfl⟩, Nat.le_refl _, fun _ => rfl⟩
theorem info_of_slice {P : Program} {t e : TypeId} {d : TD} {esz by_ : Nat} (h : tdOf P t = some d) (hs : d.sh = .slice e esz by_) : ∃ i, P.info? e = some i ∧ i.size = esz ∧ i.bytes = by_ := by
  unfold tdOf at h
  split at h
  · rename_i i u hi hu
    split at h
    · rename_i z hz
      split at h
      · injection h with h; subst h
        simp only at hs
        unfold shOf at hs
        split at hs <;> try (split at hs <;> simp at hs; done)
        all_goals try (simp at hs; done)
        split at hs
        · rename_i j hj
          injection hs with h1 h2 h3
          subst h1
          exact ⟨j, hj, h2, h3⟩
        · simp at hs
      · cases h
    · cases h
  · cases h
theorem info_of_td {P : Program} {t : TypeId} {d : TD} (h : tdOf P t = some d) : ∃ i z, P.info? t = some i ∧ i.zero = some z ∧ i.size = d.size ∧ z.cells.size = d.zero.length := by
  unfold tdOf at h
  split at h
  · rename_i i u hi hu
    split at h
    · rename_i z hz
      split at h
      · injection h with h; subst h
        exact ⟨i, z, hi, hz, rfl, by simp⟩
      · cases h
    · cases h
  · cases h
theorem Grow_nil' {P : Program} {ρ : Ren} (L : Lays8.n4 P ρ) (G : Glob) (ts : TypeId) {d de : TD} {e : TypeId} {esz by_ : Nat} (he : ρ.t 25 = e) (hts : tdOf P ts = some d) (hsh : d.sh = .slice e esz by_) (hte : tdOf P e = some de) (hz : de.zero.length = esz) (hs0 : 0 < esz) (hby : by_ ≤ 128) (n : Nat) (h63 : n ≤ 1099511627776) :
    Spec P G (ρ.f 4) [.sl [] .nil, .int .i64 n] (.row 0 0) [.row esz [] 0 false] := by
  subst he
  obtain ⟨i, h1, h2, h3⟩ := info_of_slice hts hsh
  obtain ⟨i', z, h4, h5, h6, h7⟩ := info_of_td hte
  rw [h1] at h4; injection h4 with h4; subst h4
  subst h2
  refine Grow_nil L G h1 h5 hs0 (by rw [h7, hz]) n ?_ h63
  rw [h3]
  exact Nat.le_trans (Nat.mul_le_mul h63 hby) (by decide)
theorem CALLS_specP' {P : Program} {G : Glob} {w0 : World} {M0 : Nat → Nat → Prop} {R : Value → World → Prop} {f : Operand} {args : List Operand} {ats : Array TypeId} {n : FuncId} {first cap vargs args' : List V} {r : V} {Hr : List AB} {dst : Option Tmp} {ty : TypeId} {p : String} {af : Array Edge} {all l : List Oper} {k : List It} {fr : List V} {st : List (List V)} {H : List AB}
    (hn : callB P n = true) (hs : Spec P G n args' r Hr) (he : first ++ vargs ++ cap = args') (hp : args'.all pureV = true)
    (h : RUNs P G w0 M0 R ⟨.ops all l :: k, putV fr dst (shV H.length r), st, H ++ Hr.map (shAB H.length)⟩) :
    CALLS P G w0 M0 R ⟨.ops all (⟨dst, .call ⟨.value f, args.toArray, ats⟩, ty, p, af, none⟩ :: l) :: k, fr, st, H⟩ f args (.fn (.func n) first cap) vargs dst all l k fr st H := by
  subst he; exact CALLS_specP hn hp hs h
theorem RUNs_rangeF {P : Program} {G : Glob} {w0 : World} {M0 : Nat → Nat → Prop} {R : Value → World → Prop} {σ : Type} (n : Nat) (inv : Nat → σ → Prop) (F : Nat → σ → List V) (s0 : σ) {body : Code} {k : List It} {fr : List V} {st : List (List V)} {H : List AB}
    (hinv : inv 0 s0) (h0 : Weak fr H (F 0 s0) H) (hst : st.all (okL H.length) = true)
    (round : ∀ x : RSt σ n inv, RUNs P G w0 M0 R ⟨.code body :: .inv (RJ P G w0 M0 R n inv (fun i s => (F i s, H)) x st) :: k, F x.i x.s, st, H⟩) : RUNs P G w0 M0 R ⟨.code (.loop body) :: k, fr, st, H⟩ :=
  RUNs_range n inv (fun i s => (F i s, H)) s0 hinv h0 hst round
end Go.Ab

/- The abstract machine: short words for the steps of a walk. -/
set_option linter.unusedVariables false
set_option linter.unusedSimpArgs false
namespace Go.Ab
open Go Go.RowKit
/-- What is left of a frame and a heap, at a loop or a cut. -/
theorem wk {fr fr' : List V} {H H' : List AB}
    (a : LeL fr fr' := by repeat (first | exact .nil | refine .cons (.refl _) ?_ | refine .cons (.sl _ _) ?_ | refine .cons (.any _) ?_))
    (b : LeH H H' := by repeat (first | exact .nil _ | refine .cons (.refl _) ?_ | refine .cons (.var (by repeat (first | exact .nil | refine .cons (.refl _) ?_ | refine .cons (.sl _ _) ?_ | refine .cons (.any _) ?_))) ?_ | refine .cons (.dead _ (by intro hh; cases hh)) ?_))
    (c : okL H'.length fr' = true := by rfl) (d : H'.all (okAB H'.length) = true := by rfl) : Weak fr H fr' H' := ⟨a, b, c, d⟩

/-- A test that parts the ways. -/
class Br (g : Prop) (b b1 b2 : outParam Bool) (A B : outParam Prop) : Prop where
  br : (b = b1 → A) → (b = b2 → B) → g
theorem brk {g : Prop} {b b1 b2 : Bool} {A B : Prop} [k : Br g b b1 b2 A B] (h1 : b = b1 → A) (h2 : b = b2 → B) : g := k.br h1 h2
section
variable {P : Program} {G : Glob} {w0 : World} {M0 : Nat → Nat → Prop} {R : Value → World → Prop}
instance {c : Cfg} {t : Bool} {x y : Code} {k : List It} {fr : List V} {st : List (List V)} {H : List AB} : Br (CONDS P G w0 M0 R c (.val (.bool t)) x y k fr st H) t true false (RUNs P G w0 M0 R ⟨.code x :: k, fr, st, H⟩) (RUNs P G w0 M0 R ⟨.code y :: k, fr, st, H⟩) := ⟨CONDS_split⟩
instance {b : Bool} {dst : Option Tmp} {op : Op} {t : TypeId} {p : String} {af : Array Edge} {g : Option (Nat × Bool)} {all l : List Oper} {k : List It} {fr : List V} {st : List (List V)} {H : List AB} :
    Br (GRDN P G w0 M0 R b ⟨dst, op, t, p, af, g⟩ all l k fr st H) b false true (RUNs P G w0 M0 R ⟨.ops all (⟨dst, op, t, p, af, none⟩ :: l) :: k, fr, st, H⟩) (RUNs P G w0 M0 R ⟨.ops all l :: k, putV fr dst undefV, st, H⟩) := ⟨GRDN_split⟩
instance {c : Cfg} {b : Bool} {dst : Option Tmp} {op : Op} {t : TypeId} {p : String} {af : Array Edge} {g : Option (Nat × Bool)} {all l : List Oper} {k : List It} {fr : List V} {st : List (List V)} {H : List AB} :
    Br (GRD P G w0 M0 R c (some b) ⟨dst, op, t, p, af, g⟩ all l k fr st H) b true false (RUNs P G w0 M0 R ⟨.ops all (⟨dst, op, t, p, af, none⟩ :: l) :: k, fr, st, H⟩) (RUNs P G w0 M0 R ⟨.ops all l :: k, putV fr dst undefV, st, H⟩) := ⟨GRD_split⟩
instance {all : List Oper} {k : List It} {st : List (List V)} {dst : Option Tmp} {t : TypeId} {p : String} {af : Array Edge} {l : List Oper} {d : DM} {fr : List V} {H : List AB} {b : Bool} {op : Op} {g : Option (Nat × Bool)} :
    Br (DGRN P G w0 M0 R all k st b ⟨dst, op, t, p, af, g⟩ l d fr H) b false true (DRP P G w0 M0 R all k st (⟨dst, op, t, p, af, none⟩ :: l) d fr H) (DRP P G w0 M0 R all k st l ⟨d.nid, d.tr ++ [⟨[], [], d.nid, []⟩]⟩ (putV fr dst undefV) H) := ⟨DGRN_split⟩
instance {all : List Oper} {k : List It} {st : List (List V)} {dst : Option Tmp} {t : TypeId} {p : String} {af : Array Edge} {l : List Oper} {d : DM} {fr : List V} {H : List AB} {b : Bool} {op : Op} {g : Option (Nat × Bool)} :
    Br (DGR P G w0 M0 R all k st (some b) ⟨dst, op, t, p, af, g⟩ l d fr H) b true false (DRP P G w0 M0 R all k st (⟨dst, op, t, p, af, none⟩ :: l) d fr H) (DRP P G w0 M0 R all k st l ⟨d.nid, d.tr ++ [⟨[], [], d.nid, []⟩]⟩ (putV fr dst undefV) H) := ⟨DGR_split⟩
end
section
variable {P : Program} {G : Glob} {w0 : World} {M0 : Nat → Nat → Prop} {R : Value → World → Prop}
/-- A call by its contract. -/
theorem CU {f : Operand} {args : List Operand} {ats : Array TypeId} {n : FuncId} {first cap vargs args' : List V} {r : V} {dst : Option Tmp} {ty : TypeId} {p : String} {af : Array Edge} {all l : List Oper} {k : List It} {fr : List V} {st : List (List V)} {H : List AB}
    (hs : Spec P G n args' r []) (hn : callB P n = true := by kernel_rfl) (ha : fzL (immL H (rowsInL (first ++ vargs ++ cap))) (first ++ vargs ++ cap) = some args' := by simp only [z, seval] <;> rfl) (h : RUNs P G w0 M0 R ⟨.ops all l :: k, putV fr dst r, st, immL H (rowsInL (first ++ vargs ++ cap))⟩) : CALLS P G w0 M0 R ⟨.ops all (⟨dst, .call ⟨.value f, args.toArray, ats⟩, ty, p, af, none⟩ :: l) :: k, fr, st, H⟩ f args (.fn (.func n) first cap) vargs dst all l k fr st H := CALLS_spec hs hn ha h
theorem CH {f : Operand} {args : List Operand} {ats : Array TypeId} {n : FuncId} {first cap vargs args' : List V} {r : V} {Hr : List AB} {dst : Option Tmp} {ty : TypeId} {p : String} {af : Array Edge} {all l : List Oper} {k : List It} {fr : List V} {st : List (List V)} {H : List AB}
    (hs : Spec P G n args' r Hr) (hn : callB P n = true := by kernel_rfl) (ha : fzL (immL H (rowsInL (first ++ vargs ++ cap))) (first ++ vargs ++ cap) = some args' := by simp only [z, seval] <;> rfl)
    (h : RUNs P G w0 M0 R ⟨.ops all l :: k, putV fr dst (shV (immL H (rowsInL (first ++ vargs ++ cap))).length r), st, immL H (rowsInL (first ++ vargs ++ cap)) ++ Hr.map (shAB (immL H (rowsInL (first ++ vargs ++ cap))).length)⟩) : CALLS P G w0 M0 R ⟨.ops all (⟨dst, .call ⟨.value f, args.toArray, ats⟩, ty, p, af, none⟩ :: l) :: k, fr, st, H⟩ f args (.fn (.func n) first cap) vargs dst all l k fr st H := CALLS_specH hn ha hs h
theorem DU {all : List Oper} {k : List It} {st : List (List V)} {dst : Option Tmp} {fr : List V} {H : List AB} {l : List Oper} {d : DM} {n : FuncId} {first cap vargs args' : List V} {r : V} {rd : List Nat} (hs : Spec P G n args' r []) (hn : callB P n = true := by kernel_rfl) (ha : fzL H (first ++ vargs ++ cap) = some args' := by simp only [z, seval] <;> rfl)
    (h : DRP P G w0 M0 R all k st l ⟨d.nid, d.tr ++ [⟨rd, [], d.nid, []⟩]⟩ (putV fr dst r) H) : DCALLS P G w0 M0 R all k st (.fn (.func n) first cap) vargs rd dst l d fr H := DCALLS_spec hn ha hs h
theorem NX {σ : Type} {n : Nat} {inv : Nat → σ → Prop} {I : Nat → σ → List V × List AB} {x : RSt σ n inv} (s : σ) {k : List It} {fr : List V} {st : List (List V)} {H : List AB}
    (hw : Weak fr H (I (x.i + 1) s).1 (I (x.i + 1) s).2 := by exact wk) (hst : st.all (okL (I (x.i + 1) s).2.length) = true := by rfl) (hi : x.i < n) (hinv : inv (x.i + 1) s) :
    RUNs P G w0 M0 R ⟨.inv (RJ P G w0 M0 R n inv I x st) :: k, fr, st, H⟩ := RUNs_next s hw hst hi hinv
theorem CI {σ : Type} {I : σ → List V × List AB} {ok : σ → Prop} (s : σ) {k : List It} {fr : List V} {st : List (List V)} {H : List AB} (hw : Weak fr H (I s).1 (I s).2 := by exact wk) (hst : st.all (okL (I s).2.length) = true := by rfl) (h : ok s) :
    RUNs P G w0 M0 R ⟨.inv (CUT P G w0 M0 R I ok st) :: k, fr, st, H⟩ := RUNs_cut_in s hw hst h
end
end Go.Ab

/- The abstract machine: a slice that is nil as a row to be appended to; loops run round by round; loops whose frame is told by what changes. -/
set_option linter.unusedVariables false
set_option linter.unusedSimpArgs false
namespace Go.Ab
open Go Go.RowKit
theorem set_self {α : Type} : ∀ (l : List α) (n : Nat) (x : α), l[n]? = some x → l.set n x = l
  | [], n, x, h => by simp at h
  | a :: l, 0, x, h => by simp at h; subst h; rfl
  | a :: l, n + 1, x, h => by simp at h; simp [set_self l n x h]
theorem RepL.set1 {E : Env} {vs : List V} {xs : List Value} (n : Nat) {v : V} {x : Value} (h : RepL E vs xs) (hx : xs[n]? = some x) (hv : Rep E v x) : RepL E (vs.set n v) xs := by
  have := h.set n hv
  rwa [set_self xs n x hx] at this
theorem row0_rep {E : Env} {n sz : Nat} (H : List AB) (hn : n = H.length) : Rep { E with τ := fun j => if j = n then .slice none 0 0 else E.τ j, H := H ++ [.row sz [] 0 false] } (.row n 0) (.slice none 0 0) := by
  subst hn
  simp only [Rep]
  refine ⟨⟨_, _, _, rfl⟩, ?_⟩
  simp
theorem RUN_row0 {X : Ctx} (t sz : Nat) {k : List It} {fr : List V} {st : List (List V)} {H : List AB} (ht : fr[t]? = some (.sl [] .nil)) (h : RUN X ⟨k, fr.set t (.row H.length 0), st, H ++ [.row sz [] 0 false]⟩) : RUN X ⟨k, fr, st, H⟩ := by
  intro sa a E hH hR hD
  simp only at hH hR; subst hH
  obtain ⟨e1, e2⟩ := hR.ok.row0 (NewAt.push E.H (.row sz [] 0 false)) none
  refine h sa a { E with τ := fun j => if j = E.H.length then .slice none 0 0 else E.τ j, H := E.H ++ [.row sz [] 0 false] } rfl ⟨e1, ?_, hR.st.mono e2⟩ hD
  obtain ⟨x, h1, h2⟩ := hR.fr.get t _ ht
  have hx : x = .slice none 0 0 := by
    simp only [Rep] at h2
    obtain ⟨_, _, _, _, _, _, _, h3, _⟩ := h2
    exact h3 trivial
  subst hx
  exact (RepL.mono _ e2 hR.fr).set1 t h1 (row0_rep _ rfl)
theorem RUN_row0H {X : Ctx} (i o sz : Nat) {cs : List V} {k : List It} {fr : List V} {st : List (List V)} {H : List AB} (hi : H[i]? = some (.var cs)) (ht : cs[o]? = some (.sl [] .nil)) (h : RUN X ⟨k, fr, st, (H ++ [AB.row sz [] 0 false]).set i (AB.var (cs.set o (V.row H.length 0)))⟩) : RUN X ⟨k, fr, st, H⟩ := by
  intro sa a E hH hR hD
  simp only at hH hR; subst hH
  have hlt : i < E.H.length := by
    rcases Nat.lt_or_ge i E.H.length with k | k
    · exact k
    · rw [List.getElem?_eq_none k] at hi; cases hi
  obtain ⟨e1, e2⟩ := hR.ok.row0 (NewAt.push E.H (.row sz [] 0 false)) none
  let E1 : Env := { E with τ := fun j => if j = E.H.length then .slice none 0 0 else E.τ j, H := E.H ++ [.row sz [] 0 false] }
  have hi1 : E1.H[i]? = some (.var cs) := by show (E.H ++ _)[i]? = _; rw [List.getElem?_append_left hlt, hi]
  obtain ⟨b, C, e, f1, f2, f3, f4⟩ := e1.blk i _ hi1
  obtain ⟨x, h1, h2⟩ := f3.get o _ ht
  have hx : x = .slice none 0 0 := by
    simp only [Rep] at h2
    obtain ⟨_, _, _, _, _, _, _, h3, _⟩ := h2
    exact h3 trivial
  subst hx
  obtain ⟨g1, g2⟩ := e1.write E1.w i b (.var cs) (.var (cs.set o (.row E.H.length 0))) (pv := 0) f1 hi1 rfl rfl rfl rfl (fun _ _ => rfl) (fun o u hs => hs.1) (by intro sz es v m hr; cases hr) (by intro hh; cases hh) (by intro hh; cases hh)
    (fun hle => ⟨b, C, e, f1, f2, by
      refine (RepL.mono _ hle f3).set1 o h1 ?_
      exact Rep.mono _ hle (row0_rep (E := E) (sz := sz) E.H rfl), f4⟩)
  exact h sa a { E1 with H := E1.H.set i (.var (cs.set o (.row E.H.length 0))) } rfl ⟨g1, RepL.mono _ g2 (RepL.mono _ e2 hR.fr), (hR.st.mono e2).mono g2⟩ hD

/-! Loops, round by round. -/
def UJ (X : Ctx) (body : Code) (k : List It) : Nat → List Act → Act → World → Prop
  | 0 => fun _ _ _ => False
  | n + 1 => fun sa a w => post X.P X.R (.code body :: .inv (UJ X body k n) :: k) sa .normal a w
theorem RUN_unr {X : Ctx} {n : Nat} {body : Code} {k : List It} {fr : List V} {st : List (List V)} {H : List AB} (h : RUN X ⟨.code body :: .inv (UJ X body k n) :: k, fr, st, H⟩) : RUN X ⟨.inv (UJ X body k (n + 1)) :: k, fr, st, H⟩ := by
  intro sa a E hH hR hD
  have := h sa a E hH hR (by simpa only [DF] using hD)
  simp only [post]
  exact ⟨by simpa only [UJ] using this, by simpa only [DF] using hD⟩
theorem RUN_unroll {X : Ctx} (n : Nat) {body : Code} {k : List It} {fr : List V} {st : List (List V)} {H : List AB} (h : RUN X ⟨.code body :: .inv (UJ X body k n) :: k, fr, st, H⟩) : RUN X ⟨.code (.loop body) :: k, fr, st, H⟩ := by
  intro sa a E hH hR hD
  have h0 := h sa a E hH hR (by simpa only [DF] using hD)
  simp only [post]
  refine wpIn_loop_ind (fun m a w => match m with | 0 => False | m + 1 => post X.P X.R (.code body :: .inv (UJ X body k m) :: k) sa .normal a w) ?_ (n + 1) a E.w h0
  intro m a w hm
  cases m with
  | zero => exact hm.elim
  | succ m =>
    simp only [post, rd] at hm
    refine wpIn_mono hm (fun e a' w' q => ?_)
    cases e <;> simp only [post] at q <;> try exact q
    refine ⟨m, Nat.lt_succ_self m, ?_⟩
    cases m with
    | zero => exact q.1.elim
    | succ m => simpa only [UJ] using q.1
section
variable {P : Program} {G : Glob} {w0 : World} {M0 : Nat → Nat → Prop} {R : Value → World → Prop}
def UNR (P : Program) (G : Glob) (w0 : World) (M0 : Nat → Nat → Prop) (R : Value → World → Prop) (body : Code) (k : List It) (n : Nat) : List Act → Act → World → Prop := UJ ⟨P, G, w0, M0, R⟩ body k n
theorem RUNs_row0 (t sz : Nat) {k : List It} {fr : List V} {st : List (List V)} {H : List AB} (ht : fr[t]? = some (.sl [] .nil) := by rfl) (hs : step P G ⟨k, fr, st, H⟩ = none := by rfl) (h : RUNs P G w0 M0 R ⟨k, fr.set t (.row H.length 0), st, H ++ [.row sz [] 0 false]⟩) : RUNs P G w0 M0 R ⟨k, fr, st, H⟩ :=
  RUNs_stop hs (RUN_row0 (X := ⟨P, G, w0, M0, R⟩) t sz ht (RUN_of_RUNs h))
theorem RUNs_row0H (i o sz : Nat) {cs : List V} {k : List It} {fr : List V} {st : List (List V)} {H : List AB} (hi : H[i]? = some (.var cs) := by rfl) (ht : cs[o]? = some (.sl [] .nil) := by rfl) (hs : step P G ⟨k, fr, st, H⟩ = none := by rfl) (h : RUNs P G w0 M0 R ⟨k, fr, st, (H ++ [AB.row sz [] 0 false]).set i (AB.var (cs.set o (V.row H.length 0)))⟩) : RUNs P G w0 M0 R ⟨k, fr, st, H⟩ :=
  RUNs_stop hs (RUN_row0H (X := ⟨P, G, w0, M0, R⟩) i o sz hi ht (RUN_of_RUNs h))
theorem RUNs_unroll (n : Nat) {body : Code} {k : List It} {fr : List V} {st : List (List V)} {H : List AB} (h : RUNs P G w0 M0 R ⟨.code body :: .inv (UNR P G w0 M0 R body k n) :: k, fr, st, H⟩) : RUNs P G w0 M0 R ⟨.code (.loop body) :: k, fr, st, H⟩ :=
  RUNs_stop rfl (RUN_unroll (X := ⟨P, G, w0, M0, R⟩) n (RUN_of_RUNs h))
theorem RUNs_unr {n : Nat} {body : Code} {k : List It} {fr : List V} {st : List (List V)} {H : List AB} (h : RUNs P G w0 M0 R ⟨.code body :: .inv (UNR P G w0 M0 R body k n) :: k, fr, st, H⟩) : RUNs P G w0 M0 R ⟨.inv (UNR P G w0 M0 R body k (n + 1)) :: k, fr, st, H⟩ :=
  RUNs_stop rfl (RUN_unr (X := ⟨P, G, w0, M0, R⟩) (RUN_of_RUNs h))
/-- A frame at a loop: what is not laid yet may be anything; the loop's own variables are told. -/
def wkV : V → V
  | .tup [] => .any
  | v => v
def wkF : List V → List V
  | [] => []
  | v :: l => wkV v :: wkF l
def setF (fr : List V) : List (Nat × V) → List V
  | [] => fr
  | (i, v) :: r => setF (fr.set i v) r
theorem RUNs_rangeS {σ : Type} (n : Nat) (inv : Nat → σ → Prop) (S : Nat → σ → List (Nat × V)) (HH : Nat → σ → List (Nat × AB)) (s0 : σ) {body : Code} {k : List It} {fr : List V} {st : List (List V)} {H : List AB}
    (hinv : inv 0 s0) (h0 : Weak fr H (setF (wkF fr) (S 0 s0)) (setH H (HH 0 s0))) (hst : st.all (okL (setH H (HH 0 s0)).length) = true)
    (round : ∀ x : RSt σ n inv, RUNs P G w0 M0 R ⟨.code body :: .inv (RJ P G w0 M0 R n inv (fun i s => (setF (wkF fr) (S i s), setH H (HH i s))) x st) :: k, setF (wkF fr) (S x.i x.s), st, setH H (HH x.i x.s)⟩) : RUNs P G w0 M0 R ⟨.code (.loop body) :: k, fr, st, H⟩ :=
  RUNs_range n inv (fun i s => (setF (wkF fr) (S i s), setH H (HH i s))) s0 hinv h0 hst round
end
theorem wkV_any : wkV .any = .any := rfl
theorem wkV_val (v : Value) : wkV (.val v) = .val v := rfl
theorem wkV_ptr (i o : Nat) : wkV (.ptr i o) = .ptr i o := rfl
theorem wkV_ptrE (i v x s o : Nat) : wkV (.ptrE i v x s o) = .ptrE i v x s o := rfl
theorem wkV_cp (cs : List V) : wkV (.cp cs) = .cp cs := rfl
theorem wkV_sl (es : List V) (m : Mk) : wkV (.sl es m) = .sl es m := rfl
theorem wkV_row (i v : Nat) : wkV (.row i v) = .row i v := rfl
theorem wkV_vs (i o n s : Nat) : wkV (.vs i o n s) = .vs i o n s := rfl
theorem wkV_agg (cs : List V) : wkV (.agg cs) = .agg cs := rfl
theorem wkV_nil : wkV (.tup []) = .any := rfl
theorem wkV_tup (c : V) (cs : List V) : wkV (.tup (c :: cs)) = .tup (c :: cs) := rfl
theorem wkV_fn (f : Fn) (a b : List V) : wkV (.fn f a b) = .fn f a b := rfl
theorem wkV_iface (t : TypeId) (v : V) : wkV (.iface t v) = .iface t v := rfl
theorem wkV_mp (i : Nat) : wkV (.mp i) = .mp i := rfl
theorem wkF_nil : wkF [] = [] := rfl
theorem wkF_cons (v : V) (l : List V) : wkF (v :: l) = wkV v :: wkF l := rfl
theorem setF_nil (fr : List V) : setF fr [] = fr := rfl
theorem setF_cons (fr : List V) (i : Nat) (v : V) (r : List (Nat × V)) : setF fr ((i, v) :: r) = setF (fr.set i v) r := rfl
theorem ab3 : type_of% @wkV_any ∧ type_of% @wkV_val ∧ type_of% @wkV_ptr ∧ type_of% @wkV_ptrE ∧ type_of% @wkV_cp ∧ type_of% @wkV_sl ∧ type_of% @wkV_row ∧ type_of% @wkV_vs ∧ type_of% @wkV_agg ∧ type_of% @wkV_nil ∧ type_of% @wkV_tup ∧ type_of% @wkV_fn ∧ type_of% @wkV_iface ∧ type_of% @wkV_mp ∧ type_of% @wkF_nil ∧ type_of% @wkF_cons ∧ type_of% @setF_nil ∧ type_of% @setF_cons :=
  ⟨@wkV_any, @wkV_val, @wkV_ptr, @wkV_ptrE, @wkV_cp, @wkV_sl, @wkV_row, @wkV_vs, @wkV_agg, @wkV_nil, @wkV_tup, @wkV_fn, @wkV_iface, @wkV_mp, @wkF_nil, @wkF_cons, @setF_nil, @setF_cons⟩
end Go.Ab
