/- The abstract machine: a slice held against nil. -/
import Derived.Test.YtmgphjfpccddiaaGreatDoorW6
import Derived.Lib.SliceRun
set_option linter.unusedVariables false
set_option linter.unusedSimpArgs false
namespace Go.Ab
open Go Go.RowKit
theorem underlying_of_slice {P : Program} {t e : TypeId} {d : TD} {esz by_ : Nat} (h : tdOf P t = some d) (hs : d.sh = .slice e esz by_) : P.underlying t = some (.slice e) := by
  obtain ⟨i, u, z, h1, h2, h3, h4, rfl⟩ := tdOf_some h
  rw [h2]
  simp only at hs
  unfold shOf at hs
  split at hs <;> try (split at hs <;> simp at hs; done)
  all_goals try (simp at hs; done)
  split at hs
  · injection hs with h1; subst h1; rfl
  · simp at hs
theorem RUN_nilq {X : Ctx} {all l : List Oper} {o : Oper} {k : List It} {fr : List V} {st : List (List V)} {H : List AB} {t t2 : TypeId} {x y : Operand} {es : List V} {m : Mk} {e : TypeId} {d : TD} {esz by_ : Nat}
    (hg : guardV all fr o = some true) (ho : o.op = .binOp .eql t x y t2) (hx : evalO X.G fr x = .sl es m) (hy : evalO X.G fr y = .sl [] .nil) (ht : tdOf X.P t = some d) (hs : d.sh = .slice e esz by_)
    (h : ∀ b, (es ≠ [] → b = false) → (m = .nil → b = true) → RUN X ⟨.ops all l :: k, putV fr o.dst (.bool b), st, H⟩) : RUN X ⟨.ops all (o :: l) :: k, fr, st, H⟩ := by
  intro sa a E hH hR hD
  simp only at hH hR hD
  subst hH
  simp only [DF] at hD
  simp only [post]
  unfold wpListIn
  rw [if_pos (guardV_sound (X := X) hR.fr hg)]
  refine ⟨fun _ _ => trivial, ?_⟩
  have h1 := evalO_sound hR.ok hR.fr x
  have h2 := evalO_sound hR.ok hR.fr y
  rw [hx] at h1; rw [hy] at h2
  simp only [Rep] at h1 h2
  obtain ⟨ad, n, c, e1, e2, e3, e4, e5, e6, e7⟩ := h1
  obtain ⟨_, _, _, _, _, _, _, f5, _⟩ := h2
  have f5 := f5 trivial
  have hrun : (execOp a.eval o).run X.P E.w = .ok (.value (.bool ad.isNone)) E.w := by
    have := Lib.run_eql_slice_nil (P := X.P) E.w t e ad n c 0 0 (underlying_of_slice ht hs)
    simp only [execOp, ho, e1, f5, eqGuard]
    simp [this]
  rw [Oper.semAt_eq _ _ _ (by intro c' hc'; rw [ho] at hc'; cases hc'), hrun, Oper.uponIn_value]
  refine h ad.isNone (fun hn => ?_) (fun hm => ?_) sa (a.put o.dst (.bool ad.isNone)) E rfl (hR.put (Env.le.refl E) hR.ok (v := .bool ad.isNone) (by simp [Rep, Value.oneCell']) o.dst) (by simpa only [DF, put_defers] using hD)
  · obtain ⟨_, _, _, g, _⟩ := e7 hn
    rw [g]; rfl
  · have := e5 hm
    rw [e1] at this; injection this with this; rw [this]; rfl
theorem OPV_nilq {P : Program} {G : Glob} {w0 : World} {M0 : Nat → Nat → Prop} {R : Value → World → Prop} {t t2 : TypeId} {x y : Operand} {dst : Option Tmp} {ty : TypeId} {p : String} {af : Array Edge} {all l : List Oper} {k : List It} {fr : List V} {st : List (List V)} {H : List AB} {o : Option V} {es : List V} {m : Mk} {e : TypeId} {d : TD} {esz by_ : Nat}
    (hx : evalO G fr x = .sl es m) (hy : evalO G fr y = .sl [] .nil) (ht : tdOf P t = some d) (hs : d.sh = .slice e esz by_) (ho : o = none)
    (h : ∀ b, (es ≠ [] → b = false) → (m = .nil → b = true) → RUNs P G w0 M0 R ⟨.ops all l :: k, putV fr dst (.bool b), st, H⟩) :
    OPV P G w0 M0 R ⟨.ops all (⟨dst, .binOp .eql t x y t2, ty, p, af, none⟩ :: l) :: k, fr, st, H⟩ o dst all l k fr st H := by
  subst ho
  refine RUNs_stop ?_ (RUN_nilq (X := ⟨P, G, w0, M0, R⟩) rfl rfl hx hy ht hs fun b h1 h2 => RUN_of_RUNs (h b h1 h2))
  simp only [step, opStep, guardV, eff, hx, hy, binV, Option.map_none]
end Go.Ab

/- The abstract machine: the end of an own row, cleared. -/
set_option linter.unusedVariables false
set_option linter.unusedSimpArgs false
namespace Go.Ab
open Go Go.RowKit
def clrE (sz : Nat) (es : List V) (n : Nat) : List V := es.take n ++ List.replicate (es.length - n) (.agg (List.replicate sz .any))
theorem clrE_len (sz : Nat) {es : List V} {n : Nat} (h : n ≤ es.length) : (clrE sz es n).length = es.length := by simp [clrE]; omega
theorem anys {E : Env} : ∀ (xs : List Value), RepL E (List.replicate xs.length .any) xs
  | [] => RepL.nil E
  | x :: xs => RepL.cons trivial (anys xs)
theorem flat_any (sz : Nat) : ∀ m, flatV (List.replicate m (.agg (List.replicate sz .any))) = List.replicate (m * sz) .any
  | 0 => by simp [flatV]
  | m + 1 => by
    have := flat_any sz m
    simp only [flatV] at this ⊢
    rw [List.replicate_succ, List.flatMap_cons, this, Nat.succ_mul, Nat.add_comm, ← List.replicate_append_replicate]
    rfl
theorem run_clear_row {P : Program} {t e ty : TypeId} {ie : TypeInfo} {z : Value} (ht : P.underlying t = some (.slice e)) (hie : P.info? e = some ie) (hz : ie.zero = some z) (hzs : z.cells.size = ie.size) (h1 : ∀ v ∈ z.cells.toList, v.oneCell' = true)
    (w : World) (b o n c : Nat) (hn : 0 < n) {C : Array Value} {et : TypeId} (hw : w.heap[b]? = some (.cells C et (0, 0))) (hb : o + n * ie.size ≤ C.size) :
    ∃ vs : List Value, vs.length = n * ie.size ∧ (Builtin.clear_ #[t] ty #[.slice (some ⟨b, o, none⟩) n c]).run P w = .ok (.tuple #[]) (w.setRow b (C.toList.take o ++ vs ++ C.toList.drop (o + vs.length)).toArray) := by
  refine ⟨(Builtin.zeroCells z.cells n).toList, by simp [size_zeroCells, hzs], ?_⟩
  have hzv : (zeroValue e).run P w = .ok z w := by simp [zeroValue, typeInfo, hie, hz]
  have hst := run_storeCells_at P b o et (Builtin.zeroCells z.cells n).toList 0 C w hw (by simp [size_zeroCells, hzs]; exact hb) (by
    intro v hv
    simp only [Builtin.zeroCells, Array.toList_map, List.mem_map] at hv
    obtain ⟨i, hi, rfl⟩ := hv
    have hpos : 0 < z.cells.size := by
      rcases Nat.eq_zero_or_pos z.cells.size with h | h
      · simp [h] at hi
      · exact h
    have hlt : i % z.cells.size < z.cells.size := Nat.mod_lt _ hpos
    rw [getElem!_pos z.cells _ hlt]
    exact h1 _ (by rw [Array.mem_toList_iff]; exact Array.getElem_mem hlt))
  simp only [Nat.add_zero] at hst
  obtain ⟨m, rfl⟩ : ∃ m, n = m + 1 := ⟨n - 1, by omega⟩
  simp [Builtin.clear_, run_underlying ht, hzv, hst]
theorem RUN_clr {X : Ctx} {all l : List Oper} {o1 o2 : Oper} {k : List It} {fr : List V} {st : List (List V)} {H : List AB} {t e : TypeId} {x lo : Operand} {t1 : Tmp} {i ver n sz by_ : Nat} {kd : IntKind} {es : List V} {d : TD}
    (hg1 : guardV all fr o1 = some true) (hg2 : o2.guard = none) (ho1 : o1.op = .slice t x (some lo) none none) (ho2 : o2.op = .call ⟨.builtin .clear, #[.tmp t1], #[t]⟩) (hd1 : o1.dst = some t1) (hd2 : o2.dst = none)
    (hx : evalO X.G fr x = .row i ver) (hlo : evalO X.G fr lo = .int kd n) (hi : H[i]? = some (.row sz es ver false)) (hn : n ≤ es.length) (ht1 : t1 < fr.length) (ht : tdOf X.P t = some d) (hs : d.sh = .slice e sz by_) {de : TD} (hte : tdOf X.P e = some de) (hz : de.zero.length = sz)
    (h : RUN X ⟨.ops all l :: k, fr.set t1 .any, st, H.set i (.row sz (clrE sz es n) ver false)⟩) : RUN X ⟨.ops all (o1 :: o2 :: l) :: k, fr, st, H⟩ := by
  intro sa a E hH hR hD
  simp only at hH hR hD
  subst hH
  simp only [DF] at hD
  simp only [post]
  unfold wpListIn
  rw [if_pos (guardV_sound (X := X) hR.fr hg1)]
  refine ⟨fun _ _ => trivial, ?_⟩
  have h1 := evalO_sound hR.ok hR.fr x
  have h2 := evalO_sound hR.ok hR.fr lo
  rw [hx] at h1; rw [hlo] at h2
  simp only [Rep, hi] at h1 h2
  obtain ⟨_, _, h1⟩ := h1
  have h1 := h1 trivial
  obtain ⟨ad, m, c, q1, q2, q3, q4, q5, q6⟩ := hR.ok.blk i _ hi
  rw [q1] at h1
  obtain ⟨ie, hie, hsz, _⟩ := info_of_slice ht hs
  obtain ⟨ie', z, hie', hz1, hz2, hz3⟩ := info_of_td hte
  rw [hie] at hie'; injection hie' with hie'; subst hie'
  have hun := underlying_of_slice ht hs
  have hrun1 : (execOp a.eval o1).run X.P E.w = .ok (.value (.slice (if c = n then ad else ad.map (·.add (n * ie.size))) (m - n) (c - n))) E.w := by
    have : (sizeOf e).run X.P E.w = .ok ie.size E.w := by simp [sizeOf, typeInfo, hie]
    have hb : (Instr.sliceBounds true m c (some (a.eval lo)) none none).run X.P E.w = .ok (n, m, c) E.w := by
      simp [Instr.sliceBounds, h2.1, run_sliceBound (P := X.P) _ n m _ (by omega)]
    simp [execOp, ho1, h1, Instr.sliceAt, run_underlying hun, Instr.slice, hb, this]
  rw [Oper.semAt_eq _ _ _ (by intro c' hc'; rw [ho1] at hc'; cases hc'), hrun1, Oper.uponIn_value]
  generalize hy : Value.slice (if c = n then ad else ad.map (·.add (n * ie.size))) (m - n) (c - n) = y
  have hsize : t1 < a.tmps.size := by have := hR.fr.length; rw [Array.length_toList] at this; rw [this]; exact ht1
  have hev : (a.put o1.dst y).eval (.tmp t1) = y := by
    rw [hd1]; simp [Act.put, Act.eval, Array.getD_eq_getD_getElem?, hsize]
  unfold wpListIn
  rw [if_pos (by simp [Region.wanted, hg2])]
  refine ⟨fun _ _ => trivial, ?_⟩
  have hex : ∀ w v w', (Builtin.clear_ #[t] o2.type #[y]).run X.P w = .ok v w' → (execOp (a.put o1.dst y).eval o2).run X.P w = .ok (.value v) w' := by
    intro w v w' hc
    simp only [execOp, ho2, resolve, Sem.run_bind, Sem.run_pure, Result.andThen_ok, invoke]
    simp [hev, builtin, hc]
  have hput : ∀ (E' : Env), E.le E' → EOK X.G X.w0 X.M0 E' → RelE X (fr.set t1 .any) st sa ((a.put o1.dst y).put o2.dst (.tuple #[])) E' := by
    intro E' hle hE'
    have := hR.put hle hE' (v := .any) (x := y) trivial o1.dst
    rw [hd1] at this ⊢; rw [hd2]
    exact this
  have hDD : DF k ((a.put o1.dst y).put o2.dst (.tuple #[])).defers sa := by rw [put_defers, put_defers]; exact hD
  rw [Oper.semAt_eq _ _ _ (by intro c' hc'; rw [ho2] at hc'; cases hc')]
  rcases Nat.eq_zero_or_pos (m - n) with hmn | hmn
  · have hc : (Builtin.clear_ #[t] o2.type #[y]).run X.P E.w = .ok (.tuple #[]) E.w := by
      rw [← hy, hmn]
      cases (if c = n then ad else ad.map (·.add (n * ie.size))) <;> simp [Builtin.clear_, run_underlying hun]
    rw [hex _ _ _ hc, Oper.uponIn_value]
    have hset : E.H.set i (.row sz (clrE sz es n) ver false) = E.H := by
      have : clrE sz es n = es := by rw [clrE, show es.length - n = 0 by omega, List.take_of_length_le (by omega)]; simp
      rw [this]
      apply List.ext_getElem?
      intro j
      by_cases hj : i = j
      · subst hj; rw [List.getElem?_set_self (List.getElem?_eq_some_iff.1 hi).1, hi]
      · rw [List.getElem?_set_ne hj]
    exact h sa _ E hset.symm (hput E (Env.le.refl E) hR.ok) hDD
  · have hcn : ¬ c = n := by omega
    rcases q6 with ⟨q6, _⟩ | ⟨b, C, et, q6, rfl, q8, q9, q10, q11, q12⟩
    · omega
    rw [if_neg hcn] at hy
    have hy' : y = .slice (some ⟨b, n * ie.size, none⟩) (m - n) (c - n) := by rw [← hy]; simp [Addr.add_none]
    have hone : ∀ v ∈ z.cells.toList, v.oneCell' = true := by
      obtain ⟨_, _, z', k1, _, k3, k4, _⟩ := tdOf_some hte
      rw [hie] at k1; injection k1 with k1; subst k1
      rw [hz1] at k3; injection k3 with k3; subst k3
      exact List.all_eq_true.1 k4
    have hmul : n * ie.size + (m - n) * ie.size = m * ie.size := by rw [← Nat.add_mul]; congr 1; omega
    have hmc : m * ie.size ≤ c * ie.size := Nat.mul_le_mul_right _ q3
    obtain ⟨vs, v1, v2⟩ := run_clear_row (P := X.P) (ty := o2.type) hun hie hz1 (by rw [hz3, hz, hsz]) hone E.w b (n * ie.size) (m - n) (c - n) hmn q8 (by rw [q9, hmul, ← hsz]; exact hmc)
    rw [← hy'] at v2
    rw [hex _ _ _ v2, Oper.uponIn_value]
    subst hsz
    have hM : ∀ o, E.M b o := fun o => by
      rcases Nat.lt_or_ge o (m * ie.size) with ho | ho
      · exact (q12 o ho).2 rfl
      · exact q11 o ho
    have hCl : C.toList.length = c * ie.size := by simpa using q9
    have hnm : n * ie.size ≤ m * ie.size := Nat.mul_le_mul_right _ (by omega)
    have hflat : RepL E.bare (flatV (clrE ie.size es n)) (C.toList.take (n * ie.size) ++ vs) := by
      have e1 : flatV (clrE ie.size es n) = flatV (es.take n) ++ List.replicate ((es.length - n) * ie.size) .any := by
        rw [clrE, flatV, List.flatMap_append, ← flatV, ← flatV, flat_any]
      have e2 : (es.length - n) * ie.size = vs.length := by rw [v1, q2]
      have e3 : (flatV (es.take n)).length = n * ie.size := by rw [flatV_length (fun u hu => q5.1 u (List.mem_of_mem_take hu)), List.length_take, Nat.min_eq_left hn]
      have e4 : (flatV es).take (n * ie.size) = flatV (es.take n) := by
        have : flatV es = flatV (es.take n) ++ flatV (es.drop n) := by rw [flatV, flatV, flatV, ← List.flatMap_append, List.take_append_drop]
        rw [this, ← e3, List.take_left']; rfl
      have e5 := RepL.take (n * ie.size) q10
      rw [e4, List.take_take, Nat.min_eq_left hnm] at e5
      rw [e1, e2]
      exact e5.append (anys vs)
    have hlen : (C.toList.take (n * ie.size) ++ vs).length = m * ie.size := by rw [List.length_append, List.length_take, v1, hCl]; omega
    have hcells : ∀ u ∈ clrE ie.size es n, u.cells.length = ie.size := by
      intro u hu
      simp only [clrE, List.mem_append] at hu
      rcases hu with hu | hu
      · exact q5.1 u (List.mem_of_mem_take hu)
      · rw [List.eq_of_mem_replicate hu]; simp [V.cells]
    obtain ⟨g1, g2⟩ := hR.ok.write (E.w.setRow b (C.toList.take (n * ie.size) ++ vs ++ C.toList.drop (n * ie.size + vs.length)).toArray) i b _ (.row ie.size (clrE ie.size es n) ver false) q6 hi (by simp) rfl rfl rfl
      (fun k hk => setRow_other E.w b k _ hk) (fun o u hs => absurd (hM o) hs.2) (fun sz1 es1 v1 m1 e => by injection e with e1 e2 e3 e4; exact ⟨ie.size, _, false, by rw [e3]⟩) (by simp) (by simp)
      (fun hle => ⟨_, m, c, q1, by rw [clrE_len _ hn]; exact q2, q3, q4, ⟨hcells, q5.2⟩, .inr ⟨b, _, et, q6, rfl, setRow_heap E.w b C _ et (0, 0) q8, by simp only [List.size_toArray, List.length_append, List.length_take, List.length_drop]; omega,
        by rw [List.toList_toArray, List.take_left' hlen]; exact RepL.mono _ hle.bare hflat, fun o _ => hM o, fun o _ => ⟨fun _ => rfl, fun _ => hM o⟩⟩⟩)
    exact h sa _ _ rfl (hput _ g2 g1) hDD
end Go.Ab

/- The abstract machine: the end of 'DeleteFunc': an own row's tail, cleared. -/
set_option linter.unusedVariables false
set_option linter.unusedSimpArgs false
namespace Go.Ab
open Go Go.RowKit
theorem RUN_delTail {X : Ctx} {id : Nat} {o1 o2 o3 o4 : Oper} {rest : Code} {k : List It} {fr : List V} {st : List (List V)} {H : List AB} {t e : TypeId} {x y : Operand} {a b t1 : Tmp} {i ver n sz by_ : Nat} {es : List V} {d de : TD}
    (h1 : o1.op = .move x) (h2 : o2.op = .move y) (h3 : o3.op = .slice t (.tmp a) (some (.tmp b)) none none) (h4 : o4.op = .call ⟨.builtin .clear, #[.tmp t1], #[t]⟩)
    (g1 : o1.guard = none) (g2 : o2.guard = none) (g3 : o3.guard = none) (g4 : o4.guard = none) (d1 : o1.dst = some a) (d2 : o2.dst = some b) (d3 : o3.dst = some t1) (d4 : o4.dst = none)
    (hx : evalO X.G fr x = .row i ver) (hy : evalO X.G (fr.set a (.row i ver)) y = .int .i64 n) (hA : ((fr.set a (.row i ver)).set b (.int .i64 n)).getD a undefV = .row i ver) (hB : ((fr.set a (.row i ver)).set b (.int .i64 n)).getD b undefV = .int .i64 n)
    (hi : H[i]? = some (.row sz es ver false)) (hn : n ≤ es.length) (ht1 : t1 < fr.length) (ht : tdOf X.P t = some d) (hs : d.sh = .slice e sz by_) (hte : tdOf X.P e = some de) (hz : de.zero.length = sz)
    (h : RUN X ⟨.code rest :: k, ((fr.set a (.row i ver)).set b (.int .i64 n)).set t1 .any, st, H.set i (.row sz (clrE sz es n) ver false)⟩) :
    RUN X ⟨.code (.seq (.region id #[o1, o2, o3, o4] false) rest) :: k, fr, st, H⟩ := by
  refine step_sound (c' := ⟨.code (.region id #[o1, o2, o3, o4] false) :: .code rest :: k, fr, st, H⟩) rfl ?_
  refine step_sound (c' := ⟨.ops [o1, o2, o3, o4] [o1, o2, o3, o4] :: .code rest :: k, fr, st, H⟩) rfl ?_
  refine step_sound (c' := ⟨.ops [o1, o2, o3, o4] [o2, o3, o4] :: .code rest :: k, fr.set a (.row i ver), st, H⟩) ?_ ?_
  · simp only [step, opStep, g1, h1, eff, hx, d1, putV, applyU, Upd.no, setH, Option.map_some]
  refine step_sound (c' := ⟨.ops [o1, o2, o3, o4] [o3, o4] :: .code rest :: k, (fr.set a (.row i ver)).set b (.int .i64 n), st, H⟩) ?_ ?_
  · simp only [step, opStep, g2, h2, eff, hy, d2, putV, applyU, Upd.no, setH, Option.map_some]
  refine RUN_clr (t1 := t1) (i := i) (ver := ver) (n := n) (sz := sz) (kd := .i64) (es := es) (by simp only [guardV, g3]) g4 h3 h4 d3 d4 hA hB hi hn (by simp only [List.length_set]; exact ht1) ht hs hte hz ?_
  exact step_sound rfl h
section
variable {P : Program} {G : Glob} {w0 : World} {M0 : Nat → Nat → Prop} {R : Value → World → Prop}
theorem RUNs_cutR {σ : Type} (I : σ → List V × List AB) (ok : σ → Prop) {c : Code} {id : Nat} {k : List It} {fr : List V} {st : List (List V)} {H : List AB}
    (h : RUNs P G w0 M0 R ⟨.code c :: .blk id :: .inv (CUT P G w0 M0 R I ok st) :: k, fr, st, H⟩) (hk : ∀ s, ok s → RUN ⟨P, G, w0, M0, R⟩ ⟨k, (I s).1, st, (I s).2⟩) (hs : step P G ⟨.code c :: .blk id :: k, fr, st, H⟩ = none) :
    RUNs P G w0 M0 R ⟨.code c :: .blk id :: k, fr, st, H⟩ := by
  refine RUNs_stop hs ?_
  have hr := RUN_of_RUNs h
  intro sa a E hH hR hD
  have := hr sa a E hH hR (by simpa only [DF] using hD)
  simp only [post, rd] at this ⊢
  refine wpIn_mono this (fun e a' w' q => ?_)
  have key : ∀ a' w', CUT P G w0 M0 R I ok st sa a' w' ∧ DF k a'.defers sa → post P R k sa .normal a' w' := by
    rintro a' w' ⟨⟨s, E', h1, rfl, h2, h3⟩, h4⟩
    exact hk s h1 sa a' E' h2 h3 h4
  cases e with
  | normal => exact key a' w' q
  | exit id' =>
    simp only [post] at q ⊢
    split
    · rename_i hi; rw [if_pos hi] at q; exact key a' w' q
    · rename_i hi; rw [if_neg hi] at q; exact q
  | _ => exact q
end
theorem clrE_take {sz : Nat} {es : List V} {n : Nat} (h : n ≤ es.length) : (clrE sz es n).take n = es.take n := by
  rw [clrE, List.take_append_of_le_length (by simp; omega), List.take_take, Nat.min_self]
/-- the list at a step of 'DeleteFunc': what stays, what is nothing any more, what is still to be seen -/
structure Del {α : Type} (p : α → Bool) (l : List α) (j : Nat) (L : List α) : Prop where
  len : L.length = l.length
  head : L.take ((l.take j).filter p).length = (l.take j).filter p
  tail : L.drop j = l.drop j
theorem Del.le {α : Type} {p : α → Bool} {l : List α} {j : Nat} {L : List α} (h : Del p l j L) : ((l.take j).filter p).length ≤ j := by
  have := List.length_filter_le p (l.take j); simp at this; omega
theorem Del.at {α : Type} {p : α → Bool} {l : List α} {j : Nat} {L : List α} (h : Del p l j L) (hj : j < l.length) : ∃ hL : j < L.length, L[j] = l[j] := by
  have h1 : j < L.length := by rw [h.len]; exact hj
  refine ⟨h1, ?_⟩
  have := congrArg (fun x => x[0]?) h.tail
  simpa [hj, h1] using this
theorem Del.skip {α : Type} {p : α → Bool} {l : List α} {j : Nat} {L : List α} (h : Del p l j L) (hj : j < l.length) (hp : p l[j] = false) : Del p l (j + 1) L := by
  have e : (l.take (j + 1)).filter p = (l.take j).filter p := by
    rw [List.take_succ_eq_append_getElem hj, List.filter_append]; simp [hp]
  refine ⟨h.len, by rw [e]; exact h.head, ?_⟩
  have := congrArg (List.drop 1) h.tail
  simpa [List.drop_drop, Nat.add_comm] using this
theorem Del.keep {α : Type} {p : α → Bool} {l : List α} {j : Nat} {L : List α} (h : Del p l j L) (hj : j < l.length) (hp : p l[j] = true) : Del p l (j + 1) (L.set ((l.take j).filter p).length l[j]) ∧ ((l.take (j + 1)).filter p).length = ((l.take j).filter p).length + 1 := by
  have e : (l.take (j + 1)).filter p = (l.take j).filter p ++ [l[j]] := by
    rw [List.take_succ_eq_append_getElem hj, List.filter_append]; simp [hp]
  have hle := h.le
  refine ⟨⟨by simp [h.len], ?_, ?_⟩, by rw [e]; simp⟩
  · rw [e, List.length_append]
    simp only [List.length_cons, List.length_nil, Nat.zero_add]
    rw [List.take_succ_eq_append_getElem (by simp [h.len]; omega), List.getElem_set_self, List.take_set_of_le (Nat.le_refl _), h.head]
  · rw [List.drop_set_of_lt (by omega)]
    have := congrArg (List.drop 1) h.tail
    simpa [List.drop_drop, Nat.add_comm] using this
theorem Del.zero {α : Type} (p : α → Bool) (l : List α) {j : Nat} (hj : (l.take j).all p = true) : Del p l j l := by
  have : (l.take j).filter p = l.take j := List.filter_eq_self.2 (by simpa using hj)
  exact ⟨rfl, by rw [this]; simp [List.take_take], rfl⟩
end Go.Ab

/- The abstract machine: a call gone into, all its ends told at once; functions handed on as values. -/
set_option linter.unusedVariables false
set_option linter.unusedSimpArgs false
namespace Go.Ab
open Go Go.RowKit
theorem RUN_sum {P : Program} {G : Glob} {w0 : World} {M0 : Nat → Nat → Prop} {R : Value → World → Prop} {σ : Type} (I : σ → List V × List AB) (ok : σ → Prop) {body : Code} {rs : List ResultVar} {dst : Option Tmp} {k : List It} {fr fr0 : List V} {st : List (List V)} {H : List AB}
    (hk : ∀ s, ok s → RUN ⟨P, G, w0, M0, R⟩ ⟨k, (I s).1, st, (I s).2⟩) (h : RUN ⟨P, G, w0, M0, R⟩ ⟨.code body :: .ret rs dst :: .inv (CUT P G w0 M0 R I ok st) :: k, fr, fr0 :: st, H⟩) : RUN ⟨P, G, w0, M0, R⟩ ⟨.code body :: .ret rs dst :: k, fr, fr0 :: st, H⟩ := by
  intro sa a E hH hR hD
  have := h sa a E hH hR (by simpa only [DF] using hD)
  simp only [post, rd] at this ⊢
  refine wpIn_mono this (fun e a' w' q => ?_)
  have key : ∀ v w', retP sa dst (post P R (.inv (CUT P G w0 M0 R I ok st) :: k)) v w' → retP sa dst (post P R k) v w' := by
    rintro v w' ⟨a0, sa', h1, h2⟩
    refine ⟨a0, sa', h1, ?_⟩
    simp only [post] at h2
    obtain ⟨⟨s, E', k1, rfl, k2, k3⟩, k4⟩ := h2
    exact hk s k1 sa' _ E' k2 k3 k4
  cases e <;> simp only [post] at q ⊢ <;> try exact q
  · obtain ⟨q1, v, q2, q3⟩ := q; exact ⟨q1, v, q2, key _ _ q3⟩
  · obtain ⟨q1, v, q2, q3⟩ := q; exact ⟨q1, v, q2, key _ _ q3⟩
section
variable {P : Program} {G : Glob} {w0 : World} {M0 : Nat → Nat → Prop} {R : Value → World → Prop}
/-- A call gone into; whichever way it ends, it hands back 'r s' and leaves 'HH s'. -/
theorem CALLS_sum {σ : Type} (r : σ → V) (HH : σ → List AB) (ok : σ → Prop) {f : Operand} {args : List Operand} {ats : Array TypeId} {n : FuncId} {first cap vargs : List V} {dst : Option Tmp} {ty : TypeId} {p : String} {af : Array Edge} {all l : List Oper} {k : List It} {fr : List V} {st : List (List V)} {H : List AB} {fn : Func} {body : Code}
    (hf : P.funcs[n]? = some fn) (hb : fn.body = some body) (hn : callB P n = true)
    (h : RUNs P G w0 M0 R ⟨.code body :: .ret fn.results.toList dst :: .inv (CUT P G w0 M0 R (fun s => (putV fr dst (r s), HH s)) ok st) :: .ops all l :: k, (first ++ vargs ++ cap) ++ List.replicate (fn.ntmps - (first ++ vargs ++ cap).length) undefV, fr :: st, H⟩)
    (hk : ∀ s, ok s → RUN ⟨P, G, w0, M0, R⟩ ⟨.ops all l :: k, putV fr dst (r s), st, HH s⟩) :
    CALLS P G w0 M0 R ⟨.ops all (⟨dst, .call ⟨.value f, args.toArray, ats⟩, ty, p, af, none⟩ :: l) :: k, fr, st, H⟩ f args (.fn (.func n) first cap) vargs dst all l k fr st H :=
  RUNs_call hn (RUNc_inline (X := ⟨P, G, w0, M0, R⟩) hf hb (RUN_sum (fun s => (putV fr dst (r s), HH s)) ok hk (RUN_of_RUNs h)))
end
/-- A function value that leaves the heap as it is, and comes to b at those arguments. -/
def PureFn (P : Program) (G : Glob) (vf : V) (H : List AB) (vargs : List V) (b : V) : Prop :=
  ∀ (w0 : World) (M0 : Nat → Nat → Prop) (R : Value → World → Prop) (f : Operand) (args : List Operand) (ats : Array TypeId) (dst : Option Tmp) (ty : TypeId) (p : String) (af : Array Edge) (all l : List Oper) (k : List It) (fr : List V) (st : List (List V)),
    okL H.length fr = true → st.all (okL H.length) = true → RUN ⟨P, G, w0, M0, R⟩ ⟨.ops all l :: k, putV fr dst b, st, H⟩ →
    CALLS P G w0 M0 R ⟨.ops all (⟨dst, .call ⟨.value f, args.toArray, ats⟩, ty, p, af, none⟩ :: l) :: k, fr, st, H⟩ f args vf vargs dst all l k fr st H
theorem okL_set {n : Nat} {fr : List V} {t : Nat} {v : V} (h : okL n fr = true) (hv : okN n v = true) : okL n (fr.set t v) = true := by
  induction fr generalizing t with
  | nil => simpa using h
  | cons a l ih =>
    simp only [okL, Bool.and_eq_true] at h
    cases t with
    | zero => simp only [List.set, okL, Bool.and_eq_true]; exact ⟨hv, h.2⟩
    | succ t => simp only [List.set, okL, Bool.and_eq_true]; exact ⟨h.1, ih h.2⟩
theorem okL_put {n : Nat} {fr : List V} {d : Option Tmp} {v : V} (h : okL n fr = true) (hv : okN n v = true) : okL n (putV fr d v) = true := by
  cases d with
  | none => exact h
  | some t => exact okL_set h hv
theorem PureFn.of {P : Program} {G : Glob} {H : List AB} {n : FuncId} {first cap vargs : List V} {b : V} {fn : Func} {body : Code} (hf : P.funcs[n]? = some fn) (hb : fn.body = some body) (hn : callB P n = true) (hH : H.all (okAB H.length) = true) (hv : okN H.length b = true)
    (h : ∀ (w0 : World) (M0 : Nat → Nat → Prop) (R : Value → World → Prop) (dst : Option Tmp) (all l : List Oper) (k : List It) (fr : List V) (st : List (List V)), okL H.length fr = true → st.all (okL H.length) = true →
      RUNs P G w0 M0 R ⟨.code body :: .ret fn.results.toList dst :: .inv (CUT P G w0 M0 R (fun (_ : Unit) => (putV fr dst b, H)) (fun _ => True) st) :: .ops all l :: k, (first ++ vargs ++ cap) ++ List.replicate (fn.ntmps - (first ++ vargs ++ cap).length) undefV, fr :: st, H⟩) :
    PureFn P G (.fn (.func n) first cap) H vargs b := by
  intro w0 M0 R f args ats dst ty p af all l k fr st h1 h2 hR
  exact CALLS_sum (fun _ : Unit => b) (fun _ => H) (fun _ => True) hf hb hn (h w0 M0 R dst all l k fr st h1 h2) (fun _ _ => hR)
section
variable {P : Program} {G : Glob} {w0 : World} {M0 : Nat → Nat → Prop} {R : Value → World → Prop}
/-- the end of a function value's own run -/
theorem RUNs_pure {fr : List V} {st : List (List V)} {H H' : List AB} {b b' : V} {dst : Option Tmp} {k : List It} (hfr : okL H.length fr = true) (hst : st.all (okL H.length) = true) (hH : H.all (okAB H.length) = true) (hb : okN H.length b = true) (hle : LeH H' H := by repeat (first | exact .nil _ | refine .cons (.refl _) ?_)) (he : b' = b) :
    RUNs P G w0 M0 R ⟨.inv (CUT P G w0 M0 R (fun (_ : Unit) => (putV fr dst b, H)) (fun _ => True) st) :: k, putV fr dst b', st, H'⟩ :=
  CI () (hw := ⟨by subst he; exact LeL.refl _, hle, okL_put hfr hb, hH⟩) (hst := hst) (h := trivial)
end
theorem LeH.refl : ∀ (H : List AB), LeH H H
  | [] => .nil []
  | b :: H => .cons (.refl b) (LeH.refl H)
theorem LeH.app (J : List AB) : ∀ (H : List AB), LeH (H ++ J) H
  | [] => .nil _
  | b :: H => .cons (.refl b) (LeH.app J H)
end Go.Ab
namespace Go.Ab
open Go Go.RowKit
def idxP {α : Type} (p : α → Bool) (l : List α) : Int := match l.findIdx? p with
  | some i => (i : Int)
  | none => -1
theorem idxP_none {α : Type} {p : α → Bool} {l : List α} (h : l.any p = false) : idxP p l = -1 := by
  have : l.findIdx? p = none := by rw [List.findIdx?_eq_none_iff]; intro x hx; have := List.any_eq_false.1 h x hx; simpa using this
  rw [idxP, this]
theorem idxP_at {α : Type} {p : α → Bool} {l : List α} {i : Nat} (h : i < l.length) (h1 : (l.take i).any p = false) (h2 : p l[i] = true) : idxP p l = i := by
  have : l.findIdx? p = some i := by
    rw [List.findIdx?_eq_some_iff_getElem]
    refine ⟨h, h2, fun j hj => ?_⟩
    have := List.any_eq_false.1 h1 l[j] (by rw [List.mem_take_iff_getElem]; exact ⟨j, by omega, rfl⟩)
    simpa using this
  rw [idxP, this]
theorem any_snoc {α : Type} {p : α → Bool} {l : List α} {i : Nat} (h : i < l.length) (h1 : (l.take i).any p = false) (h2 : p l[i] = false) : (l.take (i + 1)).any p = false := by
  rw [List.take_succ_eq_append_getElem h, List.any_append, h1]; simp [h2]
theorem idxP_any {α : Type} (p : α → Bool) (l : List α) : decide (idxP p l ≥ 0) = l.any p := by
  cases h : l.any p with
  | false => rw [idxP_none h]; decide
  | true =>
    unfold idxP
    cases hf : l.findIdx? p with
    | some i => simp
    | none =>
      rw [List.findIdx?_eq_none_iff] at hf
      obtain ⟨x, hx, hp⟩ := List.any_eq_true.1 h
      rw [hf x hx] at hp; cases hp
theorem PureFn.use {P : Program} {G : Glob} {vf : V} {vargs : List V} {b : V} {w0 : World} {M0 : Nat → Nat → Prop} {R : Value → World → Prop} {f : Operand} {args : List Operand} {ats : Array TypeId} {dst : Option Tmp} {ty : TypeId} {p : String} {af : Array Edge} {all l : List Oper} {k : List It} {fr : List V} {st : List (List V)} {H : List AB}
    (h : PureFn P G vf H vargs b) (h1 : okL H.length fr = true := by rfl) (h2 : st.all (okL H.length) = true := by rfl) (hR : RUNs P G w0 M0 R ⟨.ops all l :: k, putV fr dst b, st, H⟩) :
    CALLS P G w0 M0 R ⟨.ops all (⟨dst, .call ⟨.value f, args.toArray, ats⟩, ty, p, af, none⟩ :: l) :: k, fr, st, H⟩ f args vf vargs dst all l k fr st H :=
  h w0 M0 R f args ats dst ty p af all l k fr st h1 h2 (RUN_of_RUNs hR)
theorem WkF {fr fr' : List V} {H : List AB} (c : okL H.length fr' = true) (d : H.all (okAB H.length) = true) (a : LeL fr fr' := by repeat (first | exact .nil | refine .cons (.refl _) ?_ | refine .cons (.sl _ _) ?_ | refine .cons (.any _) ?_)) : Weak fr H fr' H := ⟨a, LeH.refl H, c, d⟩
theorem stok {n : Nat} {fr : List V} {st : List (List V)} (h1 : okL n fr = true) (h2 : st.all (okL n) = true) : (fr :: st).all (okL n) = true := by
  rw [List.all_cons, h1, h2]; rfl
end Go.Ab
namespace Go.Ab
open Go Go.RowKit
theorem idxP_cases {α : Type} (p : α → Bool) (l : List α) : (idxP p l = -1 ∧ l.any p = false) ∨ ∃ i, ∃ h : i < l.length, idxP p l = i ∧ (l.take i).any p = false ∧ p l[i] = true := by
  unfold idxP
  cases hf : l.findIdx? p with
  | none => exact .inl ⟨rfl, by rw [List.findIdx?_eq_none_iff] at hf; rw [List.any_eq_false]; intro x hx; rw [hf x hx]; simp⟩
  | some i =>
    rw [List.findIdx?_eq_some_iff_getElem] at hf
    obtain ⟨h, h1, h2⟩ := hf
    refine .inr ⟨i, h, rfl, ?_, h1⟩
    rw [List.any_eq_false]
    intro x hx
    obtain ⟨j, hj, rfl⟩ := List.mem_take_iff_getElem.1 hx
    simpa using h2 j (by omega)
section
variable {P : Program} {G : Glob} {w0 : World} {M0 : Nat → Nat → Prop} {R : Value → World → Prop}
theorem RUNs_cutS {σ : Type} (S : σ → List (Nat × V)) (HH : σ → List (Nat × AB)) (ok : σ → Prop) {c : Code} {id : Nat} {k : List It} {fr : List V} {st : List (List V)} {H : List AB}
    (h : RUNs P G w0 M0 R ⟨.code c :: .blk id :: .inv (CUT P G w0 M0 R (fun s => (setF (wkF fr) (S s), setH H (HH s))) ok st) :: k, fr, st, H⟩) (hk : ∀ s, ok s → RUNs P G w0 M0 R ⟨k, setF (wkF fr) (S s), st, setH H (HH s)⟩) (hs : step P G ⟨.code c :: .blk id :: k, fr, st, H⟩ = none := by rfl) :
    RUNs P G w0 M0 R ⟨.code c :: .blk id :: k, fr, st, H⟩ := RUNs_cut _ ok h hk hs
theorem RUNs_cutRS {σ : Type} (S : σ → List (Nat × V)) (HH : σ → List (Nat × AB)) (ok : σ → Prop) {c : Code} {id : Nat} {k : List It} {fr : List V} {st : List (List V)} {H : List AB}
    (h : RUNs P G w0 M0 R ⟨.code c :: .blk id :: .inv (CUT P G w0 M0 R (fun s => (setF (wkF fr) (S s), setH H (HH s))) ok st) :: k, fr, st, H⟩) (hk : ∀ s, ok s → RUN ⟨P, G, w0, M0, R⟩ ⟨k, setF (wkF fr) (S s), st, setH H (HH s)⟩) (hs : step P G ⟨.code c :: .blk id :: k, fr, st, H⟩ = none := by rfl) :
    RUNs P G w0 M0 R ⟨.code c :: .blk id :: k, fr, st, H⟩ := RUNs_cutR _ ok h hk hs
end
end Go.Ab
namespace Go.Ab
open Go Go.RowKit
/-- What a call hands back, taken for good. -/
theorem Spec.fz {P : Program} {G : Glob} {n : FuncId} {args : List V} {r r' : V} {Hr : List AB} (h : Spec P G n args r Hr) (hf : Ab.fz (immL Hr (rowsIn r)) r = some r') : Spec P G n args r' [] := by
  intro E xs hE hx
  refine (h E xs hE hx).mono ?_
  rintro e w' ⟨v, E', rfl, rfl, rfl, h2, h3, h4⟩
  obtain ⟨E1, e1, e2, e3, e4⟩ := EOK.immL (rowsIn r) h2
  refine ⟨v, E1.bare, rfl, e1, rfl, ⟨e3.below, e3.old, e3.mlt, fun i v b hp => by simp [Env.bare] at hp, fun i v j u b hp => by simp [Env.bare] at hp, fun i h hh => by simp [Env.bare] at hh, e3.glob⟩, ?_, fz_sound e3 _ (Rep.mono _ e4 h4) (by rw [e2]; exact hf)⟩
  exact (h3.trans e4).bare
end Go.Ab

/- All rules in one; what the laid variables hold. -/
namespace Ch
open Go Go.Ab
theorem wz : IntKind.i64.wrap 1 = 1 ∧ IntKind.i64.wrap 2 = 2 ∧ IntKind.i64.wrap 3 = 3 ∧ IntKind.i64.wrap 4 = 4 ∧ IntKind.i64.wrap 5 = 5 ∧ IntKind.i64.wrap 6 = 6 ∧ IntKind.i64.wrap 7 = 7 ∧ IntKind.i64.wrap 8 = 8 ∧ IntKind.i64.wrap 9 = 9 ∧ IntKind.i64.wrap 10 = 10 ∧ IntKind.i64.wrap 11 = 11 ∧ IntKind.i64.wrap 12 = 12 ∧ IntKind.i64.wrap 13 = 13 ∧ IntKind.i64.wrap 14 = 14 ∧ IntKind.i64.wrap 15 = 15 ∧ IntKind.i64.wrap 16 = 16 ∧ IntKind.i64.wrap 17 = 17 ∧ IntKind.u32.wrap 1 = 1 ∧ IntKind.u32.wrap 2 = 2 ∧ IntKind.u32.wrap 3 = 3 ∧ IntKind.u32.wrap 4 = 4 ∧ IntKind.u32.wrap 5 = 5 ∧ IntKind.u32.wrap 6 = 6 ∧ IntKind.u32.wrap 7 = 7 ∧ IntKind.u32.wrap 8 = 8 ∧ IntKind.u32.wrap 9 = 9 ∧ IntKind.u32.wrap 10 = 10 ∧ IntKind.u32.wrap 11 = 11 ∧ IntKind.u32.wrap 12 = 12 ∧ IntKind.u32.wrap 13 = 13 ∧ IntKind.u32.wrap 14 = 14 ∧ IntKind.u32.wrap 15 = 15 ∧ IntKind.u32.wrap 16 = 16 ∧ IntKind.u32.wrap 17 = 17 := ⟨by decide, by decide, by decide, by decide, by decide, by decide, by decide, by decide, by decide, by decide, by decide, by decide, by decide, by decide, by decide, by decide, by decide, by decide, by decide, by decide, by decide, by decide, by decide, by decide, by decide, by decide, by decide, by decide, by decide, by decide, by decide, by decide, by decide, by decide⟩
abbrev GG : Glob := [(0, [.int .u32 0, .int .u32 56, .int .u32 64, .int .u32 64, .int .u32 64, .int .u32 64, .int .u32 92, .int .u32 220, .int .u32 196, .int .u32 68])]
theorem z : type_of% @ab ∧ type_of% @ab2 ∧ type_of% @ab3 ∧ type_of% @tys ∧ type_of% @mv ∧ type_of% @wz := ⟨ab, ab2, ab3, tys, mv, wz⟩
end Ch

/- The small readers of the document's answer. -/
set_option maxRecDepth 100000
set_option maxHeartbeats 4000000
set_option linter.unusedSimpArgs false
set_option linter.unusedVariables false
namespace Ch
open Go Go.Ab
theorem Has_spec (l : List Int) (w : Int) (hl : l.length ≤ 9223372036854775807) : Spec PP GG 123 [wordsV l, u32 w] (.bool (decide (w ∈ l))) [] := by
  refine Spec.of_runs Go.Proofs.Tryz.f123 Go.Proofs.Tryz.func123 rfl ?_
  intro w0 M0
  simp only [Go.Proofs.Tryz.f123, List.replicate, List.cons_append, List.nil_append, wordsV, z, seval]
  refine RUNs_range l.length (fun i (_ : Unit) => w ∉ l.take i) (fun i _ => ([.sl (l.map u32) .plain, u32 w, .any, .any, .bool false, i64 i, .any, .any, .any, .any, .any, .any, .any, .any, .any, .any, .any, .any], [])) () (by simp) wk rfl ?_
  rintro ⟨i, _, hi, hw⟩
  simp only [z, seval]
  refine CONDS_split (fun h => ?_) (fun h => ?_)
  · have hlt : i < l.length := by simpa using h
    simp only [z, seval, getMap u32 l hlt]
    refine CONDS_split (fun h => ?_) (fun h => ?_)
    · simp only [z, seval]
      (refine FINS_done ?_; simp only [z, seval])
      have : w ∈ l := by have := List.getElem_mem hlt; simp at h; simp_all
      simp [this]
    · simp only [z, seval, w64s (i := i) (by omega)]
      refine NX () (hi := hlt) (hinv := ?_)
      have h' : l[i] ≠ w := by simpa using h
      simp only [List.take_succ_eq_append_getElem hlt, List.mem_append, List.mem_singleton]
      rintro (h1 | h1)
      · exact hw h1
      · exact h' h1.symm
  · simp only [z, seval]
    (refine FINS_done ?_; simp only [z, seval])
    have : i = l.length := by simp at h; omega
    subst this
    simp at hw; simp [hw]
def May09 (r : Run) : Bool := (r.proto == 1 || r.proto == 2) && (r.role == 1 || r.role == 2) && (r.state == 1 || r.state == 2 || r.state == 3)
theorem May09_spec (r : Run) : Spec PP GG 134 [r.v] (.bool (May09 r)) [] := by
  refine Spec.of_runs Go.Proofs.Tryz.f134 Go.Proofs.Tryz.func134 rfl ?_
  intro w0 M0
  simp only [Go.Proofs.Tryz.f134, List.replicate, List.cons_append, List.nil_append, Run.v, z, seval]
  repeat' ((first | refine brk (fun h => ?_) (fun h => ?_) | fail) <;> simp only [z, seval, h])
  all_goals (refine FINS_done ?_; simp only [z, seval])
  all_goals simp_all [May09]

def There07 (l : List Sld) (h : Int) : Bool := l.any fun s => s.handle == h
theorem There07_spec (b : Box) (w : Int) (hl : b.rows.length ≤ 9223372036854775807) : Spec PP GG 133 [b.v, u32 w] (.bool (There07 b.rows w)) [] := by
  refine Spec.of_runs Go.Proofs.Tryz.f133 Go.Proofs.Tryz.func133 rfl ?_
  intro w0 M0
  simp only [Go.Proofs.Tryz.f133, List.replicate, List.cons_append, List.nil_append, Box.v, sldsV, z, seval]
  refine RUNs_range b.rows.length (fun i (_ : Unit) => (b.rows.take i).all (fun s => !(s.handle == w)) = true) (fun i _ => ([b.v, u32 w, .ptr 0 0, .any, .bool false, i64 i, .any, .any, .any, .any, .any, .any, .any, .any, .any, .any, .any, .any, .any, .any, .any], [.var [i64 b.room, sldsV b.rows]])) () (by simp) wk rfl ?_
  rintro ⟨i, _, hi, hw⟩
  simp only [z, seval, sldsV]
  refine CONDS_split (fun h => ?_) (fun h => ?_)
  · have hlt : i < b.rows.length := by simpa using h
    simp only [z, seval, getMap Sld.v b.rows hlt, Sld.v]
    refine CONDS_split (fun h => ?_) (fun h => ?_)
    · simp only [z, seval]
      (refine FINS_done ?_; simp only [z, seval])
      rw [There07, any_true hlt h]
    · simp only [z, seval, w64s (i := i) (by omega)]
      refine NX () (hi := hlt) (hinv := ?_)
      rw [all_succ hlt, hw, h]; rfl
  · simp only [z, seval]
    (refine FINS_done ?_; simp only [z, seval])
    have : i = b.rows.length := by simp at h; omega
    subst this
    rw [List.take_length] at hw
    rw [There07, List.any_eq_not_all_not, hw]; rfl
end Ch

/- The small readers of the document's answer, go on. -/
set_option maxRecDepth 100000
set_option maxHeartbeats 4000000
set_option linter.unusedSimpArgs false
set_option linter.unusedVariables false
namespace Ch
open Go Go.Ab
def room (n : Int) : Bool := decide (n ≥ 0) && decide (n ≤ 64)
theorem room_spec (n : Int) : Spec PP GG 132 [i64 n] (.bool (room n)) [] := by
  refine Spec.of_runs Go.Proofs.Tryz.f132 Go.Proofs.Tryz.func132 rfl ?_
  intro w0 M0
  simp only [Go.Proofs.Tryz.f132, List.replicate, List.cons_append, List.nil_append, z, seval]
  repeat' ((first | refine brk (fun h => ?_) (fun h => ?_) | fail) <;> simp only [z, seval, h])
  all_goals (refine FINS_done ?_; simp only [z, seval])
  all_goals (first | (simp_all [room]; done) | (simp_all [room]; intros; omega))
def May12 (c : Conf) : Bool := decide (c.window ≤ 1048576) && decide (c.people ≥ 1) && decide (c.people ≤ 6) && room c.box && room c.used && room c.runs && room c.net && decide (c.regs ≥ 1) && decide (c.regs ≤ 8)
theorem May12_spec (c : Conf) : Spec PP GG 79 [c.v] (.bool (May12 c)) [] := by
  refine Spec.of_runs Go.Proofs.Tryz.f79 Go.Proofs.Tryz.func79 rfl ?_
  intro w0 M0
  simp only [Go.Proofs.Tryz.f79, List.replicate, List.cons_append, List.nil_append, Conf.v, z, seval]
  repeat' (first | (refine CU (room_spec _) (h := ?_); simp only [z, seval]) | ((first | refine brk (fun h => ?_) (fun h => ?_) | fail) <;> simp only [z, seval, h]))
  all_goals (refine FINS_done ?_; simp only [z, seval])
  all_goals (first | (simp_all [May12]; done) | (simp_all [May12]; intros; omega))
def Right06 (n : Net) : Bool := decide (n.room ≥ 0) && decide (n.room ≤ 64) && decide ((n.grams.length : Int) ≤ n.room)
theorem Right06_spec (n : Net) : Spec PP GG 81 [n.v] (.bool (Right06 n)) [] := by
  refine Spec.of_runs Go.Proofs.Tryz.f81 Go.Proofs.Tryz.func81 rfl ?_
  intro w0 M0
  simp only [Go.Proofs.Tryz.f81, List.replicate, List.cons_append, List.nil_append, Net.v, gramsV, z, seval]
  repeat' ((first | refine brk (fun h => ?_) (fun h => ?_) | fail) <;> simp only [z, seval, h])
  all_goals (refine FINS_done ?_; simp only [z, seval])
  all_goals (first | (simp_all [Right06]; done) | (simp_all [Right06]; intros; omega))
end Ch

/- The readers of the document's answer: forms. -/
set_option maxRecDepth 100000
set_option maxHeartbeats 4000000
set_option linter.unusedSimpArgs false
set_option linter.unusedVariables false
namespace Ch
open Go Go.Ab
def Right07 (b : Box) : Bool := decide (0 ≤ b.room) && decide (b.room ≤ 64) && decide ((b.rows.length : Int) ≤ b.room) && allIx (fun l s => decide (s.plain.length ≤ 64) && !There07 l s.handle) b.rows
theorem Right07_spec (b : Box) (hl : b.rows.length ≤ 9223372036854775807) : Spec PP GG 80 [b.v] (.bool (Right07 b)) [] := by
  refine Spec.of_runs Go.Proofs.Tryz.f80 Go.Proofs.Tryz.func80 rfl ?_
  intro w0 M0
  simp only [Go.Proofs.Tryz.f80, List.replicate, List.cons_append, List.nil_append, Box.v, sldsV, z, seval]
  repeat' ((first | refine brk (fun h => ?_) (fun h => ?_) | fail) <;> simp only [z, seval, h])
  rotate_left
  all_goals try ((refine FINS_done ?_; simp only [z, seval]); (simp_all [Right07]; done))
  all_goals try ((refine FINS_done ?_; simp only [z, seval]); (simp_all [Right07]; intros; omega))
  rename_i h1 h2
  refine RUNs_range b.rows.length (fun i (_ : Unit) => allIx (fun l s => decide (s.plain.length ≤ 64) && !There07 l s.handle) (b.rows.take i) = true) (fun i _ => ([.any, .ptr 0 0, .bool false, i64 i, .any, .any, .any, .any, .any, .any, .any, .any, .any, .any, .any, .any, .any, .any, .any, .any, .any, .any, .any, .any, .any, .any, .any, .any, .any, .any, .any, .any, .any, .any, .any, .any, .any, .any, .any, .any, .any, .any, .any, .any, .any, .any, .any, .any, .any], [.var [i64 b.room, sldsV b.rows]])) () (by simp [allIx_nil]) wk rfl ?_
  rintro ⟨i, _, hi, hw⟩
  simp only [z, seval, sldsV]
  refine CONDS_split (fun h => ?_) (fun h => ?_)
  · have hlt : i < b.rows.length := by simpa using h
    simp only [z, seval]
    (refine RUNs_draw 0 (by kernel_rfl) ?_; simp only [z, seval])
    simp only [z, seval, getMap Sld.v b.rows hlt, Sld.v, wordsV]
    first | refine brk (fun h => ?_) (fun h => ?_) | fail
    · simp only [z, seval, getMap Sld.v b.rows hlt, Sld.v, wordsV, h]
      refine DOC_ok (slc_ok hi (by intro a; rfl)) ?_
      simp only [z, seval, getMap Sld.v b.rows hlt, Sld.v, wordsV]
      (refine DU (There07_spec ⟨0, b.rows.take i⟩ _ (by simp; omega)) (h := ?_); simp only [z, seval])
      (refine ⟨by kernel_rfl, ?_⟩)
      first | refine brk (fun h => ?_) (fun h => ?_) | fail
      · simp only [z, seval, h]
        (refine FINS_done ?_; simp only [z, seval])
        rw [Right07, allIx_false hlt (by simp_all)]; simp
      · simp only [z, seval, h, w64s (i := i) (by omega)]
        refine NX () (hi := hlt) (hinv := ?_)
        rw [allIx_succ hlt, hw]
        simp_all; omega
    · simp only [z, seval, getMap Sld.v b.rows hlt, Sld.v, wordsV, h]
      (refine ⟨by kernel_rfl, ?_⟩)
      (refine FINS_done ?_; simp only [z, seval])
      rw [Right07, allIx_false hlt (by simp_all; intros; omega)]; simp
  · simp only [z, seval]
    (refine FINS_done ?_; simp only [z, seval])
    have : i = b.rows.length := by simp at h; omega
    subst this
    rw [List.take_length] at hw
    rw [Right07, hw]
    simp_all
end Ch

/- The readers of the document's answer: forms, go on. -/
set_option maxRecDepth 100000
set_option maxHeartbeats 4000000
set_option linter.unusedSimpArgs false
set_option linter.unusedVariables false
namespace Ch
open Go Go.Ab
def Right09 (l : List Run) (room : Int) : Bool := l.all May09 && decide ((l.length : Int) ≤ room)
theorem Right09_spec (l : List Run) (room : Int) (hl : l.length ≤ 9223372036854775807) : Spec PP GG 84 [runsV l, i64 room] (.bool (Right09 l room)) [] := by
  refine Spec.of_runs Go.Proofs.Tryz.f84 Go.Proofs.Tryz.func84 rfl ?_
  intro w0 M0
  simp only [Go.Proofs.Tryz.f84, List.replicate, List.cons_append, List.nil_append, runsV, z, seval]
  refine RUNs_range l.length (fun i (_ : Unit) => (l.take i).all May09 = true) (fun i _ => ([.sl (l.map Run.v) .plain, i64 room, .any, .any, .bool false, i64 i, .any, .any, .any, .any, .any, .any, .any, .any, .any, .any, .any, .any, .any, .any, .any, .any], [])) () (by simp) wk rfl ?_
  rintro ⟨i, _, hi, hw⟩
  simp only [z, seval]
  refine CONDS_split (fun h => ?_) (fun h => ?_)
  · have hlt : i < l.length := by simpa using h
    simp only [z, seval, getMap Run.v l hlt, Run.v]
    (refine CU (May09_spec l[i]) (h := ?_); simp only [z, seval])
    first | refine brk (fun h => ?_) (fun h => ?_) | fail
    · simp only [z, seval, w64s (i := i) (by omega)]
      refine NX () (hi := hlt) (hinv := ?_)
      rw [all_succ hlt, hw, h]; rfl
    · simp only [z, seval]
      (refine FINS_done ?_; simp only [z, seval])
      rw [Right09, all_false hlt h]; rfl
  · simp only [z, seval]
    (refine FINS_done ?_; simp only [z, seval])
    have : i = l.length := by simp at h; omega
    subst this
    rw [List.take_length] at hw
    rw [Right09, hw]; rfl
def Right10 (l : List Person) : Bool := allIx (fun pre p => p.name == IntKind.u32.wrap pre.length) l && decide ((l.length : Int) > 1) && decide ((l.length : Int) < 8)
theorem Right10_spec (l : List Person) (hl : l.length ≤ 9223372036854775807) : Spec PP GG 82 [peopleV l] (.bool (Right10 l)) [] := by
  refine Spec.of_runs Go.Proofs.Tryz.f82 Go.Proofs.Tryz.func82 rfl ?_
  intro w0 M0
  simp only [Go.Proofs.Tryz.f82, List.replicate, List.cons_append, List.nil_append, peopleV, z, seval]
  refine RUNs_range l.length (fun i (_ : Unit) => allIx (fun pre p => p.name == IntKind.u32.wrap pre.length) (l.take i) = true) (fun i _ => ([.sl (l.map Person.v) .plain, .any, .bool false, i64 i, .any, .any, .any, .any, .any, .any, .any, .any, .any, .any, .any, .any, .any, .any, .any, .any, .any, .any, .any, .any, .any, .any], [])) () (by simp [allIx_nil]) wk rfl ?_
  rintro ⟨i, _, hi, hw⟩
  have hti : (l.take i).length = i := by rw [List.length_take]; omega
  simp only [z, seval]
  refine CONDS_split (fun h => ?_) (fun h => ?_)
  · have hlt : i < l.length := by simpa using h
    simp only [z, seval, getMap Person.v l hlt, Person.v]
    first | refine brk (fun h => ?_) (fun h => ?_) | fail
    · simp only [z, seval, w64s (i := i) (by omega)]
      refine NX () (hi := hlt) (hinv := ?_)
      rw [allIx_succ hlt, hw, hti, h]; rfl
    · simp only [z, seval]
      (refine FINS_done ?_; simp only [z, seval])
      rw [Right10, allIx_false hlt (by rw [hti]; exact h)]; rfl
  · simp only [z, seval]
    have : i = l.length := by simp at h; omega
    subst this
    rw [List.take_length] at hw
    repeat' ((first | refine brk (fun h => ?_) (fun h => ?_) | fail) <;> simp only [z, seval, h])
    all_goals (refine FINS_done ?_; simp only [z, seval])
    all_goals (first | (simp_all [Right10]; done) | (simp_all [Right10]; intros; omega))
def Right08 (l : List Int) (room : Int) : Bool := allIx (fun pre x => !decide (x ∈ pre)) l && decide ((l.length : Int) ≤ room)
theorem Right08_spec (l : List Int) (room : Int) (hl : l.length ≤ 9223372036854775807) : Spec PP GG 83 [wordsV l, i64 room] (.bool (Right08 l room)) [] := by
  refine Spec.of_runs Go.Proofs.Tryz.f83 Go.Proofs.Tryz.func83 rfl ?_
  intro w0 M0
  simp only [Go.Proofs.Tryz.f83, List.replicate, List.cons_append, List.nil_append, wordsV, z, seval]
  refine RUNs_range l.length (fun i (_ : Unit) => allIx (fun pre x => !decide (x ∈ pre)) (l.take i) = true) (fun i _ => ([.sl (l.map u32) .plain, i64 room, .any, .any, .bool false, i64 i, .any, .any, .any, .any, .any, .any, .any, .any, .any, .any, .any, .any, .any, .any, .any, .any, .any, .any, .any, .any, .any, .any, .any, .any, .any], [])) () (by simp [allIx_nil]) wk rfl ?_
  rintro ⟨i, _, hi, hw⟩
  simp only [z, seval]
  refine CONDS_split (fun h => ?_) (fun h => ?_)
  · have hlt : i < l.length := by simpa using h
    simp only [z, seval]
    refine RUNs_range i (fun k (_ : Unit) => l[i] ∉ l.take k) (fun k _ => ([.sl (l.map u32) .plain, i64 room, .any, .any, .bool false, i64 i, i64 k, .any, .any, .any, .any, .any, .any, .any, .any, .any, .any, .any, .any, .any, .any, .any, .any, .any, .any, .any, .any, .any, .any, .any, .any], [])) () (by simp) wk rfl ?_
    rintro ⟨k, _, hk, hwk⟩
    simp only [z, seval]
    refine CONDS_split (fun h => ?_) (fun h => ?_)
    · have hlk : k < i := by simpa using h
      simp only [z, seval]
      (refine RUNs_draw 0 (by kernel_rfl) ?_; simp only [z, seval])
      simp only [z, seval, getMap u32 l hlt, getMap u32 l (Nat.lt_trans hlk hlt)]
      (refine ⟨by kernel_rfl, ?_⟩)
      first | refine brk (fun h => ?_) (fun h => ?_) | fail
      · simp only [z, seval]
        (refine FINS_done ?_; simp only [z, seval])
        have hm : l[i] ∈ l.take i := by
          rw [List.mem_iff_getElem]
          refine ⟨k, by rw [List.length_take]; omega, ?_⟩
          simp at h; simp [h]
        rw [Right08, allIx_false hlt (by simp [hm])]; rfl
      · simp only [z, seval, w64s (i := k) (by omega)]
        refine NX () (hi := hlk) (hinv := ?_)
        rw [List.take_succ_eq_append_getElem (Nat.lt_trans hlk hlt), List.mem_append, List.mem_singleton]
        rintro (hc | hc)
        · exact hwk hc
        · simp at h; exact h hc
    · have : k = i := by simp at h; omega
      subst this
      simp only [z, seval, w64s (i := k) (by omega)]
      refine NX () (hi := hlt) (hinv := ?_)
      rw [allIx_succ hlt, hw]; simpa using hwk
  · simp only [z, seval]
    (refine FINS_done ?_; simp only [z, seval])
    have : i = l.length := by simp at h; omega
    subst this
    rw [List.take_length] at hw
    rw [Right08, hw]; rfl
end Ch

/- The readers of the document's answer: small worlds. -/
set_option maxRecDepth 100000
set_option maxHeartbeats 4000000
set_option linter.unusedSimpArgs false
set_option linter.unusedVariables false
namespace Ch
open Go Go.Ab
def few (l : List Int) : Bool := decide ((l.length : Int) ≤ 100)
def Few07 (b : Box) : Bool := (b.rows.take 100).all (fun s => few s.plain) && decide ((b.rows.length : Int) ≤ 70)
theorem Few07_spec (b : Box) (hl : b.rows.length ≤ 9223372036854775807) : Spec PP GG 76 [b.v] (.bool (Few07 b)) [] := by
  refine Spec.of_runs Go.Proofs.Tryz.f76 Go.Proofs.Tryz.func76 rfl ?_
  intro w0 M0
  simp only [Go.Proofs.Tryz.f76, List.replicate, List.cons_append, List.nil_append, Box.v, sldsV, z, seval]
  refine RUNs_range b.rows.length (fun i (_ : Unit) => (b.rows.take i).all (fun s => few s.plain) = true ∧ i ≤ 100) (fun i _ => ([.any, .ptr 0 0, .bool false, i64 i, .any, .any, .any, .any, .any, .any, .any, .any, .any, .any, .any, .any, .any, .any, .any, .any, .any, .any, .any, .any, .any, .any, .any], [.var [i64 b.room, sldsV b.rows]])) () (by simp) wk rfl ?_
  rintro ⟨i, _, hi, hw, hm⟩
  simp only [z, seval, sldsV]
  have hend : (¬ i < b.rows.length ∨ ¬ i < 100) → (b.rows.take 100).all (fun s => few s.plain) = true := fun h => by rw [← take_end hi hm h]; exact hw
  first | refine brk (fun h => ?_) (fun h => ?_) | fail
  · have hlt : i < b.rows.length := by simpa using h
    simp only [z, seval, h]
    first | refine brk (fun h => ?_) (fun h => ?_) | fail
    · have hlm : i < 100 := by simp at h; omega
      simp only [z, seval, h, getMap Sld.v b.rows hlt, Sld.v, wordsV]
      first | refine brk (fun h => ?_) (fun h => ?_) | fail
      · simp only [z, seval, h]
        (refine FINS_done ?_; simp only [z, seval])
        rw [Few07, all_take_false hlt hlm (by simp [few]; simp at h; omega)]; rfl
      · simp only [z, seval, h, w64s (i := i) (by omega)]
        refine NX () (hi := hlt) (hinv := ?_)
        refine ⟨?_, by show i + 1 ≤ 100; omega⟩
        rw [all_succ hlt, hw]; simp [few]; simp at h; omega
    · simp only [z, seval, h]
      (refine FINS_done ?_; simp only [z, seval])
      rw [Few07, hend (.inr (by simp at h; omega))]; rfl
  · simp only [z, seval, h]
    (refine FINS_done ?_; simp only [z, seval])
    rw [Few07, hend (.inl (by simp at h; omega))]; rfl
def Few10 (l : List Person) : Bool := (l.take 20).all (fun p => few p.used && decide ((p.runs.length : Int) ≤ 100)) && decide ((l.length : Int) ≤ 10)
theorem Few10_spec (l : List Person) (hl : l.length ≤ 9223372036854775807) : Spec PP GG 78 [peopleV l] (.bool (Few10 l)) [] := by
  refine Spec.of_runs Go.Proofs.Tryz.f78 Go.Proofs.Tryz.func78 rfl ?_
  intro w0 M0
  simp only [Go.Proofs.Tryz.f78, List.replicate, List.cons_append, List.nil_append, peopleV, z, seval]
  refine RUNs_range l.length (fun i (_ : Unit) => (l.take i).all (fun p => few p.used && decide ((p.runs.length : Int) ≤ 100)) = true ∧ i ≤ 20) (fun i _ => ([.sl (l.map Person.v) .plain, .any, .bool false, i64 i, .any, .any, .any, .any, .any, .any, .any, .any, .any, .any, .any, .any, .any, .any, .any, .any, .any, .any, .any, .any, .any, .any, .any, .any, .any, .any, .any, .any, .any], [])) () (by simp) wk rfl ?_
  rintro ⟨i, _, hi, hw, hm⟩
  simp only [z, seval]
  have hend : (¬ i < l.length ∨ ¬ i < 20) → (l.take 20).all (fun p => few p.used && decide ((p.runs.length : Int) ≤ 100)) = true := fun h => by rw [← take_end hi hm h]; exact hw
  first | refine brk (fun h => ?_) (fun h => ?_) | fail
  · have hlt : i < l.length := by simpa using h
    simp only [z, seval, h]
    first | refine brk (fun h => ?_) (fun h => ?_) | fail
    · have hlm : i < 20 := by simp at h; omega
      simp only [z, seval, h, getMap Person.v l hlt, Person.v, wordsV, runsV]
      first | refine brk (fun h => ?_) (fun h => ?_) | fail
      · rename_i h1
        simp only [z, seval, h, getMap Person.v l hlt, Person.v, wordsV, runsV]
        first | refine brk (fun h => ?_) (fun h => ?_) | fail
        · simp only [z, seval, h]
          (refine FINS_done ?_; simp only [z, seval])
          rw [Few10, all_take_false hlt hlm (by simp [few] at *; intros; omega)]; rfl
        · simp only [z, seval, h, w64s (i := i) (by omega)]
          refine NX () (hi := hlt) (hinv := ?_)
          refine ⟨?_, by show i + 1 ≤ 20; omega⟩
          rw [all_succ hlt, hw]; simp [few] at *; omega
      · simp only [z, seval, h, getMap Person.v l hlt, Person.v, wordsV, runsV]
        (refine FINS_done ?_; simp only [z, seval])
        rw [Few10, all_take_false hlt hlm (by simp [few] at *; intros; omega)]; rfl
    · simp only [z, seval, h]
      (refine FINS_done ?_; simp only [z, seval])
      rw [Few10, hend (.inr (by simp at h; omega))]; rfl
  · simp only [z, seval, h]
    (refine FINS_done ?_; simp only [z, seval])
    rw [Few10, hend (.inl (by simp at h; omega))]; rfl
end Ch

/- The readers of the document's answer: small worlds, go on. -/
set_option maxRecDepth 100000
set_option maxHeartbeats 4000000
set_option linter.unusedSimpArgs false
set_option linter.unusedVariables false
namespace Ch
open Go Go.Ab
def Few06 (n : Net) : Bool := (n.grams.take 100).all (fun g => few g.words) && (n.seen.take 400).all few && decide ((n.grams.length : Int) ≤ 64) && decide ((n.seen.length : Int) ≤ 300)
theorem Few06_spec (b : Net) (hl : b.grams.length ≤ 9223372036854775807) (hl2 : b.seen.length ≤ 9223372036854775807) : Spec PP GG 77 [b.v] (.bool (Few06 b)) [] := by
  refine Spec.of_runs Go.Proofs.Tryz.f77 Go.Proofs.Tryz.func77 rfl ?_
  intro w0 M0
  simp only [Go.Proofs.Tryz.f77, List.replicate, List.cons_append, List.nil_append, Net.v, gramsV, rowsV, z, seval]
  refine RUNs_cut (fun _ : Unit => ([.any, .ptr 0 0, .bool false, .any, .any, .any, .any, .any, .any, .any, .any, .any, .any, .any, .any, .any, .any, .any, .any, .any, .any, .any, .any, .any, .any, .any, .any, .any, .any, .any, .any, .any, .any, .any, .any, .any, .any, .any, .any, .any, .any, .any, .any, .any, .any, .any, .any, .any, .any, .any, .any, .any], [.var [i64 b.room, gramsV b.grams, rowsV b.seen]])) (fun _ => (b.grams.take 100).all (fun s => few s.words) = true) ?_ ?_ rfl
  · refine RUNs_range b.grams.length (fun i (_ : Unit) => (b.grams.take i).all (fun s => few s.words) = true ∧ i ≤ 100) (fun i _ => ([.any, .ptr 0 0, .bool false, i64 i, .any, .any, .any, .any, .any, .any, .any, .any, .any, .any, .any, .any, .any, .any, .any, .any, .any, .any, .any, .any, .any, .any, .any, .any, .any, .any, .any, .any, .any, .any, .any, .any, .any, .any, .any, .any, .any, .any, .any, .any, .any, .any, .any, .any, .any, .any, .any, .any], [.var [i64 b.room, gramsV b.grams, rowsV b.seen]])) () (by simp) wk rfl ?_
    rintro ⟨i, _, hi, hw, hm⟩
    simp only [z, seval, gramsV]
    have hend : (¬ i < b.grams.length ∨ ¬ i < 100) → (b.grams.take 100).all (fun s => few s.words) = true := fun h => by rw [← take_end hi hm h]; exact hw
    first | refine brk (fun h => ?_) (fun h => ?_) | fail
    · have hlt : i < b.grams.length := by simpa using h
      simp only [z, seval, h]
      first | refine brk (fun h => ?_) (fun h => ?_) | fail
      · have hlm : i < 100 := by simp at h; omega
        simp only [z, seval, h, getMap Gram.v b.grams hlt, Gram.v, wordsV]
        first | refine brk (fun h => ?_) (fun h => ?_) | fail
        · simp only [z, seval, h]
          (refine FINS_done ?_; simp only [z, seval])
          rw [Few06, all_take_false hlt hlm (by simp [few]; simp at h; omega)]; rfl
        · simp only [z, seval, h, w64s (i := i) (by omega)]
          refine NX () (hi := hlt) (hinv := ?_)
          refine ⟨?_, by show i + 1 ≤ 100; omega⟩
          rw [all_succ hlt, hw]; simp [few]; simp at h; omega
      · simp only [z, seval, h]
        refine CI () (h := ?_)
        exact hend (.inr (by simp at h; omega))
    · simp only [z, seval, h]
      refine CI () (h := ?_)
      exact hend (.inl (by simp at h; omega))
  · rintro _ h1
    simp only [z, seval]
    refine RUNs_range b.seen.length (fun i (_ : Unit) => (b.seen.take i).all few = true ∧ i ≤ 400) (fun i _ => ([.any, .ptr 0 0, .bool false, .any, i64 i, .any, .any, .any, .any, .any, .any, .any, .any, .any, .any, .any, .any, .any, .any, .any, .any, .any, .any, .any, .any, .any, .any, .any, .any, .any, .any, .any, .any, .any, .any, .any, .any, .any, .any, .any, .any, .any, .any, .any, .any, .any, .any, .any, .any, .any, .any, .any], [.var [i64 b.room, gramsV b.grams, rowsV b.seen]])) () (by simp) wk rfl ?_
    rintro ⟨i, _, hi, hw, hm⟩
    simp only [z, seval, rowsV, gramsV]
    have hend : (¬ i < b.seen.length ∨ ¬ i < 400) → (b.seen.take 400).all few = true := fun h => by rw [← take_end hi hm h]; exact hw
    first | refine brk (fun h => ?_) (fun h => ?_) | fail
    · have hlt : i < b.seen.length := by simpa using h
      simp only [z, seval, h]
      first | refine brk (fun h => ?_) (fun h => ?_) | fail
      · have hlm : i < 400 := by simp at h; omega
        simp only [z, seval, h, getMap wordsV b.seen hlt, wordsV]
        first | refine brk (fun h => ?_) (fun h => ?_) | fail
        · simp only [z, seval, h]
          (refine FINS_done ?_; simp only [z, seval])
          rw [Few06, all_take_false hlt hlm (by simp [few]; simp at h; omega)]; simp
        · simp only [z, seval, h, w64s (i := i) (by omega)]
          refine NX () (hi := hlt) (hinv := ?_)
          refine ⟨?_, by show i + 1 ≤ 400; omega⟩
          rw [all_succ hlt, hw]; simp [few]; simp at h; omega
      · have h2 := hend (.inr (by simp at h; omega))
        simp only [z, seval, h]
        repeat' ((first | refine brk (fun h => ?_) (fun h => ?_) | fail) <;> simp only [z, seval, h])
        all_goals (refine FINS_done ?_; simp only [z, seval])
        all_goals (first | (simp_all [Few06]; done) | (simp_all [Few06]; intros; omega))
    · have h2 := hend (.inl (by simp at h; omega))
      simp only [z, seval, h]
      repeat' ((first | refine brk (fun h => ?_) (fun h => ?_) | fail) <;> simp only [z, seval, h])
      all_goals (refine FINS_done ?_; simp only [z, seval])
      all_goals (first | (simp_all [Few06]; done) | (simp_all [Few06]; intros; omega))
end Ch

/- The readers of the document's answer: a world's form. -/
set_option maxRecDepth 100000
set_option maxHeartbeats 4000000
set_option linter.unusedSimpArgs false
set_option linter.unusedVariables false
namespace Ch
open Go Go.Ab
structure World.Lim (w : World) : Prop where
  draws : w.draws.list.length ≤ 9223372036854775807
  box : w.box.rows.length ≤ 9223372036854775807
  grams : w.net.grams.length ≤ 9223372036854775807
  seen : w.net.seen.length ≤ 9223372036854775807
  people : w.people.length ≤ 9223372036854775807
  used : ∀ p ∈ w.people, p.used.length ≤ 9223372036854775807 ∧ p.runs.length ≤ 9223372036854775807
  log : w.log.length ≤ 9223372036854775807
  regs : w.regs.length ≤ 9223372036854775807
  leaks : w.leaks.length ≤ 9223372036854775807
def okP (c : Conf) (p : Person) : Bool := Right08 p.used c.used && Right09 p.runs c.runs && decide (p.clock ≤ 1073741824)
def at64 (l : List Int) : Bool := decide ((l.length : Int) ≤ 64)
def Form12 (w : World) : Bool := May12 w.conf && Right07 w.box && w.box.room == w.conf.box && Right06 w.net && w.net.room == w.conf.net && Right10 w.people && (w.people.length : Int) == IntKind.i64.wrap (w.conf.people + 1) &&
  (w.regs.length : Int) == w.conf.regs && decide (0 ≤ w.draws.next) && decide (w.draws.next ≤ 1048576) && w.people.all (okP w.conf) && w.regs.all at64 && w.net.seen.all at64 && w.net.grams.all (fun g => at64 g.words)
theorem Form12_spec (w : World) (hl : w.Lim) : Spec PP GG 28 [w.v] (.bool (Form12 w)) [] := by
  obtain ⟨l1, l2, l3, l4, l5, l6, l7, l8, l9⟩ := hl
  refine Spec.of_runs Go.Proofs.Tryz.f28 Go.Proofs.Tryz.func28 rfl ?_
  intro w0 M0
  simp only [Go.Proofs.Tryz.f28, List.replicate, List.cons_append, List.nil_append, World.v, World.cells, z, seval]
  repeat' (first | (refine CU (May12_spec w.conf) (h := ?_); simp only [z, seval]) | (refine CU (Right07_spec w.box l2) (h := ?_); simp only [z, seval]) | (refine CU (Right06_spec w.net) (h := ?_); simp only [z, seval]) | (refine CU (Right10_spec w.people l5) (h := ?_); simp only [z, seval]) | ((first | refine brk (fun h => ?_) (fun h => ?_) | fail) <;> simp only [z, seval, h]))
  all_goals try ((refine FINS_done ?_; simp only [z, seval]); (first | (simp_all [Form12]; done) | (simp_all [Form12]; intros; omega)); done)
  have hform : Form12 w = (w.people.all (okP w.conf) && w.regs.all at64 && w.net.seen.all at64 && w.net.grams.all (fun g => at64 g.words)) := by
    simp_all [Form12, Bool.and_assoc]
  refine RUNs_cut (fun _ : Unit => ([.any, .ptr 0 0, .bool false, .any, .any, .any, .any, .any, .any, .any, .any, .any, .any, .any, .any, .any, .any, .any, .any, .any, .any, .any, .any, .any, .any, .any, .any, .any, .any, .any, .any, .any, .any, .any, .any, .any, .any, .any, .any, .any, .any, .any, .any, .any, .any, .any, .any, .any, .any, .any, .any, .any, .any, .any, .any, .any, .any, .any, .any, .any, .any, .any, .any, .any, .any, .any, .any, .any, .any, .any, .any, .any, .any, .any, .any, .any, .any, .any, .any, .any, .any, .any, .any, .any, .any, .any, .any, .any, .any, .any, .any, .any, .any, .any, .any, .any, .any, .any, .any, .any, .any, .any, .any, .any, .any, .any, .any, .any, .any, .any, .any, .any, .any, .any, .any, .any, .any, .any, .any, .any, .any, .any, .any, .any, .any, .any, .any, .any, .any, .any, .any, .any, .any, .any, .any, .any, .any, .any, .any, .any, .any, .any, .any, .any, .any, .any, .any, .any, .any, .any, .any, .any, .any, .any, .any, .any, .any], [.var w.cells])) (fun _ => w.people.all (okP w.conf) = true) ?_ ?_ rfl
  · refine RUNs_range w.people.length (fun i (_ : Unit) => (w.people.take i).all (okP w.conf) = true) (fun i _ => ([.any, .ptr 0 0, .bool false, i64 i, .any, .any, .any, .any, .any, .any, .any, .any, .any, .any, .any, .any, .any, .any, .any, .any, .any, .any, .any, .any, .any, .any, .any, .any, .any, .any, .any, .any, .any, .any, .any, .any, .any, .any, .any, .any, .any, .any, .any, .any, .any, .any, .any, .any, .any, .any, .any, .any, .any, .any, .any, .any, .any, .any, .any, .any, .any, .any, .any, .any, .any, .any, .any, .any, .any, .any, .any, .any, .any, .any, .any, .any, .any, .any, .any, .any, .any, .any, .any, .any, .any, .any, .any, .any, .any, .any, .any, .any, .any, .any, .any, .any, .any, .any, .any, .any, .any, .any, .any, .any, .any, .any, .any, .any, .any, .any, .any, .any, .any, .any, .any, .any, .any, .any, .any, .any, .any, .any, .any, .any, .any, .any, .any, .any, .any, .any, .any, .any, .any, .any, .any, .any, .any, .any, .any, .any, .any, .any, .any, .any, .any, .any, .any, .any, .any, .any, .any, .any, .any, .any, .any, .any, .any], [.var w.cells])) () (by simp) wk rfl ?_
    rintro ⟨i, _, hi, hw⟩
    simp only [z, seval, World.cells]
    first | refine brk (fun h => ?_) (fun h => ?_) | fail
    · have hlt : i < w.people.length := by simpa using h
      obtain ⟨m1, m2⟩ := l6 w.people[i] (List.getElem_mem hlt)
      simp only [z, seval, h, getMap Person.v w.people hlt, Person.v]
      repeat' (first | (refine CU (Right08_spec w.people[i].used w.conf.used m1) (h := ?_); simp only [z, seval]) | (refine CU (Right09_spec w.people[i].runs w.conf.runs m2) (h := ?_); simp only [z, seval]) | ((first | refine brk (fun h => ?_) (fun h => ?_) | fail) <;> simp only [z, seval, h]))
      all_goals try ((refine FINS_done ?_; simp only [z, seval]); (rw [hform, all_false hlt (by simp_all [okP])]; simp); done)
      simp only [w64s (i := i) (by omega)]
      refine NX () (hi := hlt) (hinv := ?_)
      rw [all_succ hlt, hw]; simp_all [okP]
    · simp only [z, seval, h]
      refine CI () (h := ?_)
      have : i = w.people.length := by simp at h; omega
      subst this
      rwa [List.take_length] at hw
  intro _ hA
  simp only [z, seval]
  refine RUNs_cut (fun _ : Unit => ([.any, .ptr 0 0, .bool false, .any, .any, .any, .any, .any, .any, .any, .any, .any, .any, .any, .any, .any, .any, .any, .any, .any, .any, .any, .any, .any, .any, .any, .any, .any, .any, .any, .any, .any, .any, .any, .any, .any, .any, .any, .any, .any, .any, .any, .any, .any, .any, .any, .any, .any, .any, .any, .any, .any, .any, .any, .any, .any, .any, .any, .any, .any, .any, .any, .any, .any, .any, .any, .any, .any, .any, .any, .any, .any, .any, .any, .any, .any, .any, .any, .any, .any, .any, .any, .any, .any, .any, .any, .any, .any, .any, .any, .any, .any, .any, .any, .any, .any, .any, .any, .any, .any, .any, .any, .any, .any, .any, .any, .any, .any, .any, .any, .any, .any, .any, .any, .any, .any, .any, .any, .any, .any, .any, .any, .any, .any, .any, .any, .any, .any, .any, .any, .any, .any, .any, .any, .any, .any, .any, .any, .any, .any, .any, .any, .any, .any, .any, .any, .any, .any, .any, .any, .any, .any, .any, .any, .any, .any, .any], [.var w.cells])) (fun _ => w.regs.all at64 = true) ?_ ?_ rfl
  · refine RUNs_range w.regs.length (fun i (_ : Unit) => (w.regs.take i).all at64 = true) (fun i _ => ([.any, .ptr 0 0, .bool false, .any, .any, i64 i, .any, .any, .any, .any, .any, .any, .any, .any, .any, .any, .any, .any, .any, .any, .any, .any, .any, .any, .any, .any, .any, .any, .any, .any, .any, .any, .any, .any, .any, .any, .any, .any, .any, .any, .any, .any, .any, .any, .any, .any, .any, .any, .any, .any, .any, .any, .any, .any, .any, .any, .any, .any, .any, .any, .any, .any, .any, .any, .any, .any, .any, .any, .any, .any, .any, .any, .any, .any, .any, .any, .any, .any, .any, .any, .any, .any, .any, .any, .any, .any, .any, .any, .any, .any, .any, .any, .any, .any, .any, .any, .any, .any, .any, .any, .any, .any, .any, .any, .any, .any, .any, .any, .any, .any, .any, .any, .any, .any, .any, .any, .any, .any, .any, .any, .any, .any, .any, .any, .any, .any, .any, .any, .any, .any, .any, .any, .any, .any, .any, .any, .any, .any, .any, .any, .any, .any, .any, .any, .any, .any, .any, .any, .any, .any, .any, .any, .any, .any, .any, .any, .any], [.var w.cells])) () (by simp) wk rfl ?_
    rintro ⟨i, _, hi, hw⟩
    simp only [z, seval, World.cells]
    first | refine brk (fun h => ?_) (fun h => ?_) | fail
    · have hlt : i < w.regs.length := by simpa using h
      simp only [z, seval, h, getMap wordsV w.regs hlt, Gram.v]
      first | refine brk (fun h => ?_) (fun h => ?_) | fail
      · simp only [z, seval, h]
        (refine FINS_done ?_; simp only [z, seval])
        rw [hform, all_false hlt (by simp [at64]; simp at h; omega)]; simp
      · simp only [z, seval, h, w64s (i := i) (by omega)]
        refine NX () (hi := hlt) (hinv := ?_)
        rw [all_succ hlt, hw]; simp [at64]; simp at h; omega
    · simp only [z, seval, h]
      have hend : i = w.regs.length := by simp at h; omega
      subst hend
      rw [List.take_length] at hw
      refine CI () (h := ?_)
      exact hw
  intro _ hB
  simp only [z, seval]
  refine RUNs_cut (fun _ : Unit => ([.any, .ptr 0 0, .bool false, .any, .any, .any, .any, .any, .any, .any, .any, .any, .any, .any, .any, .any, .any, .any, .any, .any, .any, .any, .any, .any, .any, .any, .any, .any, .any, .any, .any, .any, .any, .any, .any, .any, .any, .any, .any, .any, .any, .any, .any, .any, .any, .any, .any, .any, .any, .any, .any, .any, .any, .any, .any, .any, .any, .any, .any, .any, .any, .any, .any, .any, .any, .any, .any, .any, .any, .any, .any, .any, .any, .any, .any, .any, .any, .any, .any, .any, .any, .any, .any, .any, .any, .any, .any, .any, .any, .any, .any, .any, .any, .any, .any, .any, .any, .any, .any, .any, .any, .any, .any, .any, .any, .any, .any, .any, .any, .any, .any, .any, .any, .any, .any, .any, .any, .any, .any, .any, .any, .any, .any, .any, .any, .any, .any, .any, .any, .any, .any, .any, .any, .any, .any, .any, .any, .any, .any, .any, .any, .any, .any, .any, .any, .any, .any, .any, .any, .any, .any, .any, .any, .any, .any, .any, .any], [.var w.cells])) (fun _ => w.net.seen.all at64 = true) ?_ ?_ rfl
  · refine RUNs_range w.net.seen.length (fun i (_ : Unit) => (w.net.seen.take i).all at64 = true) (fun i _ => ([.any, .ptr 0 0, .bool false, .any, .any, .any, i64 i, .any, .any, .any, .any, .any, .any, .any, .any, .any, .any, .any, .any, .any, .any, .any, .any, .any, .any, .any, .any, .any, .any, .any, .any, .any, .any, .any, .any, .any, .any, .any, .any, .any, .any, .any, .any, .any, .any, .any, .any, .any, .any, .any, .any, .any, .any, .any, .any, .any, .any, .any, .any, .any, .any, .any, .any, .any, .any, .any, .any, .any, .any, .any, .any, .any, .any, .any, .any, .any, .any, .any, .any, .any, .any, .any, .any, .any, .any, .any, .any, .any, .any, .any, .any, .any, .any, .any, .any, .any, .any, .any, .any, .any, .any, .any, .any, .any, .any, .any, .any, .any, .any, .any, .any, .any, .any, .any, .any, .any, .any, .any, .any, .any, .any, .any, .any, .any, .any, .any, .any, .any, .any, .any, .any, .any, .any, .any, .any, .any, .any, .any, .any, .any, .any, .any, .any, .any, .any, .any, .any, .any, .any, .any, .any, .any, .any, .any, .any, .any, .any], [.var w.cells])) () (by simp) wk rfl ?_
    rintro ⟨i, _, hi, hw⟩
    simp only [z, seval, World.cells]
    first | refine brk (fun h => ?_) (fun h => ?_) | fail
    · have hlt : i < w.net.seen.length := by simpa using h
      simp only [z, seval, h, getMap wordsV w.net.seen hlt, Gram.v]
      first | refine brk (fun h => ?_) (fun h => ?_) | fail
      · simp only [z, seval, h]
        (refine FINS_done ?_; simp only [z, seval])
        rw [hform, all_false hlt (by simp [at64]; simp at h; omega)]; simp
      · simp only [z, seval, h, w64s (i := i) (by omega)]
        refine NX () (hi := hlt) (hinv := ?_)
        rw [all_succ hlt, hw]; simp [at64]; simp at h; omega
    · simp only [z, seval, h]
      have hend : i = w.net.seen.length := by simp at h; omega
      subst hend
      rw [List.take_length] at hw
      refine CI () (h := ?_)
      exact hw
  intro _ hC
  simp only [z, seval]
  · refine RUNs_range w.net.grams.length (fun i (_ : Unit) => (w.net.grams.take i).all (fun g => at64 g.words) = true) (fun i _ => ([.any, .ptr 0 0, .bool false, .any, .any, .any, .any, i64 i, .any, .any, .any, .any, .any, .any, .any, .any, .any, .any, .any, .any, .any, .any, .any, .any, .any, .any, .any, .any, .any, .any, .any, .any, .any, .any, .any, .any, .any, .any, .any, .any, .any, .any, .any, .any, .any, .any, .any, .any, .any, .any, .any, .any, .any, .any, .any, .any, .any, .any, .any, .any, .any, .any, .any, .any, .any, .any, .any, .any, .any, .any, .any, .any, .any, .any, .any, .any, .any, .any, .any, .any, .any, .any, .any, .any, .any, .any, .any, .any, .any, .any, .any, .any, .any, .any, .any, .any, .any, .any, .any, .any, .any, .any, .any, .any, .any, .any, .any, .any, .any, .any, .any, .any, .any, .any, .any, .any, .any, .any, .any, .any, .any, .any, .any, .any, .any, .any, .any, .any, .any, .any, .any, .any, .any, .any, .any, .any, .any, .any, .any, .any, .any, .any, .any, .any, .any, .any, .any, .any, .any, .any, .any, .any, .any, .any, .any, .any, .any], [.var w.cells])) () (by simp) wk rfl ?_
    rintro ⟨i, _, hi, hw⟩
    simp only [z, seval, World.cells]
    first | refine brk (fun h => ?_) (fun h => ?_) | fail
    · have hlt : i < w.net.grams.length := by simpa using h
      simp only [z, seval, h, getMap Gram.v w.net.grams hlt, Gram.v]
      first | refine brk (fun h => ?_) (fun h => ?_) | fail
      · simp only [z, seval, h]
        (refine FINS_done ?_; simp only [z, seval])
        rw [hform, all_false hlt (by simp [at64]; simp at h; omega)]; simp
      · simp only [z, seval, h, w64s (i := i) (by omega)]
        refine NX () (hi := hlt) (hinv := ?_)
        rw [all_succ hlt, hw]; simp [at64]; simp at h; omega
    · simp only [z, seval, h]
      have hend : i = w.net.grams.length := by simp at h; omega
      subst hend
      rw [List.take_length] at hw
      (refine FINS_done ?_; simp only [z, seval])
      rw [hform, hA, hB, hC, hw]; rfl
end Ch

/- The document's answer: draws, a new world. -/
set_option maxRecDepth 100000
set_option maxHeartbeats 4000000
set_option linter.unusedSimpArgs false
set_option linter.unusedVariables false
namespace Ch
open Go Go.Ab
def dflt (i : Nat) : Int := orI .u32 1073741824 (IntKind.u32.wrap i)
def drawAt (l : List Int) (i : Nat) : Int :=
  let w := match l[i]? with
    | some x => x
    | none => dflt i
  if w < 2147483648 then IntKind.u32.wrap (w + 2147483648) else w
theorem At04_spec (d : Draws) (i : Nat) : Spec PP GG 162 [d.v, i64 i] (u32 (drawAt d.list i)) [] := by
  refine Spec.of_runs Go.Proofs.Tryz.f162 Go.Proofs.Tryz.func162 rfl ?_
  intro w0 M0
  simp only [Go.Proofs.Tryz.f162, List.replicate, List.cons_append, List.nil_append, Draws.v, z, seval]
  first | refine brk (fun h => ?_) (fun h => ?_) | fail
  · have hlt : i < d.list.length := by simpa using h
    simp only [z, seval, h, getMap u32 d.list hlt]
    first | refine brk (fun h => ?_) (fun h => ?_) | fail
    · simp only [z, seval, h]
      (refine FINS_done ?_; simp only [z, seval])
      simp at h; simp [drawAt, hlt, h]
    · simp only [z, seval, h]
      (refine FINS_done ?_; simp only [z, seval])
      simp at h; simp [drawAt, hlt]; omega
  · have hnl : d.list[i]? = none := by simp at h ⊢; omega
    simp only [z, seval, h]
    first | refine brk (fun h => ?_) (fun h => ?_) | fail
    · simp only [z, seval, h]
      (refine FINS_done ?_; simp only [z, seval])
      have h' := of_decide_eq_true h
      simp only [drawAt, hnl, dflt, h', if_true]
    · simp only [z, seval, h]
      (refine FINS_done ?_; simp only [z, seval])
      have h' := of_decide_eq_false h
      simp only [drawAt, hnl, dflt, h', if_false]
theorem Take04_spec (d : Draws) (i : Nat) (hi : d.next = i) : Spec PP GG 124 [d.v] (.tup [Draws.v ⟨d.list, IntKind.i64.wrap (d.next + 1)⟩, u32 (drawAt d.list i)]) [] := by
  refine Spec.of_runs Go.Proofs.Tryz.f124 Go.Proofs.Tryz.func124 rfl ?_
  intro w0 M0
  simp only [Go.Proofs.Tryz.f124, List.replicate, List.cons_append, List.nil_append, Draws.v, hi, z, seval]
  (refine CALLS_spec (At04_spec ⟨d.list, i⟩ i) (by kernel_rfl) (by simp only [Draws.v, z, seval]) ?_; simp only [z, seval])
  (refine FINS_done ?_; simp only [z, seval])
theorem i64_lit (n : Int) : V.val (.int .i64 n) = i64 n := rfl
def newPeople (l : List Int) (next : Nat) : Nat → List Person
  | 0 => [⟨0, 0, 0, [], [], false⟩]
  | n + 1 => newPeople l next n ++ [⟨IntKind.u32.wrap ((n + 1 : Nat) : Int), drawAt l (next + n), 0, [], [], false⟩]
theorem newPeople_len (l : List Int) (next : Nat) : ∀ n, (newPeople l next n).length = n + 1
  | 0 => rfl
  | n + 1 => by simp [newPeople, newPeople_len l next n]
abbrev zeroDraws : AB := .var [.sl [] .nil, i64 0]
def newI (l : List Int) (k n : Nat) : Nat → List V × List AB
  | 0 => ([i64 n, .any, .any, .ptr 0 0, .any, .ptr 1 0, .sl [Person.v ⟨0, 0, 0, [], [], false⟩] .tight, i64 1, .any, .any, .any, .any, .any, .any, .any, .any, .any, .any, .any, .any, .any, .any, .any, .any, .any, .any, .any, .any, .any, .any, .any, .any], [.var [wordsV l, i64 k], zeroDraws])
  | j + 1 => ([i64 n, .any, .any, .ptr 0 0, .any, .ptr 1 0, .row 3 j, i64 ((j + 2 : Nat) : Int), .any, .any, .any, .any, .any, .any, .any, .any, .any, .any, .any, .any, .any, .any, .any, .any, .any, .any, .any, .any, .any, .any, .any, .any], [.var [wordsV l, i64 ((k + j + 1 : Nat) : Int)], zeroDraws, .dead, .row 6 ((newPeople l k (j + 1)).map Person.v) j false])
theorem New10_spec (n : Nat) (hn : n ≤ 100) (l : List Int) (k : Nat) (hk : k ≤ 1048576) : Spec PP GG 107 [i64 n, Draws.v ⟨l, k⟩] (.tup [peopleV (newPeople l k n), Draws.v ⟨l, ((k + n : Nat) : Int)⟩]) [] := by
  refine Spec.of_runs Go.Proofs.Tryz.f107 Go.Proofs.Tryz.func107 rfl ?_
  intro w0 M0
  simp only [Go.Proofs.Tryz.f107, List.replicate, List.cons_append, List.nil_append, Draws.v, z, seval]
  refine RUNs_range n (fun _ (_ : Unit) => True) (fun i _ => newI l k n i) () trivial ?_ rfl ?_
  · exact wk
  rintro ⟨i, _, hi, _⟩
  have w1 : IntKind.i64.wrap ((k : Int) + 1) = ((k + 1 : Nat) : Int) := w64s (by omega)
  have w2 : IntKind.i64.wrap (1 + 1) = ((0 + 2 : Nat) : Int) := by rw [w64 (by omega) (by omega)]; rfl
  rcases i with _ | j
  · simp only [newI, z, seval]
    first | refine brk (fun h => ?_) (fun h => ?_) | fail
    · simp only [z, seval, h]
      (refine CU (Take04_spec ⟨l, k⟩ k rfl) (h := ?_); simp only [z, seval])
      simp only [z, seval, w1, w2]
      have hlt : 0 < n := by have := of_decide_eq_true h; omega
      refine NX () (hi := hlt) (hinv := ?_)
      trivial
    · simp only [z, seval, h]
      (refine RUNs_draw 0 (by kernel_rfl) ?_; simp only [z, seval])
      (refine ⟨by kernel_rfl, ?_⟩)
      (refine FINS_done ?_; simp only [z, seval])
      have : n = 0 := by simp at h; omega
      subst this
      rfl
  · have w3 : IntKind.i64.wrap (((k + j + 1 : Nat) : Int) + 1) = ((k + (j + 1) + 1 : Nat) : Int) := by rw [w64s (by omega)]; congr 1
    have w4 : IntKind.i64.wrap (((j + 2 : Nat) : Int) + 1) = ((j + 1 + 2 : Nat) : Int) := by rw [w64s (by omega)]
    simp only [newI, z, seval]
    first | refine brk (fun h => ?_) (fun h => ?_) | fail
    · simp only [z, seval, h]
      (refine CU (Take04_spec ⟨l, ((k + j + 1 : Nat) : Int)⟩ (k + j + 1) rfl) (h := ?_); simp only [z, seval])
      refine OPC_ok ?_ ?_
      · simp [newPeople_len]; omega
      have e : (newPeople l k (j + 1)).map Person.v ++ [Person.v ⟨IntKind.u32.wrap ((j + 2 : Nat) : Int), drawAt l (k + j + 1), 0, [], [], false⟩] = (newPeople l k (j + 1 + 1)).map Person.v := by
        rw [newPeople.eq_2 l k (j + 1), List.map_append]; rfl
      simp only [Person.v, wordsV, runsV, List.map_nil] at e
      simp only [z, seval, w3, w4, e]
      have hlt : j + 1 < n := by have := of_decide_eq_true h; omega
      refine NX () (hi := hlt) (hinv := ?_)
      trivial
    · simp only [z, seval, h]
      (refine RUNs_draw 0 (by kernel_rfl) ?_; simp only [z, seval])
      (refine ⟨by kernel_rfl, ?_⟩)
      (refine FINS_done ?_; simp only [z, seval])
      have : n = j + 1 := by simp at h; omega
      subst this
      rfl
end Ch

/- The document's answer: small worlds, new worlds. -/
set_option maxRecDepth 100000
set_option maxHeartbeats 4000000
set_option linter.unusedSimpArgs false
set_option linter.unusedVariables false
namespace Ch
open Go Go.Ab
def Few12 (w : World) : Bool := (w.regs.take 20).all few && Few07 w.box && Few06 w.net && Few10 w.people && decide ((w.regs.length : Int) ≤ 10) && decide ((w.log.length : Int) ≤ 300) && decide ((w.leaks.length : Int) ≤ 300) && decide ((w.draws.list.length : Int) ≤ 1000)
theorem Few12_spec (w : World) (hl : w.Lim) : Spec PP GG 27 [w.v] (.bool (Few12 w)) [] := by
  obtain ⟨l1, l2, l3, l4, l5, l6, l7, l8, l9⟩ := hl
  refine Spec.of_runs Go.Proofs.Tryz.f27 Go.Proofs.Tryz.func27 rfl ?_
  intro w0 M0
  simp only [Go.Proofs.Tryz.f27, List.replicate, List.cons_append, List.nil_append, z, seval]
  refine RUNs_cut (fun _ : Unit => ([.any, .ptr 0 0, .bool false, .any, .any, .any, .any, .any, .any, .any, .any, .any, .any, .any, .any, .any, .any, .any, .any, .any, .any, .any, .any, .any, .any, .any, .any, .any, .any, .any, .any, .any, .any, .any, .any, .any, .any, .any, .any, .any, .any, .any, .any, .any, .any, .any, .any, .any, .any, .any, .any, .any, .any, .any, .any, .any, .any, .any, .any, .any], [.var w.cells])) (fun _ => (w.regs.take 20).all few = true) ?_ ?_ rfl
  · refine RUNs_range w.regs.length (fun i (_ : Unit) => (w.regs.take i).all few = true ∧ i ≤ 20) (fun i _ => ([.any, .ptr 0 0, .bool false, i64 i, .any, .any, .any, .any, .any, .any, .any, .any, .any, .any, .any, .any, .any, .any, .any, .any, .any, .any, .any, .any, .any, .any, .any, .any, .any, .any, .any, .any, .any, .any, .any, .any, .any, .any, .any, .any, .any, .any, .any, .any, .any, .any, .any, .any, .any, .any, .any, .any, .any, .any, .any, .any, .any, .any, .any, .any], [.var w.cells])) () (by simp) wk rfl ?_
    rintro ⟨i, _, hi, hw, hm⟩
    simp only [z, seval]
    have hend : (¬ i < w.regs.length ∨ ¬ i < 20) → (w.regs.take 20).all few = true := fun h => by rw [← take_end hi hm h]; exact hw
    first | refine brk (fun h => ?_) (fun h => ?_) | fail
    · have hlt : i < w.regs.length := by simpa using h
      simp only [z, seval, h]
      first | refine brk (fun h => ?_) (fun h => ?_) | fail
      · have hlm : i < 20 := by simp at h; omega
        simp only [z, seval, h, getMap wordsV w.regs hlt]
        first | refine brk (fun h => ?_) (fun h => ?_) | fail
        · simp only [z, seval, h]
          (refine FINS_done ?_; simp only [z, seval])
          rw [Few12, all_take_false hlt hlm (by simp [few]; simp at h; omega)]; rfl
        · simp only [z, seval, h, w64s (i := i) (by omega)]
          refine NX () (hi := hlt) (hinv := ?_)
          refine ⟨?_, by show i + 1 ≤ 20; omega⟩
          rw [all_succ hlt, hw]; simp [few]; simp at h; omega
      · simp only [z, seval, h]
        refine CI () (h := ?_)
        exact hend (.inr (by simp at h; omega))
    · simp only [z, seval, h]
      refine CI () (h := ?_)
      exact hend (.inl (by simp at h; omega))
  · rintro _ h1
    simp only [z, seval]
    repeat' (first | (refine CU (Few07_spec w.box l2) (h := ?_); simp only [z, seval]) | (refine CU (Few06_spec w.net l3 l4) (h := ?_); simp only [z, seval]) | (refine CU (Few10_spec w.people l5) (h := ?_); simp only [z, seval]) | ((first | refine brk (fun h => ?_) (fun h => ?_) | fail) <;> simp only [z, seval, h]))
    all_goals (refine FINS_done ?_; simp only [z, seval])
    all_goals (first | (simp_all [Few12]; done) | (simp_all [Few12]; intros; omega))
end Ch

/- The document's answer: a new world. -/
set_option maxRecDepth 100000
set_option maxHeartbeats 4000000
set_option linter.unusedSimpArgs false
set_option linter.unusedVariables false
namespace Ch
open Go Go.Ab
def newWorld (c : Conf) (l : List Int) (n m : Nat) : World := ⟨c, ⟨l, n⟩, ⟨c.box, []⟩, ⟨c.net, [], []⟩, newPeople l 0 n, [], List.replicate m [], []⟩
def nwCells (c : Conf) (l : List Int) (n m : Nat) (regs : V) : List V := [u32 c.window, i64 n, i64 c.box, i64 c.used, i64 c.runs, i64 c.net, i64 m, .sl (l.map u32) .plain, i64 n, i64 c.box, .sl [] .plain, i64 c.net, .sl [] .plain, .sl [] .plain, .sl ((newPeople l 0 n).map Person.v) .plain, .sl [] .plain, regs, .sl [] .plain]
def nwV (c : Conf) (l : List Int) (n m : Nat) : V := .agg (nwCells c l n m (.row 4 m))
def nwH (m : Nat) : List AB := [.dead, .dead, .dead, .dead, .row 1 ((List.replicate m []).map wordsV) m false]
theorem repSucc {α : Type} (f : α → V) (a : α) (n : Nat) : (List.replicate n a).map f ++ [f a] = (List.replicate (n + 1) a).map f := by
  rw [List.replicate_succ' (n := n), List.map_append]; rfl
theorem New12_H (c : Conf) (n m : Nat) (hn : n ≤ 100) (hm : m ≤ 100) (h1 : c.people = n) (h2 : c.regs = m) (l : List Int) : Spec PP GG 43 [c.v, wordsV l] (nwV c l n m) (nwH m) := by
  have hN := New10_spec n hn l 0 (by omega)
  simp only [Int.natCast_zero, Int.cast_ofNat_Int, z, seval] at hN
  refine Spec.of_runs Go.Proofs.Tryz.f43 Go.Proofs.Tryz.func43 rfl ?_
  intro w0 M0
  simp only [Go.Proofs.Tryz.f43, List.replicate, List.cons_append, List.nil_append, h1, h2, z, seval]
  (refine CU (hN) (h := ?_); simp only [z, seval])
  (refine RUNs_row0H 2 16 1 (h := ?_); simp only [z, seval])
  refine RUNs_rangeS (m) (fun _ (_ : Unit) => True) (fun i _ => [(8, i64 i)]) (fun i _ => [(2, .var (nwCells c l n m (.row 4 i))), (4, .row 1 ((List.replicate i []).map wordsV) i false)]) () ?_ (by simp only [z, seval]; exact wk) rfl ?_
  · trivial
  rintro ⟨i, _, hi, _⟩
  simp only [nwCells, z, seval]
  first | refine brk (fun h => ?_) (fun h => ?_) | fail
  · have hlt : i < m := by have := of_decide_eq_true h; omega
    simp only [h, z, seval]
    refine OPC_ok (by simp; omega) ?_
    have e := repSucc wordsV [] i
    simp only [wordsV, List.map_nil] at e
    simp only [List.map_nil, e, w64s (i := i) (by omega), z, seval]
    refine NX () (hi := hlt) (hinv := ?_)
    trivial
  · obtain rfl : i = m := by have := of_decide_eq_false h; omega
    simp only [h, z, seval]
    (refine FINS_keep [4] (by simp only [List.filter_cons, List.filter_nil, List.contains_cons, List.contains_nil, beq_self_eq_true, Bool.or_false, Bool.false_or, Bool.or_true, Bool.true_or, Bool.not_true, Bool.not_false, Bool.false_eq_true, if_false, if_true, nwV, nwCells, nwH, z, seval]) ?_; simp only [List.filter_cons, List.filter_nil, List.contains_cons, List.contains_nil, beq_self_eq_true, Bool.or_false, Bool.false_or, Bool.or_true, Bool.true_or, Bool.not_true, Bool.not_false, Bool.false_eq_true, if_false, if_true, nwV, nwCells, nwH, z, seval]; exact wk)
theorem New12_spec (c : Conf) (n m : Nat) (hn : n ≤ 100) (hm : m ≤ 100) (h1 : c.people = n) (h2 : c.regs = m) (l : List Int) : Spec PP GG 43 [c.v, wordsV l] ((newWorld c l n m).v) [] := by
  refine (New12_H c n m hn hm h1 h2 l).fz ?_
  simp only [nwV, nwH, nwCells, newWorld, h1, h2, List.map_nil, z, seval]
end Ch

/- The program's people. -/
set_option maxRecDepth 100000
set_option maxHeartbeats 4000000
set_option linter.unusedSimpArgs false
set_option linter.unusedVariables false
namespace Ch
open Go Go.Ab
theorem wu64 {n : Int} (h0 : 0 ≤ n) (h1 : n < 18446744073709551616) : IntKind.u64.wrap n = n := by
  rw [IntKind.wrap_u64]; omega
theorem in_spec (l : List Person) (n : Nat) (hn : n < 4294967296) (hl : l.length ≤ 1099511627776) : Spec PP GG 135 [peopleV l, u32 n] (.bool (decide (n < l.length))) [] := by
  refine Spec.of_runs Go.Proofs.Tryz.f135 Go.Proofs.Tryz.func135 rfl ?_
  intro w0 M0
  simp only [Go.Proofs.Tryz.f135, List.replicate, List.cons_append, List.nil_append, z, seval]
  simp only [wu64 (n := (n : Int)) (by omega) (by omega), wu64 (n := (l.length : Int)) (by omega) (by omega), z, seval]
  (refine FINS_done ?_; simp only [z, seval])
  simp
def zeroP : Person := ⟨0, 0, 0, [], [], false⟩
def getP (l : List Person) (n : Nat) : Person := (l[n]?).getD zeroP
theorem Get_spec (l : List Person) (n : Nat) (hn : n < 4294967296) (hl : l.length ≤ 1099511627776) : Spec PP GG 97 [peopleV l, u32 n] (.tup [(getP l n).v, .bool (decide (n < l.length))]) [] := by
  refine Spec.of_runs Go.Proofs.Tryz.f97 Go.Proofs.Tryz.func97 rfl ?_
  intro w0 M0
  simp only [Go.Proofs.Tryz.f97, List.replicate, List.cons_append, List.nil_append, z, seval]
  (refine CU (in_spec l n hn hl) (h := ?_); simp only [z, seval])
  first | refine brk (fun h => ?_) (fun h => ?_) | fail
  · have hlt : n < l.length := by simpa using h
    simp only [h, getMap Person.v l hlt, z, seval]
    (refine FINS_done ?_; simp only [z, seval])
    simp [getP, hlt, Person.v, wordsV, runsV]
  · have hlt : ¬ n < l.length := by simpa using h
    simp only [h, z, seval]
    (refine FINS_done ?_; simp only [z, seval])
    simp [getP, hlt, zeroP]
theorem Person_spec (w : World) (n : Nat) (hn : n < 4294967296) (hl : w.people.length ≤ 1099511627776) : Spec PP GG 86 [w.v, u32 n] (getP w.people n).v [] := by
  refine Spec.of_runs Go.Proofs.Tryz.f86 Go.Proofs.Tryz.func86 rfl ?_
  intro w0 M0
  simp only [Go.Proofs.Tryz.f86, List.replicate, List.cons_append, List.nil_append, z, seval]
  (refine CU (Get_spec w.people n hn hl) (h := ?_); simp only [z, seval])
  (refine FINS_done ?_; simp only [z, seval])
def honest (l : List Person) (n : Int) : Bool := !(getP l n.toNat).corrupt
end Ch

/- The document's answer: a world in memory of its own. -/
set_option maxRecDepth 100000
set_option maxHeartbeats 4000000
set_option linter.unusedSimpArgs false
set_option linter.unusedVariables false
namespace Ch
open Go Go.Ab
/-- lists are no longer than what is sure to fit -/
structure World.lim (w : World) : Prop where
  draws : w.draws.list.length ≤ 1099511627776
  rows : w.box.rows.length ≤ 1099511627776
  plain : ∀ s ∈ w.box.rows, s.plain.length ≤ 1099511627776
  grams : w.net.grams.length ≤ 1099511627776
  words : ∀ g ∈ w.net.grams, g.words.length ≤ 1099511627776
  seen : w.net.seen.length ≤ 1099511627776
  seens : ∀ l ∈ w.net.seen, l.length ≤ 1099511627776
  people : w.people.length ≤ 1099511627776
  used : ∀ p ∈ w.people, p.used.length ≤ 1099511627776
  runs : ∀ p ∈ w.people, p.runs.length ≤ 1099511627776
  log : w.log.length ≤ 1099511627776
  regs : w.regs.length ≤ 1099511627776
  reg : ∀ l ∈ w.regs, l.length ≤ 1099511627776
  leaks : w.leaks.length ≤ 1099511627776
theorem Lim_of_ok {w : World} (h : w.ok) : w.Lim := by
  obtain ⟨h1, h2, h3, h4, h5, h6, h7, h8⟩ := h
  exact ⟨h2.1.1, h3.2.1, h4.2.1.1, h4.2.2.1, h5.1, fun p hp => ⟨(h5.2 p hp).2.2.2.1.1, (h5.2 p hp).2.2.2.2.1⟩, h6.1, h7.1, h8.1⟩
theorem few_len {α : Type} {l : List α} {p : α → Bool} {n : Nat} (h : (l.take n).all p = true) (hl : l.length ≤ n) : ∀ x ∈ l, p x = true := by
  rw [List.take_of_length_le hl, List.all_eq_true] at h; exact h
theorem lim_of_few {w : World} (h : Few12 w = true) : w.lim := by
  simp only [Few12, Few07, Few06, Few10, Bool.and_eq_true, decide_eq_true_eq] at h
  obtain ⟨⟨⟨⟨⟨⟨⟨h1, h2, h3⟩, ⟨⟨h4, h5⟩, h6⟩, h7⟩, h8, h9⟩, h10⟩, h11⟩, h12⟩, h13⟩ := h
  have L : ∀ l : List Int, few l = true → l.length ≤ 1099511627776 := fun l hl => by simp only [few, decide_eq_true_eq] at hl; omega
  have P := few_len h8 (by omega)
  simp only [Bool.and_eq_true, decide_eq_true_eq] at P
  exact ⟨by omega, by omega, fun s hs => L _ (few_len h2 (by omega) s hs), by omega, fun s hs => L _ (few_len h4 (by omega) s hs), by omega, fun s hs => L _ (few_len h5 (by omega) s hs), by omega,
    fun p hp => L _ (P p hp).1, fun p hp => by have := (P p hp).2; omega, by omega, by omega, fun s hs => L _ (few_len h1 (by omega) s hs), by omega⟩
theorem okMap {α : Type} {f : α → V} {sz : Nat} (l : List α) (h : ∀ a, okE sz (f a) = true) (hl : l.length ≤ 1099511627776) : ((l.map f).all (okE sz) && decide (l.length ≤ 1099511627776)) = true := by
  simp only [Bool.and_eq_true, List.all_eq_true, decide_eq_true_eq]
  exact ⟨fun x hx => by obtain ⟨a, _, rfl⟩ := List.mem_map.1 hx; exact h a, hl⟩
theorem mapSucc {α : Type} {f : α → V} {l : List α} {i : Nat} (h : i < l.length) : (l.take i).map f ++ [f l[i]] = (l.take (i + 1)).map f := by
  rw [List.take_succ_eq_append_getElem h, List.map_append]; rfl
/-- the copy's cells, its last lists still as they are at hand -/
def cpCells (w : World) (a b c d e f g : V) : List V := [u32 w.conf.window, i64 w.conf.people, i64 w.conf.box, i64 w.conf.used, i64 w.conf.runs, i64 w.conf.net, i64 w.conf.regs, wordsV w.draws.list, i64 w.draws.next,
  i64 w.box.room, a, i64 w.net.room, b, c, d, e, f, g]
def cpV (w : World) : V := .agg (cpCells w (sldsV w.box.rows) (gramsV w.net.grams) (rowsV w.net.seen) (.row 7 w.people.length) (eventsV w.log) (.row 9 w.regs.length) (leaksV w.leaks))
def cpH (w : World) : List AB := [.dead, .dead, .dead, .dead, .dead, .dead, .dead, .row 6 ((w.people).map Person.v) w.people.length false, .dead, .row 1 ((w.regs).map wordsV) w.regs.length false]
theorem Copied_H (w : World) (hL : w.lim) : Spec PP GG 25 [w.v] (cpV w) (cpH w) := by
  refine Spec.of_runs Go.Proofs.Tryz.f25 Go.Proofs.Tryz.func25 rfl ?_
  intro w0 M0
  simp only [Go.Proofs.Tryz.f25, List.replicate, List.cons_append, List.nil_append, z, seval]
  refine OPC_ok (okMap _ (fun a => rfl) hL.draws) ?_
  simp only [z, seval]
  (refine RUNs_freeze 3 0 ?_ (by rfl) ?_ ?_; rotate_left 1; (simp only [z, seval]; exact rfl); simp only [z, seval])
  (refine RUNs_row0H 2 10 4 (h := ?_); simp only [z, seval])
  refine RUNs_rangeS (w.box.rows.length) (fun _ (_ : Unit) => True) (fun i _ => [(4, i64 i)]) (fun i _ => [(2, .var (cpCells w (.row 4 i) (gramsV w.net.grams) (rowsV w.net.seen) (peopleV w.people) (eventsV w.log) (rowsV w.regs) (leaksV w.leaks))), (4, .row 4 ((w.box.rows.take i).map Sld.v) i false)]) () ?_ (by simp only [z, seval]; exact wk) rfl ?_
  · trivial
  rintro ⟨i, _, hi, _⟩
  have hll : w.box.rows.length ≤ 1099511627776 := hL.rows
  simp only [cpCells, z, seval]
  first | refine brk (fun h => ?_) (fun h => ?_) | fail
  · have hlt : i < w.box.rows.length := by have := of_decide_eq_true h; omega
    simp only [h, getMap Sld.v w.box.rows hlt, z, seval]
    refine OPC_ok (okMap _ (fun a => rfl) (hL.plain _ (List.getElem_mem hlt))) ?_
    simp only [z, seval]
    refine OPC_ok (by simp; omega) ?_
    simp only [z, seval]
    have e := mapSucc (f := Sld.v) hlt
    simp only [mv] at e
    simp only [e, w64s (i := i) (by omega), z, seval]
    (refine NX () ?_ (by rfl) hlt ?_; simp only [cpCells, z, seval]; exact wk)
    trivial
  simp only [h, z, seval]
  obtain rfl : i = w.box.rows.length := by have := of_decide_eq_false h; omega
  clear hi h
  simp only [List.take_length, z, seval]
  (refine RUNs_freeze 4 w.box.rows.length ?_ (by rfl) ?_ ?_; rotate_left 1; (simp only [z, seval]; exact rfl); simp only [z, seval])
  (refine RUNs_row0H 2 12 2 (h := ?_); simp only [z, seval])
  refine RUNs_rangeS (w.net.grams.length) (fun _ (_ : Unit) => True) (fun i _ => [(6, i64 i)]) (fun i _ => [(2, .var (cpCells w (sldsV w.box.rows) (.row 5 i) (rowsV w.net.seen) (peopleV w.people) (eventsV w.log) (rowsV w.regs) (leaksV w.leaks))), (5, .row 2 ((w.net.grams.take i).map Gram.v) i false)]) () ?_ (by simp only [z, seval]; exact wk) rfl ?_
  · trivial
  rintro ⟨i, _, hi, _⟩
  have hll : w.net.grams.length ≤ 1099511627776 := hL.grams
  simp only [cpCells, z, seval]
  first | refine brk (fun h => ?_) (fun h => ?_) | fail
  · have hlt : i < w.net.grams.length := by have := of_decide_eq_true h; omega
    simp only [h, getMap Gram.v w.net.grams hlt, z, seval]
    (refine RUNs_draw 3 (by kernel_rfl) ?_; simp only [z, seval])
    simp only [getMap Gram.v w.net.grams hlt, Gram.v, z, seval]
    refine DOC_ok (okMap _ (fun a => rfl) (hL.words _ (List.getElem_mem hlt))) ?_
    simp only [z, seval]
    refine DOC_ok (by simp; omega) ?_
    simp only [z, seval]
    (refine ⟨by kernel_rfl, ?_⟩)
    have e := mapSucc (f := Gram.v) hlt
    simp only [mv] at e
    simp only [e, w64s (i := i) (by omega), z, seval]
    (refine NX () ?_ (by rfl) hlt ?_; simp only [cpCells, z, seval]; exact wk)
    trivial
  simp only [h, z, seval]
  obtain rfl : i = w.net.grams.length := by have := of_decide_eq_false h; omega
  clear hi h
  simp only [List.take_length, z, seval]
  (refine RUNs_freeze 5 w.net.grams.length ?_ (by rfl) ?_ ?_; rotate_left 1; (simp only [z, seval]; exact rfl); simp only [z, seval])
  (refine RUNs_row0H 2 13 1 (h := ?_); simp only [z, seval])
  refine RUNs_rangeS (w.net.seen.length) (fun _ (_ : Unit) => True) (fun i _ => [(7, i64 i)]) (fun i _ => [(2, .var (cpCells w (sldsV w.box.rows) (gramsV w.net.grams) (.row 6 i) (peopleV w.people) (eventsV w.log) (rowsV w.regs) (leaksV w.leaks))), (6, .row 1 ((w.net.seen.take i).map wordsV) i false)]) () ?_ (by simp only [z, seval]; exact wk) rfl ?_
  · trivial
  rintro ⟨i, _, hi, _⟩
  have hll : w.net.seen.length ≤ 1099511627776 := hL.seen
  simp only [cpCells, z, seval]
  first | refine brk (fun h => ?_) (fun h => ?_) | fail
  · have hlt : i < w.net.seen.length := by have := of_decide_eq_true h; omega
    simp only [h, getMap wordsV w.net.seen hlt, z, seval]
    (refine RUNs_draw 3 (by kernel_rfl) ?_; simp only [z, seval])
    simp only [getMap wordsV w.net.seen hlt, Gram.v, z, seval]
    refine DOC_ok (okMap _ (fun a => rfl) (hL.seens _ (List.getElem_mem hlt))) ?_
    simp only [z, seval]
    refine DOC_ok (by simp; omega) ?_
    simp only [z, seval]
    (refine ⟨by kernel_rfl, ?_⟩)
    have e := mapSucc (f := wordsV) hlt
    simp only [mv] at e
    simp only [e, w64s (i := i) (by omega), z, seval]
    (refine NX () ?_ (by rfl) hlt ?_; simp only [cpCells, z, seval]; exact wk)
    trivial
  simp only [h, z, seval]
  obtain rfl : i = w.net.seen.length := by have := of_decide_eq_false h; omega
  clear hi h
  simp only [List.take_length, z, seval]
  (refine RUNs_freeze 6 w.net.seen.length ?_ (by rfl) ?_ ?_; rotate_left 1; (simp only [z, seval]; exact rfl); simp only [z, seval])
  (refine RUNs_row0H 2 14 6 (h := ?_); simp only [z, seval])
  refine RUNs_rangeS (w.people.length) (fun _ (_ : Unit) => True) (fun i _ => [(8, i64 i)]) (fun i _ => [(2, .var (cpCells w (sldsV w.box.rows) (gramsV w.net.grams) (rowsV w.net.seen) (.row 7 i) (eventsV w.log) (rowsV w.regs) (leaksV w.leaks))), (7, .row 6 ((w.people.take i).map Person.v) i false)]) () ?_ (by simp only [z, seval]; exact wk) rfl ?_
  · trivial
  rintro ⟨i, _, hi, _⟩
  have hll : w.people.length ≤ 1099511627776 := hL.people
  simp only [cpCells, z, seval]
  first | refine brk (fun h => ?_) (fun h => ?_) | fail
  · have hlt : i < w.people.length := by have := of_decide_eq_true h; omega
    simp only [h, getMap Person.v w.people hlt, z, seval]
    refine OPC_ok (okMap _ (fun a => rfl) (hL.used _ (List.getElem_mem hlt))) ?_
    simp only [z, seval]
    refine OPC_ok (okMap _ (fun a => rfl) (hL.runs _ (List.getElem_mem hlt))) ?_
    simp only [z, seval]
    refine OPC_ok (by simp; omega) ?_
    simp only [z, seval]
    have e := mapSucc (f := Person.v) hlt
    simp only [mv] at e
    simp only [e, w64s (i := i) (by omega), z, seval]
    (refine NX () ?_ (by rfl) hlt ?_; simp only [cpCells, z, seval]; exact wk)
    trivial
  simp only [h, z, seval]
  obtain rfl : i = w.people.length := by have := of_decide_eq_false h; omega
  clear hi h
  simp only [List.take_length, z, seval]
  refine OPC_ok (okMap _ (fun a => rfl) hL.log) ?_
  simp only [z, seval]
  (refine RUNs_freeze 8 0 ?_ (by rfl) ?_ ?_; rotate_left 1; (simp only [z, seval]; exact rfl); simp only [z, seval])
  (refine RUNs_row0H 2 16 1 (h := ?_); simp only [z, seval])
  refine RUNs_rangeS (w.regs.length) (fun _ (_ : Unit) => True) (fun i _ => [(10, i64 i)]) (fun i _ => [(2, .var (cpCells w (sldsV w.box.rows) (gramsV w.net.grams) (rowsV w.net.seen) (.row 7 w.people.length) (eventsV w.log) (.row 9 i) (leaksV w.leaks))), (9, .row 1 ((w.regs.take i).map wordsV) i false)]) () ?_ (by simp only [z, seval]; exact wk) rfl ?_
  · trivial
  rintro ⟨i, _, hi, _⟩
  have hll : w.regs.length ≤ 1099511627776 := hL.regs
  simp only [cpCells, z, seval]
  first | refine brk (fun h => ?_) (fun h => ?_) | fail
  · have hlt : i < w.regs.length := by have := of_decide_eq_true h; omega
    simp only [h, getMap wordsV w.regs hlt, z, seval]
    (refine RUNs_draw 3 (by kernel_rfl) ?_; simp only [z, seval])
    simp only [getMap wordsV w.regs hlt, Gram.v, z, seval]
    refine DOC_ok (okMap _ (fun a => rfl) (hL.reg _ (List.getElem_mem hlt))) ?_
    simp only [z, seval]
    refine DOC_ok (by simp; omega) ?_
    simp only [z, seval]
    (refine ⟨by kernel_rfl, ?_⟩)
    have e := mapSucc (f := wordsV) hlt
    simp only [mv] at e
    simp only [e, w64s (i := i) (by omega), z, seval]
    (refine NX () ?_ (by rfl) hlt ?_; simp only [cpCells, z, seval]; exact wk)
    trivial
  simp only [h, z, seval]
  obtain rfl : i = w.regs.length := by have := of_decide_eq_false h; omega
  clear hi h
  simp only [List.take_length, z, seval]
  refine OPC_ok (okMap _ (fun a => rfl) hL.leaks) ?_
  simp only [z, seval]
  refine FINS_keep [7, 9] ?_ ?_
  · simp only [List.filter_cons, List.filter_nil, List.contains_cons, List.contains_nil, Nat.reduceBEq, beq_self_eq_true, Bool.or_false, Bool.false_or, Bool.or_true, Bool.true_or, Bool.not_true, Bool.not_false, Bool.false_eq_true, if_false, if_true, cpV, cpH, cpCells, z, seval]
  · simp only [List.filter_cons, List.filter_nil, List.contains_cons, List.contains_nil, Nat.reduceBEq, beq_self_eq_true, Bool.or_false, Bool.false_or, Bool.or_true, Bool.true_or, Bool.not_true, Bool.not_false, Bool.false_eq_true, if_false, if_true, cpV, cpH, cpCells, z, seval]
    exact wk
end Ch

/- What the program does, in plain Lean: no program in sight. -/
set_option maxRecDepth 100000
set_option maxHeartbeats 4000000
set_option linter.unusedSimpArgs false
set_option linter.unusedVariables false
namespace Ch
open Go Go.Ab
/-! clocks -/
def overM (now t w : Int) : Bool := decide (now ≥ 1073741824) || decide (now > t + w)
def freshM (now t w : Int) : Bool := decide (now < 1073741824) && (decide (t < 1073741824) && (decide (now ≤ t + w) && decide (t ≤ now + w)))
def tickM (now by_ : Int) : Int := if now + by_ < 1073741824 then now + by_ else 1073741824
/-! words that were used -/
def usedMay (l : List Int) (room w : Int) : Int := bif decide (w ∈ l) then 8 else bif decide ((l.length : Int) ≥ room) then 10 else 0
def usedNote (l : List Int) (room w : Int) : List Int × Int := bif usedMay l room w == 0 then (l ++ [w], 0) else (l, usedMay l room w)
/-! runs -/
def runsAdd (l : List Run) (room : Int) (r : Run) : List Run × Int := bif May09 r then (bif decide ((l.length : Int) ≥ room) then (l, 10) else (l ++ [r], 0)) else (l, 1)
def runsSet (l : List Run) (i : Nat) (r : Run) : List Run × Int := bif decide (i < l.length) && May09 r then (l.set i r, 0) else (l, 1)
def isRun (proto role state : Int) (r : Run) : Bool := r.proto == proto && (r.role == role && r.state == state)
/-- the first run from a place on, of a protocol, a role and a state -/
def runsNext (l : List Run) (from_ : Nat) (proto role state : Int) : Option Nat := (List.range l.length).find? fun i => decide (from_ ≤ i) && isRun proto role state (l.getD i ⟨0, 0, 0, 0, 0, 0, 0, 0, 0⟩)
/-! people -/
def setM (l : List Person) (p : Person) : List Person × Int := bif decide (p.name.toNat < l.length) then (l.set p.name.toNat p, 0) else (l, 1)
def pairM (l : List Person) (a b : Int) : Bool := !(a == b) && (!(a == 0) && (!(b == 0) && (decide (a.toNat < l.length) && decide (b.toNat < l.length))))
/-! nets -/
def netSend (n : Net) (g : Gram) : Net × Int := bif decide (n.room - n.grams.length < 1) then (n, 10) else (⟨n.room, n.grams ++ [g], n.seen ++ [g.words]⟩, 0)
/-! boxes -/
def boxFind (b : Box) (h : Int) : Option Sld := b.rows.find? fun s => s.handle == h
def boxSeal (b : Box) (h key label : Int) (plain : List Int) : Box × Int :=
  bif decide ((plain.length : Int) > 64) then (b, 3) else bif (boxFind b h).isSome then (b, 8) else bif decide (b.room - b.rows.length < 1) then (b, 10) else (⟨b.room, b.rows ++ [⟨h, key, label, plain⟩]⟩, 0)
def boxOpen (b : Box) (key label h : Int) : Option (List Int) := match boxFind b h with
  | none => none
  | some s => bif s.key == key && s.label == label then some s.plain else none
/-! parts -/
def zPart : Part := ⟨0, 0, 0, 0, 0, 0, 0⟩
def partWs (label : Int) (p : Part) : List Int :=
  bif label == 2 then [p.n, p.b, p.k, p.t, p.h] else bif label == 3 then [p.k, p.a, p.t] else bif label == 4 || label == 5 then [p.n] else bif label == 6 || label == 7 then [p.n, p.m, p.a, p.b] else bif label == 8 || label == 9 then [p.n, p.k] else []
def partRd (label : Int) (l : List Int) : Part :=
  bif label == 2 then ⟨l.getD 0 0, 0, 0, l.getD 1 0, l.getD 2 0, l.getD 3 0, l.getD 4 0⟩ else bif label == 3 then ⟨0, 0, l.getD 1 0, 0, l.getD 0 0, l.getD 2 0, 0⟩ else bif label == 4 || label == 5 then ⟨l.getD 0 0, 0, 0, 0, 0, 0, 0⟩
  else bif label == 6 || label == 7 then ⟨l.getD 0 0, l.getD 1 0, l.getD 2 0, l.getD 3 0, 0, 0, 0⟩ else ⟨l.getD 0 0, 0, 0, 0, l.getD 1 0, 0, 0⟩
def label? (label : Int) : Bool := decide (label ≥ 2) && decide (label ≤ 9)
def partGet (label : Int) (l : List Int) : Part × Int := bif label? label then (bif l.length == (partWs label zPart).length then (partRd label l, 0) else (zPart, 2)) else (zPart, 1)
def eqPart (p q : Part) : Bool := p.n == q.n && (p.m == q.m && (p.a == q.a && (p.b == q.b && (p.k == q.k && (p.t == q.t && p.h == q.h)))))
def partPut (label : Int) (p : Part) : List Int × Int := bif label? label && eqPart p (partRd label (partWs label p)) then (partWs label p, 0) else ([], 1)
/-! messages -/
def zMsg : Msg := ⟨0, 0, 0, 0, 0, 0, 0⟩
def hasM (kind tag : Int) : Bool :=
  bif kind == 1 then tag == 3 || (tag == 4 || tag == 5) else bif kind == 2 || (kind == 3 || (kind == 4 || kind == 5)) then tag == 6 else bif kind == 6 then tag == 2 || (tag == 3 || (tag == 4 || tag == 6))
  else bif kind == 7 then tag == 2 || (tag == 3 || (tag == 4 || (tag == 6 || tag == 7))) else bif kind == 8 then tag == 2 || (tag == 6 || tag == 7) else bif kind == 9 then tag == 2 || tag == 6 else false
def msgWord (m : Msg) (tag : Int) : Int := bif tag == 2 then m.run else bif tag == 3 then m.a else bif tag == 4 then m.b else bif tag == 5 then m.nonce else bif tag == 6 then m.box else m.more
def tags : List Int := [2, 3, 4, 5, 6, 7]
def msgMay (m : Msg) : Bool := decide (m.kind ≥ 1) && (decide (m.kind ≤ 9) && tags.all fun t => hasM m.kind t || msgWord m t == 0)
def msgWs (m : Msg) : List Int := [1, 1, m.kind] ++ tags.flatMap fun t => bif hasM m.kind t then [t, 1, msgWord m t] else []
def msgPut (m : Msg) : List Int × Int := bif msgMay m then (msgWs m, 0) else ([], 1)
/-! the desk -/
def drawW (w : World) : World × Int := ({ w with draws := ⟨w.draws.list, w.draws.next + 1⟩ }, drawAt w.draws.list w.draws.next.toNat)
def sealW (w : World) (key label : Int) (p : Part) : World × Int × Int :=
  bif (partPut label p).2 == 0 then (bif (boxSeal w.box (drawW w).2 key label (partPut label p).1).2 == 0 then ({ (drawW w).1 with box := (boxSeal w.box (drawW w).2 key label (partPut label p).1).1 }, (drawW w).2, 0)
    else (w, 0, (boxSeal w.box (drawW w).2 key label (partPut label p).1).2)) else (w, 0, (partPut label p).2)
def openW (w : World) (key label handle : Int) : Part × Bool := match boxOpen w.box key label handle with
  | none => (zPart, false)
  | some l => ((partGet label l).1, (partGet label l).2 == 0)
def sendW (w : World) (to : Int) (m : Msg) : World × Int :=
  bif (msgPut m).2 == 0 then (bif (netSend w.net ⟨to, (msgPut m).1⟩).2 == 0 then ({ w with net := (netSend w.net ⟨to, (msgPut m).1⟩).1 }, 0) else (w, (netSend w.net ⟨to, (msgPut m).1⟩).2)) else (w, (msgPut m).2)
def logW (w : World) (e : Event) : World := { w with log := w.log ++ [e] }
def roomW (w : World) (boxes frames : Int) : Bool := decide (w.box.room - w.box.rows.length ≥ boxes) && decide (w.net.room - w.net.grams.length ≥ frames)
def personW (w : World) (name : Int) : Person := getP w.people name.toNat
def withW (w : World) (p : Person) : World := { w with people := (setM w.people p).1 }
end Ch

/- Parts: the program's. -/
set_option maxRecDepth 100000
set_option maxHeartbeats 4000000
set_option linter.unusedSimpArgs false
set_option linter.unusedVariables false
namespace Ch
open Go Go.Ab
theorem label_cases {l : Int} (h : label? l = true) : l = 2 ∨ l = 3 ∨ l = 4 ∨ l = 5 ∨ l = 6 ∨ l = 7 ∨ l = 8 ∨ l = 9 := by
  simp only [label?, Bool.and_eq_true, decide_eq_true_eq] at h; omega
theorem pPut_spec (label : Int) (p : Part) : Spec PP GG 116 [u32 label, p.v] (.tup [wordsV (partPut label p).1, i64 (partPut label p).2]) [] := by
  obtain ⟨n, m, a, b, k, t, h⟩ := p
  refine Spec.of_runs Go.Proofs.Tryz.f116 Go.Proofs.Tryz.func116 rfl ?_
  intro w0 M0
  simp only [Go.Proofs.Tryz.f116, List.replicate, List.cons_append, List.nil_append, z, seval]
  (refine CALLS_in (fn := Go.Proofs.Tryz.f149) Go.Proofs.Tryz.func149 rfl (by kernel_rfl) ?_; simp only [Go.Proofs.Tryz.f149, List.replicate, List.cons_append, List.nil_append, z, seval])
  cases hl : label? label with
  | true =>
    rcases label_cases hl with rfl | rfl | rfl | rfl | rfl | rfl | rfl | rfl
    all_goals
      simp only [z, seval]
      first | (refine CALLS_in (fn := Go.Proofs.Tryz.f185) Go.Proofs.Tryz.func185 rfl (by kernel_rfl) ?_; simp only [Go.Proofs.Tryz.f185, List.replicate, List.cons_append, List.nil_append, z, seval]) | (refine CALLS_in (fn := Go.Proofs.Tryz.f186) Go.Proofs.Tryz.func186 rfl (by kernel_rfl) ?_; simp only [Go.Proofs.Tryz.f186, List.replicate, List.cons_append, List.nil_append, z, seval]) | (refine CALLS_in (fn := Go.Proofs.Tryz.f187) Go.Proofs.Tryz.func187 rfl (by kernel_rfl) ?_; simp only [Go.Proofs.Tryz.f187, List.replicate, List.cons_append, List.nil_append, z, seval]) | (refine CALLS_in (fn := Go.Proofs.Tryz.f188) Go.Proofs.Tryz.func188 rfl (by kernel_rfl) ?_; simp only [Go.Proofs.Tryz.f188, List.replicate, List.cons_append, List.nil_append, z, seval]) | (refine CALLS_in (fn := Go.Proofs.Tryz.f189) Go.Proofs.Tryz.func189 rfl (by kernel_rfl) ?_; simp only [Go.Proofs.Tryz.f189, List.replicate, List.cons_append, List.nil_append, z, seval]) | (refine CALLS_in (fn := Go.Proofs.Tryz.f190) Go.Proofs.Tryz.func190 rfl (by kernel_rfl) ?_; simp only [Go.Proofs.Tryz.f190, List.replicate, List.cons_append, List.nil_append, z, seval]) | (refine CALLS_in (fn := Go.Proofs.Tryz.f191) Go.Proofs.Tryz.func191 rfl (by kernel_rfl) ?_; simp only [Go.Proofs.Tryz.f191, List.replicate, List.cons_append, List.nil_append, z, seval]) | (refine CALLS_in (fn := Go.Proofs.Tryz.f192) Go.Proofs.Tryz.func192 rfl (by kernel_rfl) ?_; simp only [Go.Proofs.Tryz.f192, List.replicate, List.cons_append, List.nil_append, z, seval])
      try ((refine RUNs_draw 1 (by kernel_rfl) ?_; simp only [z, seval]); (refine ⟨by kernel_rfl, ?_⟩))
      (refine RUNs_unroll 6 ?_; simp only [z, seval])
      repeat' (refine RUNs_unr ?_; simp only [z, seval])
      first | refine brk (fun h => ?_) (fun h => ?_) | fail
      · simp only [h, z, seval]
        (refine FINS_done ?_; simp only [z, seval])
        simp only [partPut, hl, Bool.true_and, eqPart, partRd, partWs, Int.reduceBEq, cond_true, cond_false, beq_self_eq_true, Bool.true_and, Bool.or_true, Bool.or_false, Bool.true_or, List.getD_cons_zero, List.getD_cons_succ, h, List.map_cons, List.map_nil, z, seval]
      · simp only [h, z, seval]
        (refine FINS_done ?_; simp only [z, seval])
        simp only [partPut, hl, Bool.true_and, eqPart, partRd, partWs, Int.reduceBEq, cond_true, cond_false, beq_self_eq_true, Bool.true_and, Bool.or_true, Bool.or_false, Bool.true_or, List.getD_cons_zero, List.getD_cons_succ, h, List.map_cons, List.map_nil, z, seval]
  | false =>
    have hn : ∀ k : Int, 2 ≤ k → k ≤ 9 → (label == k) = false := by
      intro k h2 h9
      simp only [label?, Bool.and_eq_false_iff, decide_eq_false_iff_not] at hl
      simp; omega
    simp only [hn 2 (by decide) (by decide), hn 3 (by decide) (by decide), hn 4 (by decide) (by decide), hn 5 (by decide) (by decide), hn 6 (by decide) (by decide), hn 7 (by decide) (by decide), hn 8 (by decide) (by decide), hn 9 (by decide) (by decide), z, seval]
    (refine FINS_done ?_; simp only [z, seval])
    simp [partPut, hl]
end Ch

/- Parts, read: the program's. -/
set_option maxRecDepth 100000
set_option maxHeartbeats 4000000
set_option linter.unusedSimpArgs false
set_option linter.unusedVariables false
namespace Ch
open Go Go.Ab
theorem partGet_ne {label : Int} {l : List Int} (hl : label? label = true) (h : ¬ l.length = (partWs label zPart).length) : partGet label l = (zPart, 2) := by
  rw [partGet, hl, cond_true, beq_eq_false_iff_ne.2 h]; rfl
theorem pGet_spec (label : Int) (l : List Int) : Spec PP GG 112 [u32 label, wordsV l] (.tup [(partGet label l).1.v, i64 (partGet label l).2]) [] := by
  refine Spec.of_runs Go.Proofs.Tryz.f112 Go.Proofs.Tryz.func112 rfl ?_
  intro w0 M0
  simp only [Go.Proofs.Tryz.f112, List.replicate, List.cons_append, List.nil_append, z, seval]
  (refine CALLS_in (fn := Go.Proofs.Tryz.f149) Go.Proofs.Tryz.func149 rfl (by kernel_rfl) ?_; simp only [Go.Proofs.Tryz.f149, List.replicate, List.cons_append, List.nil_append, z, seval])
  cases hl : label? label with
  | true =>
    rcases label_cases hl with rfl | rfl | rfl | rfl | rfl | rfl | rfl | rfl
    all_goals
      simp only [z, seval]
      first | (refine CALLS_in (fn := Go.Proofs.Tryz.f185) Go.Proofs.Tryz.func185 rfl (by kernel_rfl) ?_; simp only [Go.Proofs.Tryz.f185, List.replicate, List.cons_append, List.nil_append, z, seval]) | (refine CALLS_in (fn := Go.Proofs.Tryz.f186) Go.Proofs.Tryz.func186 rfl (by kernel_rfl) ?_; simp only [Go.Proofs.Tryz.f186, List.replicate, List.cons_append, List.nil_append, z, seval]) | (refine CALLS_in (fn := Go.Proofs.Tryz.f187) Go.Proofs.Tryz.func187 rfl (by kernel_rfl) ?_; simp only [Go.Proofs.Tryz.f187, List.replicate, List.cons_append, List.nil_append, z, seval]) | (refine CALLS_in (fn := Go.Proofs.Tryz.f188) Go.Proofs.Tryz.func188 rfl (by kernel_rfl) ?_; simp only [Go.Proofs.Tryz.f188, List.replicate, List.cons_append, List.nil_append, z, seval]) | (refine CALLS_in (fn := Go.Proofs.Tryz.f189) Go.Proofs.Tryz.func189 rfl (by kernel_rfl) ?_; simp only [Go.Proofs.Tryz.f189, List.replicate, List.cons_append, List.nil_append, z, seval]) | (refine CALLS_in (fn := Go.Proofs.Tryz.f190) Go.Proofs.Tryz.func190 rfl (by kernel_rfl) ?_; simp only [Go.Proofs.Tryz.f190, List.replicate, List.cons_append, List.nil_append, z, seval]) | (refine CALLS_in (fn := Go.Proofs.Tryz.f191) Go.Proofs.Tryz.func191 rfl (by kernel_rfl) ?_; simp only [Go.Proofs.Tryz.f191, List.replicate, List.cons_append, List.nil_append, z, seval]) | (refine CALLS_in (fn := Go.Proofs.Tryz.f192) Go.Proofs.Tryz.func192 rfl (by kernel_rfl) ?_; simp only [Go.Proofs.Tryz.f192, List.replicate, List.cons_append, List.nil_append, z, seval])
      try ((refine RUNs_draw 1 (by kernel_rfl) ?_; simp only [z, seval]); (refine ⟨by kernel_rfl, ?_⟩))
      first | refine brk (fun h => ?_) (fun h => ?_) | fail
      · have hq := h
        rcases l with _ | ⟨x0, _ | ⟨x1, _ | ⟨x2, _ | ⟨x3, _ | ⟨x4, _ | ⟨x5, l⟩⟩⟩⟩⟩⟩
        all_goals first
          | (exfalso; simp at hq; done)
          | (exfalso; simp at hq; omega)
          | (simp only [h, List.map_cons, List.map_nil, z, seval]
             (refine RUNs_unroll 6 ?_; simp only [z, seval])
             repeat' (refine RUNs_unr ?_; simp only [z, seval])
             (refine FINS_done ?_; simp only [z, seval])
             simp only [partGet, hl, partRd, partWs, Int.reduceBEq, cond_true, cond_false, beq_self_eq_true, Bool.true_and, Bool.or_true, Bool.or_false, Bool.true_or, List.getD_cons_zero, List.getD_cons_succ, List.length_cons, List.length_nil, z, seval])
      · simp only [h, z, seval]
        (refine FINS_done ?_; simp only [z, seval])
        have hq := h
        rw [partGet_ne hl (by intro hh; simp [partWs] at hh; simp [hh] at hq)]; rfl
  | false =>
    have hn : ∀ k : Int, 2 ≤ k → k ≤ 9 → (label == k) = false := by
      intro k h2 h9
      simp only [label?, Bool.and_eq_false_iff, decide_eq_false_iff_not] at hl
      simp; omega
    simp only [hn 2 (by decide) (by decide), hn 3 (by decide) (by decide), hn 4 (by decide) (by decide), hn 5 (by decide) (by decide), hn 6 (by decide) (by decide), hn 7 (by decide) (by decide), hn 8 (by decide) (by decide), hn 9 (by decide) (by decide), z, seval]
    (refine FINS_done ?_; simp only [z, seval])
    simp [partGet, hl, zPart]
end Ch

/- Frames of fields; messages: the program's. -/
set_option maxRecDepth 100000
set_option maxHeartbeats 4000000
set_option linter.unusedSimpArgs false
set_option linter.unusedVariables false
namespace Ch
open Go Go.Ab
theorem CloneW_spec (l : List Int) (hl : l.length ≤ 1099511627776) : Spec PP GG 148 [.sl (l.map u32) .plain] (.row 0 0) [.row 1 (l.map u32) 0 false] := by
  refine Spec.of_runs Go.Proofs.Tryz.f148 Go.Proofs.Tryz.func148 rfl ?_
  intro w0 M0
  simp only [Go.Proofs.Tryz.f148, List.replicate, List.cons_append, List.nil_append, z, seval]
  refine OPV_nilq rfl rfl ty25 rfl rfl ?_
  intro b hb _
  rcases b
  · simp only [z, seval]
    refine OPC_ok (okMap _ (fun a => rfl) hl) ?_
    simp only [z, seval]
    exact FINS_own rfl rfl
  · obtain rfl : l = [] := by
      cases l with
      | nil => rfl
      | cons a l => exact absurd (hb (by simp)) (by simp)
    simp only [List.map_nil, z, seval]
    intro _
    refine RUNs_row0 2 1 (h := ?_)
    simp only [z, seval]
    exact FINS_own rfl rfl
theorem CloneW_fz (l : List Int) (hl : l.length ≤ 1099511627776) : Spec PP GG 148 [wordsV l] (wordsV l) [] := (CloneW_spec l hl).fz rfl
def fieldMay (f : Field) : Bool := decide (f.tag ≥ 1) && (decide (f.tag ≤ 255) && decide ((f.data.length : Int) ≤ 16))
theorem wMay_spec (f : Field) : Spec PP GG 196 [f.v] (.bool (fieldMay f)) [] := by
  refine Spec.of_runs Go.Proofs.Tryz.f196 Go.Proofs.Tryz.func196 rfl ?_
  intro w0 M0
  simp only [Go.Proofs.Tryz.f196, List.replicate, List.cons_append, List.nil_append, z, seval]
  repeat' ((first | refine brk (fun h => ?_) (fun h => ?_) | fail) <;> simp only [z, seval, h])
  all_goals (refine FINS_done ?_; simp only [z, seval])
  all_goals (first | (simp_all [fieldMay]; done) | (simp_all [fieldMay]; intros; omega))
theorem One_spec (t : Int) (l : List Int) (hl : l.length ≤ 1099511627776) : Spec PP GG 158 [u32 t, wordsV l] (Field.v ⟨t, l⟩) [] := by
  refine Spec.of_runs Go.Proofs.Tryz.f158 Go.Proofs.Tryz.func158 rfl ?_
  intro w0 M0
  simp only [Go.Proofs.Tryz.f158, List.replicate, List.cons_append, List.nil_append, z, seval]
  (refine CU (CloneW_fz l hl) (h := ?_); simp only [z, seval])
  (refine FINS_done ?_; simp only [z, seval])
def flatF (f : Field) : List Int := [f.tag, IntKind.u32.wrap f.data.length] ++ f.data
def flatFs (l : List Field) : List Int := l.flatMap flatF
theorem flatFs_succ {l : List Field} {i : Nat} (h : i < l.length) : flatFs (l.take (i + 1)) = flatFs (l.take i) ++ flatF l[i] := by
  rw [List.take_succ_eq_append_getElem h, flatFs, List.flatMap_append]; simp [flatFs]
theorem flatFs_len : ∀ (l : List Field), l.all fieldMay = true → (flatFs l).length ≤ 18 * l.length
  | [], _ => by simp [flatFs]
  | f :: l, h => by
    simp only [List.all_cons, Bool.and_eq_true] at h
    have := flatFs_len l h.2
    have h1 := h.1
    simp only [fieldMay, Bool.and_eq_true, decide_eq_true_eq] at h1
    simp only [flatFs, List.flatMap_cons, List.length_append, List.length_cons, flatF, List.length_nil] at this ⊢
    omega
def wirePut (l : List Field) : List Int × Int := bif l.all fieldMay then (bif decide ((l.length : Int) > 8) || decide (((flatFs l).length : Int) > 64) then ([], 3) else (flatFs l, 0)) else ([], 2)
theorem wPut_spec (l : List Field) (hl : l.length ≤ 1000000) : Spec PP GG 159 [fieldsV l] (.tup [wordsV (wirePut l).1, i64 (wirePut l).2]) [] := by
  refine Spec.of_runs Go.Proofs.Tryz.f159 Go.Proofs.Tryz.func159 rfl ?_
  intro w0 M0
  simp only [Go.Proofs.Tryz.f159, List.replicate, List.cons_append, List.nil_append, z, seval]
  (refine RUNs_row0 4 1 (h := ?_); simp only [z, seval])
  refine RUNs_rangeS (l.length) (fun i (_ : Unit) => (l.take i).all fieldMay = true) (fun i _ => [(9, i64 i), (4, .row 0 (i + i))]) (fun i _ => [(0, .row 1 ((flatFs (l.take i)).map u32) (i + i) false)]) () ?_ (by simp only [z, seval]; exact wk) rfl ?_
  · simp
  rintro ⟨i, _, hi, hw⟩
  simp only [z, seval]
  refine CONDS_split (fun h => ?_) (fun h => ?_)
  · have hlt : i < l.length := by simpa using h
    simp only [z, seval, getMap Field.v l hlt]
    (refine CU (wMay_spec l[i]) (h := ?_); simp only [z, seval])
    first | refine brk (fun h => ?_) (fun h => ?_) | fail
    · have hlen := flatFs_len _ hw
      have h16 : l[i].data.length ≤ 16 := by have := h; simp only [fieldMay, Bool.and_eq_true, decide_eq_true_eq] at this; omega
      simp only [List.length_take] at hlen
      simp only [h, z, seval]
      (refine RUNs_draw 0 (by kernel_rfl) ?_; simp only [z, seval])
      refine DOC_ok (by simp; omega) ?_
      simp only [z, seval]
      refine DOC_ok ?_ ?_
      · simp only [List.length_append, List.length_map, List.length_cons, List.length_nil, Bool.and_eq_true, List.all_eq_true, decide_eq_true_eq]
        exact ⟨fun x hx => by obtain ⟨a, _, rfl⟩ := List.mem_map.1 hx; rfl, by omega⟩
      simp only [z, seval]
      (refine ⟨by kernel_rfl, ?_⟩)
      have e : (flatFs (l.take i)).map u32 ++ [u32 l[i].tag, u32 (IntKind.u32.wrap (l[i].data.length : Int))] ++ l[i].data.map u32 = (flatFs (l.take (i + 1))).map u32 := by
        rw [flatFs_succ hlt]; simp [flatF]
      simp only [e, w64s (i := i) (by omega), show i + i + 1 + 1 = i + 1 + (i + 1) by omega, z, seval]
      refine NX () (hi := hlt) (hinv := ?_)
      rw [all_succ hlt, hw, h]; rfl
    · simp only [h, z, seval]
      (refine FINS_done ?_; simp only [z, seval])
      rw [wirePut, all_false hlt h]; rfl
  · obtain rfl : i = l.length := by simp at h; omega
    rw [List.take_length] at hw ⊢
    simp only [z, seval]
    repeat' ((first | refine brk (fun h => ?_) (fun h => ?_) | fail) <;> simp only [z, seval, h])
    all_goals (refine FINS_done ?_; simp only [z, seval])
    all_goals (rw [wirePut, hw]; clear hw; first | (simp_all; done) | (simp_all; rw [decide_eq_false (by omega), decide_eq_false (by omega)]; exact ⟨rfl, rfl⟩))
end Ch
