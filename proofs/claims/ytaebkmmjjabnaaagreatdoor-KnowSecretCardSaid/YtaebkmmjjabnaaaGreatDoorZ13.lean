import Derived.Test.YtaebkmmjjabnaaaGreatDoorZ2
import Derived.Test.YtaebkmmjjabnaaaGreatDoorZ10
set_option maxRecDepth 100000
set_option maxHeartbeats 4000000
set_option linter.unusedSimpArgs false
set_option linter.unusedVariables false
namespace Go.Ab
open Go Go.RowKit
def clrE (sz:Nat) (es:List V) (n:Nat):List V:=es.take n++List.replicate (es.length - n) (.agg (List.replicate sz .any))
theorem clrE_len (sz:Nat) {es:List V} {n:Nat} (h:n≤es.length):(clrE sz es n).length=es.length:=by simp [clrE];omega
theorem anys {E:Env}:∀ (xs:List Value),RepL E (List.replicate xs.length .any) xs
 | []=>RepL.nil E
 | x::xs=>RepL.cons trivial (anys xs)
theorem flat_any (sz:Nat):∀ m,flatV (List.replicate m (.agg (List.replicate sz .any)))=List.replicate (m * sz) .any
 | 0=>by simp [flatV]
 | m + 1=>by
   have:=flat_any sz m
   simp only [flatV] at this ⊢
   rw [List.replicate_succ,List.flatMap_cons,this,Nat.succ_mul,Nat.add_comm,← List.replicate_append_replicate]
   rfl
theorem RUN_clr {X:Ctx} {all l:List Oper} {o1 o2:Oper} {k:List It} {fr:List V} {st:List (List V)} {H:List AB} {t e:TypeId} {x lo:Operand} {t1:Tmp} {i ver n sz by_:Nat} {kd:IntKind} {es:List V} {d:TD}
 (hg1:guardV all fr o1=some true) (hg2:o2.guard=none) (ho1:o1.op=.slice t x (some lo) none none) (ho2:o2.op=.call ⟨.builtin .clear,#[.tmp t1],#[t]⟩) (hd1:o1.dst=some t1) (hd2:o2.dst=none)
 (hx:evalO X.G fr x=.row i ver) (hlo:evalO X.G fr lo=.int kd n) (hi:H[i]?=some (.row sz es ver false)) (hn:n≤es.length) (ht1:t1 < fr.length) (ht:tdOf X.P t=some d) (hs:d.sh=.slice e sz by_) {de:TD} (hte:tdOf X.P e=some de) (hz:de.zero.length=sz)
 (h:RUN X ⟨.ops all l::k,fr.set t1 .any,st,H.set i (.row sz (clrE sz es n) ver false)⟩):RUN X ⟨.ops all (o1::o2::l)::k,fr,st,H⟩:=by
 intro sa a E hH hR hD
 simp only at hH hR hD
 subst hH
 simp only [DF] at hD
 simp only [post]
 unfold wpListIn
 rw [if_pos (guardV_sound (X:=X) hR.fr hg1)]
 refine ⟨fun _ _=>trivial,?_⟩
 have h1:=evalO_sound hR.ok hR.fr x
 have h2:=evalO_sound hR.ok hR.fr lo
 rw [hx] at h1;rw [hlo] at h2
 simp only [Rep,hi] at h1 h2
 obtain ⟨_,_,h1⟩:=h1
 have h1:=h1 trivial
 obtain ⟨ad,m,c,q1,q2,q3,q4,q5,q6⟩:=hR.ok.blk i _ hi
 rw [q1] at h1
 obtain ⟨ie,hie,hsz,_⟩:=info_of_slice ht hs
 obtain ⟨ie',z,hie',hz1,hz2,hz3⟩:=info_of_td hte
 rw [hie] at hie';injection hie' with hie';subst hie'
 have hun:=underlying_of_slice ht hs
 have hrun1:(execOp a.eval o1).run X.P E.w=.ok (.value (.slice (if c=n then ad else ad.map (·.add (n * ie.size))) (m - n) (c - n))) E.w:=by
  have:(sizeOf e).run X.P E.w=.ok ie.size E.w:=by simp [sizeOf,typeInfo,hie]
  have hb:(Instr.sliceBounds true m c (some (a.eval lo)) none none).run X.P E.w=.ok (n,m,c) E.w:=by
   simp [Instr.sliceBounds,h2.1,run_sliceBound (P:=X.P) _ n m _ (by omega)]
  simp [execOp,ho1,h1,Instr.sliceAt,run_underlying hun,Instr.slice,hb,this]
 rw [Oper.semAt_eq _ _ _ (by intro c' hc';rw [ho1] at hc';cases hc'),hrun1,Oper.uponIn_value]
 generalize hy:Value.slice (if c=n then ad else ad.map (·.add (n * ie.size))) (m - n) (c - n)=y
 have hsize:t1 < a.tmps.size:=by have:=hR.fr.length;rw [Array.length_toList] at this;rw [this];exact ht1
 have hev:(a.put o1.dst y).eval (.tmp t1)=y:=by
  rw [hd1];simp [Act.put,Act.eval,Array.getD_eq_getD_getElem?,hsize]
 unfold wpListIn
 rw [if_pos (by simp [Region.wanted,hg2])]
 refine ⟨fun _ _=>trivial,?_⟩
 have hex:∀ w v w',(Builtin.clear_ #[t] o2.type #[y]).run X.P w=.ok v w'→(execOp (a.put o1.dst y).eval o2).run X.P w=.ok (.value v) w':=by
  intro w v w' hc
  simp only [execOp,ho2,resolve,Sem.run_bind,Sem.run_pure,Result.andThen_ok,invoke]
  simp [hev,builtin,hc]
 have hput:∀ (E':Env),E.le E'→EOK X.G X.w0 X.M0 E'→RelE X (fr.set t1 .any) st sa ((a.put o1.dst y).put o2.dst (.tuple #[])) E':=by
  intro E' hle hE'
  have:=hR.put hle hE' (v:=.any) (x:=y) trivial o1.dst
  rw [hd1] at this ⊢;rw [hd2]
  exact this
 have hDD:DF k ((a.put o1.dst y).put o2.dst (.tuple #[])).defers sa:=by rw [put_defers,put_defers];exact hD
 rw [Oper.semAt_eq _ _ _ (by intro c' hc';rw [ho2] at hc';cases hc')]
 rcases Nat.eq_zero_or_pos (m - n) with hmn|hmn
 ·have hc:(Builtin.clear_ #[t] o2.type #[y]).run X.P E.w=.ok (.tuple #[]) E.w:=by
   rw [← hy,hmn]
   cases (if c=n then ad else ad.map (·.add (n * ie.size)))<;>simp [Builtin.clear_,run_underlying hun]
  rw [hex _ _ _ hc,Oper.uponIn_value]
  have hset:E.H.set i (.row sz (clrE sz es n) ver false)=E.H:=by
   have:clrE sz es n=es:=by rw [clrE,show es.length - n=0 by omega,List.take_of_length_le (by omega)];simp
   rw [this]
   apply List.ext_getElem?
   intro j
   by_cases hj:i=j
   ·subst hj;rw [List.getElem?_set_self (List.getElem?_eq_some_iff.1 hi).1,hi]
   ·rw [List.getElem?_set_ne hj]
  exact h sa _ E hset.symm (hput E (Env.le.refl E) hR.ok) hDD
 ·have hcn:¬ c=n:=by omega
  rcases q6 with ⟨q6,_⟩|⟨b,C,et,q6,rfl,q8,q9,q10,q11,q12⟩
  ·omega
  rw [if_neg hcn] at hy
  have hy':y=.slice (some ⟨b,n * ie.size,none⟩) (m - n) (c - n):=by rw [← hy];simp [Addr.add_none]
  have hone:∀ v∈z.cells.toList,v.oneCell'=true:=by
   obtain ⟨_,_,z',k1,_,k3,k4,_⟩:=tdOf_some hte
   rw [hie] at k1;injection k1 with k1;subst k1
   rw [hz1] at k3;injection k3 with k3;subst k3
   exact List.all_eq_true.1 k4
  have hmul:n * ie.size + (m - n) * ie.size=m * ie.size:=by rw [← Nat.add_mul];congr 1;omega
  have hmc:m * ie.size≤c * ie.size:=Nat.mul_le_mul_right _ q3
  obtain ⟨vs,v1,v2⟩:=run_clear_row (P:=X.P) (ty:=o2.type) hun hie hz1 (by rw [hz3,hz,hsz]) hone E.w b (n * ie.size) (m - n) (c - n) hmn q8 (by rw [q9,hmul,← hsz];exact hmc)
  rw [← hy'] at v2
  rw [hex _ _ _ v2,Oper.uponIn_value]
  subst hsz
  have hM:∀ o,E.M b o:=fun o=>by
   rcases Nat.lt_or_ge o (m * ie.size) with ho|ho
   ·exact (q12 o ho).2 rfl
   ·exact q11 o ho
  have hCl:C.toList.length=c * ie.size:=by simpa using q9
  have hnm:n * ie.size≤m * ie.size:=Nat.mul_le_mul_right _ (by omega)
  have hflat:RepL E.bare (flatV (clrE ie.size es n)) (C.toList.take (n * ie.size)++vs):=by
   have e1:flatV (clrE ie.size es n)=flatV (es.take n)++List.replicate ((es.length - n) * ie.size) .any:=by
    rw [clrE,flatV,List.flatMap_append,← flatV,← flatV,flat_any]
   have e2:(es.length - n) * ie.size=vs.length:=by rw [v1,q2]
   have e3:(flatV (es.take n)).length=n * ie.size:=by rw [flatV_length (fun u hu=>q5.1 u (List.mem_of_mem_take hu)),List.length_take,Nat.min_eq_left hn]
   have e4:(flatV es).take (n * ie.size)=flatV (es.take n):=by
    have:flatV es=flatV (es.take n)++flatV (es.drop n):=by rw [flatV,flatV,flatV,← List.flatMap_append,List.take_append_drop]
    rw [this,← e3,List.take_left'];rfl
   have e5:=RepL.take (n * ie.size) q10
   rw [e4,List.take_take,Nat.min_eq_left hnm] at e5
   rw [e1,e2]
   exact e5.append (anys vs)
  have hlen:(C.toList.take (n * ie.size)++vs).length=m * ie.size:=by rw [List.length_append,List.length_take,v1,hCl];omega
  have hcells:∀ u∈clrE ie.size es n,u.cells.length=ie.size:=by
   intro u hu
   simp only [clrE,List.mem_append] at hu
   rcases hu with hu|hu
   ·exact q5.1 u (List.mem_of_mem_take hu)
   ·rw [List.eq_of_mem_replicate hu];simp [V.cells]
  obtain ⟨g1,g2⟩:=hR.ok.write (E.w.setRow b (C.toList.take (n * ie.size)++vs++C.toList.drop (n * ie.size + vs.length)).toArray) i b _ (.row ie.size (clrE ie.size es n) ver false) q6 hi (by simp) rfl rfl rfl
   (fun k hk=>setRow_other E.w b k _ hk) (fun o u hs=>absurd (hM o) hs.2) (fun sz1 es1 v1 m1 e=>by injection e with e1 e2 e3 e4;exact ⟨ie.size,_,false,by rw [e3]⟩) (by simp) (by simp)
   (fun hle=>⟨_,m,c,q1,by rw [clrE_len _ hn];exact q2,q3,q4,⟨hcells,q5.2⟩,.inr ⟨b,_,et,q6,rfl,setRow_heap E.w b C _ et (0,0) q8,by simp only [List.size_toArray,List.length_append,List.length_take,List.length_drop];omega,
     by rw [List.toList_toArray,List.take_left' hlen];exact RepL.mono _ hle.bare hflat,fun o _=>hM o,fun o _=>⟨fun _=>rfl,fun _=>hM o⟩⟩⟩)
  exact h sa _ _ rfl (hput _ g2 g1) hDD
end Go.Ab
namespace Go.Ab
open Go Go.RowKit
theorem RUN_delTail {X:Ctx} {id:Nat} {o1 o2 o3 o4:Oper} {rest:Code} {k:List It} {fr:List V} {st:List (List V)} {H:List AB} {t e:TypeId} {x y:Operand} {a b t1:Tmp} {i ver n sz by_:Nat} {es:List V} {d de:TD}
 (h1:o1.op=.move x) (h2:o2.op=.move y) (h3:o3.op=.slice t (.tmp a) (some (.tmp b)) none none) (h4:o4.op=.call ⟨.builtin .clear,#[.tmp t1],#[t]⟩)
 (g1:o1.guard=none) (g2:o2.guard=none) (g3:o3.guard=none) (g4:o4.guard=none) (d1:o1.dst=some a) (d2:o2.dst=some b) (d3:o3.dst=some t1) (d4:o4.dst=none)
 (hx:evalO X.G fr x=.row i ver) (hy:evalO X.G (fr.set a (.row i ver)) y=.int .i64 n) (hA:((fr.set a (.row i ver)).set b (.int .i64 n)).getD a undefV=.row i ver) (hB:((fr.set a (.row i ver)).set b (.int .i64 n)).getD b undefV=.int .i64 n)
 (hi:H[i]?=some (.row sz es ver false)) (hn:n≤es.length) (ht1:t1 < fr.length) (ht:tdOf X.P t=some d) (hs:d.sh=.slice e sz by_) (hte:tdOf X.P e=some de) (hz:de.zero.length=sz)
 (h:RUN X ⟨.code rest::k,((fr.set a (.row i ver)).set b (.int .i64 n)).set t1 .any,st,H.set i (.row sz (clrE sz es n) ver false)⟩) :
 RUN X ⟨.code (.seq (.region id #[o1,o2,o3,o4] false) rest)::k,fr,st,H⟩:=by
 refine step_sound (c':=⟨.code (.region id #[o1,o2,o3,o4] false)::.code rest::k,fr,st,H⟩) rfl ?_
 refine step_sound (c':=⟨.ops [o1,o2,o3,o4] [o1,o2,o3,o4]::.code rest::k,fr,st,H⟩) rfl ?_
 refine step_sound (c':=⟨.ops [o1,o2,o3,o4] [o2,o3,o4]::.code rest::k,fr.set a (.row i ver),st,H⟩) ?_ ?_
 ·simp only [step,opStep,g1,h1,eff,hx,d1,putV,applyU,Upd.no,setH,Option.map_some]
 refine step_sound (c':=⟨.ops [o1,o2,o3,o4] [o3,o4]::.code rest::k,(fr.set a (.row i ver)).set b (.int .i64 n),st,H⟩) ?_ ?_
 ·simp only [step,opStep,g2,h2,eff,hy,d2,putV,applyU,Upd.no,setH,Option.map_some]
 refine RUN_clr (t1:=t1) (i:=i) (ver:=ver) (n:=n) (sz:=sz) (kd:=.i64) (es:=es) (by simp only [guardV,g3]) g4 h3 h4 d3 d4 hA hB hi hn (by simp only [List.length_set];exact ht1) ht hs hte hz ?_
 exact step_sound rfl h
section
variable {P:Program} {G:Glob} {w0:World} {M0:Nat→Nat→Prop} {R:Value→World→Prop}
theorem RUNs_cutR {σ:Type} (I:σ→List V×List AB) (ok:σ→Prop) {c:Code} {id:Nat} {k:List It} {fr:List V} {st:List (List V)} {H:List AB}
 (h:RUNs P G w0 M0 R ⟨.code c::.blk id::.inv (CUT P G w0 M0 R I ok st)::k,fr,st,H⟩) (hk:∀ s,ok s→RUN ⟨P,G,w0,M0,R⟩ ⟨k,(I s).1,st,(I s).2⟩) (hs:step P G ⟨.code c::.blk id::k,fr,st,H⟩=none) :
 RUNs P G w0 M0 R ⟨.code c::.blk id::k,fr,st,H⟩:=by
 refine RUNs_stop hs ?_
 have hr:=RUN_of_RUNs h
 intro sa a E hH hR hD
 have:=hr sa a E hH hR (by simpa only [DF] using hD)
 simp only [post,rd] at this ⊢
 refine wpIn_mono this (fun e a' w' q=>?_)
 have key:∀ a' w',CUT P G w0 M0 R I ok st sa a' w'∧DF k a'.defers sa→post P R k sa .normal a' w':=by
  rintro a' w' ⟨⟨s,E',h1,rfl,h2,h3⟩,h4⟩
  exact hk s h1 sa a' E' h2 h3 h4
 cases e with
 | normal=>exact key a' w' q
 | exit id' =>
   simp only [post] at q ⊢
   split
   ·rename_i hi;rw [if_pos hi] at q;exact key a' w' q
   ·rename_i hi;rw [if_neg hi] at q;exact q
 | _=>exact q
end
theorem clrE_take {sz:Nat} {es:List V} {n:Nat} (h:n≤es.length):(clrE sz es n).take n=es.take n:=by
 rw [clrE,List.take_append_of_le_length (by simp;omega),List.take_take,Nat.min_self]
end Go.Ab
namespace Go.Ab
open Go Go.RowKit
section
variable {P:Program} {G:Glob} {w0:World} {M0:Nat→Nat→Prop} {R:Value→World→Prop}
theorem RUNs_cutRS {σ:Type} (S:σ→List (Nat×V)) (HH:σ→List (Nat×AB)) (ok:σ→Prop) {c:Code} {id:Nat} {k:List It} {fr:List V} {st:List (List V)} {H:List AB}
 (h:RUNs P G w0 M0 R ⟨.code c::.blk id::.inv (CUT P G w0 M0 R (fun s=>(setF (wkF fr) (S s),setH H (HH s))) ok st)::k,fr,st,H⟩) (hk:∀ s,ok s→RUN ⟨P,G,w0,M0,R⟩ ⟨k,setF (wkF fr) (S s),st,setH H (HH s)⟩) (hs:step P G ⟨.code c::.blk id::k,fr,st,H⟩=none:=by rfl) :
 RUNs P G w0 M0 R ⟨.code c::.blk id::k,fr,st,H⟩:=RUNs_cutR _ ok h hk hs
end
end Go.Ab
namespace Ch
open Go Go.Ab Go.Proofs.Tryz
theorem wHas_spec (l:List Int) (w:Int) (hl:l.length≤1099511627776):Spec PP GG 103 [wordsV l,u32 w] (.bool (decide (w∈l))) []:=by
 refine Qs func103 ?_
 intro w0 M0
 simp only [f103,lf,z,seval]
 (refine CU (Contains_spec l w hl) (h:=?_);simp only [z,seval])
 (refine Qf ?_;simp only [z,seval])
theorem getH_snoc (J:List AB) (x:AB):getH (J++[x]) J.length=x:=by
 induction J with
 | nil=>rfl
 | cons a J ih=>exact ih
def known (w:World) (x:Int):Prop:=(∃ l∈w.regs,x∈l) ∨ ∃ l∈w.net.seen,x∈l
theorem known_pub {L:List Int} {E:Nat} {w:World} (I:Inv L E w) {x:Int} (h:known w x):¬ Sec w x:=by
 rcases h with ⟨l,hl,hx⟩|⟨l,hl,hx⟩
 ·exact (I.regs l hl x hx).2
 ·exact (I.seen l hl x hx).2
theorem known_iff {w:World} {x:Int}:((w.regs++w.net.seen).any fun l=>decide (x∈l))=true↔known w x:=by
 simp only [List.any_eq_true,List.mem_append,decide_eq_true_eq,known]
 constructor
 ·rintro ⟨l,h|h,hx⟩
  ·exact .inl ⟨l,h,hx⟩
  ·exact .inr ⟨l,h,hx⟩
 ·rintro (⟨l,h,hx⟩|⟨l,h,hx⟩)
  ·exact ⟨l,.inl h,hx⟩
  ·exact ⟨l,.inr h,hx⟩
theorem leaked_iff {w:World} {k:Int}:(w.leaks.any fun l=>l.k==k)=false↔unleaked w k:=by
 simp only [List.any_eq_false,beq_iff_eq,unleaked]
theorem Concat_spec (L:List (List (List Int))) (hl:L.flatten.length≤1099511627776) (hL:L.length≤1099511627776):Spec PP GG 163 [.sl (L.map rowsV) .plain] (rowsV L.flatten) []:=ConcatR_spec L hl hL
def knownL (L:List (List Int)) (x:Int):Bool:=L.any fun l=>decide (x∈l)
def knownM (w:World) (x:Int):Bool:=knownL (w.regs++w.net.seen) x
theorem Concat2_spec (A B:List (List Int)) (hl:(A++B).length≤1099511627776):Spec PP GG 163 [.sl [rowsV A,rowsV B] .plain] (rowsV (A++B)) []:=by
 have:=Concat_spec [A,B] (by simpa using hl) (by simp)
 simpa using this
theorem Known_spec (w:World) (x:Int) (hl:(w.regs++w.net.seen).length≤1099511627776) (hr:∀ l∈w.regs++w.net.seen,l.length≤1099511627776):Spec PP GG 46 [w.v,u32 x] (.bool (knownM w x)) []:=by
 refine Qs func46 ?_
 intro w0 M0
 simp only [f46,lf,z,seval]
 (refine qc func102 ?_;simp only [f102,lf,z,seval])
 (refine RUNs_rangeFunc f162 func162 rfl (by kernel_rfl) rfl rfl ?_;intro D l;simp only [f162,lf,z,seval])
 (refine CU (Concat2_spec w.regs w.net.seen hl) (h:=?_);simp only [z,seval])
 unfold knownM
 generalize w.regs++w.net.seen=L at hl hr ⊢
 refine RUNs_rangeF L.length (fun i (_:Unit)=>knownL (L.take i) x=false) (fun i _=>[yieldV l,.any,.any,.any,.any,.any,.any,.any,.any,.any,.any,.sl (L.map wordsV) .plain,i64 L.length,i64 i,.any,.any,.any,.any,.any,.any,.any,.any]) () (by simp [knownL]) wk rfl ?_
 rintro ⟨i,_,hi,hw⟩
 simp only [z,seval]
 refine CONDS_split (fun h=>?_) (fun h=>?_)
 ·have hlt:i < L.length:=by simpa using h
  simp only [z,seval,getMap wordsV L hlt]
  (refine CALLS_yield 5 rfl rfl ?_;simp only [z,seval];refine RUNs_beg 5 rfl ?_;simp only [z,seval])
  (refine CU (wHas_spec L[i] x (hr _ (List.getElem_mem hlt))) (h:=?_);simp only [z,seval])
  refine CONDS_split (fun h=>?_) (fun h=>?_)
  ·simp only [h,z,seval]
   (first|refine RUNs_rnd 5 rfl ?_|refine RUNs_rndj 5 rfl ?_;simp only [z,seval])
   (refine RUNs_erf 5 rfl (by simp) ?_;simp only [z,seval])
   (refine RUNs_mk 4 rfl ?_;simp only [z,seval])
   (refine Qf ?_;simp only [z,seval])
   have:knownL L x=true:=by
    simp only [knownL,List.any_eq_true]
    exact ⟨L[i],List.getElem_mem hlt,h⟩
   simp [this]
  ·simp only [h,z,seval]
   (first|refine RUNs_rnd 5 rfl ?_|refine RUNs_rndj 5 rfl ?_;simp only [z,seval])
   simp only [w64s (i:=i) (by omega),z,seval]
   refine NX () (hi:=hlt) (hinv:=?_)
   have h':decide (x∈L[i])=false:=h
   simp only [knownL,List.take_succ_eq_append_getElem hlt,List.any_append,List.any_cons,List.any_nil,h',Bool.or_false] at hw ⊢
   exact hw
 ·simp only [z,seval]
  (refine RUNs_erf 5 rfl (by simp) ?_;simp only [z,seval])
  (refine RUNs_mk 4 rfl ?_;simp only [z,seval])
  (refine Qf ?_;simp only [z,seval])
  have hi':i=L.length:=by simp at h;omega
  subst hi'
  rw [List.take_length] at hw
  simp [hw]
def leakedM (l:List Leak) (k:Int):Bool:=l.any fun x=>x.k==k
def safeM (w:World) (e:Event):Bool:=e.kind==2 && (!leakedM w.leaks e.k && (honest w.people e.a && honest w.people e.b))
theorem Safe_spec (w:World) (e:Event) (ha:U e.a) (hb:U e.b) (hp:w.people.length≤1099511627776) (hl:w.leaks.length≤1099511627776):Spec PP GG 97 [w.v,e.v] (.bool (safeM w e)) []:=by
 obtain ⟨ek,ep,er,ea,eb,k,e2,e3,e4,e5⟩:=e
 obtain ⟨na,rfl⟩:=Int.eq_ofNat_of_zero_le ha.1
 obtain ⟨nb,rfl⟩:=Int.eq_ofNat_of_zero_le hb.1
 have hna2:na < 4294967296:=by have:=ha.2;simp only at this;omega
 have hnb2:nb < 4294967296:=by have:=hb.2;simp only at this;omega
 refine Qs func97 ?_
 intro w0 M0
 simp only [f97,lf,Event.v,z,seval]
 (refine qc func155 ?_;simp only [f155,lf,z,seval])
 (refine qc func205 ?_;simp only [f205,lf,z,seval])
 refine RUNs_rangeF w.leaks.length (fun i (_:Unit)=>leakedM (w.leaks.take i) k=false) (fun i _=>[.sl (w.leaks.map Leak.v) .plain,.fn (.func 156) [] [.ptr 1 0],.any,.any,i64 0,.any,.sl (w.leaks.map Leak.v) .plain,i64 w.leaks.length,i64 i,.any,.any,.any,.any,.any,.any,.any,.any,.any,.any]) () (by simp [leakedM]) wk rfl ?_
 rintro ⟨i,_,hi,hw⟩
 simp only [z,seval]
 refine CONDS_split (fun h=>?_) (fun h=>?_)
 ·have hlt:i < w.leaks.length:=by simpa using h
  simp only [z,seval,getMap Leak.v w.leaks hlt,Leak.v]
  (refine qc func156 ?_;simp only [f156,lf,z,seval])
  refine CONDS_split (fun h=>?_) (fun h=>?_)
  ·have hk:leakedM w.leaks k=true:=by
    simp only [leakedM,List.any_eq_true]
    exact ⟨w.leaks[i],List.getElem_mem hlt,by simpa using h⟩
   simp only [z,seval]
   simp only [show decide ((i:Int)≥0)=true by simp,z,seval]
   first|refine brk (fun h=>?_) (fun h=>?_)|fail
   all_goals
    simp only [h,z,seval]
    (refine Qf ?_;simp only [z,seval])
    simp_all [safeM]
  ·simp only [z,seval,w64s (i:=i) (by omega)]
   refine NX () (hi:=hlt) (hinv:=?_)
   simp only [leakedM,List.take_succ_eq_append_getElem hlt,List.any_append,List.any_cons,List.any_nil,Bool.or_false] at hw ⊢
   rw [hw];simpa using h
 ·have hi':i=w.leaks.length:=by simp at h;omega
  subst hi'
  rw [List.take_length] at hw
  simp only [z,seval]
  try simp only [show decide ((-1:Int)≥0)=false by decide,z,seval]
  first|refine brk (fun h=>?_) (fun h=>?_)|fail
  ·simp only [h,z,seval]
   (refine CU (Person_spec w na hna2 hp) (h:=?_);simp only [z,seval])
   first|refine brk (fun h=>?_) (fun h=>?_)|fail
   ·simp only [h,z,seval]
    (refine CU (Person_spec w nb hnb2 hp) (h:=?_);simp only [z,seval])
    (refine Qf ?_;simp only [z,seval])
    simp_all [safeM,honest]
   ·simp only [h,z,seval]
    (refine Qf ?_;simp only [z,seval])
    simp_all [safeM,honest]
  ·simp only [h,z,seval]
   (refine Qf ?_;simp only [z,seval])
   simp_all [safeM]
theorem Honest_spec (w:World) (a b:Int) (hl:w.people.length≤1099511627776):Spec PP GG 40 [w.v,u32 a,u32 b] (.bool (rhonest w.people a && rhonest w.people b)) []:=by
 refine Qs func40 ?_
 intro w0 M0
 simp only [f40,lf,z,seval]
 (refine CU (rPersonK_spec w a hl) (h:=?_);simp only [z,seval])
 first|refine brk (fun h=>?_) (fun h=>?_)|fail
 ·simp only [h,z,seval]
  (refine CU (rPersonK_spec w b hl) (h:=?_);simp only [z,seval])
  (refine Qf ?_;simp only [z,seval])
  simp_all [rhonest]
 ·simp only [h,z,seval]
  (refine Qf ?_;simp only [z,seval])
  simp_all [rhonest]
theorem Leaked_spec (w:World) (k:Int) (hl:w.leaks.length≤1099511627776):Spec PP GG 47 [w.v,u32 k] (.bool (leakedM w.leaks k)) []:=by
 refine Qs func47 ?_
 intro w0 M0
 simp only [f47,lf,z,seval]
 refine RUNs_rangeF w.leaks.length (fun i (_:Unit)=>leakedM (w.leaks.take i) k=false) (fun i _=>[.any,u32 k,.ptr 0 0,.any,.bool false,i64 i,.any,.any,.any,.any,.any,.any,.any,.any,.any,.any,.any,.any,.any,.any,.any]) () (by simp [leakedM]) wk rfl ?_
 rintro ⟨i,_,hi,hw⟩
 simp only [z,seval]
 refine CONDS_split (fun h=>?_) (fun h=>?_)
 ·have hlt:i < w.leaks.length:=by simpa using h
  simp only [z,seval,getMap Leak.v w.leaks hlt]
  refine CONDS_split (fun h=>?_) (fun h=>?_)
  ·simp only [z,seval]
   (refine Qf ?_;simp only [z,seval])
   have hk:leakedM w.leaks k=true:=by
    simp only [leakedM,List.any_eq_true]
    exact ⟨w.leaks[i],List.getElem_mem hlt,by simpa using h⟩
   rw [hk]
  ·simp only [z,seval,w64s (i:=i) (by omega)]
   refine NX () (hi:=hlt) (hinv:=?_)
   simp only [leakedM,List.take_succ_eq_append_getElem hlt,List.any_append,List.any_cons,List.any_nil,Bool.or_false] at hw ⊢
   rw [hw];simpa using h
 ·have hi':i=w.leaks.length:=by simp at h;omega
  subst hi'
  rw [List.take_length] at hw
  simp only [z,seval]
  (refine Qf ?_;simp only [z,seval])
  rw [hw]
theorem CloneEvent_spec (l:List Event) (hl:l.length≤1099511627776):Spec PP GG 100 [.sl (l.map Event.v) .plain] (.row 0 0) [.row 10 (l.map Event.v) 0 false]:=by
 refine Qs func100 ?_
 intro w0 M0
 simp only [f100,lf,z,seval]
 refine OPV_nilq rfl rfl ty37 rfl rfl ?_
 intro b hb _
 rcases b
 ·simp only [z,seval]
  refine OPC_ok (okMap _ (fun a=>rfl) hl) ?_
  simp only [z,seval]
  exact FINS_own rfl rfl
 ·obtain rfl:l=[]:=by
   cases l with
   | nil=>rfl
   | cons a l=>exact absurd (hb (by simp)) (by simp)
  simp only [List.map_nil,z,seval]
  intro _
  refine RUNs_row0 2 10 (h:=?_)
  simp only [z,seval]
  exact FINS_own rfl rfl
def pAt (d:Draws) (i:Nat):Int:=orI .u32 ((d.list[i]?).getD (dflt i)) 2147483648
def pRow (d:Draws) (m n:Nat):List Int:=(List.range n).map fun i=>pAt d (m + i)
theorem pRow_succ (d:Draws) (m i:Nat):pRow d m (i + 1)=pRow d m i++[pAt d (m + i)]:=by simp [pRow,List.range_succ]
theorem RUNs_rangeG {P:Program} {G:Glob} {w0:Go.World} {M0:Nat→Nat→Prop} {R:Value→Go.World→Prop} {σ:Type} (n:Nat) (inv:Nat→σ→Prop) (I:List AB→Nat→σ→List V×List AB) (s0:σ) {body:Code} {k:List It} {fr:List V} {st:List (List V)} {H:List AB}
 (hinv:inv 0 s0) (h0:Weak fr H (I H 0 s0).1 (I H 0 s0).2) (hst:st.all (okL (I H 0 s0).2.length)=true)
 (round:∀ x:RSt σ n inv,RUNs P G w0 M0 R ⟨.code body::.inv (RJ P G w0 M0 R n inv (I H) x st)::k,(I H x.i x.s).1,st,(I H x.i x.s).2⟩):RUNs P G w0 M0 R ⟨.code (.loop body)::k,fr,st,H⟩ :=
 RUNs_range n inv (I H) s0 hinv h0 hst round
def gH (d:Draws) (m:Nat) (H:List AB) (i:Nat):Nat→List AB
 | 0=>H
 | j + 1=>(H.set 3 (.var [i64 (m + i:Nat)])).set 1 (.var [.row 7 j])++[.row 1 ((pRow d m i).map u32) j false]
theorem gH_zero (d:Draws) (m:Nat) (H:List AB) (i:Nat):gH d m H i 0=H:=rfl
theorem gH_succ (d:Draws) (m:Nat) (H:List AB) (i j:Nat):gH d m H i (j + 1)=(H.set 3 (.var [i64 (m + i:Nat)])).set 1 (.var [.row 7 j])++[.row 1 ((pRow d m i).map u32) j false]:=rfl
theorem Peek_spec (d:Draws) (m n:Nat) (hd:d.next=m) (hm:m≤1099511627776) (hn:n≤1099511627776):Spec PP GG 107 [d.v,i64 n] (wordsV (pRow d m n)) []:=by
 refine Qs func107 ?_
 intro w0 M0
 simp only [f107,lf,Draws.v,hd,z,seval]
 (refine qc func168 ?_;simp only [f168,lf,z,seval])
 (refine RUNs_rangeFunc f208 func208 rfl (by kernel_rfl) rfl rfl ?_;intro D l;simp only [f208,lf,z,seval])
 have hmn:IntKind.i64.wrap ((m:Int) + (n:Int))=((m + n:Nat):Int):=by rw [w64 (by omega) (by omega)];omega
 simp only [hmn]
 refine RUNs_rangeG n (fun i (c:Nat)=>i=c) (fun H i c=>([yieldV l,.ptr 3 0,.ptr 4 0,.ptr 2 0,.any,.any,.any,.any,.any,.any,.any,.any,.any,.any,.any,.any],gH d m H i c)) 0 rfl ?_ rfl ?_
 ·exact wk
 rintro ⟨i,c,hi,rfl⟩
 have hA:=at_spec d (m + i)
 rw [Draws.v,hd] at hA
 have hsu:=pRow_succ d m i
 rcases i with _|j
 ·simp only [gH_zero,gH_succ,z,seval]
  refine CONDS_split (fun h=>?_) (fun h=>?_)
  ·have hlt:0 < n:=by have:=of_decide_eq_true h;omega
   simp only [z,seval]
   (refine CU hA (h:=?_);simp only [z,seval])
   (refine CALLS_yield 6 rfl rfl ?_;simp only [z,seval];refine RUNs_beg 6 rfl ?_;simp only [z,seval])
   (first|refine RUNs_rnd 6 rfl ?_|refine RUNs_rndj 6 rfl ?_;simp only [z,seval])
   have hw1:IntKind.i64.wrap ((m:Int) + 1)=((m + (0 + 1):Nat):Int):=by rw [w64 (by omega) (by omega)];omega
   have e:[u32 (pAt d (m + 0))]=(pRow d m (0 + 1)).map u32:=by rw [hsu];rfl
   simp only [pAt] at e
   simp only [hw1,e,z,seval]
   (refine NX 1 ?_ (by rfl) hlt ?_;simp only [gH_zero,gH_succ,z,seval];exact wk)
   rfl
  ·have hlt:n=0:=by have:=of_decide_eq_false h;omega
   subst hlt
   simp only [z,seval]
   (refine RUNs_erf 6 rfl (by simp) ?_;simp only [z,seval])
   (refine RUNs_mk 5 rfl ?_;simp only [z,seval])
   (refine Qf ?_;simp only [z,seval])
   rfl
 ·simp only [gH_zero,gH_succ,z,seval]
  refine CONDS_split (fun h=>?_) (fun h=>?_)
  ·have hlt:j + 1 < n:=by have:=of_decide_eq_true h;omega
   simp only [z,seval]
   (refine CU hA (h:=?_);simp only [z,seval])
   (refine CALLS_yield 6 rfl rfl ?_;simp only [z,seval];refine RUNs_beg 6 rfl ?_;simp only [z,seval])
   refine OPC_ok ?_ ?_
   ·simp [pRow];omega
   simp only [z,seval]
   (first|refine RUNs_rnd 6 rfl ?_|refine RUNs_rndj 6 rfl ?_;simp only [z,seval])
   have hw1:IntKind.i64.wrap (((m + (j + 1):Nat):Int) + 1)=((m + (j + 1 + 1):Nat):Int):=by rw [w64 (by omega) (by omega)];omega
   have e:(pRow d m (j + 1)).map u32++[u32 (pAt d (m + (j + 1)))]=(pRow d m (j + 1 + 1)).map u32:=by rw [hsu,List.map_append];rfl
   simp only [pAt] at e
   simp only [hw1,e,z,seval]
   (refine NX (j + 2) ?_ (by rfl) hlt ?_;simp only [gH_zero,gH_succ,z,seval];exact wk)
   rfl
  ·have hlt:n=j + 1:=by have:=of_decide_eq_false h;omega
   subst hlt
   simp only [z,seval]
   (refine RUNs_erf 6 rfl (by simp) ?_;simp only [z,seval])
   (refine RUNs_mk 5 rfl ?_;simp only [z,seval])
   (refine Qf ?_;simp only [z,seval])
theorem Drawn_spec (d:Draws) (n:Nat) (hd:d.next=n) (hn:n≤1099511627776):Spec PP GG 157 [d.v] (wordsV (pRow d 0 n)) []:=by
 refine Qs func157 ?_
 intro w0 M0
 simp only [f157,lf,Draws.v,hd,z,seval]
 have hP:=Peek_spec ⟨d.list,0⟩ 0 n rfl (by omega) hn
 rw [Draws.v] at hP
 (refine CU hP (h:=?_);simp only [z,seval])
 (refine Qf ?_;simp only [z,seval])
 rfl
theorem Clean_spec (w:World) (l:List Op) (n:Nat) (hn:w.draws.next=n) (hn2:n≤1099511627776) (hl:l.length≤1099511627776) (hw:∀ o∈l,o.words.length≤1099511627776):Spec PP GG 98 [w.v,opsV l] (.bool (cleanM (pRow w.draws 0 n) l)) []:=by
 refine Qs func98 ?_
 intro w0 M0
 simp only [f98,lf,hn,z,seval]
 have hR:=Drawn_spec w.draws n hn hn2
 rw [Draws.v,hn] at hR
 (refine CU hR (h:=?_);simp only [z,seval])
 have hlen:(pRow w.draws 0 n).length≤1099511627776:=by simp [pRow];exact hn2
 generalize pRow w.draws 0 n=row at hlen ⊢
 (refine CU (Unlike_spec row hlen) (h:=?_);simp only [z,seval])
 first|refine brk (fun h=>?_) (fun h=>?_)|fail
 ·simp only [h,z,seval]
  (refine qc func158 ?_;simp only [f158,lf,z,seval])
  (refine qc func206 ?_;simp only [f206,lf,z,seval])
  refine RUNs_rangeF l.length (fun i (_:Unit)=>(l.take i).all (freshO row)=true) (fun i _=>[.sl (l.map Op.v) .plain,.fn (.func 159) [] [.ptr 1 0],.any,.any,i64 0,.any,.sl (l.map Op.v) .plain,i64 l.length,i64 i,.any,.any,.any,.any,.any,.any,.any,.any,.any,.any]) () (by simp) wk rfl ?_
  rintro ⟨i,_,hi,hx⟩
  simp only [z,seval]
  refine CONDS_split (fun h=>?_) (fun h=>?_)
  ·have hlt:i < l.length:=by have:=of_decide_eq_true h;omega
   have hwl:=hw _ (List.getElem_mem hlt)
   have hgo:freshO row l[i]=true→(l.take (i + 1)).all (freshO row)=true:=fun h=>all_succ hlt hx h
   simp only [getMap Op.v l hlt,z,seval]
   (refine qc func159 ?_;simp only [f159,lf,z,seval])
   first|refine brk (fun h=>?_) (fun h=>?_)|fail
   ·have hkd:(l[i].kind==0)=true:=h
    simp only [h,z,seval]
    (refine qc func151 ?_;simp only [f151,lf,z,seval])
    (refine qc func203 ?_;simp only [f203,lf,z,seval])
    refine RUNs_rangeF l[i].words.length (fun k (_:Unit)=>(l[i].words.take k).all (fun x => !decide (x∈row))=true) (fun k _=>[.sl (l[i].words.map u32) .plain,.fn (.func 160) [] [.ptr 1 0],.any,.any,i64 0,.any,.sl (l[i].words.map u32) .plain,i64 l[i].words.length,i64 k,.any,.any,.any,.any,.any,.any,.any,.any,.any,.any]) () (by simp) wk rfl ?_
    rintro ⟨k,_,hk,hy⟩
    simp only [z,seval]
    refine CONDS_split (fun h=>?_) (fun h=>?_)
    ·have hkl:k < l[i].words.length:=by have:=of_decide_eq_true h;omega
     simp only [getMap u32 l[i].words hkl,z,seval]
     (refine qc func160 ?_;simp only [f160,lf,z,seval])
     (refine CU (wHas_spec row l[i].words[k] hlen) (h:=?_);simp only [z,seval])
     refine CONDS_split (fun h=>?_) (fun h=>?_)
     ·simp only [h,show decide ((k:Int)≥0)=true by simp,z,seval]
      simp only [show decide ((i:Int)≥0)=true by simp,z,seval]
      (refine Qf ?_;simp only [z,seval])
      have:freshO row l[i]=false:=by
       rw [freshO,hkd,Bool.not_true,Bool.false_or]
       exact all_at hkl (by simp [h])
      rw [cleanM,all_at hlt this,Bool.and_false]
     ·simp only [h,w64s (i:=k) (by omega),z,seval]
      refine NX () (hi:=hkl) (hinv:=?_)
      exact all_succ hkl hy (by simp [h])
    ·have hkl:k=l[i].words.length:=by have:=of_decide_eq_false h;omega
     subst hkl
     rw [List.take_length] at hy
     simp only [show decide ((-1:Int)≥0)=false by decide,w64s (i:=i) (by omega),z,seval]
     refine NX () (hi:=hlt) (hinv:=?_)
     exact hgo (by rw [freshO,hy,Bool.or_true])
   ·have hkd:(l[i].kind==0)=false:=h
    simp only [h,w64s (i:=i) (by omega),z,seval]
    refine NX () (hi:=hlt) (hinv:=?_)
    exact hgo (by rw [freshO,hkd];rfl)
  ·have hi':i=l.length:=by have:=of_decide_eq_false h;omega
   subst hi'
   rw [List.take_length] at hx
   try simp only [show decide ((-1:Int)≥0)=false by decide,z,seval]
   (refine Qf ?_;simp only [z,seval])
   simp_all [cleanM]
 ·simp only [h,z,seval]
  (refine Qf ?_;simp only [z,seval])
  simp_all [cleanM]
theorem IndexFuncEvent_row (l:List Event) (p:Event→Bool) (vf:V) (H:List AB) (r:Nat) (hr:getH H r=.row 10 (l.map Event.v) 0 false) (hrl:r < H.length) (hl:l.length≤1099511627776) (hH:H.all (okAB H.length)=true) (hv:okN H.length vf=true) (hp:∀ a∈l,PureFn PP GG vf H [Event.v a] (.bool (p a))) :
 PureFn PP GG (.fn (.func 161) [] []) H [.row r 0,vf] (i64 (idxP p l)):=by
 refine PureFn.of (fn:=f161) func161 rfl (by kernel_rfl) hH rfl ?_
 intro w0 M0 R dst all l' k fr st h1 h2
 simp only [f161,lf,hr,z,seval]
 refine RUNs_rangeS l.length (fun i (_:Unit)=>(l.take i).any p=false) (fun i _=>[(1,vf),(8,i64 i)]) (fun _ _=>[]) () (by simp) (by simp only [hr,z,seval];exact WkF (by simp only [okL,okN,hv,hrl,decide_true,Bool.true_and]) hH) (by simp only [hr,z,seval];exact stok h1 h2) ?_
 rintro ⟨i,_,hi,hw⟩
 simp only [hr,z,seval]
 refine CONDS_split (fun h=>?_) (fun h=>?_)
 ·have hlt:i < l.length:=by simpa using h
  simp only [hr,z,seval,hlt,getMap Event.v l hlt]
  have hpi:=hp _ (List.getElem_mem hlt)
  try simp only [mv] at hpi
  refine PureFn.use hpi (by simp only [okL,okN,hv,hrl,decide_true,Bool.true_and]) (stok h1 h2) ?_
  simp only [hr,z,seval]
  refine CONDS_split (fun h=>?_) (fun h=>?_)
  ·simp only [hr,z,seval]
   exact RUNs_pure h1 h2 hH rfl (hle:=LeH.refl H) (he:=by rw [idxP_at hlt hw h])
  ·simp only [hr,z,seval,w64s (i:=i) (by omega)]
   refine NX () (hw:=by simp only [hr,z,seval];exact WkF (by simp only [okL,okN,hv,hrl,decide_true,Bool.true_and]) hH) (hst:=by simp only [hr,z,seval];exact stok h1 h2) (hi:=hlt) (hinv:=any_snoc hlt hw h)
 ·obtain rfl:i=l.length:=by simp at h;omega
  rw [List.take_length] at hw
  simp only [hr,z,seval]
  exact RUNs_pure h1 h2 hH rfl (hle:=LeH.refl H) (he:=by rw [idxP_none hw])
def openE (w:World) (e:Event):Bool:=safeM w e && knownM w e.k
theorem openClo (w:World) (J:List AB) (hJ:J.all (okAB (J.length + 1))=true) (hp:w.people.length≤1099511627776) (hl:w.leaks.length≤1099511627776) (hs:(w.regs++w.net.seen).length≤1099511627776) (hr:∀ l∈w.regs++w.net.seen,l.length≤1099511627776) (e:Event) (ha:U e.a) (hb:U e.b) :
 PureFn PP GG (.fn (.func 101) [] [.ptr 0 0]) (.var w.cells::J) [e.v] (.bool (!openE w e)):=by
 have hH:(AB.var w.cells::J).all (okAB (AB.var w.cells::J).length)=true:=by
  rw [List.all_cons,List.length_cons,hJ];rfl
 refine PureFn.of (fn:=f101) func101 rfl (by kernel_rfl) hH rfl ?_
 intro w0 M0 R dst all l' k fr st h1 h2
 have h3:okL (J.length + 1) fr=true:=h1
 simp only [f101,lf,getH_snoc,z,seval]
 have hS:=Safe_spec w e ha hb hp hl
 simp only [mv] at hS
 (refine CU hS (h:=?_);simp only [z,seval])
 first|refine brk (fun h=>?_) (fun h=>?_)|fail
 ·simp only [h,getH_snoc,z,seval]
  have hK:=Known_spec w e.k hs hr
  (refine CU hK (h:=?_);simp only [z,seval])
  exact RUNs_pure h1 h2 hH rfl (hle:=.cons (.refl _) (LeH.app _ J)) (he:=by simp_all [openE])
 ·simp only [h,getH_snoc,z,seval]
  exact RUNs_pure h1 h2 hH rfl (hle:=.cons (.refl _) (LeH.app _ J)) (he:=by simp_all [openE])
theorem Open_spec (w:World) (hlog:w.log.length≤1099511627776) (hp:w.people.length≤1099511627776) (hl:w.leaks.length≤1099511627776) (hs:(w.regs++w.net.seen).length≤1099511627776) (hr:∀ l∈w.regs++w.net.seen,l.length≤1099511627776) (hU:∀ e∈w.log,U e.a∧U e.b) :
 Spec PP GG 44 [w.v] (eventsV (w.log.filter (openE w))) []:=by
 have hclo:∀ (J:List AB) (hJ:J.all (okAB (J.length + 1))=true),∀ e∈w.log,PureFn PP GG (.fn (.func 101) [] [.ptr 0 0]) (.var w.cells::J) [e.v] (.bool (!openE w e)) :=
  fun J hJ e he=>openClo w J hJ hp hl hs hr e (hU e he).1 (hU e he).2
 generalize hq:openE w=q at hclo ⊢
 clear hq
 refine Qs func44 ?_
 intro w0 M0
 simp only [f44,lf,z,seval]
 (refine CH (CloneEvent_spec w.log hlog) (h:=?_);simp only [z,seval])
 (refine qc func99 ?_;simp only [f99,lf,z,seval])
 have hI:=IndexFuncEvent_row w.log (fun e => !q e) (.fn (.func 101) [] [.ptr 0 0]) [.var w.cells,.row 10 (w.log.map Event.v) 0 false] 1 rfl (by simp) hlog rfl rfl (hclo [.row 10 (w.log.map Event.v) 0 false] rfl)
 simp only [mv] at hI
 refine PureFn.use hI (hR:=?_)
 simp only [z,seval]
 rcases idxP_cases (fun e => !q e) w.log with ⟨e1,e2⟩|⟨i0,hi0,e1,e2,e3⟩
 ·simp only [e1,z,seval]
  (refine Qf ?_;simp only [z,seval])
  have:w.log.filter q=w.log:=List.filter_eq_self.2 (by simpa using e2)
  rw [this]
 ·have hne:((i0:Int) == -1)=false:=by simp
  simp only [e1,hne,w64s (i:=i0) (by omega),z,seval]
  have hc0:((w.log.take (i0 + 1)).filter q).length=i0:=by
   rw [List.take_succ_eq_append_getElem hi0,List.filter_append,List.filter_eq_self.2 (by simpa using e2)]
   have:q w.log[i0]=false:=by simpa using e3
   simp [this];omega
  have hD0:Del q w.log (i0 + 1) w.log:=(Del.zero q w.log (by simpa using e2)).skip hi0 (by simpa using e3)
  refine RUNs_cutRS (fun _:List Event=>[(5,i64 (w.log.filter q).length),(6,.any)]) (fun L=>[(1,.row 10 (L.map Event.v) 0 false)]) (fun L=>L.length=w.log.length∧L.take (w.log.filter q).length=w.log.filter q) ?_ ?_
  ·simp only [z,seval]
   refine RUNs_rangeS (w.log.length - (i0 + 1)) (fun k (L:List Event)=>Del q w.log (i0 + 1 + k) L) (fun k _=>[(5,i64 ((w.log.take (i0 + 1 + k)).filter q).length),(6,i64 (i0 + 1 + k:Nat))]) (fun _ L=>[(1,.row 10 (L.map Event.v) 0 false)]) w.log hD0 (by simp only [Nat.add_zero,hc0,z,seval];exact wk) rfl ?_
   rintro ⟨k,L,hk,hD⟩
   have hlen:=hD.len
   simp only [hlen,z,seval]
   refine CONDS_split (fun h=>?_) (fun h=>?_)
   ·have hlt:i0 + 1 + k < w.log.length:=by have:=of_decide_eq_true h;omega
    obtain ⟨hL,hLe⟩:=hD.at hlt
    have hcl:=hD.le
    simp only [hlen,hlt,getMap Event.v L hL,hLe,if_true,z,seval]
    have hC:=hclo [.row 10 (L.map Event.v) 0 false,.var w.log[i0 + 1 + k].cells] rfl w.log[i0 + 1 + k] (List.getElem_mem hlt)
    simp only [mv,Event.cells] at hC
    refine PureFn.use hC (hR:=?_)
    simp only [Bool.not_not,z,seval]
    refine CONDS_split (fun h=>?_) (fun h=>?_)
    ·obtain ⟨hD2,hc2⟩:=hD.keep hlt h
     have hcL:((w.log.take (i0 + 1 + k)).filter q).length < L.length:=by omega
     have hcw:((w.log.take (i0 + 1 + k)).filter q).length < w.log.length:=by omega
     have he:(L.map Event.v).set ((w.log.take (i0 + 1 + k)).filter q).length (Event.v w.log[i0 + 1 + k])=(L.set ((w.log.take (i0 + 1 + k)).filter q).length w.log[i0 + 1 + k]).map Event.v:=by rw [List.map_set]
     simp only [mv] at he
     simp only [hlen,hcL,hcw,getMap Event.v L hcL,if_true,he,w64s (i:=((w.log.take (i0 + 1 + k)).filter q).length) (by omega),w64s (i:=i0 + 1 + k) (by omega),z,seval]
     have hc3:((w.log.take (i0 + 1 + (k + 1))).filter q).length=((w.log.take (i0 + 1 + k)).filter q).length + 1:=hc2
     refine NX (L.set ((w.log.take (i0 + 1 + k)).filter q).length w.log[i0 + 1 + k]) (by simp only [hc3,z,seval];exact wk) (by rfl) (by show k < _;omega) hD2
    ·simp only [w64s (i:=i0 + 1 + k) (by omega),z,seval]
     have e:(w.log.take (i0 + 1 + (k + 1))).filter q=(w.log.take (i0 + 1 + k)).filter q:=by
      rw [show i0 + 1 + (k + 1)=i0 + 1 + k + 1 by omega,List.take_succ_eq_append_getElem hlt,List.filter_append];simp [h]
     refine NX L (by simp only [e,z,seval];exact wk) (by rfl) (by show k < _;omega) (hD.skip hlt h)
   ·obtain rfl:k=w.log.length - (i0 + 1):=by have:=of_decide_eq_false h;omega
    have e:i0 + 1 + (w.log.length - (i0 + 1))=w.log.length:=by omega
    have hh:=hD.head
    simp only [e,List.take_length] at hh
    simp only [e,List.take_length,z,seval]
    (refine CI L ?_ (by rfl) ?_;simp only [z,seval];exact wk)
    exact ⟨hlen,hh⟩
  ·rintro L ⟨hL1,hL2⟩
   simp only [z,seval]
   have hc:(w.log.filter q).length≤w.log.length:=List.length_filter_le q w.log
   refine RUN_delTail (i:=1) (ver:=0) (n:=(w.log.filter q).length) (sz:=10) (es:=L.map Event.v) rfl rfl rfl rfl rfl rfl rfl rfl rfl rfl rfl rfl rfl rfl rfl rfl rfl (by simp [hL1];exact hc) (by simp) ty37 rfl ty76 rfl (RUN_of_RUNs ?_)
   simp only [z,seval]
   have hl2:(clrE 10 (L.map Event.v) (w.log.filter q).length).length=w.log.length:=by rw [clrE_len 10 (by simp [hL1];exact hc)];simp [hL1]
   have ht2:(clrE 10 (L.map Event.v) (w.log.filter q).length).take (w.log.filter q).length=(w.log.filter q).map Event.v:=by
    rw [clrE_take (by simp [hL1];exact hc),← List.map_take,hL2]
   refine OPC_ok ?_ ?_
   ·rw [hl2];simp [slcB,hc]
   simp only [ht2,z,seval]
   (refine Qf ?_;simp only [z,seval])
namespace L23
def c0_23:Conf:=⟨5,2,9,4,4,9,2⟩
def e0_23:Event:=⟨2,0,0,1,2,5,0,0,0,0⟩
def e1_23:Event:=⟨1,0,0,0,0,5,0,0,0,0⟩
def ww_23:World:={ newWorld c0_23 [11,12,13] 2 2 with regs:=[[4,5],[]],log:=[e0_23,e1_23] }
def wv_23:World:={ ww_23 with leaks:=[⟨5,0⟩] }
def lit_23:List Op:=[⟨0,0,0,0,0,[5]⟩]
def bad_23:List Op:=[⟨0,0,0,0,0,[2147483660]⟩]
theorem k5_23:knownM ww_23 5=true:=by decide +kernel
theorem k6_23:knownM ww_23 6=false:=by decide +kernel
theorem s0_23:safeM ww_23 e0_23=true:=by decide +kernel
theorem sv_23:safeM wv_23 e0_23=false:=by decide +kernel
theorem s1_23:safeM ww_23 e1_23=false:=by decide +kernel
theorem oo_23:ww_23.log.filter (openE ww_23)=[e0_23]:=by rfl
theorem ov_23:wv_23.log.filter (openE wv_23)=[]:=by rfl
theorem cl_23:cleanM (pRow ww_23.draws 0 2) lit_23=true:=by decide +kernel
theorem cb_23:cleanM (pRow ww_23.draws 0 2) bad_23=false:=by decide +kernel
theorem rr_23:∀ l∈ww_23.regs++ww_23.net.seen,l.length≤1099511627776:=by simp [ww_23,newWorld]
theorem uu_23:∀ e∈ww_23.log,U e.a∧U e.b:=by simp [ww_23,e0_23,e1_23,U]
theorem awake_spec_23:Spec PP GG 43 [] (.bool true) []:=by
 have hN:=New12_H c0_23 2 2 (by decide) (by decide) rfl rfl [11,12,13]
 simp only [nwV,nwH,nwCells,newPeople,c0_23,List.map_cons,List.map_nil,List.replicate,z,seval] at hN
 refine Qs func43 ?_
 intro w0 M0
 simp only [f43,lf,z,seval]
 (refine CH (hN) (h:=?_);simp only [z,seval])
 (refine RUNs_freeze 4 2 ?_ (by rfl) ?_ ?_;rotate_left 1;(simp only [z,seval];exact rfl);simp only [z,seval])
 (refine Qw 0 ?_;simp only [z,seval])
 (refine DU (Known_spec ww_23 5 (by decide) rr_23) (h:=?_);simp only [z,seval])
 simp only [k5_23,z,seval]
 (refine DU (Known_spec ww_23 6 (by decide) rr_23) (h:=?_);simp only [z,seval])
 simp only [k6_23,z,seval]
 (refine DU (Safe_spec ww_23 e0_23 ⟨by decide,by decide⟩ ⟨by decide,by decide⟩ (by decide) (by decide)) (h:=?_);simp only [z,seval])
 simp only [s0_23,z,seval]
 (refine DU (Safe_spec wv_23 e0_23 ⟨by decide,by decide⟩ ⟨by decide,by decide⟩ (by decide) (by decide)) (h:=?_);simp only [z,seval])
 simp only [sv_23,z,seval]
 (refine DU (Safe_spec ww_23 e1_23 ⟨by decide,by decide⟩ ⟨by decide,by decide⟩ (by decide) (by decide)) (h:=?_);simp only [z,seval])
 simp only [s1_23,z,seval]
 (refine DU (Open_spec ww_23 (by decide) (by decide) (by decide) (by decide) rr_23 uu_23) (h:=?_);simp only [z,seval])
 simp only [oo_23,List.map_cons,List.map_nil,z,seval]
 (refine DU (Events_same [e0_23] (by decide)) (h:=?_);simp only [z,seval])
 (refine DU (Open_spec wv_23 (by decide) (by decide) (by decide) (by decide) rr_23 uu_23) (h:=?_);simp only [z,seval])
 simp only [ov_23,List.map_cons,List.map_nil,z,seval]
 (refine DU (Clean_spec ww_23 lit_23 2 rfl (by decide) (by decide) (by decide)) (h:=?_);simp only [z,seval])
 simp only [cl_23,z,seval]
 (refine DU (Clean_spec ww_23 bad_23 2 rfl (by decide) (by decide) (by decide)) (h:=?_);simp only [z,seval])
 simp only [cb_23,z,seval]
 (refine ⟨by kernel_rfl,?_⟩)
 (refine Qf ?_;simp only [z,seval])
end L23
end Ch
