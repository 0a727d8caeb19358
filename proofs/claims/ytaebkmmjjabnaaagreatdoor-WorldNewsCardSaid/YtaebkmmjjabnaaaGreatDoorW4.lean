import Derived.Test.YtaebkmmjjabnaaaGreatDoorW3
import Derived.MapKept
import Derived.Laws.MakeOwn
import Derived.ControlIn
import Derived.Scope
set_option maxRecDepth 100000
set_option maxHeartbeats 4000000
set_option linter.unusedSimpArgs false
set_option linter.unusedVariables false
namespace Go.Ab
open Go Go.RowKit
section
variable {P:Program}
theorem checkKey_int {t:TypeId} {k:IntKind} (ht:P.underlying t=some (.int k)) (em:Bool) (n:Nat) (v:Value) (w:World):(Instr.checkKey em (n + 1) t v).run P w=.ok () w:=by
 rw [Instr.checkKey,Sem.run_bind,run_underlying ht]
 simp
def ckBody (em:Bool) (n:Nat) (xs:Array Value) (f:Field) (s:PUnit):Sem (ForInStep PUnit) :=
 if f.name ≠ "_" then do
  let x ← part f.type xs f.offset
  Instr.checkKey em n f.type x
  pure (ForInStep.yield PUnit.unit)
 else pure (ForInStep.yield PUnit.unit)
theorem checkKey_loop (xs : Array Value) (em : Bool) (n : Nat) (w : World) : ∀ (l : List Field), (∀ f ∈ l, f.name ≠ "_" ∧ (∃ kd, P.underlying f.type = some (.int kd)) ∧ f.offset < xs.size) →
 (forIn l PUnit.unit (ckBody em (n + 1) xs)).run P w=.ok PUnit.unit w
 | [],_=>by simp
 | f::l,h=>by
   obtain ⟨g1,⟨kd,g2⟩,g3⟩:=h f (by simp)
   have hag:(isAgg f.type).run P w=.ok false w:=by simp [isAgg,run_underlying g2]
   have hp1:(part f.type xs f.offset).run P w=.ok xs[f.offset] w:=by simp [part,hag,g3]
   rw [List.forIn_cons,Sem.run_bind]
   simp only [ckBody,if_pos g1,Sem.run_bind,hp1,Result.andThen_ok,checkKey_int g2 em n,Sem.run_pure]
   exact checkKey_loop xs em n w l fun f' hf'=>h f' (List.mem_cons_of_mem _ hf')
theorem run_checkKey_flat {t:TypeId} {d:TD} (ht:tdOf P t=some d) (hf:d.flat=true) {xs:Array Value} (hl:xs.size=d.size) (em:Bool) (n:Nat) (w:World):(Instr.checkKey em (n + 2) t (.agg xs)).run P w=.ok () w:=by
 obtain ⟨i,ds,z,h1,h2,h3,h4,rfl⟩:=tdOf_some ht
 simp only [flatOf,h2] at hf
 cases ds<;>simp only [Bool.false_eq_true] at hf
 rename_i fields
 simp only [Bool.and_eq_true,Bool.not_eq_true'] at hf
 obtain ⟨⟨⟨f0,f1⟩,f2⟩,f3⟩:=hf
 have f0':fields.size=i.size:=by simpa [szOf,h1] using f0
 have hl':xs.size=i.size:=hl
 have:=checkKey_loop (P:=P) xs em n w fields.toList (fun f hfm=>by
  obtain ⟨j,hj⟩:=List.getElem?_of_mem hfm
  have h5:=(List.all_eq_true.1 f3) (f,j) (by rw [List.mem_zipIdx_iff_getElem?];simpa using hj)
  simp only [Bool.and_eq_true,bne_iff_ne,ne_eq,beq_iff_eq] at h5
  obtain ⟨⟨g1,g2⟩,g3⟩:=h5
  refine ⟨g1,?_,?_⟩
  ·split at g3
   ·rename_i kd hk;exact ⟨kd,hk⟩
   ·cases g3
  ·have:=(List.getElem?_eq_some_iff.1 hj).1
   simp at this;omega)
 rw [Instr.checkKey,Sem.run_bind,run_underlying h2]
 simp only [Result.andThen_ok]
 have e:(forIn fields PUnit.unit (fun f s=>ckBody em (n + 1) xs f s))=(forIn fields.toList PUnit.unit (ckBody em (n + 1) xs)):=by
  rw [← Array.forIn_toList]
 have e2:=congrArg (fun s=>s.run P w) e
 simp only [this] at e2
 unfold ckBody at e2
 first|exact e2|(rw [Sem.run_bind,e2];simp)|(simp only [Sem.run_bind];rw [e2];simp)
def FoundAs (E:Env):Option (Nat×V)→Option (Nat×Value)→Prop
 | none,none=>True
 | some (i,v),some (j,x)=>i=j∧Rep E v x
 | _,_=>False
def findL (q:List Int):List (List Int×V)→Nat→Option (Nat×V)
 | [],_=>none
 | p::L,i=>bif eqIs q p.1 then some (i,p.2) else findL q L (i + 1)
theorem findL_look (q:List Int):∀ (L:List (List Int×V)) (i:Nat),lookL L q=(findL q L i).map (·.2)
 | [],i=>rfl
 | p::L,i=>by
   simp only [lookL,findL]
   cases eqIs q p.1
   ·simpa using findL_look q L (i + 1)
   ·rfl
theorem eqIs_iff:∀ {a b:List Int},eqIs a b=true↔a=b
 | [],[]=>by simp [eqIs]
 | [],_::_=>by simp [eqIs]
 | _::_,[]=>by simp [eqIs]
 | a::a_s,b::bs=>by simp [eqIs,eqIs_iff (a:=a_s)]
theorem eqNums_zip:∀ {ks:List IntKind} {p q:List Int},p.length=ks.length→q.length=ks.length→eqNums (List.zipWith Value.int ks p) (List.zipWith Value.int ks q)=some (eqIs p q)
 | [],[],[],_,_=>rfl
 | k::ks,a::p,b::q,h1,h2=>by
   simp only [List.zipWith_cons_cons,eqNums,if_true,eqNums_zip (ks:=ks) (p:=p) (q:=q) (by simpa using h1) (by simpa using h2),Option.map_some,eqIs]
 | [],_::_,_,h1,_=>by simp at h1
 | [],[],_::_,_,h2=>by simp at h2
 | _::_,[],_,h1,_=>by simp at h1
 | _::_,_::_,[],_,h2=>by simp at h2
theorem intsOf_sound {E:Env}:∀ {ks:List IntKind} {xs:List V} {us:List Value} {q:List Int},intsOf ks xs=some q→RepL E xs us→us=List.zipWith Value.int ks q∧q.length=ks.length∧xs.length=ks.length
 | [],[],us,q,h,hr=>by
   simp only [intsOf] at h;injection h with h;subst h
   simp only [RepL] at hr;subst hr;exact ⟨rfl,rfl,rfl⟩
 | [],x::xs,us,q,h,hr=>by simp [intsOf] at h
 | k::ks,[],us,q,h,hr=>by simp [intsOf] at h
 | k::ks,x::xs,us,q,h,hr=>by
   unfold intsOf at h
   split at h
   ·rename_i e1 e2;cases e2
   ·rename_i k' ks' j n xs' e1 e2
    cases e1;cases e2
    split at h
    ·rename_i hj;subst hj
     simp only [Option.map_eq_some_iff] at h
     obtain ⟨q',h1,rfl⟩:=h
     simp only [RepL,Rep] at hr
     obtain ⟨y,ys,rfl,⟨rfl,_⟩,hr⟩:=hr
     obtain ⟨rfl,h3,h4⟩:=intsOf_sound h1 hr
     exact ⟨rfl,by simp [h3],by simp [h4]⟩
    ·cases h
   ·cases h
theorem sgT_cases {t:TypeId} {sg:KS} (h:sgT P t=some sg):(∃ k,P.underlying t=some (.int k)∧sg=(false,[k]))∨(∃ d ks,tdOf P t=some d∧d.flat=true∧sg=(true,ks)∧ks.length=d.size):=by
 unfold sgT at h
 split at h
 ·rename_i d hd
  split at h
  ·rename_i k hsh
   injection h with h;subst h
   obtain ⟨i,ds,z,g1,g2,g3,g4,rfl⟩:=tdOf_some hd
   refine .inl ⟨k,?_,rfl⟩
   simp only at hsh
   cases ds<;>simp only [shOf] at hsh<;>first|(injection hsh with hsh;rw [← hsh];exact g2)|(cases hsh;done)|(split at hsh<;>cases hsh;done)
  ·split at h
   ·rename_i hf
    split at h
    ·rename_i ks hk
     split at h
     ·rename_i hl
      injection h with h;subst h
      exact .inr ⟨d,ks,hd,hf,rfl,hl⟩
     ·cases h
    ·cases h
   ·cases h
 ·cases h
theorem keyI_sound {E:Env} {t:TypeId} {sg:KS} {k:V} {kx:Value} {q:List Int} (hs:sgT P t=some sg) (h:keyI sg k=some q) (hk:Rep E k kx):kx=keyVal sg q∧q.length=sg.2.length:=by
 rcases sgT_cases hs with ⟨k0,_,rfl⟩|⟨d,ks,_,_,rfl,_⟩
 ·simp only [keyI] at h
  obtain ⟨h1,h2,_⟩:=intsOf_sound h (RepL.cons hk (RepL.nil E))
  refine ⟨?_,h2⟩
  match q,h1,h2 with
  | [n],h1,_=>simp at h1;simpa [keyVal] using h1
 ·cases k<;>simp only [keyI] at h<;>try (cases h;done)
  rename_i xs
  simp only [Rep] at hk
  obtain ⟨us,rfl,hx⟩:=hk
  obtain ⟨rfl,h2,_⟩:=intsOf_sound h hx
  exact ⟨by simp [keyVal],h2⟩
theorem find_abs {E:Env} {t:TypeId} {sg:KS} (hs:sgT P t=some sg) {q:List Int} (hq:q.length=sg.2.length) (w:World):∀ (L:List (List Int×V)) (l:List MapEntry) (i:Nat),l.map (·.key)=L.map (fun p=>keyVal sg p.1)→RepL E (L.map (·.2)) (l.map (·.val))→(∀ p∈L,p.1.length=sg.2.length) →
 ∃ r',(∀ ds,P.underlying t=some ds→(match Instr.findNow ds (keyVal sg q) l i with
  | some r=>r=r'
  | none=>(Instr.findAsking t (keyVal sg q) l i).run P w=.ok r' w))∧(sg.1=true→(Instr.findAsking t (keyVal sg q) l i).run P w=.ok r' w)∧FoundAs E (findL q L i) r'
 | [],[],i,_,_,_=>⟨none,fun ds _=>by simp [Instr.findNow],fun _=>by simp [Instr.findAsking],trivial⟩
 | [],m::l,i,h1,_,_=>by simp at h1
 | p::L,[],i,h1,_,_=>by simp at h1
 | p::L,m::l,i,h1,h2,h3=>by
   simp only [List.map_cons,List.cons.injEq] at h1
   simp only [List.map_cons,RepL.cons_iff] at h2
   obtain ⟨r',g1,g2,g3⟩:=find_abs hs hq w L l (i + 1) h1.2 h2.2 fun p hp=>h3 p (List.mem_cons_of_mem _ hp)
   have hp:=h3 p (by simp)
   rcases sgT_cases hs with ⟨k0,hu,rfl⟩|⟨d,ks,hd,hf,rfl,hl⟩
   ·match q,hq,p.1,hp,h1.1 with
    | [a],_,[b],_,hm =>
      simp only [keyVal,cond_false] at hm
      have e:eqIs [a] p.1=(a==b):=by
       have:p.1=[b]:=by
        have hk:=h1.1
        match hpp:p.1,hp with
        | [c],_=>rw [hpp] at hk;simp only [keyVal,cond_false] at hk;rw [hm] at hk;injection hk with _ hk;rw [hk]
       rw [this];simp [eqIs]
      cases hab:(a==b) with
      | true =>
        refine ⟨some (i,m.val),fun ds hds=>?_,fun h=>(by simp at h),?_⟩
        ·rw [hu] at hds;injection hds with hds;subst hds
         simp only [keyVal,cond_false,Instr.findNow,Instr.sameNow,hm,if_true,hab]
        ·simp only [findL,e,hab,cond_true];exact ⟨rfl,h2.1⟩
      | false =>
        refine ⟨r',fun ds hds=>?_,fun h=>(by simp at h),?_⟩
        ·have:=g1 ds hds
         rw [hu] at hds;injection hds with hds;subst hds
         simp only [keyVal,cond_false] at this ⊢
         simp only [Instr.findNow,Instr.sameNow,hm,if_true,hab]
         have hn:∀ (l:List MapEntry) (L:List (List Int×V)) (i:Nat),l.map (·.key)=L.map (fun p=>keyVal (false,[k0]) p.1)→(∀ p∈L,p.1.length=1) → ∃ r,Instr.findNow (.int k0) (.int k0 a) l i=some r:=by
          intro l
          induction l with
          | nil=>intro L i _ _;exact ⟨none,rfl⟩
          | cons m l ih =>
            intro L i hk hlen
            cases L with
            | nil=>simp at hk
            | cons p L =>
              simp only [List.map_cons,List.cons.injEq] at hk
              obtain ⟨r,hr⟩:=ih L (i + 1) hk.2 fun p hp=>hlen p (List.mem_cons_of_mem _ hp)
              have hpl:=hlen p (by simp)
              match hpp:p.1,hpl with
              | [c],_ =>
                have hk1:=hk.1
                rw [hpp] at hk1;simp only [keyVal,cond_false] at hk1
                simp only [Instr.findNow,Instr.sameNow,hk1,if_true,hr]
                cases (a==c)<;>exact ⟨_,rfl⟩
         obtain ⟨r,hr⟩:=hn l L (i + 1) h1.2 (fun p hp=>by simpa using h3 p (List.mem_cons_of_mem _ hp))
         rw [hr] at this ⊢
         exact this
        ·simp only [findL,e,hab,cond_false];exact g3
   ·have hq':q.length=ks.length:=hq
    have hp':p.1.length=ks.length:=hp
    have hz:(List.zipWith Value.int ks q).length=d.size:=by simp [hq',hl]
    have heq:=(run_equal_flat (E:=E) hd hf (eqNums_zip hq' hp') hz w).1
    have hk:=h1.1
    simp only [keyVal,cond_true] at hk
    have hstr:∀ ds,P.underlying t=some ds → ∃ fs,ds=.struct fs:=by
     intro ds hds
     obtain ⟨i,ds',z,e1,e2,e3,e4,rfl⟩:=tdOf_some hd
     rw [e2] at hds;injection hds with hds;subst hds
     simp only [flatOf,e2] at hf
     cases ds'<;>simp only [Bool.false_eq_true] at hf
     exact ⟨_,rfl⟩
    have hnow:∀ ds,P.underlying t=some ds→Instr.findNow ds (keyVal (true,ks) q) (m::l) i=none:=by
     intro ds hds
     obtain ⟨fs,rfl⟩:=hstr ds hds
     simp [keyVal,Instr.findNow,Instr.sameNow]
    cases hab:eqIs q p.1 with
    | true =>
      rw [hab] at heq
      have ha:(Instr.findAsking t (keyVal (true,ks) q) (m::l) i).run P w=.ok (some (i,m.val)) w:=by
       simp only [keyVal,cond_true,Instr.findAsking,Sem.run_bind,hk,heq,Result.andThen_ok,if_true,Sem.run_pure]
      refine ⟨some (i,m.val),fun ds hds=>?_,fun _=>ha,?_⟩
      ·rw [hnow ds hds];exact ha
      ·simp only [findL,hab,cond_true];exact ⟨rfl,h2.1⟩
    | false =>
      rw [hab] at heq
      have ha:(Instr.findAsking t (keyVal (true,ks) q) (m::l) i).run P w=.ok r' w:=by
       have:=g2 rfl
       simp only [keyVal,cond_true] at this ⊢
       simp only [Instr.findAsking,Sem.run_bind,hk,heq,Result.andThen_ok,Bool.false_eq_true,if_false]
       exact this
      refine ⟨r',fun ds hds=>?_,fun _=>ha,?_⟩
      ·rw [hnow ds hds];exact ha
      ·simp only [findL,hab,cond_false];exact g3
theorem findKey_abs {E:Env} {t:TypeId} {sg:KS} (hs:sgT P t=some sg) {q:List Int} (hq:q.length=sg.2.length) (w:World) {L:List (List Int×V)} {l:List MapEntry}
 (h1:l.map (·.key)=L.map (fun p=>keyVal sg p.1)) (h2:RepL E (L.map (·.2)) (l.map (·.val))) (h3:∀ p∈L,p.1.length=sg.2.length) :
 (∃ r',(Instr.findKey t (keyVal sg q) l).run P w=.ok r' w∧FoundAs E (findL q L 0) r') ∧ ∀ em n,(Instr.checkKey em (n + 2) t (keyVal sg q)).run P w=.ok () w:=by
 obtain ⟨r',g1,g2,g3⟩:=find_abs hs hq w L l 0 h1 h2 h3
 constructor
 ·refine ⟨r',?_,g3⟩
  have hu:∃ ds,P.underlying t=some ds:=by
   rcases sgT_cases hs with ⟨k0,hu,rfl⟩|⟨d,ks,hd,hf,rfl,hl⟩
   ·exact ⟨_,hu⟩
   ·obtain ⟨i,ds',z,e1,e2,e3,e4,rfl⟩:=tdOf_some hd
    exact ⟨_,e2⟩
  obtain ⟨ds,hu⟩:=hu
  have:=g1 ds hu
  simp only [Instr.findKey,Sem.run_bind,run_underlying hu,Result.andThen_ok]
  cases hn:Instr.findNow ds (keyVal sg q) l 0 with
  | some r=>rw [hn] at this;simp only at this;simp [this]
  | none=>rw [hn] at this;exact this
 ·intro em n
  rcases sgT_cases hs with ⟨k0,hu,rfl⟩|⟨d,ks,hd,hf,rfl,hl⟩
  ·exact checkKey_int hu em (n + 1) _ w
  ·have hq':q.length=ks.length:=hq
   simp only [keyVal,cond_true]
   exact run_checkKey_flat hd hf (by simp [hq',hl]) em n w
end
end Go.Ab
namespace Go.Ab
open Go Go.RowKit
section
variable {P:Program} {G:Glob} {w0:World} {M0:Nat→Nat→Prop} {E:Env} {a:Act} {fr:List V} {o:Oper} {nid:Nat} {v:V} {H':List AB}
theorem mapT_some {t kt et:TypeId} (h:mapT P t=some (kt,et)):P.underlying t=some (.map kt et):=by
 unfold mapT at h
 split at h
 ·rename_i d hd
  split at h
  ·rename_i k e hsh
   injection h with h;injection h with h5 h6;subst h5;subst h6
   obtain ⟨i,ds,z,h1,h2,h3,h4,rfl⟩:=tdOf_some hd
   simp only at hsh
   cases ds<;>simp only [shOf] at hsh<;>first|(injection hsh with q1 q2;subst q1;subst q2;exact h2)|(cases hsh;done)|(split at hsh<;>cases hsh;done)
  ·cases h
 ·cases h
theorem ok_makeMap {t:TypeId} {sg:KS} (ho:o.op=.makeMap t none) (hE:EOK G w0 M0 E) (hn:NewAt E.H nid (.map false sg noF) H'):Comes P G w0 M0 E a o (.mp nid) H':=by
 obtain ⟨h1,h2⟩:=hE.allocOwn (.map #[] 0) hn (.bool false) (fun _=>True) (by simp)
  (fun hle=>⟨E.w.heap.size,#[],0,[],by simp [Env.allocOwn],alloc_at _ _,by simp,by simp [RepL],by simp,rfl⟩)
 refine ⟨.map (some E.w.heap.size),_,.inl ?_,rfl,h2,h1,?_⟩
 ·simp [execOp,ho,Instr.makeMap,Env.allocOwn]
 ·simp only [Rep]
  exact ⟨E.w.heap.size,by simp [Env.allocOwn],rfl⟩
theorem sameBits_key (sg:KS) (q:List Int) (hl:sg.1=true ∨ ∃ k n,sg.2=[k]∧q=[n]):Instr.sameBits 10000 (keyVal sg q) (keyVal sg q)=true:=by
 obtain ⟨b,ks⟩:=sg
 cases b with
 | false =>
   rcases hl with hl|⟨k,n,h1,h2⟩
   ·cases hl
   ·simp only at h1;subst h1;subst h2
    simp [keyVal,Instr.sameBits]
 | true =>
   simp only [keyVal,cond_true,Instr.sameBits,beq_self_eq_true,Bool.true_and,List.all_eq_true]
   rintro ⟨x,y⟩ hxy
   have h1:x=y:=by
    obtain ⟨i,hi⟩:=List.getElem?_of_mem hxy
    rw [List.getElem?_zip_eq_some] at hi
    have:=hi.1.symm.trans hi.2
    injection this
   subst h1
   have hx:x∈List.zipWith Value.int ks q:=(List.of_mem_zip hxy).1
   obtain ⟨i,hi⟩:=List.getElem?_of_mem hx
   rw [List.getElem?_zipWith] at hi
   split at hi
   ·injection hi with hi;subst hi;simp [Instr.sameBits]
   ·cases hi
theorem findL_get {q:List Int}:∀ {L:List (List Int×V)} {i j:Nat} {v:V},findL q L i=some (j,v) → ∃ k p,j=i + k∧L[k]?=some p∧p.1=q∧p.2=v ∧ ∀ x q',lookL (L.set k (q,x)) q'=updF (lookL L) q x q'
 | [],i,j,v,h=>by simp [findL] at h
 | p::L,i,j,v,h=>by
   simp only [findL] at h
   cases he:eqIs q p.1 with
   | true =>
     rw [he] at h;simp only [cond_true] at h;injection h with h;injection h with h1 h2;subst h1;subst h2
     have hq:=eqIs_iff.1 he
     refine ⟨0,p,rfl,rfl,hq.symm,rfl,fun x q'=>?_⟩
     simp only [List.set_cons_zero,lookL,updF]
     cases hb:eqIs q' q with
     | true=>rfl
     | false=>rw [← hq,hb];rfl
   | false =>
     rw [he] at h;simp only [cond_false] at h
     obtain ⟨k,p',h1,h2,h3,h4,h5⟩:=findL_get h
     refine ⟨k + 1,p',by omega,by simpa using h2,h3,h4,fun x q'=>?_⟩
     simp only [List.set_cons_succ,lookL,h5,updF]
     cases hb:eqIs q' q with
     | true =>
       have:=eqIs_iff.1 hb;subst this
       rw [he];rfl
     | false=>simp
theorem findL_none {q:List Int}:∀ {L:List (List Int×V)} {i:Nat},findL q L i=none → ∀ x q',lookL (L++[(q,x)]) q'=updF (lookL L) q x q'
 | [],i,h,x,q'=>by simp [lookL,updF]
 | p::L,i,h,x,q'=>by
   simp only [findL] at h
   cases he:eqIs q p.1 with
   | true=>rw [he] at h;simp at h
   | false =>
     rw [he] at h;simp only [cond_false] at h
     simp only [List.cons_append,lookL,findL_none h,updF]
     cases hb:eqIs q' q with
     | true =>
       have:=eqIs_iff.1 hb;subst this
       rw [he];rfl
     | false=>simp
theorem RepL.set' {E:Env} {vs:List V} {xs:List Value} (n:Nat) {v:V} {x:Value} (h:RepL E vs xs) (hv:Rep E v x):RepL E (vs.set n v) (xs.set n x):=h.set n hv
theorem ok_insert {t kt et:TypeId} {m k x:Operand} (ho:o.op=.insert t m k x∨o.op=.mapUpdate t m k x) (hE:EOK G w0 M0 E) (hfr:RepL E fr a.tmps.toList) (ht:P.underlying t=some (.map kt et)) {i:Nat} {own:Bool} {sg:KS} {f:List Int→Option V} (hm:evalO G fr m=.mp i) (hi:E.H[i]?=some (.map own sg f))
 (hs:sgT P kt=some sg) {q:List Int} (hq:keyI sg (evalO G fr k)=some q):Comes P G w0 M0 E a o undefV (E.H.set i (.map (insV E.H own (evalO G fr x)).1 sg (updF f q (insV E.H own (evalO G fr x)).2))):=by
 have hmr:=evalO_sound hE hfr m
 have hkr:=evalO_sound hE hfr k
 have hxr:=evalO_sound hE hfr x
 rw [hm] at hmr
 simp only [Rep] at hmr
 obtain ⟨b,hb,hme⟩:=hmr
 obtain ⟨b',C,clock,L,q1,q2,q3,q4,q5,rfl⟩:=hE.blk i _ hi
 rw [hb] at q1;injection q1 with q1;subst q1
 obtain ⟨hkx,hql⟩:=keyI_sound hs hq hkr
 obtain ⟨own',x',hv',hx',hown⟩:∃ own' x',insV E.H own (evalO G fr x)=(own',x')∧Rep (bif own' then E else E.bare) x' (a.eval x)∧(own'=false→own=false):=by
  unfold insV
  cases hfz:fz E.H (evalO G fr x) with
  | some x' =>
    refine ⟨own,x',rfl,?_,id⟩
    have:=fz_sound hE _ hxr hfz
    cases own
    ·exact this
    ·exact Rep.mono _ E.bare_le this
  | none=>exact ⟨true,evalO G fr x,rfl,hxr,fun h=>by cases h⟩
 rw [hv']
 simp only
 have q4':RepL (bif own' then E else E.bare) (L.map (·.2)) (C.toList.map (·.val)):=by
  cases own' with
  | false=>rw [hown rfl] at q4;exact q4
  | true =>
    cases own with
    | true=>exact q4
    | false=>exact RepL.mono _ E.bare_le q4
 have q4E:RepL E (L.map (·.2)) (C.toList.map (·.val)):=by
  cases own with
  | true=>exact q4
  | false=>exact RepL.mono _ E.bare_le q4
 obtain ⟨⟨r',f1,f2⟩,f3⟩:=findKey_abs (l:=C.toList) hs hql E.w q3 q4E q5
 rw [← hkx] at f1 f3
 have hbl:b < E.w.heap.size:=(hE.phi i 0 b hb).2.2.2
 obtain ⟨C',clk',L',hrun,g3,g4,g5,g6⟩:∃ C' clk' L',(Instr.mapUpdate t (.map (some b)) (a.eval k) (a.eval x)).run P E.w=.ok () { E.w with heap:=E.w.heap.setIfInBounds b (.map C' clk') } ∧
  C'.toList.map (·.key)=L'.map (fun p=>keyVal sg p.1)∧RepL (bif own' then E else E.bare) (L'.map (·.2)) (C'.toList.map (·.val))∧(∀ p∈L',p.1.length=sg.2.length)∧updF (lookL L) q x'=lookL L':=by
  have hc:=f3 false 9998
  have hgo:(getObj b).run P E.w=.ok (.map C clock) E.w:=by simp [getObj,Sem.run,q2]
  have hso:∀ C' clk',(setObj b (.map C' clk')).run P E.w=.ok () { E.w with heap:=E.w.heap.setIfInBounds b (.map C' clk') }:=fun C' clk'=>by simp [setObj,Sem.run,q2]
  cases hfl:findL q L 0 with
  | none =>
    rw [hfl] at f2
    have hr':r'=none:=by cases r' with|none=>rfl|some p=>exact f2.elim
    subst hr'
    refine ⟨C.push { key:=a.eval k,val:=a.eval x,born:=clock },clock + 1,L++[(q,x')],?_,?_,?_,?_,?_⟩
    ·simp only [Instr.mapUpdate,Sem.run_bind,run_underlying ht,Result.andThen_ok,hgo,hc,f1,hso]
    ·simp [q3,hkx]
    ·simp only [Array.toList_push,List.map_append,List.map_cons,List.map_nil]
     exact q4'.append (RepL.cons hx' (RepL.nil _))
    ·intro p hp
     rcases List.mem_append.1 hp with hp|hp
     ·exact q5 p hp
     ·rw [List.mem_singleton.1 hp];exact hql
    ·funext q';exact (findL_none hfl x' q').symm
  | some jv =>
    obtain ⟨j,v⟩:=jv
    rw [hfl] at f2
    cases r' with
    | none=>exact f2.elim
    | some p' =>
      obtain ⟨j',y⟩:=p'
      obtain ⟨rfl,_⟩:=f2
      obtain ⟨kk,p,e1,e2,e3,e4,e5⟩:=findL_get hfl
      have hj:j=kk:=by omega
      subst hj
      obtain ⟨en,hen,hkey⟩:∃ en,C.toList[j]?=some en∧en.key=a.eval k:=by
       have hl:C.toList.length=L.length:=by simpa using congrArg List.length q3
       have hjl:j < C.toList.length:=by rw [hl];exact (List.getElem?_eq_some_iff.1 e2).1
       refine ⟨C.toList[j],List.getElem?_eq_getElem hjl,?_⟩
       have:=congrArg (fun l=>l[j]?) q3
       simp only [List.getElem?_map,List.getElem?_eq_getElem hjl,e2,Option.map_some] at this
       injection this with this
       rw [this,hkx,e3]
      have hsb:Instr.sameBits 10000 (a.eval k) (a.eval k)=true:=by
       rw [hkx]
       refine sameBits_key sg q ?_
       rcases sgT_cases hs with ⟨k0,_,rfl⟩|⟨d,ks,_,_,rfl,_⟩
       ·match q,hql with
        | [n],_=>exact .inr ⟨k0,n,rfl,rfl⟩
       ·exact .inl rfl
      have hks:(((C[j]?).map (·.key)).getD (a.eval k))=a.eval k:=by
       rw [← Array.getElem?_toList,hen];simpa using hkey
      refine ⟨C.modify j fun e=>{ e with key:=a.eval k,val:=a.eval x },clock,L.set j (q,x'),?_,?_,?_,?_,?_⟩
      ·simp only [Instr.mapUpdate,Sem.run_bind,run_underlying ht,Result.andThen_ok,hgo,hc,f1,hks,Instr.keyThatStays,hsb,if_true,Sem.run_pure,hso]
      ·apply List.ext_getElem?
       intro n
       simp only [List.getElem?_map,Array.getElem?_toList,Array.getElem?_modify,List.getElem?_set]
       have hqn:=congrArg (fun l=>l[n]?) q3
       simp only [List.getElem?_map,Array.getElem?_toList] at hqn
       by_cases hn:j=n
       ·subst hn
        have hlt:=(List.getElem?_eq_some_iff.1 e2).1
        rw [← Array.getElem?_toList,hen] at *
        simp [hlt,hkx]
       ·simp [hn,hqn]
      ·have:=RepL.set' j q4' hx'
       have ea:(L.set j (q,x')).map (·.2)=(L.map (·.2)).set j x':=by rw [List.map_set]
       have eb:(C.modify j fun e=>{ e with key:=a.eval k,val:=a.eval x }).toList.map (·.val)=(C.toList.map (·.val)).set j (a.eval x):=by
        apply List.ext_getElem?
        intro n
        simp only [List.getElem?_map,Array.getElem?_toList,Array.getElem?_modify,List.getElem?_set]
        by_cases hn:j=n
        ·subst hn
         have hjl:=(List.getElem?_eq_some_iff.1 hen).1
         rw [← Array.getElem?_toList,hen]
         simp at hjl
         simp [hjl]
        ·simp [hn]
       rw [ea,eb];exact this
      ·intro p hp
       rcases List.mem_or_eq_of_mem_set hp with hp|rfl
       ·exact q5 p hp
       ·exact hql
      ·funext q';exact (e5 x' q').symm
 let w':World:={ E.w with heap:=E.w.heap.setIfInBounds b (.map C' clk') }
 have hw'b:w'.heap[b]?=some (.map C' clk'):=by
  show (E.w.heap.setIfInBounds b _)[b]?=_
  rw [Array.getElem?_setIfInBounds_self];simp [hbl]
 have hoth:∀ k,k≠b→w'.heap[k]?=E.w.heap[k]?:=fun k hk=>by
  show (E.w.heap.setIfInBounds b _)[k]?=_
  rw [Array.getElem?_setIfInBounds_ne (Ne.symm hk)]
 obtain ⟨g1,g2⟩:=hE.write w' i b _ (.map own' sg (updF (lookL L) q x')) hb hi (by simp [w']) rfl rfl rfl hoth
  (fun o u hs=>by
    have h1:=hs.1
    unfold World.cell? at h1
    simp [q2] at h1)
  (fun _ _ _ _ e=>by cases e) (by simp) (by simp)
  (fun hle=>⟨b,C',clk',L',hb,hw'b,g3,by
    cases own'
    ·exact RepL.mono _ hle.bare g4
    ·exact RepL.mono _ hle g4,g5,g6⟩)
 refine ⟨undef,{ E with w:=w',H:=E.H.set i (.map own' sg (updF (lookL L) q x')) },.inr ⟨?_,rfl⟩,rfl,g2,g1,Rep.undef _⟩
 rcases ho with ho|ho<;>simp only [execOp,ho,hme,Sem.run_bind,hrun,Result.andThen_ok,Sem.run_pure]<;>rfl
theorem Rep.ofCellP (E:Env) (v:Value) (h:v.oneCell'=true):Rep E (ofCellP v) v:=by
 unfold Ab.ofCellP
 split
 ·simp only [Rep];refine ⟨none,0,0,rfl,rfl,Nat.le_refl _,by simp [maxLen],?_,?_,?_⟩<;>simp
 ·simp [Rep,h]
theorem RepL.ofCellsP (E:Env):∀ (vs:List Value),(vs.all Value.oneCell')=true→RepL E (vs.map ofCellP) vs
 | [],_=>RepL.nil E
 | v::vs,h=>by
   simp at h
   exact RepL.cons (Rep.ofCellP E v h.1) (RepL.ofCellsP E vs (by simpa using h.2))
theorem zeroT_sound {t:TypeId} {z:V} (hz:zeroT P t=some z) (w:World):∃ x,(zeroValue t).run P w=.ok x w∧Rep E z x:=by
 unfold zeroT at hz
 split at hz
 ·rename_i i h1
  split at hz
  ·rename_i cs h2
   split at hz
   ·rename_i h3
    injection hz with hz;subst hz
    refine ⟨.agg cs,by simp [zeroValue,typeInfo,h1,h2],?_⟩
    simp only [Rep]
    exact ⟨cs.toList,by simp,RepL.ofCellsP E _ h3⟩
   ·cases hz
  ·rename_i v h2 h3
   split at hz
   ·rename_i h4
    injection hz with hz;subst hz
    exact ⟨v,by simp [zeroValue,typeInfo,h1,h3],Rep.ofCellP E v h4⟩
   ·cases hz
  ·cases hz
 ·cases hz
theorem ok_lookup {t kt et:TypeId} {m k:Operand} {ok:Bool} (ho:o.op=.lookup t m k ok) (hE:EOK G w0 M0 E) (hfr:RepL E fr a.tmps.toList) (ht:P.underlying t=some (.map kt et)) {i:Nat} {own:Bool} {sg:KS} {f:List Int→Option V} (hm:evalO G fr m=.mp i) (hi:E.H[i]?=some (.map own sg f))
 (hs:sgT P kt=some sg) {q:List Int} (hq:keyI sg (evalO G fr k)=some q) {z:V} (hz:zeroT P et=some z):Comes P G w0 M0 E a o (lookR ok z (f q)) E.H:=by
 have hmr:=evalO_sound hE hfr m
 have hkr:=evalO_sound hE hfr k
 rw [hm] at hmr
 simp only [Rep] at hmr
 obtain ⟨b,hb,hme⟩:=hmr
 obtain ⟨b',C,clock,L,q1,q2,q3,q4,q5,rfl⟩:=hE.blk i _ hi
 rw [hb] at q1;injection q1 with q1;subst q1
 obtain ⟨hkx,hql⟩:=keyI_sound hs hq hkr
 have q4E:RepL E (L.map (·.2)) (C.toList.map (·.val)):=by
  cases own with
  | true=>exact q4
  | false=>exact RepL.mono _ E.bare_le q4
 obtain ⟨⟨r',f1,f2⟩,f3⟩:=findKey_abs (l:=C.toList) hs hql E.w q3 q4E q5
 rw [← hkx] at f1 f3
 rw [findL_look q L 0]
 have hgo:(getObj b).run P E.w=.ok (.map C clock) E.w:=by simp [getObj,Sem.run,q2]
 have hc:=f3 C.isEmpty 9998
 obtain ⟨zx,z1,z2⟩:=zeroT_sound (P:=P) (E:=E) hz E.w
 cases hfl:findL q L 0 with
 | none =>
   rw [hfl] at f2
   have hr':r'=none:=by cases r' with|none=>rfl|some p=>exact f2.elim
   subst hr'
   cases ok with
   | true =>
     refine Comes.pure hE (x:=.tuple #[zx,.bool false]) ?_ ?_
     ·simp only [execOp,ho,hme,Instr.lookup,Sem.run_bind,run_underlying ht,Result.andThen_ok,hgo,Sem.run_pure,hc,f1,z1]
      rfl
     ·simp only [Option.map_none,lookR,cond_true,Rep]
      exact ⟨[zx,.bool false],rfl,RepL.cons z2 (RepL.cons (by simp [Rep,Value.oneCell']) (RepL.nil _))⟩
   | false =>
     refine Comes.pure hE (x:=zx) ?_ z2
     simp only [execOp,ho,hme,Instr.lookup,Sem.run_bind,run_underlying ht,Result.andThen_ok,hgo,Sem.run_pure,hc,f1,z1]
     rfl
 | some p =>
   obtain ⟨j,v⟩:=p
   rw [hfl] at f2
   cases r' with
   | none=>exact f2.elim
   | some p' =>
     obtain ⟨j',x⟩:=p'
     obtain ⟨_,hx⟩:=f2
     cases ok with
     | true =>
       refine Comes.pure hE (x:=.tuple #[x,.bool true]) ?_ ?_
       ·simp only [execOp,ho,hme,Instr.lookup,Sem.run_bind,run_underlying ht,Result.andThen_ok,hgo,Sem.run_pure,hc,f1]
        rfl
       ·simp only [Option.map_some,lookR,cond_true,Rep]
        exact ⟨[x,.bool true],rfl,RepL.cons hx (RepL.cons (by simp [Rep,Value.oneCell']) (RepL.nil _))⟩
     | false =>
       refine Comes.pure hE (x:=x) ?_ hx
       simp only [execOp,ho,hme,Instr.lookup,Sem.run_bind,run_underlying ht,Result.andThen_ok,hgo,Sem.run_pure,hc,f1]
       rfl
theorem insR_some {H:List AB} {kt:TypeId} {m k x:V} {s:List (Nat×AB)} (h:insR P H kt m k x=some s):∃ i own sg f q,m=.mp i∧H[i]?=some (.map own sg f)∧sgT P kt=some sg∧keyI sg k=some q∧s=[(i,.map (insV H own x).1 sg (updF f q (insV H own x).2))]:=by
 cases m<;>simp only [insR] at h<;>try (cases h;done)
 rename_i i
 split at h
 ·rename_i own sg f hi
  split at h
  ·rename_i hk
   split at h
   ·rename_i q hf;injection h with h;exact ⟨i,own,sg,f,q,rfl,hi,hk,hf,h.symm⟩
   ·cases h
  ·cases h
 ·cases h
theorem lkR_some {H:List AB} {kt et:TypeId} {ok:Bool} {m k v:V} (h:lkR P H kt et ok m k=some v):∃ i own sg f q z,m=.mp i∧H[i]?=some (.map own sg f)∧sgT P kt=some sg∧keyI sg k=some q∧zeroT P et=some z∧v=lookR ok z (f q):=by
 cases m<;>simp only [lkR] at h<;>try (cases h;done)
 rename_i i
 split at h
 ·rename_i own sg f hi
  split at h
  ·rename_i hk
   simp only [Option.bind_eq_some_iff,Option.map_eq_some_iff] at h
   obtain ⟨q,h1,z,h2,rfl⟩:=h
   exact ⟨i,own,sg,f,q,z,rfl,hi,hk,h1,h2,rfl⟩
  ·cases h
 ·cases h
end
end Go.Ab
namespace Go.Ab
open Go Go.RowKit
theorem ofCell_nil {c:Value} (h:ofCell c=.sl [] .nil):c=.slice none 0 0:=by
 unfold ofCell at h
 split at h
 ·rfl
 ·cases h
theorem rep_nils {E:Env}:∀ (n:Nat),RepL E (List.replicate n (.sl [] .plain)) (List.replicate n (.slice none 0 0))
 | 0=>RepL.nil E
 | n + 1=>by
   rw [List.replicate_succ,List.replicate_succ]
   refine RepL.cons ?_ (rep_nils n)
   simp only [Rep]
   exact ⟨none,0,0,rfl,rfl,Nat.le_refl _,by simp [maxLen],(fun h=>by cases h),(fun h=>by cases h),fun h=>absurd rfl h⟩
theorem flat_nils:∀ (n:Nat),flatV (List.replicate n (V.sl [] .plain))=List.replicate n (.sl [] .plain)
 | 0=>rfl
 | n + 1=>by
   have:=flat_nils n
   simp only [flatV] at this ⊢
   rw [List.replicate_succ,List.flatMap_cons,this]
   rfl
section
variable {P:Program} {G:Glob} {w0:World} {M0:Nat→Nat→Prop} {E:Env} {a:Act} {fr:List V} {o:Oper} {nid:Nat} {H':List AB}
theorem ok_makeN {t e:TypeId} {d de:TD} {by_:Nat} {x y:Operand} {kl kc:IntKind} {n:Nat} (ho:o.op=.makeSlice t x y) (hE:EOK G w0 M0 E) (hfr:RepL E fr a.tmps.toList)
 (hx:evalO G fr x=.val (.int kl n)) (hy:evalO G fr y=.val (.int kc n)) (ht:tdOf P t=some d) (hsh:d.sh=.slice e 1 by_) (hde:tdOf P e=some de) (hz:de.zero=[.sl [] .nil]) (hb:by_≤128) (hn:n≤1000000)
 (hN:NewAt E.H nid (.row 1 (List.replicate n (.sl [] .plain)) 0 false) H'):Comes P G w0 M0 E a o (.row nid 0) H':=by
 have h1:=evalO_sound hE hfr x
 have h2:=evalO_sound hE hfr y
 rw [hx] at h1
 rw [hy] at h2
 simp only [Rep] at h1 h2
 obtain ⟨i,ds,z,g1,g2,g3,g4,hdd⟩:=tdOf_some ht
 rw [hdd] at hsh
 obtain ⟨ie,rfl,hie,hs1,rfl⟩:=shOf_slice hsh
 obtain ⟨ie2,ds2,ze,j1,j2,j3,j4,rfl⟩:=tdOf_some hde
 rw [hie] at j1;injection j1 with j1;subst j1
 obtain ⟨c0,hc0,hc1⟩:∃ c0,ze.cells.toList=[c0]∧ofCell c0=.sl [] .nil:=by
  simp only at hz
  cases hze:ze.cells.toList with
  | nil=>rw [hze] at hz;simp at hz
  | cons c r =>
    rw [hze] at hz
    simp only [List.map_cons,List.cons.injEq,List.map_eq_nil_iff] at hz
    exact ⟨c,by rw [hz.2],hz.1⟩
 obtain rfl:=ofCell_nil hc1
 have hze:ze.cells = #[.slice none 0 0]:=by rw [← Array.toArray_toList (xs:=ze.cells),hc0]
 have hbn:(ie.bytes:Int) * (n:Int)≤281474976710656:=by
  have h1:ie.bytes * n≤128 * 1000000:=Nat.mul_le_mul hb hn
  have h2:((ie.bytes * n:Nat):Int)≤281474976710656:=by omega
  rwa [Int.natCast_mul] at h2
 have hrun:=run_make (P:=P) E.w t e ie ze g2 hie j3 kl kc n n (by omega) (Int.le_refl _) hbn (by omega)
 simp only [Int.toNat_natCast] at hrun
 have hC:(madeCells ze.cells (n * ie.size)).toList=List.replicate n (.slice none 0 0):=by
  rw [← hs1,Nat.mul_one,hze]
  apply List.ext_getElem
  ·simp [size_madeCells]
  ·intro i h1 h2
   simp [madeCells,Nat.mod_one]
 obtain ⟨e1,e2⟩:=hE.allocOwn (.cells (madeCells ze.cells (n * ie.size)) e) (nid:=nid) (ab:=.row 1 (List.replicate n (.sl [] .plain)) 0 false) (H':=H') hN (.slice (some ⟨E.w.heap.size,0,none⟩) n n) (fun _=>True) (by simp) (fun hle =>
  ⟨some ⟨E.w.heap.size,0,none⟩,n,n,by simp [Env.allocOwn],by simp,Nat.le_refl _,by simp [maxLen];omega,⟨fun u hu=>by rw [List.eq_of_mem_replicate hu];rfl,fun u hu=>by simp [Env.allocOwn];omega⟩,.inr ⟨E.w.heap.size,_,e,by simp [Env.allocOwn],rfl,alloc_at _ _,by rw [size_madeCells,hs1],by
    rw [flat_nils,hC,List.take_of_length_le (by simp)];exact rep_nils n,fun o _=>.inr ⟨rfl,trivial⟩,fun o _=>⟨fun _=>rfl,fun _=>.inr ⟨rfl,trivial⟩⟩⟩⟩)
 refine ⟨.slice (some ⟨E.w.heap.size,0,none⟩) n n,_,.inl ?_,rfl,e2,e1,?_⟩
 ·simp [execOp,ho,h1.1,h2.1,hrun,Env.allocOwn]
 ·simp only [Rep]
  refine ⟨⟨_,_,_,rfl⟩,?_⟩
  have:(Env.allocOwn E (.cells (madeCells ze.cells (n * ie.size)) e) nid H' (.slice (some ⟨E.w.heap.size,0,none⟩) n n) (fun _=>True)).H[nid]?=some (.row 1 (List.replicate n (.sl [] .plain)) 0 false):=hN.is
  rw [this]
  exact ⟨Nat.le_refl _,fun _=>by simp [Env.allocOwn]⟩
theorem make_sound {t:TypeId} {x y:Operand} (ho:o.op=.makeSlice t x y) (hE:EOK G w0 M0 E) (hfr:RepL E fr a.tmps.toList) {v:V} {u:Upd} (h:condR (mkSlE P (tdOf P t) nid (evalO G fr x) (evalO G fr y))=some (v,u)) (hA:After E.H nid u H'):Comes P G w0 M0 E a o v H':=by
 replace h:=condR_some h
 unfold mkSlE at h
 split at h
 ·rename_i s ag e esz by_ z f hd
  unfold mkSl2 at h
  split at h
  ·rename_i s2 a2 sh2 f2 _ _ k1 n k2 m hde hx hy
   simp only [Option.some.injEq,Prod.mk.injEq,Bool.and_eq_true,decide_eq_true_eq] at h
   obtain ⟨⟨c1,rfl,c2,c3⟩,rfl,rfl⟩:=h
   obtain ⟨n,rfl⟩:=Int.eq_ofNat_of_zero_le c2
   exact ok_makeN ho hE hfr hx hy hd rfl hde rfl c1 (by omega) hA
  ·cases h
 ·cases h
end
end Go.Ab
namespace Go.Ab
open Go Go.RowKit
section
variable {P:Program} {G:Glob} {w0:World} {M0:Nat→Nat→Prop} {E:Env} {a:Act} {fr:List V} {o:Oper} {nid:Nat} {v:V} {u:Upd} {H':List AB}
theorem lenV_sound {c:Call} {x:Operand} {t:TypeId} (ho:o.op=.call c) (hc:c.callee=.builtin .len) (ha:c.args.toList=[x]) (ht:c.argTypes.toList=[t]) (hE:EOK G w0 M0 E) (hfr:RepL E fr a.tmps.toList) {d:TD} (hd:tdOf P t=some d)
 (h:lenV E.H d.sh (evalO G fr x)=some (v,u)):u=.no∧Comes P G w0 M0 E a o v E.H:=by
 obtain ⟨i,ds,z,h1,h2,h3,h4,rfl⟩:=tdOf_some hd
 have hr:=evalO_sound hE hfr x
 generalize evalO G fr x=y at hr h
 cases y<;>simp only [lenV] at h<;>try (cases h;done)
 ·rename_i w
  cases w<;>simp only [lenV] at h<;>try (cases h;done)
  rename_i s
  split at h
  ·rename_i hsh
   injection h with h;injection h with h5 h6;subst h5;subst h6
   simp only [Rep] at hr
   have:ds=.string:=by cases ds<;>simp only [shOf] at hsh<;>first|rfl|(cases hsh;done)|(split at hsh<;>cases hsh;done)
   subst this
   refine ⟨rfl,Comes.pure hE (x:=goInt s.size) ?_ (goInt_rep _)⟩
   have h1:c.args = #[x]:=by rw [← Array.toArray_toList (xs:=c.args),ha]
   have h7:c.argTypes = #[t]:=by rw [← Array.toArray_toList (xs:=c.argTypes),ht]
   simp [execOp,ho,resolve,hc,invoke,builtin,Builtin.len_,h1,h7,run_underlying h2,hr.1]
  ·cases h
 ·split at h
  ·rename_i e esz by_ hsh
   obtain ⟨ie,rfl,hie,rfl,rfl⟩:=shOf_slice hsh
   injection h with h;injection h with h5 h6;subst h5;subst h6
   simp only [Rep] at hr
   obtain ⟨ad,n,cp,q1,q2,_⟩:=hr
   exact ⟨rfl,ok_len ho hc ha ht hE hfr h2 ⟨ad,cp,by rw [q1,q2]⟩⟩
  ·cases h
 ·split at h
  ·rename_i e esz by_ sz es v' imm hsh hH
   obtain ⟨ie,rfl,hie,rfl,rfl⟩:=shOf_slice hsh
   split at h
   ·rename_i hv;subst hv
    injection h with h;injection h with h5 h6;subst h5;subst h6
    simp only [Rep,hH] at hr
    obtain ⟨_,_,hr⟩:=hr
    have hr:=hr trivial
    obtain ⟨a',n,c',q1,q2,q3⟩:=hE.blk _ _ hH
    exact ⟨rfl,ok_len ho hc ha ht hE hfr h2 ⟨a',c',by rw [hr,q1,q2]⟩⟩
   ·cases h
  ·cases h
 ·split at h
  ·rename_i e esz by_ hsh
   obtain ⟨ie,rfl,hie,rfl,rfl⟩:=shOf_slice hsh
   injection h with h;injection h with h5 h6;subst h5;subst h6
   simp only [Rep] at hr
   obtain ⟨b,c',q1,q2,_⟩:=hr
   exact ⟨rfl,ok_len ho hc ha ht hE hfr h2 ⟨_,c',q2⟩⟩
  ·cases h
theorem condR_some' {r:Option (Bool×V×Upd)} {q:V×Upd} (h:condR r=some q):r=some (true,q):=by
 unfold condR at h
 split at h
 ·injection h with h;subst h;rfl
 ·cases h
theorem binV_sound {op:BinOp} {t yt:TypeId} {x y:Operand} (ho:o.op=.binOp op t x y yt) (hE:EOK G w0 M0 E) (hfr:RepL E fr a.tmps.toList) (h:binV P op t (evalO G fr x) (evalO G fr y)=some v):Comes P G w0 M0 E a o v E.H:=by
 unfold binV at h
 split at h
 ·rename_i k m j n hx hy
  split at h
  ·rename_i hkj;exact ok_binI ho hE hfr hx hy hkj h
  ·cases h
 ·rename_i m n hx hy
  split at h
  ·rename_i d hd
   obtain ⟨i,ds,z,h1,h2,h3,h4,rfl⟩:=tdOf_some hd
   split at h
   ·rename_i hsh
    have:ds=.bool:=by
     simp only at hsh
     cases ds<;>simp only [shOf] at hsh<;>first|rfl|(cases hsh;done)|(split at hsh<;>cases hsh;done)
    subst this
    split at h
    ·injection h with h;exact ok_binB ho hE hfr hx hy h2 (.inl ⟨rfl,h.symm⟩)
    ·injection h with h;exact ok_binB ho hE hfr hx hy h2 (.inr ⟨rfl,h.symm⟩)
    ·cases h
   ·cases h
  ·cases h
 ·rename_i xs ys hx hy
  split at h
  ·rename_i d hd
   split at h
   ·rename_i hfl
    split at h
    ·simp only [Option.map_eq_some_iff] at h
     obtain ⟨b,hb,rfl⟩:=h
     exact ok_binS ho hE hfr hx hy hd hfl.1 hfl.2 hb (.inl ⟨rfl,rfl⟩)
    ·simp only [Option.map_eq_some_iff] at h
     obtain ⟨b,hb,rfl⟩:=h
     exact ok_binS ho hE hfr hx hy hd hfl.1 hfl.2 hb (.inr ⟨rfl,rfl⟩)
    ·cases h
   ·cases h
  ·cases h
 ·cases h
theorem eff_sound (hE:EOK G w0 M0 E) (hfr:RepL E fr a.tmps.toList) (h:eff P G fr E.H nid o.op=some (v,u)) (hA:After E.H nid u H'):Comes P G w0 M0 E a o v H':=by
 have hno:∀ {v':V},Comes P G w0 M0 E a o v' E.H→u=.no→v=v'→Comes P G w0 M0 E a o v H':=by
  rintro v' hc rfl rfl
  have:H'=E.H:=hA.no
  rw [this];exact hc
 cases ho:o.op<;>rw [ho] at h<;>simp only [eff] at h<;>try (cases h;done)
 case move x=>injection h with h;injection h with h1 h2;exact hno (ok_move ho hE hfr) h2.symm h1.symm
 case assign x=>injection h with h;injection h with h1 h2;exact hno (ok_assign ho hE hfr) h2.symm h1.symm
 case pick c x y =>
  split at h
  ·rename_i t ht;injection h with h;injection h with h1 h2;exact hno (ok_pick ho hE hfr ht) h2.symm h1.symm
  ·cases h
 case alloc t =>
  simp only [Option.map_eq_some_iff,Prod.mk.injEq] at h
  obtain ⟨d,hd,rfl,rfl⟩:=h
  exact ok_alloc ho hE hd hA
 case box t x =>
  split at h
  ·cases h
  ·cases h
  ·rename_i h1 h2
   injection h with h;injection h with h3 h4;subst h3;subst h4
   exact ok_box ho hE hfr (fun hh=>h1 hh) hA
 case build t ps =>
  simp only [Option.bind_eq_some_iff] at h
  obtain ⟨d,hd,h⟩:=h
  split at h
  ·rename_i fs hsh
   simp only [Option.map_eq_some_iff,Prod.mk.injEq] at h
   obtain ⟨cs,hcs,rfl,rfl⟩:=h
   exact hno (ok_build ho hE hfr hd hsh hcs) rfl rfl
  ·rename_i k esz ea hsh
   simp only [Option.map_eq_some_iff,Prod.mk.injEq] at h
   obtain ⟨cs,hcs,rfl,rfl⟩:=h
   exact hno (ok_buildA ho hE hfr hd hsh hcs) rfl rfl
  ·cases h
 case buildSlice t n ps =>
  simp only [Option.bind_eq_some_iff] at h
  obtain ⟨d,hd,h⟩:=h
  split at h
  ·rename_i e esz by_ hsh
   simp only [Option.bind_eq_some_iff] at h
   obtain ⟨vs,hvs,h⟩:=h
   cases hes:fzL (immL E.H (rowsInL vs)) vs with
   | some es =>
     rw [hes] at h
     have h:=condR_some' h
     simp only [bsR,Option.some.injEq,Prod.mk.injEq] at h
     obtain ⟨hc,rfl,rfl⟩:=h
     simp only [Bool.and_eq_true,decide_eq_true_eq] at hc
     obtain ⟨⟨⟨⟨c1,c2⟩,c3⟩,c4⟩,c5⟩:=hc
     obtain ⟨de,hde⟩:=Option.isSome_iff_exists.1 c5
     obtain ⟨ie,dse,ze,k1,_,k3,_,_⟩:=tdOf_some hde
     have hH:H'=setH E.H (immS E.H (rowsInL vs)):=hA
     rw [setH_immS] at hH
     obtain ⟨E1,q1,q2,q3,q4⟩:=EOK.immL (rowsInL vs) hE
     obtain ⟨x',E',r1,r2,r3,r4,r5⟩:=ok_buildSlice (E:=E1) ho q3 (RepL.mono _ q4 hfr) hd hsh hvs (by rw [q2];exact hes) c1 (fun e he=>by simpa using (List.all_eq_true.1 c2) e he) c3 c4 (by simp [k1,k3])
     exact ⟨x',E',by rw [← q1];exact r1,by rw [r2,q2,hH],q4.trans r3,r4,r5⟩
   | none =>
     rw [hes] at h
     have h:=condR_some' h
     simp only [bsR,Option.some.injEq,Prod.mk.injEq] at h
     obtain ⟨hc,rfl,rfl⟩:=h
     simp only [Bool.and_eq_true,decide_eq_true_eq] at hc
     obtain ⟨⟨⟨⟨c1,c2⟩,c3⟩,c4⟩,c5⟩:=hc
     obtain ⟨de,hde⟩:=Option.isSome_iff_exists.1 c5
     obtain ⟨ie,dse,ze,k1,_,k3,_,_⟩:=tdOf_some hde
     exact ok_buildSliceOwn ho hE hfr hd hsh hvs c1 (fun e he=>(List.all_eq_true.1 c2) e he) c3 c4 (by simp [k1,k3]) hA
  ·cases h
 case load t x =>
  simp only [Option.bind_eq_some_iff,Option.map_eq_some_iff,Prod.mk.injEq] at h
  obtain ⟨d,hd,v',hv,rfl,rfl⟩:=h
  exact hno (ok_load ho hE hfr hd hv) rfl rfl
 case store t p x =>
  simp only [Option.bind_eq_some_iff] at h
  obtain ⟨d,hd,h⟩:=h
  split at h
  ·rename_i hc
   simp only [Option.map_eq_some_iff,Prod.mk.injEq] at h
   obtain ⟨u',hu,rfl,rfl⟩:=h
   exact ok_store ho hE hfr hd hc.1 hc.2 hu hA
  ·cases h
 case nilCheck x =>
  split at h<;>rename_i heq
  ·injection h with h;injection h with h1 h2;exact hno (ok_nilCheck ho hE hfr (.inl ⟨_,_,heq⟩)) h2.symm (by rw [heq];exact h1.symm)
  ·injection h with h;injection h with h1 h2;exact hno (ok_nilCheck ho hE hfr (.inr (.inl ⟨_,heq⟩))) h2.symm (by rw [heq];exact h1.symm)
  ·injection h with h;injection h with h1 h2;exact hno (ok_nilCheck ho hE hfr (.inr (.inr (.inl ⟨_,_,heq⟩)))) h2.symm (by rw [heq];exact h1.symm)
  ·injection h with h;injection h with h1 h2;exact hno (ok_nilCheck ho hE hfr (.inr (.inr (.inr ⟨_,_,_,heq⟩)))) h2.symm (by rw [heq];exact h1.symm)
  ·cases h
 case fieldAddr t x f =>
  simp only [Option.bind_eq_some_iff] at h
  obtain ⟨d,hd,h⟩:=h
  split at h
  ·rename_i fs hsh
   simp only [Option.bind_eq_some_iff] at h
   obtain ⟨fd,hfd,h⟩:=h
   split at h
   ·cases h
   ·rename_i h0
    simp only [Option.map_eq_some_iff,Prod.mk.injEq] at h
    obtain ⟨v',hv,rfl,rfl⟩:=h
    exact hno (ok_fieldAddr ho hE hfr hd hsh hfd h0 hv) rfl rfl
  ·cases h
 case field t x f =>
  simp only [Option.bind_eq_some_iff] at h
  obtain ⟨d,hd,h⟩:=h
  split at h
  ·rename_i fs cs hsh hx
   simp only [Option.bind_eq_some_iff,Option.map_eq_some_iff,Prod.mk.injEq] at h
   obtain ⟨fd,hfd,v',hv,rfl,rfl⟩:=h
   exact hno (ok_field ho hE hfr hd hsh hx hfd hv) rfl rfl
  ·cases h
 case indexAddr t x ix =>
  simp only [Option.bind_eq_some_iff] at h
  obtain ⟨d,hd,h⟩:=h
  split at h
  ·rename_i k m hi
   simp only [Option.bind_eq_some_iff,Option.map_eq_some_iff,Prod.mk.injEq] at h
   obtain ⟨j,hj,v',hv,rfl,rfl⟩:=h
   exact hno (ok_indexAddr ho hE hfr hd hi hj hv) rfl rfl
  ·cases h
 case index t x ix =>
  simp only [Option.bind_eq_some_iff] at h
  obtain ⟨d,hd,h⟩:=h
  split at h
  ·rename_i k esz ea cs kk m hsh hx hi
   simp only [Option.bind_eq_some_iff] at h
   obtain ⟨j,hj,h⟩:=h
   split at h
   ·rename_i hlt
    simp only [Option.map_eq_some_iff,Prod.mk.injEq] at h
    obtain ⟨v',hv,rfl,rfl⟩:=h
    exact hno (ok_index ho hE hfr hd hsh hx hi hj hlt hv) rfl rfl
   ·cases h
  ·rename_i s kk m hsh hx hi
   simp only [Option.bind_eq_some_iff,Option.map_eq_some_iff,Prod.mk.injEq] at h
   obtain ⟨j,hj,v',hv,rfl,rfl⟩:=h
   exact hno (ok_indexStr ho hE hfr hd hsh hx hi hj hv) rfl rfl
  ·cases h
 case binOp op t x y yt =>
  simp only [Option.map_eq_some_iff,Prod.mk.injEq] at h
  obtain ⟨v',hv,rfl,rfl⟩:=h
  exact hno (binV_sound ho hE hfr hv) rfl rfl
 case unOp op t x =>
  split at h
  ·rename_i b hx;injection h with h;injection h with h1 h2
   exact hno (ok_unOp (v:=.bool (!b)) ho hE hfr (.inl ⟨rfl,b,hx,rfl⟩)) h2.symm h1.symm
  ·rename_i k n hx;injection h with h;injection h with h1 h2
   exact hno (ok_unOp (v:=.int k (k.wrap (0 - n))) ho hE hfr (.inr ⟨rfl,k,n,hx,rfl⟩)) h2.symm h1.symm
  ·cases h
 case convert s t x =>
  simp only [Option.bind_eq_some_iff] at h
  obtain ⟨ds,hds,d,hd,h⟩:=h
  split at h
  ·rename_i j k k' n h1 h2 h3
   injection h with h;injection h with h4 h5
   exact hno (ok_convert ho hE hfr hds hd h1 h2 h3) h5.symm h4.symm
  ·cases h
 case makeFunc f first cap =>
  injection h with h;injection h with h1 h2
  exact hno (ok_makeFunc ho hE hfr) h2.symm h1.symm
 case extract x i =>
  split at h
  ·rename_i vs hx
   simp only [Option.map_eq_some_iff,Prod.mk.injEq] at h
   obtain ⟨v',hv,rfl,rfl⟩:=h
   exact hno (ok_extract ho hE hfr hx hv) rfl rfl
  ·cases h
 case call c =>
  split at h
  ·rename_i hc
   split at h
   ·rename_i x t ha ht
    split at h
    ·rename_i d hd
     obtain ⟨h1,h2⟩:=lenV_sound ho hc ha ht hE hfr hd h
     exact hno h2 h1 rfl
    ·cases h
   ·cases h
  ·rename_i hc
   split at h
   ·rename_i x y t tx ha ht
    simp only [Option.bind_eq_some_iff] at h
    obtain ⟨esz,h1,xs,h2,h3⟩:=h
    exact append_sound ho hc ha ht hE hfr h1 h2 h3 hA
   ·cases h
  ·cases h
 case slice t x lo hi mx =>
  simp only [Option.bind_eq_some_iff] at h
  obtain ⟨esz,h1,l,h2,hh,h3,m,h4,h5⟩:=h
  exact slice_sound ho hE hfr h1 h2 h3 h4 h5 hA
 case makeSlice t x y=>exact make_sound ho hE hfr h hA
 case makeMap t r =>
  cases r with
  | some r=>cases h
  | none =>
    simp only [Option.bind_eq_some_iff,Option.map_eq_some_iff,Prod.mk.injEq] at h
    obtain ⟨kt,_,sg,_,rfl,rfl⟩:=h
    exact ok_makeMap ho hE hA
 case insert t m k x =>
  simp only [Option.bind_eq_some_iff,Option.map_eq_some_iff,Prod.mk.injEq] at h
  obtain ⟨⟨kt,et⟩,h1,s,h2,rfl,rfl⟩:=h
  obtain ⟨i,own,sg,f,q,q1,q2,q3,q4,rfl⟩:=insR_some h2
  have hH:H'=E.H.set i (.map (insV E.H own (evalO G fr x)).1 sg (updF f q (insV E.H own (evalO G fr x)).2)):=hA
  subst hH
  exact ok_insert (.inl ho) hE hfr (mapT_some h1) q1 q2 q3 q4
 case mapUpdate t m k x =>
  simp only [Option.bind_eq_some_iff,Option.map_eq_some_iff,Prod.mk.injEq] at h
  obtain ⟨⟨kt,et⟩,h1,s,h2,rfl,rfl⟩:=h
  obtain ⟨i,own,sg,f,q,q1,q2,q3,q4,rfl⟩:=insR_some h2
  have hH:H'=E.H.set i (.map (insV E.H own (evalO G fr x)).1 sg (updF f q (insV E.H own (evalO G fr x)).2)):=hA
  subst hH
  exact ok_insert (.inr ho) hE hfr (mapT_some h1) q1 q2 q3 q4
 case lookup t m k ok =>
  simp only [Option.bind_eq_some_iff,Option.map_eq_some_iff,Prod.mk.injEq] at h
  obtain ⟨⟨kt,et⟩,h1,v',h2,rfl,rfl⟩:=h
  obtain ⟨i,own,sg,f,q,z,q1,q2,q3,q4,q5,rfl⟩:=lkR_some h2
  exact hno (ok_lookup ho hE hfr (mapT_some h1) q1 q2 q3 q4 q5) rfl rfl
 case makeInterface t x =>
  cases hT:ifcT P t with
  | false=>rw [hT] at h;cases h
  | true =>
    rw [hT] at h
    simp only [cond_true,Option.map_eq_some_iff,Prod.mk.injEq] at h
    obtain ⟨v',hv,rfl,rfl⟩:=h
    exact hno (ifc_sound ho hE hfr hT hv) rfl rfl
end
end Go.Ab
namespace Go.Ab
open Go
variable {P:Program} {b:Frame} {a:Act} {k:List Item} {cs:List Frame} {w:World} {Q:Exit→Act→World→Prop} {F:Fence} {n:Nat}
theorem stepR_scope {c:Code}:Go.step P (lone (b.atR a (.code (.scope c)::k)) cs w)=.next (lone (b.atR a (.code c::.inScope c::k)) cs w) :=
 step_lone_go (by simp [stepG,stepG.exec,Frame.atR])
theorem stepR_inScope {c:Code}:Go.step P (lone (b.atR a (.inScope c::k)) cs w)=.next (lone (b.atR a k) cs w) :=
 step_lone_go (by simp [stepG,stepG.exec,Frame.atR])
theorem wpIn_scope {c:Code} (h:c.wpIn F n P (Exit.noGoto Q) a w):(Code.scope c).wpIn F n P Q a w:=by
 intro b k cs hro hb hr
 have h0:(lone (b.atR a (.code (.scope c)::k)) cs w).fenced P F:=fenced_calm hb hr rfl
 obtain ⟨e,a₁,w₁,hq,harr⟩:=h b (.inScope c::k) cs hro hb hr
 cases e with
 | normal=>exact ⟨.normal,a₁,w₁,hq,.head h0 stepR_scope (StepsIn.trans harr (.one (fenced_calm hb hr rfl) stepR_inScope))⟩
 | exit id' =>
   have hx:exitTo id' (.inScope c::k)=exitTo id' k:=by simp [exitTo]
   exact ⟨.exit id',a₁,w₁,hq,fun k' hk=>.head h0 stepR_scope (harr.1 k' (by rw [hx];exact hk)),
    fun hr' hk=>let ⟨k₁,h1,h2⟩:=harr.2 hr' (by rw [hx];exact hk);⟨k₁,h1,.head h0 stepR_scope h2⟩⟩
 | goto l=>exact hq.elim
 | ret=>exact ⟨_,a₁,w₁,hq,.of_steps (.one h0 stepR_scope) harr⟩
 | panic ch=>exact ⟨_,a₁,w₁,hq,.of_steps (.one h0 stepR_scope) harr⟩
 | outgrown=>exact ⟨_,a₁,w₁,hq,.of_steps (.one h0 stepR_scope) harr⟩
end Go.Ab
