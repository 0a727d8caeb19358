import Derived.Test.YtaebkmmjjabnaaaGreatDoorW2
import Derived.Deep.AppendSrc
import Derived.Deep.Upon
set_option maxRecDepth 100000
set_option maxHeartbeats 4000000
set_option linter.unusedSimpArgs false
set_option linter.unusedVariables false
namespace Go.Ab
open Go Go.RowKit
section
variable {P:Program}
def eqNums:List Value→List Value→Option Bool
 | [],[]=>some true
 | .int j a::xs,.int k b::ys=>if j=k then (eqNums xs ys).map ((a==b) && ·) else none
 | _,_=>none
theorem eqCells_cons {x y:V} {xs ys:List V} {b:Bool} (h:eqCells (x::xs) (y::ys)=some b):∃ j m n c,x=.val (.int j m)∧y=.val (.int j n)∧eqCells xs ys=some c∧b=((m==n) && c):=by
 unfold eqCells at h
 split at h
 ·rename_i h1 _;cases h1
 ·rename_i j a xs' k b' ys' h1 h2
  injection h1 with h1 h3;injection h2 with h2 h4
  subst h1;subst h2;subst h3;subst h4
  split at h
  ·rename_i hjk;subst hjk
   simp only [Option.map_eq_some_iff] at h
   obtain ⟨c,h5,rfl⟩:=h
   exact ⟨j,a,b',c,rfl,rfl,h5,rfl⟩
  ·cases h
 ·cases h
theorem eqCells_nums {E:Env}:∀ {xs ys:List V} {us vs:List Value} {b:Bool},RepL E xs us→RepL E ys vs→eqCells xs ys=some b→eqNums us vs=some b
 | [],[],us,vs,b,h,k,he=>by
   simp only [RepL] at h k;subst h;subst k;simpa [eqCells,eqNums] using he
 | [],_::_,us,vs,b,h1,h2,he=>by simp [eqCells] at he
 | _::_,[],us,vs,b,h1,h2,he=>by simp [eqCells] at he
 | x::xs,y::ys,us,vs,b,h1,h2,he=>by
   obtain ⟨j,m,n,c,rfl,rfl,h5,rfl⟩:=eqCells_cons he
   simp only [RepL,Rep] at h1 h2
   obtain ⟨u,us,rfl,⟨rfl,_⟩,h3⟩:=h1
   obtain ⟨v,vs,rfl,⟨rfl,_⟩,h4⟩:=h2
   simp only [eqNums,if_true,eqCells_nums h3 h4 h5,Option.map_some]
def eqBody (xs ys:Array Value) (d:Nat) (f:Field) (s:Option Bool×Unit):Sem (ForInStep (Option Bool×Unit)) :=
 if f.name ≠ "_" then do
  let x ← part f.type xs f.offset
  let y ← part f.type ys f.offset
  let r ← Op.equalIn d f.type x y
  if (!r)=true then pure (ForInStep.done (some false,())) else pure (ForInStep.yield (none,()))
 else pure (ForInStep.yield (none,()))
theorem eqLoop (xs ys : Array Value) (d : Nat) (w : World) : ∀ (l : List Field) (k : Nat) (b : Bool), (∀ j f, l[j]? = some f → f.name ≠ "_" ∧ f.offset = k + j ∧ ∃ kd, P.underlying f.type = some (.int kd)) →
 (xs.toList.drop k).length=l.length→eqNums (xs.toList.drop k) (ys.toList.drop k)=some b →
 (forIn l ((none:Option Bool),()) (eqBody xs ys (d + 1))).run P w=.ok (if b then (none,()) else (some false,())) w
 | [],k,b,_,hl,he=>by
   have:xs.toList.drop k=[]:=List.eq_nil_of_length_eq_zero hl
   rw [this] at he
   cases hy:ys.toList.drop k with
   | nil=>rw [hy] at he;simp [eqNums] at he;subst he;simp
   | cons y ys'=>rw [hy] at he;simp [eqNums] at he
 | f::l,k,b,hf,hl,he=>by
   obtain ⟨g1,g2,kd,g3⟩:=hf 0 f (by simp)
   cases hx:xs.toList.drop k with
   | nil=>rw [hx] at hl;simp at hl
   | cons x xs' =>
     cases hy:ys.toList.drop k with
     | nil=>rw [hx,hy] at he;cases x<;>simp [eqNums] at he
     | cons y ys' =>
       rw [hx,hy] at he
       cases x<;>cases y<;>first|(simp [eqNums] at he;done)|skip
       rename_i j m j' n
       simp only [eqNums] at he
       split at he
       ·rename_i hjj;subst hjj
        simp only [Option.map_eq_some_iff] at he
        obtain ⟨c,h5,rfl⟩:=he
        have e1:xs[k]?=some (.int j m):=by
         have:(xs.toList.drop k)[0]?=some (.int j m):=by rw [hx];rfl
         rw [List.getElem?_drop] at this;simpa using this
        have e2:ys[k]?=some (.int j n):=by
         have:(ys.toList.drop k)[0]?=some (.int j n):=by rw [hy];rfl
         rw [List.getElem?_drop] at this;simpa using this
        have e3:xs.toList.drop (k + 1)=xs':=by rw [← List.drop_drop,hx];rfl
        have e4:ys.toList.drop (k + 1)=ys':=by rw [← List.drop_drop,hy];rfl
        have ih:=eqLoop xs ys d w l (k + 1) c (fun i f' hf'=>by
         obtain ⟨q1,q2,q3⟩:=hf (i + 1) f' (by simpa using hf')
         exact ⟨q1,by omega,q3⟩) (by rw [e3];rw [hx] at hl;simpa using hl) (by rw [e3,e4];exact h5)
        have hag:(isAgg f.type).run P w=.ok false w:=by simp [isAgg,run_underlying g3]
        have hp1:(part f.type xs f.offset).run P w=.ok (.int j m) w:=by simp [part,hag,g2,e1]
        have hp2:(part f.type ys f.offset).run P w=.ok (.int j n) w:=by simp [part,hag,g2,e2]
        have hq:(Op.equalIn (d + 1) f.type (.int j m) (.int j n)).run P w=.ok (m==n) w:=by
         rw [Op.equalIn,Sem.run_bind,run_underlying g3];simp
        rw [List.forIn_cons,Sem.run_bind]
        simp only [eqBody,if_pos g1,Sem.run_bind,hp1,hp2,hq,Result.andThen_ok]
        by_cases hmn:m=n
        ·subst hmn
         simp only [beq_self_eq_true,Bool.not_true,Bool.false_eq_true,if_false,Sem.run_pure,Result.andThen_ok,Bool.true_and]
         exact ih
        ·have:(m==n)=false:=by simpa using hmn
         simp [this]
       ·cases he
theorem run_equal_flat {E:Env} {t:TypeId} {d:TD} (ht:tdOf P t=some d) (hf:d.flat=true) {us vs:List Value} {b:Bool} (h:eqNums us vs=some b) (hl:us.length=d.size) (w:World) :
 (Op.equal t (.agg us.toArray) (.agg vs.toArray)).run P w=.ok b w∧P.eqGuardType P.depth t=false:=by
 obtain ⟨i,ds,z,h1,h2,h3,h4,rfl⟩:=tdOf_some ht
 simp only [flatOf,h2] at hf
 cases ds<;>simp only [Bool.false_eq_true] at hf
 rename_i fields
 simp only [Bool.and_eq_true,Bool.not_eq_true'] at hf
 obtain ⟨⟨⟨f0,f1⟩,f2⟩,f3⟩:=hf
 have hl':us.length=i.size:=hl
 have f0':fields.size=i.size:=by simpa [szOf,h1] using f0
 refine ⟨?_,f2⟩
 have:=eqLoop (P:=P) us.toArray vs.toArray 9998 w fields.toList 0 b (fun j f hj=>by
  have:=(List.all_eq_true.1 f3) (f,j) (by rw [List.mem_zipIdx_iff_getElem?];simpa using hj)
  simp only [Bool.and_eq_true,bne_iff_ne,ne_eq,beq_iff_eq] at this
  obtain ⟨⟨g1,g2⟩,g3⟩:=this
  refine ⟨g1,by omega,?_⟩
  split at g3
  ·rename_i kd hk;exact ⟨kd,hk⟩
  ·cases g3) (by simp;omega) (by simpa using h)
 unfold Op.equal Op.maxDepth
 rw [show (10000:Nat)=(9998 + 1) + 1 from rfl,Op.equalIn,Sem.run_bind,run_underlying h2]
 simp only [Result.andThen_ok,Sem.run_bind,run_program,f1,Bool.false_eq_true,if_false]
 have e:(forIn fields ((none:Option Bool),()) (fun f s=>eqBody us.toArray vs.toArray (9998 + 1) f s))=(forIn fields.toList ((none:Option Bool),()) (eqBody us.toArray vs.toArray (9998 + 1))):=by
  rw [← Array.forIn_toList]
 have e2:=congrArg (fun s=>s.run P w) e
 simp only [this] at e2
 unfold eqBody at e2
 rw [e2]
 cases b<;>simp
variable {G:Glob} {w0:World} {M0:Nat→Nat→Prop} {E:Env} {a:Act} {fr:List V} {o:Oper} {nid:Nat} {v:V}
theorem ok_binS {op:BinOp} {t yt:TypeId} {x y:Operand} (ho:o.op=.binOp op t x y yt) (hE:EOK G w0 M0 E) (hfr:RepL E fr a.tmps.toList) {xs ys:List V} (hx:evalO G fr x=.agg xs) (hy:evalO G fr y=.agg ys)
 {d:TD} (ht:tdOf P t=some d) (hf:d.flat=true) (hl:xs.length=d.size) {b:Bool} (h:eqCells xs ys=some b) (hv:(op=.eql∧v=.bool b)∨(op=.neq∧v=.bool (!b))):Comes P G w0 M0 E a o v E.H:=by
 have hr:=evalO_sound hE hfr x
 have hr2:=evalO_sound hE hfr y
 rw [hx] at hr;rw [hy] at hr2;simp only [Rep] at hr hr2
 obtain ⟨us,hus,h3⟩:=hr
 obtain ⟨vs,hvs,h4⟩:=hr2
 have q:=fun w=>run_equal_flat (E:=E) ht hf (eqCells_nums h3 h4 h) (by rw [h3.length];exact hl) w
 have e1:binOp .eql t (.agg us.toArray) (.agg vs.toArray)=(do pure (.bool (← Op.equal t (.agg us.toArray) (.agg vs.toArray)))):=rfl
 have e2:binOp .neq t (.agg us.toArray) (.agg vs.toArray)=(do pure (.bool (!(← Op.equal t (.agg us.toArray) (.agg vs.toArray))))):=rfl
 have g1:∀ op,(eqGuard op t x y (.agg us.toArray) (.agg vs.toArray)).run P E.w=.ok () E.w:=by
  intro op
  cases op<;>simp [eqGuard,(q E.w).2]
 rcases hv with ⟨rfl,rfl⟩|⟨rfl,rfl⟩
 ·refine Comes.pure hE (x:=.bool b) ?_ (by simp [Rep,Value.oneCell'])
  simp only [execOp,ho,hus,hvs,Sem.run_bind,g1,Result.andThen_ok,e1,(q E.w).1,Sem.run_pure]
 ·refine Comes.pure hE (x:=.bool (!b)) ?_ (by simp [Rep,Value.oneCell'])
  simp only [execOp,ho,hus,hvs,Sem.run_bind,g1,Result.andThen_ok,e2,(q E.w).1,Sem.run_pure]
theorem inOrder_eq:∀ {i:Nat} {ps:List (Nat×V)} {vs:List V},inOrder i ps=some vs→ps=(vs.zipIdx i).map fun x=>(x.2,x.1)
 | i,[],vs,h=>by simp only [inOrder] at h;injection h with h;subst h;rfl
 | i,(j,v)::ps,vs,h=>by
   simp only [inOrder] at h
   split at h
   ·rename_i hji;subst hji
    simp only [Option.map_eq_some_iff] at h
    obtain ⟨ws,h1,rfl⟩:=h
    simp [List.zipIdx_cons,inOrder_eq h1]
   ·cases h
theorem flat_rep {E:Env}:∀ {vs:List V} {xs:List Value},RepL E vs xs→(∀ v∈vs,v≠.any)→RepL E (flatV vs) (xs.flatMap fun v=>v.cells.toList)
 | [],xs,h,_=>by simp only [RepL] at h;subst h;simpa [flatV] using RepL.nil E
 | v::vs,xs,h,hn=>by
   simp only [RepL] at h
   obtain ⟨y,ys,rfl,h1,h2⟩:=h
   simp only [flatV,List.flatMap_cons]
   exact (Rep.cells h1 (hn v (by simp))).append (flat_rep h2 fun u hu=>hn u (by simp [hu]))
theorem fz_not_any {H:List AB} {v v':V} (h:fz H v=some v'):v'≠.any:=by
 rintro rfl
 cases v<;>simp [fz,fzRow] at h
 all_goals first
  | (split at h<;>first|(cases h;done)|(split at h<;>cases h;done))
  | (simp only [Option.bind_eq_some_iff,Option.map_eq_some_iff] at h;obtain ⟨_,_,_,_,h⟩:=h;cases h)
theorem fzL_not_any {H:List AB}:∀ {vs vs':List V},fzL H vs=some vs' → ∀ v∈vs',v≠.any
 | [],vs',h,v,hv=>by simp only [fzL] at h;injection h with h;subst h;simp at hv
 | u::us,vs',h,v,hv=>by
   simp only [fzL,Option.bind_eq_some_iff,Option.map_eq_some_iff] at h
   obtain ⟨u',h1,ws,h2,rfl⟩:=h
   rcases List.mem_cons.1 hv with rfl|hv
   ·exact fz_not_any h1
   ·exact fzL_not_any h2 v hv
theorem ok_buildSlice {t:TypeId} {n:Nat} {ps:Array (Nat×Operand)} (ho:o.op=.buildSlice t n ps) (hE:EOK G w0 M0 E) (hfr:RepL E fr a.tmps.toList) {d:TD} (ht:tdOf P t=some d) {e esz by_:Nat} (hd:d.sh=.slice e esz by_)
 {vs es:List V} (hio:inOrder 0 (ps.toList.map fun p=>(p.1,evalO G fr p.2))=some vs) (hfz:fzL E.H vs=some es) (hn:es.length=n) (hc:∀ e∈es,e.cells.length=esz) (hpos:0 < esz) (hsmall:n * esz≤16777216) (hz:(P.info? e).bind (·.zero)≠none) :
 Comes P G w0 M0 E a o (.sl es .tight) E.H:=by
 obtain ⟨i,ds,z,h1,h2,h3,h4,rfl⟩:=tdOf_some ht
 obtain ⟨ie,rfl,hie,rfl,rfl⟩:=shOf_slice hd
 obtain ⟨ze,hze⟩:∃ ze,ie.zero=some ze:=by
  cases hq:ie.zero with
  | none=>rw [hie] at hz;simp [hq] at hz
  | some ze=>exact ⟨ze,rfl⟩
 have hev:=evalL_sound hE hfr (ps.toList.map (·.2))
 have hps:=inOrder_eq hio
 have hvs:vs=(ps.toList.map (·.2)).map (evalO G fr):=by
  have:=congrArg (List.map (·.2)) hps
  simp only [List.map_map] at this
  rw [show ((fun x:Nat×V=>x.2) ∘ fun x:V×Nat=>(x.2,x.1))=Prod.fst from rfl,List.zipIdx_map_fst] at this
  rw [← this];simp [Function.comp_def]
 rw [← hvs] at hev
 have hfzs:=fzL_sound hE _ hev hfz
 have hidx:ps.toList.map (·.1)=(List.range' 0 vs.length):=by
  have:=congrArg (List.map (·.1)) hps
  simp only [List.map_map] at this
  rw [show ((fun x:Nat×V=>x.1) ∘ fun x:V×Nat=>(x.2,x.1))=Prod.snd from rfl,List.zipIdx_map_snd] at this
  simpa [Function.comp_def] using this
 have hparts:(ps.toList.map fun p=>(p.1,a.eval p.2))=(((ps.toList.map (·.2)).map a.eval).zipIdx 0).map fun x=>(x.2,x.1):=by
  apply List.ext_getElem?
  intro j
  have hj:(ps.toList.map (·.1))[j]?=(List.range' 0 vs.length)[j]?:=by rw [hidx]
  simp only [List.getElem?_map,List.getElem?_zipIdx] at hj ⊢
  cases hp:ps.toList[j]? with
  | none=>simp
  | some p =>
    rw [hp] at hj
    simp only [Option.map_some] at hj ⊢
    have hlt:j < vs.length:=by
     rcases Nat.lt_or_ge j vs.length with h|h
     ·exact h
     ·rw [List.getElem?_eq_none (by simpa using h)] at hj;cases hj
    rw [List.getElem?_range' hlt] at hj
    injection hj with hj
    simp only [Nat.zero_add,Nat.one_mul] at hj
    simp [hj]
 have hxs:∀ y∈(ps.toList.map (·.2)).map a.eval,y.cells.size=ie.size:=by
  intro y hy
  obtain ⟨j,hj⟩:=List.getElem?_of_mem hy
  have hl:=hfzs.length
  obtain ⟨e',he'⟩:∃ e',es[j]?=some e':=by
   have:j < es.length:=by rw [← hl];exact (List.getElem?_eq_some_iff.1 hj).1
   exact ⟨es[j],List.getElem?_eq_getElem this⟩
  obtain ⟨y',hy',hr⟩:=hfzs.get j e' he'
  rw [hj] at hy';injection hy' with hy';subst hy'
  have hm:=List.mem_of_getElem? he'
  have:=(Rep.cells hr (fzL_not_any hfz _ hm)).length
  rw [hc _ hm] at this;simpa using this
 have hlen:((ps.toList.map (·.2)).map a.eval).length=n:=by rw [hfzs.length];exact hn
 have hrun:(Instr.buildSlice t n (ps.map fun (i,x)=>(i,a.eval x))).run P E.w=.ok (.slice (some ⟨E.w.heap.size,0,none⟩) n n) (E.w.alloc (.cells (((ps.toList.map (·.2)).map a.eval).flatMap fun v=>v.cells.toList).toArray e)):=by
  have hpl:(ps.map fun (i,x)=>(i,a.eval x)).toList=(((ps.toList.map (·.2)).map a.eval).zipIdx 0).map fun x=>(x.2,x.1):=by
   rw [← hparts];simp
  by_cases h0:n=0
  ·have hnil:((ps.toList.map (·.2)).map a.eval)=[]:=List.eq_nil_of_length_eq_zero (by omega)
   have hp0:ps = #[]:=by
    have:ps.toList=[]:=by simpa using hnil
    rw [← Array.toArray_toList (xs:=ps),this]
   subst h0;subst hp0
   simp [Instr.buildSlice,run_underlying h2,sizeOf,typeInfo,hie,Instr.fill,newRow]
   rw [show Array.range 0 = #[] by apply Array.ext';simp,Array.map_empty]
  ·have hp2:0 < n * ie.size:=Nat.mul_pos (by omega) hpos
   refine run_buildSlice E.w t e n _ _ ie ze h2 hie hze (by show ¬ n * ie.size > 2 ^ 24;have:(2:Nat) ^ 24=16777216:=rfl;omega) (by omega) ?_
   rw [hpl]
   exact Great.fill_whole hpos _ _ hxs (by rw [hlen];simp)
 obtain ⟨g1,g2⟩:=hE.allocImm (.cells (((ps.toList.map (·.2)).map a.eval).flatMap fun v=>v.cells.toList).toArray e)
 refine ⟨.slice (some ⟨E.w.heap.size,0,none⟩) n n,{ E with w:=E.w.alloc (.cells (((ps.toList.map (·.2)).map a.eval).flatMap fun v=>v.cells.toList).toArray e) },.inl ?_,rfl,g2,g1,?_⟩
 ·simp only [execOp,ho,Sem.run_bind,hrun,Result.andThen_ok,Sem.run_pure]
 simp only [Rep]
 refine ⟨some ⟨E.w.heap.size,0,none⟩,n,n,rfl,hn.symm,Nat.le_refl _,?_,by simp,by simp,fun hne=>⟨ie.size,_,0,rfl,RepEs.flat.2 ⟨hc,?_⟩⟩⟩
 ·have:n≤n * ie.size:=Nat.le_mul_of_pos_right _ hpos
  simp only [maxLen];omega
 ·refine RepAt.of (RepL.mono _ (Env.le.bare g2) (flat_rep hfzs (fzL_not_any hfz))) fun j u hu=>⟨?_,fun hm=>?_⟩
  ·show (E.w.alloc _).cell? _=_
   rw [Nat.zero_add,World.cell?_alloc_new]
   simpa using hu
  ·have:=hE.mlt _ _ hm;omega
theorem ok_buildSliceOwn {t:TypeId} {n:Nat} {ps:Array (Nat×Operand)} (ho:o.op=.buildSlice t n ps) (hE:EOK G w0 M0 E) (hfr:RepL E fr a.tmps.toList) {d:TD} (ht:tdOf P t=some d) {e esz by_:Nat} (hd:d.sh=.slice e esz by_)
 {nid:Nat} {H':List AB} {vs:List V} (hio:inOrder 0 (ps.toList.map fun p=>(p.1,evalO G fr p.2))=some vs) (hn:vs.length=n) (hc:∀ e∈vs,chk esz e.cells=true) (hpos:0 < esz) (hsmall:n * esz≤16777216) (hz:(P.info? e).bind (·.zero)≠none)  (hnew:NewAt E.H nid (.var (vs.flatMap V.cells)) H') :
 Comes P G w0 M0 E a o (.vs nid 0 n esz) H':=by
 obtain ⟨i,ds,z,h1,h2,h3,h4,rfl⟩:=tdOf_some ht
 obtain ⟨ie,rfl,hie,rfl,rfl⟩:=shOf_slice hd
 obtain ⟨ze,hze⟩:∃ ze,ie.zero=some ze:=by
  cases hq:ie.zero with
  | none=>rw [hie] at hz;simp [hq] at hz
  | some ze=>exact ⟨ze,rfl⟩
 have hev:=evalL_sound hE hfr (ps.toList.map (·.2))
 have hps:=inOrder_eq hio
 have hvs:vs=(ps.toList.map (·.2)).map (evalO G fr):=by
  have:=congrArg (List.map (·.2)) hps
  simp only [List.map_map] at this
  rw [show ((fun x:Nat×V=>x.2) ∘ fun x:V×Nat=>(x.2,x.1))=Prod.fst from rfl,List.zipIdx_map_fst] at this
  rw [← this];simp [Function.comp_def]
 rw [← hvs] at hev
 have hfzs:=hev
 have hany:∀ v∈vs,v≠.any:=by
  intro v hv e;subst e
  have:=hc _ hv
  generalize ie.size=q at hpos this
  cases q with
  | zero=>exact absurd hpos (Nat.lt_irrefl 0)
  | succ q=>simp [V.cells,chk,oneV] at this
 have hidx:ps.toList.map (·.1)=(List.range' 0 vs.length):=by
  have:=congrArg (List.map (·.1)) hps
  simp only [List.map_map] at this
  rw [show ((fun x:Nat×V=>x.1) ∘ fun x:V×Nat=>(x.2,x.1))=Prod.snd from rfl,List.zipIdx_map_snd] at this
  simpa [Function.comp_def] using this
 have hparts:(ps.toList.map fun p=>(p.1,a.eval p.2))=(((ps.toList.map (·.2)).map a.eval).zipIdx 0).map fun x=>(x.2,x.1):=by
  apply List.ext_getElem?
  intro j
  have hj:(ps.toList.map (·.1))[j]?=(List.range' 0 vs.length)[j]?:=by rw [hidx]
  simp only [List.getElem?_map,List.getElem?_zipIdx] at hj ⊢
  cases hp:ps.toList[j]? with
  | none=>simp
  | some p =>
    rw [hp] at hj
    simp only [Option.map_some] at hj ⊢
    have hlt:j < vs.length:=by
     rcases Nat.lt_or_ge j vs.length with h|h
     ·exact h
     ·rw [List.getElem?_eq_none (by simpa using h)] at hj;cases hj
    rw [List.getElem?_range' hlt] at hj
    injection hj with hj
    simp only [Nat.zero_add,Nat.one_mul] at hj
    simp [hj]
 have hxs:∀ y∈(ps.toList.map (·.2)).map a.eval,y.cells.size=ie.size:=by
  intro y hy
  obtain ⟨j,hj⟩:=List.getElem?_of_mem hy
  have hl:=hfzs.length
  obtain ⟨e',he'⟩:∃ e',vs[j]?=some e':=by
   have:j < vs.length:=by rw [← hl];exact (List.getElem?_eq_some_iff.1 hj).1
   exact ⟨vs[j],List.getElem?_eq_getElem this⟩
  obtain ⟨y',hy',hr⟩:=hfzs.get j e' he'
  rw [hj] at hy';injection hy' with hy';subst hy'
  have hm:=List.mem_of_getElem? he'
  have:=(Rep.cells hr (hany _ hm)).length
  rw [((chk_eq _ _).2 (hc _ hm)).1] at this;simpa using this
 have hlen:((ps.toList.map (·.2)).map a.eval).length=n:=by rw [hfzs.length];exact hn
 have hrun:(Instr.buildSlice t n (ps.map fun (i,x)=>(i,a.eval x))).run P E.w=.ok (.slice (some ⟨E.w.heap.size,0,none⟩) n n) (E.w.alloc (.cells (((ps.toList.map (·.2)).map a.eval).flatMap fun v=>v.cells.toList).toArray e)):=by
  have hpl:(ps.map fun (i,x)=>(i,a.eval x)).toList=(((ps.toList.map (·.2)).map a.eval).zipIdx 0).map fun x=>(x.2,x.1):=by
   rw [← hparts];simp
  by_cases h0:n=0
  ·have hnil:((ps.toList.map (·.2)).map a.eval)=[]:=List.eq_nil_of_length_eq_zero (by omega)
   have hp0:ps = #[]:=by
    have:ps.toList=[]:=by simpa using hnil
    rw [← Array.toArray_toList (xs:=ps),this]
   subst h0;subst hp0
   simp [Instr.buildSlice,run_underlying h2,sizeOf,typeInfo,hie,Instr.fill,newRow]
   rw [show Array.range 0 = #[] by apply Array.ext';simp,Array.map_empty]
  ·have hp2:0 < n * ie.size:=Nat.mul_pos (by omega) hpos
   refine run_buildSlice E.w t e n _ _ ie ze h2 hie hze (by show ¬ n * ie.size > 2 ^ 24;have:(2:Nat) ^ 24=16777216:=rfl;omega) (by omega) ?_
   rw [hpl]
   exact Great.fill_whole hpos _ _ hxs (by rw [hlen];simp)
 obtain ⟨g1,g2⟩:=hE.allocOwn (.cells (((ps.toList.map (·.2)).map a.eval).flatMap fun v=>v.cells.toList).toArray e) hnew (.bool false) (fun _=>True) (by simp)
  (fun hle=>by
    refine ⟨E.w.heap.size,(((ps.toList.map (·.2)).map a.eval).flatMap fun v=>v.cells.toList).toArray,e,by simp [Env.allocOwn],alloc_at _ _,?_,fun o=>.inr ⟨rfl,trivial⟩⟩
    have:=RepL.mono _ hle (flat_rep hev hany)
    exact this)
 refine ⟨.slice (some ⟨E.w.heap.size,0,none⟩) n n,_,.inl ?_,rfl,g2,g1,?_⟩
 ·simp only [execOp,ho,Sem.run_bind,hrun,Result.andThen_ok,Sem.run_pure,Env.allocOwn]
 simp only [Rep]
 exact ⟨E.w.heap.size,n,by simp [Env.allocOwn],rfl,Nat.le_refl _⟩
end
end Go.Ab
namespace Go.Ab
open Go Go.RowKit
section
variable {G:Glob} {w0:World} {M0:Nat→Nat→Prop} {E:Env}
theorem immAt_get:∀ (H:List AB) (i j:Nat),(immAt H i)[j]?=if j=i then (H[j]?).map (fun b=>match b with|.row sz es v _=>.row sz es v true|b=>b) else H[j]?
 | [],i,j=>by cases i<;>simp [immAt]
 | b::H,0,0=>by cases b<;>simp [immAt]
 | b::H,0,j + 1=>by cases b<;>simp [immAt]
 | b::H,i + 1,0=>by simp [immAt]
 | b::H,i + 1,j + 1=>by simp [immAt,immAt_get H i j]
theorem EOK.immAt (h:EOK G w0 M0 E) (i:Nat):∃ E',E'.w=E.w∧E'.H=immAt E.H i∧EOK G w0 M0 E'∧E.le E':=by
 by_cases hi:∃ sz es v m,E.H[i]?=some (.row sz es v m)
 ·obtain ⟨sz,es,v,m,hi⟩:=hi
  let E':Env:={ E with M:=fun b o=>E.M b o ∧ ¬ (E.φ i v=some b∧o < es.length * sz),H:=Ab.immAt E.H i }
  have hg:∀ j,(Ab.immAt E.H i)[j]?=if j=i then some (.row sz es v true) else E.H[j]?:=by
   intro j
   rw [immAt_get]
   split
   ·rename_i hj;subst hj;simp [hi]
   ·rfl
  have hle:E.le E':=by
   refine ⟨fun b o u hs=>⟨hs.1,fun hm=>hs.2 hm.1⟩,fun _ _ _ hp=>hp,fun j sz' es' v' m' hr=>.inr ?_,fun j hd=>?_⟩
   ·show ∃ _ _ _ _,(Ab.immAt E.H i)[j]?=_∧_
    rw [hg j]
    split
    ·rename_i hj;subst hj;rw [hi] at hr;injection hr with hr;injection hr with h1 h2 h3 h4;subst h3
     exact ⟨_,_,_,_,rfl,Nat.le_refl _,fun _=>rfl⟩
    ·exact ⟨_,_,_,_,hr,Nat.le_refl _,fun _=>rfl⟩
   ·show (Ab.immAt E.H i)[j]?=_
    rw [hg j,if_neg (by rintro rfl;rw [hi] at hd;cases hd)];exact hd
  refine ⟨E',rfl,rfl,⟨h.below,fun b o hb=>?_,fun b o hm=>h.mlt b o hm.1,fun j u b hp=>?_,h.inj,fun j x hx=>?_,fun g cs hg=>RepAt.mono cs hle.bare (h.glob g cs hg)⟩,hle⟩
  ·rw [← h.old b o hb]
   refine ⟨fun hm=>hm.1,fun hm=>⟨hm,fun hc=>?_⟩⟩
   have:=(h.phi i v b hc.1).2.2.1;omega
  ·obtain ⟨⟨x,k1⟩,k2,k3,k4⟩:=h.phi j u b hp
   refine ⟨?_,?_,k3,k4⟩
   ·show ∃ _,(Ab.immAt E.H i)[j]?=_
    rw [hg j];split
    ·exact ⟨_,rfl⟩
    ·exact ⟨x,k1⟩
   ·show (Ab.immAt E.H i)[j]?≠_
    rw [hg j];split
    ·simp
    ·exact k2
  ·have hx':(Ab.immAt E.H i)[j]?=some x:=hx
   rw [hg j] at hx'
   split at hx'
   ·rename_i hj;subst hj
    injection hx' with hx';subst hx'
    obtain ⟨a,n,c,g1,g2,g3,g4,g5,g6⟩:=h.blk j _ hi
    refine ⟨a,n,c,g1,g2,g3,g4,g5,?_⟩
    rcases g6 with g6|⟨b,C,e,g6,g7,g8,g9,g10,g11,g12⟩
    ·exact .inl g6
    ·refine .inr ⟨b,C,e,g6,g7,g8,g9,RepL.mono _ hle.bare g10,fun o ho=>⟨g11 o ho,fun hc=>by have:=hc.2;rw [← g2] at this;omega⟩,fun o ho=>⟨fun hm=>absurd ⟨g6,by rw [← g2];exact ho⟩ hm.2,fun hc=>by cases hc⟩⟩
   ·rename_i hj
    refine HOK.mono hle rfl rfl (fun u b hb=>⟨rfl,fun o=>⟨fun hm=>hm.1,fun hm=>⟨hm,fun hc=>hj (h.inj j u i v b hb hc.1)⟩⟩⟩) (h.blk j x hx')
 ·refine ⟨{ E with H:=Ab.immAt E.H i },rfl,rfl,?_,?_⟩
  all_goals
   have hsame:Ab.immAt E.H i=E.H:=by
    apply List.ext_getElem?
    intro j
    rw [immAt_get]
    split
    ·rename_i hj;subst hj
     cases hx:E.H[j]? with
     | none=>rfl
     | some x=>cases x<;>first|rfl|exact absurd ⟨_,_,_,_,hx⟩ hi
    ·rfl
   rw [hsame]
  ·exact h
  ·exact Env.le.refl E
theorem EOK.immL:∀ (is:List Nat) {E:Env},EOK G w0 M0 E → ∃ E',E'.w=E.w∧E'.H=immL E.H is∧EOK G w0 M0 E'∧E.le E'
 | [],E,h=>⟨E,rfl,rfl,h,Env.le.refl E⟩
 | i::is,E,h=>by
   obtain ⟨E1,h1,h2,h3,h4⟩:=h.immAt i
   obtain ⟨E2,k1,k2,k3,k4⟩:=EOK.immL is h3
   exact ⟨E2,k1.trans h1,by rw [k2,h2];rfl,k3,h4.trans k4⟩
end
theorem immAt_set:∀ (H:List AB) (i:Nat),immAt H i=H.set i (immB (H.getD i .dead))
 | [],i=>by cases i<;>rfl
 | b::H,0=>by cases b<;>rfl
 | b::H,i + 1=>by cases b<;>simp [immAt,immAt_set H i]
theorem setH_immS:∀ (is:List Nat) (H:List AB),setH H (immS H is)=immL H is
 | [],H=>rfl
 | i::is,H=>by simp only [immS,setH,immL];rw [← immAt_set];exact setH_immS is _
end Go.Ab
namespace Go.Ab
open Go Go.RowKit
theorem okE_len {sz:Nat} {es:List V} (h:es.all (okE sz)=true):∀ e∈es,e.cells.length=sz:=fun e he =>
 ((chk_eq _ _).2 (List.all_eq_true.1 h e he)).1
theorem okE_one {sz:Nat}:∀ {es:List V},es.all (okE sz)=true→(flatV es).all oneV=true
 | [],_=>rfl
 | e::es,h=>by
   simp only [List.all_cons,Bool.and_eq_true] at h
   simp only [flatV,List.flatMap_cons,List.all_append,Bool.and_eq_true]
   exact ⟨((chk_eq _ _).2 h.1).2,okE_one h.2⟩
section
variable {P:Program} {G:Glob} {w0:World} {M0:Nat→Nat→Prop} {E:Env} {a:Act} {fr:List V} {o:Oper} {nid:Nat} {v:V} {H':List AB}
def Env.bumped (E:Env) (w':World) (i ver:Nat) (nb:Option Nat) (t:Value) (M':Nat→Nat→Prop) (ab:AB):Env :=
 { w:=w',φ:=fun j v=>if j=i∧v=ver + 1 then nb else E.φ j v,τ:=fun j=>if j=i then t else E.τ j,M:=M',H:=E.H.set i ab }
theorem EOK.bump (h:EOK G w0 M0 E) {i sz ver:Nat} {es:List V} {imm:Bool} (hi:E.H[i]?=some (.row sz es ver imm)) (w':World) (nb:Option Nat) (t:Value) (M':Nat→Nat→Prop) (sz':Nat) (es':List V) (imm':Bool)
 (hbelow:Below w0.heap.size w0 w') (hstab:∀ b o u,E.stab b o u→w'.cell? ⟨b,o,none⟩=some u ∧ ¬ M' b o) (hold:∀ b o,b < w0.heap.size→(M' b o↔E.M b o)) (hmlt:∀ b o,M' b o→b < w'.heap.size)
 (hsz:E.w.heap.size≤w'.heap.size) (hnb:∀ b,nb=some b→w0.heap.size≤b∧b < w'.heap.size ∧ ∀ j u,E.φ j u=some b→j=i)
 (hother:∀ j u b,j≠i→E.φ j u=some b→w'.heap[b]?=E.w.heap[b]? ∧ ∀ o,(M' b o↔E.M b o))
 (hk:E.le (E.bumped w' i ver nb t M' (.row sz' es' (ver + 1) imm'))→HOK (E.bumped w' i ver nb t M' (.row sz' es' (ver + 1) imm')) i (.row sz' es' (ver + 1) imm')) :
 EOK G w0 M0 (E.bumped w' i ver nb t M' (.row sz' es' (ver + 1) imm'))∧E.le (E.bumped w' i ver nb t M' (.row sz' es' (ver + 1) imm')):=by
 have hil:i < E.H.length:=(List.getElem?_eq_some_iff.1 hi).1
 have hself:(E.H.set i (AB.row sz' es' (ver + 1) imm'))[i]?=some (AB.row sz' es' (ver + 1) imm'):=by simp [hil]
 have hoth:∀ j,j≠i→(E.H.set i (AB.row sz' es' (ver + 1) imm'))[j]?=E.H[j]?:=fun j hj=>by simp [List.getElem?_set,Ne.symm hj]
 obtain ⟨a0,n0,c0,g1,g2,g3,g4,g5,g6⟩:=h.blk i _ hi
 have hnone:E.φ i (ver + 1)=none:=g5.2 _ (Nat.lt_succ_self _)
 have hle:E.le (E.bumped w' i ver nb t M' (.row sz' es' (ver + 1) imm')):=by
  refine ⟨hstab,fun j v b hp=>?_,fun j sz es v m hr=>?_,fun j hd=>?_⟩
  ·show (if j=i∧v=ver + 1 then nb else E.φ j v)=some b
   rw [if_neg (by rintro ⟨rfl,rfl⟩;rw [hnone] at hp;cases hp)];exact hp
  ·by_cases hj:j=i
   ·subst hj
    rw [hi] at hr;injection hr with hr;injection hr with h1 h2 h3 h4;subst h3
    exact .inr ⟨_,_,_,_,hself,by omega,fun hc=>by omega⟩
   ·exact .inr ⟨sz,es,v,m,by show (E.H.set i _)[j]?=_;rw [hoth j hj,hr],Nat.le_refl _,fun _=>by show (if j=i then t else E.τ j)=_;rw [if_neg hj]⟩
  ·by_cases hj:j=i
   ·subst hj;rw [hi] at hd;cases hd
   ·show (E.H.set i _)[j]?=_;rw [hoth j hj,hd]
 refine ⟨⟨hbelow,fun b o hb=>(hold b o hb).trans (h.old b o hb),hmlt,fun j v b hp=>?_,fun j v k u b h1 h2=>?_,fun j x hx=>?_,fun g cs hg=>RepAt.mono cs hle.bare (h.glob g cs hg)⟩,hle⟩
 ·have hp':(if j=i∧v=ver + 1 then nb else E.φ j v)=some b:=hp
  split at hp'
  ·rename_i hc
   obtain ⟨rfl,rfl⟩:=hc
   obtain ⟨k1,k2,k3⟩:=hnb b hp'
   exact ⟨⟨_,hself⟩,by show (E.H.set j _)[j]?≠_;rw [hself];simp,k1,k2⟩
  ·obtain ⟨⟨x,k1⟩,k2,k3,k4⟩:=h.phi j v b hp'
   refine ⟨?_,?_,k3,Nat.lt_of_lt_of_le k4 hsz⟩
   ·by_cases hj:j=i
    ·subst hj;exact ⟨_,hself⟩
    ·exact ⟨x,by show (E.H.set i _)[j]?=_;rw [hoth j hj,k1]⟩
   ·by_cases hj:j=i
    ·subst hj;show (E.H.set j _)[j]?≠_;rw [hself];simp
    ·show (E.H.set i _)[j]?≠_;rw [hoth j hj];exact k2
 ·have h1':(if j=i∧v=ver + 1 then nb else E.φ j v)=some b:=h1
  have h2':(if k=i∧u=ver + 1 then nb else E.φ k u)=some b:=h2
  split at h1'
  ·rename_i hc1
   split at h2'
   ·rename_i hc2;exact hc1.1.trans hc2.1.symm
   ·exact hc1.1.trans ((hnb b h1').2.2 k u h2').symm
  ·split at h2'
   ·rename_i hc2;exact ((hnb b h2').2.2 j v h1').trans hc2.1.symm
   ·exact h.inj j v k u b h1' h2'
 ·by_cases hj:j=i
  ·subst hj
   have hx':(E.H.set j _)[j]?=some x:=hx
   rw [hself] at hx';injection hx' with hx';subst hx'
   exact hk hle
  ·have hx':E.H[j]?=some x:=by rw [← hoth j hj];exact hx
   refine HOK.mono hle ?_ ?_ (fun v b hb=>hother j v b hj hb) (h.blk j x hx')
   ·funext v;show (if j=i∧v=ver + 1 then nb else E.φ j v)=_;rw [if_neg (fun hc=>hj hc.1)]
   ·show (if j=i then t else E.τ j)=_;rw [if_neg hj]
theorem EOK.row0 (h:EOK G w0 M0 E) {nid sz:Nat} {H':List AB} (hn:NewAt E.H nid (.row sz [] 0 false) H') (ad:Option Addr) :
 EOK G w0 M0 { E with τ:=fun j=>if j=nid then .slice ad 0 0 else E.τ j,H:=H' }∧E.le { E with τ:=fun j=>if j=nid then .slice ad 0 0 else E.τ j,H:=H' }:=by
 have hφ:=h.phi_new hn
 have hle:E.le { E with τ:=fun j=>if j=nid then .slice ad 0 0 else E.τ j,H:=H' }:=by
  refine ⟨fun _ _ _ hs=>hs,fun _ _ _ hp=>hp,fun i sz es v m hr=>?_,fun i hd=>?_⟩
  ·have:i≠nid:=by rintro rfl;rcases hn.was with h3|h3<;>rw [h3] at hr<;>cases hr
   exact .inr ⟨sz,es,v,m,by show H'[i]?=_;rw [hn.other _ this,hr],Nat.le_refl _,fun _=>by show (if i=nid then _ else E.τ i)=_;rw [if_neg this]⟩
  ·have:i≠nid:=by rintro rfl;rcases hn.was with h3|h3<;>rw [h3] at hd<;>cases hd
   show H'[i]?=_;rw [hn.other _ this,hd]
 refine ⟨⟨h.below,h.old,h.mlt,fun i v b hp=>?_,h.inj,fun i x hx=>?_,fun g cs hg=>RepAt.mono cs hle.bare (h.glob g cs hg)⟩,hle⟩
 ·have hi:i≠nid:=by
   rintro rfl
   have:E.φ i v=some b:=hp
   rw [hφ v] at this;cases this
  obtain ⟨k1,k2,k3⟩:=h.phi i v b hp
  refine ⟨?_,?_,k3⟩
  ·show ∃ x,H'[i]?=some x;rw [hn.other _ hi];exact k1
  ·show H'[i]?≠_;rw [hn.other _ hi];exact k2
 ·by_cases hi:i=nid
  ·subst hi
   have hx':H'[i]?=some x:=hx
   rw [hn.is] at hx';injection hx' with hx';subst hx'
   refine ⟨ad,0,0,by simp,rfl,Nat.le_refl _,by simp [maxLen],⟨by simp,fun u _=>hφ u⟩,.inl ⟨rfl,rfl⟩⟩
  ·have hx':E.H[i]?=some x:=by rw [← hn.other _ hi];exact hx
   exact HOK.mono hle rfl (by show (if i=nid then _ else E.τ i)=_;rw [if_neg hi]) (fun v b hb=>⟨rfl,fun _=>Iff.rfl⟩) (h.blk i x hx')
theorem src_sound (hE:EOK G w0 M0 E) {tx:TypeId} {dx:TD} {e' esz by_ sz:Nat} (ht:tdOf P tx=some dx) (hsh:dx.sh=.slice e' esz by_) {y:V} {x:Value} {xs:List V} (hr:Rep E y x) (hs:srcV E.H y=some xs) (hok:xs.all (okE sz)=true) :
 ∃ news a c,x=.slice a xs.length c∧Src P sz tx x xs.length news E.w∧RepL E.bare (flatV xs) news:=by
 obtain ⟨i,ds,z,h1,h2,h3,h4,rfl⟩:=tdOf_some ht
 obtain ⟨ie,rfl,hie,rfl,rfl⟩:=shOf_slice hsh
 have hlen:=okE_len hok
 have key:∀ (ad:Option Addr) (n c:Nat) (hn:n=xs.length),(xs≠[] → ∃ b o,ad=some ⟨b,o,none⟩ ∧ ∃ news,RepL E.bare (flatV xs) news ∧ ∀ j u,news[j]?=some u→E.w.cell? ⟨b,o + j,none⟩=some u) →
  ∃ news a c',(Value.slice ad n c)=.slice a xs.length c'∧Src P sz tx (.slice ad n c) xs.length news E.w∧RepL E.bare (flatV xs) news:=by
  intro ad n c hn hk
  subst hn
  by_cases hx:xs=[]
  ·subst hx
   refine ⟨[],ad,c,rfl,?_,RepL.nil _⟩
   cases ad with
   | none=>exact Src.ofNil E.w h2 c
   | some ad=>exact Src.ofSlice E.w h2 ad 0 c [] (by simp) (by simp) (by simp)
  ·obtain ⟨b,o,rfl,news,q1,q2⟩:=hk hx
   refine ⟨news,_,c,rfl,Src.ofSlice E.w h2 ⟨b,o,none⟩ _ c news ?_ ?_ ?_,q1⟩
   ·rw [q1.length,flatV_length hlen]
   ·intro j u hj;rw [Addr.add_none];exact q2 j u hj
   ·exact RepL.one (okE_one hok) q1
 cases y<;>simp only [srcV] at hs<;>try (cases hs;done)
 ·rename_i es m
  injection hs with hs;subst hs
  simp only [Rep] at hr
  obtain ⟨ad,n,c,q1,q2,q3,q4,q5,q6,q7⟩:=hr
  subst q1
  refine key ad n c q2 fun hne=>?_
  obtain ⟨sz',b,o,rfl,q8⟩:=q7 hne
  have hsz:sz'=sz:=by
   obtain ⟨u,us,rfl⟩:=List.exists_cons_of_ne_nil hne
   have:=(q8.get 0 u (by simp)).1
   have:=hlen u (by simp)
   omega
  subst hsz
  obtain ⟨news,r1,r2⟩:=RepAt.to (RepEs.flat.1 q8).2
  exact ⟨b,o,rfl,news,r1,fun j u hj=>(r2 j u hj).1⟩
 ·rename_i j ver
  split at hs
  ·rename_i sz' es v imm hH
   split at hs
   ·rename_i hv;subst hv
    injection hs with hs;subst hs
    simp only [Rep,hH] at hr
    obtain ⟨_,_,hr⟩:=hr
    have hr:=hr trivial
    obtain ⟨a',n,c,g1,g2,g3,g4,g5,g6⟩:=hE.blk _ _ hH
    rw [g1] at hr;subst hr
    refine key a' n c g2 fun hne=>?_
    rcases g6 with ⟨g6,_⟩|⟨b,C,ty,g6,g7,g8,g9,g10,g11,g12⟩
    ·exact absurd (List.eq_nil_of_length_eq_zero (by omega)) hne
    ·subst g7
     refine ⟨b,0,rfl,_,g10,fun j u hj=>?_⟩
     rw [List.getElem?_take] at hj
     split at hj
     ·rw [cell_of_row E.w b _ C ty (0,0) g8];simpa using hj
     ·cases hj
   ·cases hs
  ·cases hs
theorem exec_append {c:Call} {x y:Operand} {t tx:TypeId} (ho:o.op=.call c) (hc:c.callee=.builtin .append) (h1:c.args = #[x,y]) (h7:c.argTypes = #[t,tx]) {v:Value} {w w':World}
 (hr:(Builtin.append_ #[t,tx] o.type #[a.eval x,a.eval y]).run P w=.ok v w'):(execOp a.eval o).run P w=.ok (.value v) w':=by
 simp only [execOp,ho,resolve,hc,invoke,builtin,h1,h7,Sem.run_bind,Sem.run_pure,Result.andThen_ok]
 simp [hr]
theorem new_row (hE:EOK G w0 M0 E) {e:TypeId} {sz n cap:Nat} {es:List V} {C:Array Value} (hn:n=es.length) (hcap:n≤cap) (hmax:cap≤maxLen) (hlen:∀ e∈es,e.cells.length=sz) (hC:C.size=cap * sz)
 (hrep:RepL E.bare (flatV es) (C.toList.take (n * sz))) (hN:NewAt E.H nid (.row sz es 0 false) H') :
 ∃ E',E'.w=E.w.drew.alloc (.cells C e)∧E'.H=H'∧E.le E'∧EOK G w0 M0 E'∧Rep E' (.row nid 0) (.slice (some ⟨E.w.heap.size,0,none⟩) n cap):=by
 obtain ⟨d1,d2⟩:=hE.drew
 obtain ⟨g1,g2⟩:=d1.allocOwn (.cells C e) (nid:=nid) (ab:=.row sz es 0 false) (H':=H') hN (.slice (some ⟨E.w.heap.size,0,none⟩) n cap) (fun _=>True) (by simp) (fun hle =>
  ⟨some ⟨E.w.heap.size,0,none⟩,n,cap,by simp [Env.allocOwn],hn,hcap,hmax,⟨hlen,fun u hu=>by simp [Env.allocOwn];omega⟩,.inr ⟨E.w.heap.size,C,e,by simp [Env.allocOwn],rfl,alloc_at _ _,hC,RepL.mono _ (d2.bare.trans hle.bare) hrep,fun o _=>.inr ⟨rfl,trivial⟩,fun o _=>⟨fun _=>rfl,fun _=>.inr ⟨rfl,trivial⟩⟩⟩⟩)
 refine ⟨_,rfl,rfl,d2.trans g2,g1,?_⟩
 simp only [Rep]
 refine ⟨⟨_,_,_,rfl⟩,?_⟩
 have:(Env.allocOwn { E with w:=E.w.drew } (.cells C e) nid H' (.slice (some ⟨E.w.heap.size,0,none⟩) n cap) (fun _=>True)).H[nid]?=some (.row sz es 0 false):=hN.is
 rw [this]
 exact ⟨Nat.le_refl _,fun _=>by simp [Env.allocOwn]⟩
theorem ok_append_new {c:Call} {x y:Operand} {t tx:TypeId} (ho:o.op=.call c) (hc:c.callee=.builtin .append) (ha:c.args = #[x,y]) (h7:c.argTypes = #[t,tx]) (hE:EOK G w0 M0 E) (hfr:RepL E fr a.tmps.toList)
 {d dx de:TD} {e esz bytes e' esz' by':Nat} (hd:tdOf P t=some d) (hsh:d.sh=.slice e esz bytes) (hdx:tdOf P tx=some dx) (hshx:dx.sh=.slice e' esz' by') (hde:tdOf P e=some de) (hz:de.zero.length=esz)
 {es xs:List V} {m:Mk} (hx:evalO G fr x=.sl es m) (hm:m=.nil∨m=.tight) (hy:srcV E.H (evalO G fr y)=some xs) (hok:(es++xs).all (okE esz)=true) (hlen:es.length + xs.length≤1099511627776) (hb:bytes≤128)
 (hne:es=[]∨xs≠[]) (hN:NewAt E.H nid (.row esz (es++xs) 0 false) H'):Comes P G w0 M0 E a o (.row nid 0) H':=by
 have hoe:es.all (okE esz)=true:=by rw [List.all_append,Bool.and_eq_true] at hok;exact hok.1
 have hox:xs.all (okE esz)=true:=by rw [List.all_append,Bool.and_eq_true] at hok;exact hok.2
 have hrx:=evalO_sound hE hfr x
 have hry:=evalO_sound hE hfr y
 rw [hx] at hrx
 obtain ⟨olds,ad,cp,q1,q2,q3⟩:=src_sound hE hd hsh hrx rfl hoe
 obtain ⟨news,ad',cp',r1,r2,r3⟩:=src_sound hE hdx hshx hry hy hox
 have hcp:cp=es.length:=by
  rw [q1] at hrx
  simp only [Rep] at hrx
  obtain ⟨a1,n1,c1,k1,k2,k3,k4,k5,k6,k7⟩:=hrx
  injection k1 with k1 k8 k9;subst k8;subst k9
  rcases hm with rfl|rfl
  ·have:=k5 rfl;injection this with _ h2 h3;subst h3;exact h2 ▸ k2 ▸ rfl
  ·exact (k6 rfl).trans k2
 obtain ⟨i,ds,z,h1,h2,h3,h4,hdd⟩:=tdOf_some hd
 have hsh':=hsh
 rw [hdd] at hsh'
 obtain ⟨ie,rfl,hie,rfl,rfl⟩:=shOf_slice hsh'
 obtain ⟨ie2,ds2,ze,j1,j2,j3,j4,rfl⟩:=tdOf_some hde
 rw [hie] at j1;injection j1 with j1;subst j1
 have hzs:ze.cells.size=ie.size:=by simpa using hz
 subst hcp
 by_cases hx0:xs=[]
 ·subst hx0
  have he0:es=[]:=by rcases hne with h|h;exact h;exact absurd rfl h
  subst he0
  have hnews:news=[]:=by
   have:=r3.length;exact List.eq_nil_of_length_eq_zero (by simpa [flatV] using this)
  subst hnews
  have hrun:=run_append_nothing E.w t tx o.type e ie h2 hie ad 0 0 (Nat.le_refl _) (a.eval y) r2
  rw [show Value.slice ad 0 0=a.eval x from by rw [q1];rfl] at hrun
  obtain ⟨g1,g2⟩:=hE.row0 hN ad
  refine ⟨a.eval x,{ E with τ:=fun j=>if j=nid then .slice ad 0 0 else E.τ j,H:=H' },.inl (exec_append ho hc ha h7 hrun),rfl,g2,g1,?_⟩
  simp only [Rep]
  refine ⟨⟨_,_,_,q1⟩,?_⟩
  have:({ E with τ:=fun j=>if j=nid then .slice ad 0 0 else E.τ j,H:=H' }:Env).H[nid]?=some (.row ie.size [] 0 false):=hN.is
  rw [this]
  exact ⟨Nat.le_refl _,fun _=>by rw [q1];simp⟩
 ·have hpos:0 < xs.length:=List.length_pos_iff.2 hx0
  have hmax:(281474976710656:Nat)≤maxLen:=by simp [maxLen]
  have hrun:=run_append_grow_src E.w t tx o.type e ie ze h2 hie j3 ad es.length es.length olds (by have:=q2.cellsD;rw [q1] at this;exact this) (a.eval y) xs.length news r2 (by omega) (by omega)
   (growslice_fits (by omega) (by calc (es.length + xs.length) * ie.bytes≤1099511627776 * 128:=Nat.mul_le_mul hlen hb
                                  _=140737488355328:=rfl))
  have hge:=grownCap_ge E.w (es.length + xs.length) es.length e
  have hgm:=grownCap_le_maxLen E.w (es.length + xs.length) es.length e (by omega)
  have hol:=q2.newsLen
  have hnl:=r2.newsLen
  obtain ⟨E',e1,e2,e3,e4,e5⟩:=new_row (nid:=nid) (H':=H') (e:=e) (sz:=ie.size) (n:=es.length + xs.length) (cap:=grownCap E.w (es.length + xs.length) es.length e) (es:=es++xs)
   (C:=(olds++news).toArray++Builtin.zeroCells ze.cells (grownCap E.w (es.length + xs.length) es.length e - (es.length + xs.length))) hE (by simp) hge hgm (okE_len hok)
   (by rw [Array.size_append,size_zeroCells,hzs];simp only [List.size_toArray,List.length_append,hol,hnl];rw [← Nat.add_mul,← Nat.add_mul];congr 1;omega)
   (by rw [flatV_append]
       have:((olds++news).toArray++Builtin.zeroCells ze.cells (grownCap E.w (es.length + xs.length) es.length e - (es.length + xs.length))).toList.take ((es.length + xs.length) * ie.size)=olds++news:=by
        rw [Array.toList_append,List.take_append_of_le_length (by simp only [List.length_append,hol,hnl,Nat.add_mul];exact Nat.le_refl _)]
        exact List.take_of_length_le (by simp only [List.length_append,hol,hnl,Nat.add_mul];exact Nat.le_refl _)
       rw [this];exact q3.append r3) hN
  refine ⟨_,E',.inl (exec_append ho hc ha h7 (w:=E.w) (w':=E'.w) (v:=.slice (some ⟨E.w.heap.size,0,none⟩) (es.length + xs.length) (grownCap E.w (es.length + xs.length) es.length e)) ?_),e2,e3,e4,e5⟩
  rw [e1,q1];exact hrun
theorem ok_append_row {c:Call} {x y:Operand} {t tx:TypeId} (ho:o.op=.call c) (hc:c.callee=.builtin .append) (ha:c.args = #[x,y]) (h7:c.argTypes = #[t,tx]) (hE:EOK G w0 M0 E) (hfr:RepL E fr a.tmps.toList)
 {d dx de:TD} {e esz bytes e' esz' by':Nat} (hd:tdOf P t=some d) (hsh:d.sh=.slice e esz bytes) (hdx:tdOf P tx=some dx) (hshx:dx.sh=.slice e' esz' by') (hde:tdOf P e=some de) (hz:de.zero.length=esz)
 {es xs:List V} {i ver:Nat} {imm:Bool} (hx:evalO G fr x=.row i ver) (hi:E.H[i]?=some (.row esz es ver imm)) (hy:srcV E.H (evalO G fr y)=some xs) (hok:xs.all (okE esz)=true) (hlen:es.length + xs.length≤1099511627776) (hb:bytes≤128) :
 Comes P G w0 M0 E a o (.row i (ver + 1)) (E.H.set i (.row esz (es++xs) (ver + 1) imm)):=by
 have hrx:=evalO_sound hE hfr x
 have hry:=evalO_sound hE hfr y
 rw [hx] at hrx
 obtain ⟨news,ad',cp',r1,r2,r3⟩:=src_sound hE hdx hshx hry hy hok
 obtain ⟨ix,ds,z,h1,h2,h3,h4,hdd⟩:=tdOf_some hd
 have hsh':=hsh
 rw [hdd] at hsh'
 obtain ⟨ie,rfl,hie,rfl,rfl⟩:=shOf_slice hsh'
 obtain ⟨ie2,ds2,ze,j1,j2,j3,j4,rfl⟩:=tdOf_some hde
 rw [hie] at j1;injection j1 with j1;subst j1
 have hzs:ze.cells.size=ie.size:=by simpa using hz
 have hil:i < E.H.length:=(List.getElem?_eq_some_iff.1 hi).1
 have hself:∀ ab:AB,(E.H.set i ab)[i]?=some ab:=fun ab=>by simp [hil]
 simp only [Rep,hi] at hrx
 obtain ⟨_,_,hrx⟩:=hrx
 have hrx:=hrx trivial
 obtain ⟨ad,n,cp,g1,rfl,g3,g4,g5,g6⟩:=hE.blk i _ hi
 rw [g1] at hrx
 have hnl:=r2.newsLen
 have hlenx:=okE_len hok
 have hall:∀ u∈es++xs,u.cells.length=ie.size:=fun u hu=>(List.mem_append.1 hu).elim (g5.1 u) (hlenx u)
 have hfin:∀ (w':World) (nb:Option Nat) (t':Value) (M':Nat→Nat→Prop),(∃ aa nn cc,t'=.slice aa nn cc)→Rep (E.bumped w' i ver nb t' M' (.row ie.size (es++xs) (ver + 1) imm)) (.row i (ver + 1)) t':=by
  intro w' nb t' M' hsl
  simp only [Rep]
  refine ⟨hsl,?_⟩
  have:(E.bumped w' i ver nb t' M' (.row ie.size (es++xs) (ver + 1) imm)).H[i]?=some (.row ie.size (es++xs) (ver + 1) imm):=hself _
  rw [this]
  exact ⟨Nat.le_refl _,fun _=>by simp [Env.bumped]⟩
 have hgrow:∀ (olds:List Value),RepL E.bare (flatV es) olds→(Builtin.firstCells ie.size es.length (.slice ad es.length cp)).run P E.w.drew=.ok olds.toArray E.w.drew→olds.length=es.length * ie.size→cp < es.length + xs.length →
  Comes P G w0 M0 E a o (.row i (ver + 1)) (E.H.set i (.row ie.size (es++xs) (ver + 1) imm)):=by
  intro olds q3 q2 hol hlt
  have hmax:(281474976710656:Nat)≤maxLen:=by simp [maxLen]
  have hrun:=run_append_grow_src E.w t tx o.type e ie ze h2 hie j3 ad es.length cp olds q2 (a.eval y) xs.length news r2 hlt (by omega)
   (growslice_fits hlt (by calc (es.length + xs.length) * ie.bytes≤1099511627776 * 128:=Nat.mul_le_mul hlen hb
                           _=140737488355328:=rfl))
  have hge:=grownCap_ge E.w (es.length + xs.length) cp e
  have hgm:=grownCap_le_maxLen E.w (es.length + xs.length) cp e (by omega)
  generalize hcap:grownCap E.w (es.length + xs.length) cp e=cap at hrun hge hgm
  generalize hC:(olds++news).toArray++Builtin.zeroCells ze.cells (cap - (es.length + xs.length))=C at hrun
  have hCs:C.size=cap * ie.size:=by
   rw [← hC,Array.size_append,size_zeroCells,hzs];simp only [List.size_toArray,List.length_append,hol,hnl];rw [← Nat.add_mul,← Nat.add_mul];congr 1;omega
  have hCt:C.toList.take ((es.length + xs.length) * ie.size)=olds++news:=by
   rw [← hC,Array.toList_append,List.take_append_of_le_length (by simp only [List.length_append,hol,hnl,Nat.add_mul];exact Nat.le_refl _)]
   exact List.take_of_length_le (by simp only [List.length_append,hol,hnl,Nat.add_mul];exact Nat.le_refl _)
  let w':=E.w.drew.alloc (.cells C e)
  have hsz:w'.heap.size=E.w.heap.size + 1:=by simp [w']
  obtain ⟨k1,k2⟩:=hE.bump hi w' (some E.w.heap.size) (.slice (some ⟨E.w.heap.size,0,none⟩) (es.length + xs.length) cap) (fun b k=>E.M b k∨(b=E.w.heap.size∧(imm=true→(es.length + xs.length) * ie.size≤k))) ie.size (es++xs) imm
   ((hE.below.drew).alloc hE.below.size _)
   (fun b k u hs=>⟨by
     show (E.w.drew.alloc _).cell? _=_
     rw [World.cell?_alloc_lt (h:=by simpa using EOK.lt_of_stab E hs)];exact hs.1,by
     rintro (h|⟨h,_⟩)
     ·exact hs.2 h
     ·have:=EOK.lt_of_stab E hs;omega⟩)
   (fun b k hb=>⟨by
     rintro (h|⟨h,_⟩)
     ·exact h
     ·have:=hE.below.size;omega,.inl⟩)
   (fun b k hm=>by
     rcases hm with h|⟨h,_⟩
     ·have:=hE.mlt _ _ h;omega
     ·omega)
   (by omega)
   (fun b hb=>by
     injection hb with hb;subst hb
     exact ⟨hE.below.size,by omega,fun j u hj=>by have:=(hE.phi j u _ hj).2.2.2;omega⟩)
   (fun j u b hj hb=>by
     have hlt:=(hE.phi j u b hb).2.2.2
     refine ⟨Below.heap_alloc E.w.drew _ b (by simpa using hlt),fun k=>⟨?_,.inl⟩⟩
     rintro (h|⟨h,_⟩)
     ·exact h
     ·omega)
   (fun hle=>by
     refine ⟨some ⟨E.w.heap.size,0,none⟩,es.length + xs.length,cap,by simp [Env.bumped],by simp,hge,hgm,⟨hall,fun u hu=>?_⟩,.inr ⟨E.w.heap.size,C,e,by simp [Env.bumped],rfl,?_,hCs,?_,fun k hk=>.inr ⟨rfl,fun _=>hk⟩,fun k hk=>?_⟩⟩
     ·show (if i=i∧u=ver + 1 then _ else E.φ i u)=none
      rw [if_neg (by omega)];exact g5.2 u (by omega)
     ·show (E.w.drew.alloc _).heap[_]?=_
      exact alloc_at E.w.drew _
     ·rw [hCt,flatV_append];exact RepL.mono _ hle.bare (q3.append r3)
     ·constructor
      ·rintro (h|⟨_,h⟩)
       ·have:=hE.mlt _ _ h;omega
       ·cases himm:imm with
        | false=>rfl
        | true=>have:=h himm;omega
      ·intro himm;exact .inr ⟨rfl,fun hc=>by rw [himm] at hc;cases hc⟩)
  exact ⟨_,E.bumped w' i ver (some E.w.heap.size) (.slice (some ⟨E.w.heap.size,0,none⟩) (es.length + xs.length) cap) (fun b k=>E.M b k∨(b=E.w.heap.size∧(imm=true→(es.length + xs.length) * ie.size≤k))) (.row ie.size (es++xs) (ver + 1) imm),
   .inl (exec_append ho hc ha h7 (w:=E.w) (v:=.slice (some ⟨E.w.heap.size,0,none⟩) (es.length + xs.length) cap) (by rw [hrx];exact hrun)),rfl,k2,k1,hfin _ _ _ _ ⟨_,_,_,rfl⟩⟩
 have hnothing:xs=[]→(∃ nb,((es.length=0∧cp=0)∧nb=none)∨(∃ b C e,E.φ i ver=some b∧nb=some b∧ad=some ⟨b,0,none⟩∧E.w.heap[b]?=some (.cells C e (0,0))∧C.size=cp * ie.size ∧
  RepL E.bare (flatV es) (C.toList.take (es.length * ie.size))∧(∀ o,es.length * ie.size≤o→E.M b o)∧(∀ o,o < es.length * ie.size→(E.M b o↔imm=false)))) →
  Comes P G w0 M0 E a o (.row i (ver + 1)) (E.H.set i (.row ie.size (es++xs) (ver + 1) imm)):=by
  rintro rfl ⟨nb,hnb⟩
  have hnews:news=[]:=by
   have:=r3.length;exact List.eq_nil_of_length_eq_zero (by simpa [flatV] using this)
  subst hnews
  have hrun:=run_append_nothing E.w t tx o.type e ie h2 hie ad es.length cp g3 (a.eval y) r2
  obtain ⟨k1,k2⟩:=hE.bump hi E.w nb (.slice ad es.length cp) E.M ie.size (es++[]) imm hE.below (fun b k u hs=>hs) (fun _ _ _=>Iff.rfl) hE.mlt (Nat.le_refl _)
   (fun b hb=>by
     rcases hnb with ⟨_,h⟩|⟨b',C,e',q1,q2,q3⟩
     ·rw [h] at hb;cases hb
     ·rw [q2] at hb;injection hb with hb;subst hb
      exact ⟨(hE.phi _ _ _ q1).2.2.1,(hE.phi _ _ _ q1).2.2.2,fun j u hj=>hE.inj _ _ _ _ _ hj q1⟩)
   (fun j u b hj hb=>⟨rfl,fun _=>Iff.rfl⟩)
   (fun hle=>by
     refine ⟨ad,es.length,cp,by simp [Env.bumped],by simp,g3,g4,⟨hall,fun u hu=>?_⟩,?_⟩
     ·show (if i=i∧u=ver + 1 then _ else E.φ i u)=none
      rw [if_neg (by omega)];exact g5.2 u (by omega)
     ·rcases hnb with ⟨h,_⟩|⟨b',C,e',q1,q2,q3,q4,q5,q6,q7,q8⟩
      ·exact .inl h
      ·exact .inr ⟨b',C,e',by simp [Env.bumped,q2],q3,q4,q5,by rw [List.append_nil];exact RepL.mono _ hle.bare q6,q7,q8⟩)
  exact ⟨_,E.bumped E.w i ver nb (.slice ad es.length cp) E.M (.row ie.size (es++[]) (ver + 1) imm),.inl (exec_append ho hc ha h7 (w:=E.w) (v:=.slice ad es.length cp) (by rw [hrx];exact hrun)),rfl,k2,k1,hfin _ _ _ _ ⟨_,_,_,rfl⟩⟩
 rcases g6 with ⟨q1,q2⟩|⟨b,C,ty,q6,q7,q8,q9,q10,q11,q12⟩
 ·by_cases hx0:xs=[]
  ·exact hnothing hx0 ⟨none,.inl ⟨⟨q1,q2⟩,rfl⟩⟩
  ·have hpos:0 < xs.length:=List.length_pos_iff.2 hx0
   have he0:es=[]:=List.eq_nil_of_length_eq_zero q1
   refine hgrow [] (by rw [he0];exact RepL.nil _) ?_ (by simp [q1]) (by omega)
   rw [he0]
   cases ad with
   | none=>exact run_firstCells_none E.w.drew ie.size 0 0 cp
   | some ad=>exact run_firstCells_some E.w.drew ie.size 0 ad 0 cp [] (by simp) (by simp)
 ·subst q7
  by_cases hx0:xs=[]
  ·exact hnothing hx0 ⟨some b,.inr ⟨b,C,ty,q6,rfl,rfl,q8,q9,q10,q11,q12⟩⟩
  ·have hpos:0 < xs.length:=List.length_pos_iff.2 hx0
   rcases Nat.lt_or_ge cp (es.length + xs.length) with hlt|hroom
   ·refine hgrow _ q10 ?_ ?_ hlt
    ·refine run_firstCells_some E.w.drew ie.size es.length ⟨b,0,none⟩ es.length cp _ ?_ ?_
     ·rw [q10.length,flatV_length g5.1]
     ·intro j u hj
      rw [Addr.add_none]
      rw [List.getElem?_take] at hj
      split at hj
      ·show E.w.cell? _=_
       rw [cell_of_row E.w b _ C ty (0,0) q8];simpa using hj
      ·cases hj
    ·rw [q10.length,flatV_length g5.1]
   ·
    have hmul:(es.length + xs.length) * ie.size≤cp * ie.size:=Nat.mul_le_mul_right _ hroom
    have hadd:(es.length + xs.length) * ie.size=es.length * ie.size + xs.length * ie.size:=Nat.add_mul _ _ _
    have hst:=run_storeCells_at P b (es.length * ie.size) ty news 0 C E.w q8 (by rw [hnl,q9];omega) r2.one
    simp only [Nat.add_zero] at hst
    let C':=(C.toList.take (es.length * ie.size)++news++C.toList.drop (es.length * ie.size + news.length)).toArray
    let w':=E.w.setRow b C'
    have hrun:(Builtin.append_ #[t,tx] o.type #[.slice (some ⟨b,0,none⟩) es.length cp,a.eval y]).run P E.w=.ok (.slice (some ⟨b,0,none⟩) (es.length + xs.length) cp) w':=by
     rcases r2.kind with ⟨e',hk⟩|hk<;>simp [Builtin.append_,run_underlying h2,run_underlying hk,sizeOf,typeInfo,hie,r2.len,hroom,r2.cells,Addr.add_lit,hst,w',C']
    have hw'b:w'.heap[b]?=some (.cells C' ty (0,0)):=setRow_heap E.w b C _ ty (0,0) q8
    have hCl:C.toList.length=cp * ie.size:=by simpa using q9
    have hC's:C'.size=cp * ie.size:=by simp only [C',List.size_toArray,List.length_append,List.length_take,List.length_drop,hCl,hnl];omega
    have htake:(C'.toList.take ((es.length + xs.length) * ie.size))=C.toList.take (es.length * ie.size)++news:=by
     simp only [C']
     rw [List.take_append_of_le_length (by simp only [List.length_append,List.length_take,hCl,hnl];omega)]
     exact List.take_of_length_le (by simp only [List.length_append,List.length_take,hCl,hnl];omega)
    have hbphi:=hE.phi i ver b q6
    obtain ⟨k1,k2⟩:=hE.bump hi w' (some b) (.slice (some ⟨b,0,none⟩) (es.length + xs.length) cp) (fun b' k=>E.M b' k ∧ ¬ (imm=true∧b'=b∧k < (es.length + xs.length) * ie.size)) ie.size (es++xs) imm
     (hE.below.trans ⟨rfl,rfl,rfl,by show _≤w'.heap.size;simp [w'],fun k hk=>setRow_other E.w b k _ (by omega)⟩)
     (fun b' k u hs=>⟨by
       by_cases hbb:b'=b
       ·subst hbb
        have hlt:k < es.length * ie.size:=by
         rcases Nat.lt_or_ge k (es.length * ie.size) with h|h
         ·exact h
         ·exact absurd (q11 k h) hs.2
        have h1:=hs.1
        rw [cell_of_row E.w b' _ C ty (0,0) q8] at h1
        rw [cell_of_row w' b' _ C' ty (0,0) hw'b]
        simp only [C']
        simp only [List.getElem?_toArray]
        rw [List.append_assoc,List.getElem?_append_left (by simp only [List.length_take,hCl];omega),List.getElem?_take_of_lt hlt]
        simpa using h1
       ·rw [World.cell?_of_block (setRow_other E.w b b' _ hbb)];exact hs.1,fun hm=>hs.2 hm.1⟩)
     (fun b' k hb'=>⟨fun hm=>hm.1,fun hm=>⟨hm,fun hc=>by have:=hbphi.2.2.1;omega⟩⟩)
     (fun b' k hm=>by show b' < w'.heap.size;have:=hE.mlt _ _ hm.1;simpa [w'] using this)
     (by simp [w'])
     (fun b' hb'=>by
       injection hb' with hb';subst hb'
       exact ⟨hbphi.2.2.1,by simpa [w'] using hbphi.2.2.2,fun j u hj=>hE.inj _ _ _ _ _ hj q6⟩)
     (fun j u b' hj hb'=>by
       have hne:b'≠b:=by rintro rfl;exact hj (hE.inj _ _ _ _ _ hb' q6)
       exact ⟨setRow_other E.w b b' _ hne,fun k=>⟨fun hm=>hm.1,fun hm=>⟨hm,fun hc=>hne hc.2.1⟩⟩⟩)
     (fun hle=>by
       refine ⟨some ⟨b,0,none⟩,es.length + xs.length,cp,by simp [Env.bumped],by simp,hroom,g4,⟨hall,fun u hu=>?_⟩,.inr ⟨b,C',ty,by simp [Env.bumped],rfl,hw'b,hC's,?_,fun k hk=>⟨q11 k (by omega),fun hc=>by omega⟩,fun k hk=>?_⟩⟩
       ·show (if i=i∧u=ver + 1 then _ else E.φ i u)=none
        rw [if_neg (by omega)];exact g5.2 u (by omega)
       ·rw [htake,flatV_append];exact RepL.mono _ hle.bare (q10.append r3)
       ·constructor
        ·rintro ⟨_,h⟩
         cases himm:imm with
         | false=>rfl
         | true=>exact absurd ⟨himm,rfl,hk⟩ h
        ·intro himm
         refine ⟨?_,fun hc=>by rw [himm] at hc;cases hc.1⟩
         rcases Nat.lt_or_ge k (es.length * ie.size) with h|h
         ·exact (q12 k h).2 himm
         ·exact q11 k h)
    exact ⟨_,E.bumped w' i ver (some b) (.slice (some ⟨b,0,none⟩) (es.length + xs.length) cp) (fun b' k=>E.M b' k ∧ ¬ (imm=true∧b'=b∧k < (es.length + xs.length) * ie.size)) (.row ie.size (es++xs) (ver + 1) imm),
     .inl (exec_append ho hc ha h7 (w:=E.w) (v:=.slice (some ⟨b,0,none⟩) (es.length + xs.length) cp) (by rw [hrx];exact hrun)),rfl,k2,k1,hfin _ _ _ _ ⟨_,_,_,rfl⟩⟩
theorem appT_some {t tx:TypeId} {esz:Nat} (h:appT P t tx=some esz):∃ d dx de e by_ e' esz' by',tdOf P t=some d∧d.sh=.slice e esz by_∧tdOf P tx=some dx∧dx.sh=.slice e' esz' by'∧tdOf P e=some de∧de.zero.length=esz∧by_≤128:=by
 unfold appT at h
 split at h
 ·rename_i d dx hd hdx
  split at h
  ·rename_i e esz' by_ e' esz2 by' h1 h2
   split at h
   ·rename_i de hde
    split at h
    ·rename_i hc;injection h with h;subst h
     exact ⟨d,dx,de,e,by_,e',esz2,by',hd,h1,hdx,h2,hde,hc.1,hc.2⟩
    ·cases h
   ·cases h
  ·cases h
 ·cases h
theorem condR_some {r:Option (Bool×V×Upd)} {q:V×Upd} (h:condR r=some q):r=some (true,q):=by
 unfold condR at h
 split at h
 ·injection h with h;subst h;rfl
 ·cases h
theorem append_sound {c:Call} {x y:Operand} {t tx:TypeId} (ho:o.op=.call c) (hc:c.callee=.builtin .append) (ha:c.args.toList=[x,y]) (h7:c.argTypes.toList=[t,tx]) (hE:EOK G w0 M0 E) (hfr:RepL E fr a.tmps.toList)
 {esz:Nat} (hT:appT P t tx=some esz) {xs:List V} (hy:srcV E.H (evalO G fr y)=some xs) {v:V} {u:Upd} (h:condR (appR E.H nid esz xs (evalO G fr x))=some (v,u)) (hA:After E.H nid u H'):Comes P G w0 M0 E a o v H':=by
 obtain ⟨d,dx,de,e,by_,e',esz',by',hd,h1,hdx,h2,hde,hz,hb⟩:=appT_some hT
 have ha':c.args = #[x,y]:=by rw [← Array.toArray_toList (xs:=c.args),ha]
 have h7':c.argTypes = #[t,tx]:=by rw [← Array.toArray_toList (xs:=c.argTypes),h7]
 have h:=condR_some h
 generalize hvx:evalO G fr x=vx at h
 cases vx<;>simp only [appR] at h<;>try (cases h;done)
 ·rename_i es m
  have hm:m=.nil∨m=.tight:=by cases m<;>simp_all
  have h':some ((es++xs).all (okE esz) && decide (es.length + xs.length≤1099511627776),bif es.isEmpty || !xs.isEmpty then (V.row nid 0,(⟨[],some (.row esz (es++xs) 0 false)⟩:Upd)) else (.sl es m,.no))=some (true,v,u):=by
   rcases hm with rfl|rfl<;>exact h
  simp only [Option.some.injEq,Prod.mk.injEq,Bool.and_eq_true,decide_eq_true_eq] at h'
  obtain ⟨⟨k1,k2⟩,h'⟩:=h'
  cases hbb:(es.isEmpty || !xs.isEmpty) with
  | true =>
    rw [hbb] at h'
    simp only [cond_true,Prod.mk.injEq] at h'
    obtain ⟨rfl,rfl⟩:=h'
    refine ok_append_new ho hc ha' h7' hE hfr hd h1 hdx h2 hde hz hvx hm hy k1 k2 hb ?_ hA
    simpa using hbb
  | false =>
    rw [hbb] at h'
    simp only [cond_false,Prod.mk.injEq] at h'
    obtain ⟨rfl,rfl⟩:=h'
    have hxs:xs=[]:=by
     simp only [Bool.or_eq_false_iff,Bool.not_eq_false',List.isEmpty_iff] at hbb;exact hbb.2
    subst hxs
    have:H'=E.H:=hA.no
    subst this
    have hrx:=evalO_sound hE hfr x
    have hry:=evalO_sound hE hfr y
    rw [hvx] at hrx
    obtain ⟨news,ad',cp',r1,r2,r3⟩:=src_sound (sz:=esz) hE hdx h2 hry hy (by simp)
    obtain ⟨i,ds,z,g1,g2,g3,g4,hdd⟩:=tdOf_some hd
    rw [hdd] at h1
    obtain ⟨ie,rfl,hie,rfl,rfl⟩:=shOf_slice h1
    have hnews:news=[]:=List.eq_nil_of_length_eq_zero (by simpa [flatV] using r3.length)
    subst hnews
    have hrx':=hrx
    simp only [Rep] at hrx'
    obtain ⟨ad,n,cp,q1,q2,q3,q4⟩:=hrx'
    refine Comes.pure hE (x:=a.eval x) (exec_append ho hc ha' h7' ?_) hrx
    rw [q1]
    exact run_append_nothing E.w t tx o.type e ie g2 hie ad n cp q3 (a.eval y) r2
 ·rename_i i ver
  split at h
  ·rename_i sz es v' imm hi
   split at h
   ·rename_i hv
    obtain ⟨rfl,rfl⟩:=hv
    simp only [Option.some.injEq,Prod.mk.injEq,Bool.and_eq_true,decide_eq_true_eq] at h
    obtain ⟨⟨k1,k2⟩,rfl,rfl⟩:=h
    have:H'=E.H.set i (.row sz (es++xs) (ver + 1) imm):=hA
    subst this
    exact ok_append_row ho hc ha' h7' hE hfr hd h1 hdx h2 hde hz hvx hi hy k1 k2 hb
   ·cases h
  ·cases h
theorem slice_sound {t:TypeId} {x:Operand} {lo hi mx:Option Operand} (ho:o.op=.slice t x lo hi mx) (hE:EOK G w0 M0 E) (hfr:RepL E fr a.tmps.toList) {esz:Nat} (hT:slcT P t=some esz)
 {l h m:Option Nat} (hl:optN G fr lo=some l) (hh:optN G fr hi=some h) (hm:optN G fr mx=some m) {v:V} {u:Upd} (hr:condR (slcR E.H esz l h m (evalO G fr x))=some (v,u)) (hA:After E.H nid u H'):Comes P G w0 M0 E a o v H':=by
 unfold slcT at hT
 split at hT
 ·rename_i d hd
  split at hT
  ·rename_i e esz' by_ hsh
   injection hT with hT;subst hT
   replace hr:=condR_some hr
   have hrx:=evalO_sound hE hfr x
   generalize hvx:evalO G fr x=vx at hr hrx
   cases vx<;>simp only [slcR] at hr<;>try (cases hr;done)
   ·rename_i es mk
    simp only [Option.some.injEq,Prod.mk.injEq,Bool.and_eq_true] at hr
    obtain ⟨⟨k1,k2⟩,rfl,rfl⟩:=hr
    have:H'=E.H:=hA.no
    subst this
    exact ok_slice ho hE hfr hd hsh hl hh hm hrx k1 (fun e he=>by simpa [lenE'] using List.all_eq_true.1 k2 e he)
   ·rename_i i ver
    split at hr
    ·rename_i sz es v' imm hi
     split at hr
     ·rename_i hv
      obtain ⟨rfl,rfl⟩:=hv
      simp only [Option.some.injEq,Prod.mk.injEq] at hr
      obtain ⟨k1,rfl,rfl⟩:=hr
      obtain ⟨E1,e1,e2,e3,e4⟩:=EOK.immAt hE i
      have hset:immAt E.H i=E.H.set i (.row sz es ver true):=by
       apply List.ext_getElem?
       intro j
       rw [immAt_get]
       by_cases hj:j=i
       ·subst hj;rw [if_pos rfl,hi,List.getElem?_set_self (List.getElem?_eq_some_iff.1 hi).1];rfl
       ·rw [if_neg hj,List.getElem?_set_ne (Ne.symm hj)]
      have hH':H'=E1.H:=by rw [e2,hset];exact hA
      subst hH'
      have hi1:E1.H[i]?=some (.row sz es ver true):=by rw [e2,hset];simp [(List.getElem?_eq_some_iff.1 hi).1]
      have hb:Rep E1.bare (.sl es .plain) (a.eval x):=fz_sound e3 _ (Rep.mono _ e4 hrx) (by simp [fz,fzRow,hi1])
      obtain ⟨a1,n1,c1,g1,g2,g3,g4,g5,g6⟩:=hE.blk i _ hi
      have:=ok_slice (E:=E1) ho e3 (RepL.mono _ e4 hfr) hd hsh hl hh hm (Rep.mono _ E1.bare_le hb) k1 g5.1
      obtain ⟨x',E',r1,r2,r3,r4,r5⟩:=this
      exact ⟨x',E',by rw [← e1];exact r1,r2,e4.trans r3,r4,r5⟩
     ·cases hr
    ·cases hr
  ·cases hT
 ·cases hT
theorem ifc_sound {t:TypeId} {x:Operand} (ho:o.op=.makeInterface t x) (hE:EOK G w0 M0 E) (hfr:RepL E fr a.tmps.toList) (hT:ifcT P t=true) {v:V} (hv:ifc t (evalO G fr x)=some v):Comes P G w0 M0 E a o v E.H:=by
 unfold ifcT at hT
 split at hT
 ·rename_i d hd
  obtain ⟨i,ds,z,g1,g2,g3,g4,rfl⟩:=tdOf_some hd
  have hv':v=.iface t (evalO G fr x):=by
   unfold ifc at hv
   split at hv<;>first|(cases hv;done)|(injection hv with hv;exact hv.symm)
  subst hv'
  refine Comes.pure hE (x:=.iface t (a.eval x)) ?_ ?_
  ·cases ds<;>first|(simp [shOf] at hT;done)|simp [execOp,ho,Instr.makeInterface,run_underlying g2]
  ·simp only [Rep];exact ⟨_,rfl,evalO_sound hE hfr x⟩
 ·cases hT
end
end Go.Ab
