import Derived.Test.YtaebkmmjjabnaaaGreatDoorW4
import Derived.RangeFuncLeaves
import Derived.RangeFuncCalls
import Derived.OrdersIn
import Derived.TacticsIn
set_option maxRecDepth 100000
set_option maxHeartbeats 4000000
set_option linter.unusedSimpArgs false
set_option linter.unusedVariables false
namespace Go.Ab
open Go Go.RowKit
def resultsA (rs:List ResultVar) (tmps:Array Value):Sem Value:=results { (default:Func) with results:=rs.toArray } tmps
theorem results_eq (fn:Func) (tmps:Array Value):results fn tmps=resultsA fn.results.toList tmps:=by
 simp [resultsA,results]
def FR (r:Option Nat):Fence:={ Fence.wide with round:=r }
theorem FR_none:FR none=Fence.wide:=rfl
def rd:List It→Option Nat
 | []=>none
 | .ret _ _::_=>none
 | .fin _::_=>none
 | .rnd l _::_=>some l
 | .rndj l _ _::_=>some l
 | _::k=>rd k
def mkD (D:Nat):Deferred:={ target:=.collected D,args := #[] }
def rndP (P:Program) (l:Nat) (jump:Option Code) (K:Value→World→Prop) (w:World):Prop := ∃ v w',(Instr.endRound l jump).run P w=.ok v w'∧K v w'
def retP (sa:List Act) (dst:Option Tmp) (K:List Act→Exit→Act→World→Prop) (v:Value) (w:World):Prop := ∃ a0 sa',sa=a0::sa'∧K sa' .normal (a0.put dst v) w
def shut (P:Program):List Deferred→World→(World→Prop)→Prop
 | [],w,K=>K w
 | d::ds,w,K => ∃ D w',d=mkD D∧(Instr.takeDeferred D).run P w=.ok [] w'∧shut P ds w' K
def DF:List It→List Deferred→List Act→Prop
 | [],_,_=>True
 | .mk D::k,ds,sa => ∃ ds',ds=mkD D::ds'∧DF k ds' sa
 | .ret _ _::k,ds,sa=>ds=[] ∧ ∀ a0 sa',sa=a0::sa'→DF k a0.defers sa'
 | .rnd _ _::k,ds,sa=>ds=[] ∧ ∀ a0 sa',sa=a0::sa'→DF k a0.defers sa'
 | .rndj _ _ _::k,ds,sa=>ds=[] ∧ ∀ a0 sa',sa=a0::sa'→DF k a0.defers sa'
 | .fin _::_,ds,_=>ds=[]
 | _::k,ds,sa=>DF k ds sa
def post (P:Program) (R:Value→World→Prop):List It→List Act→Exit→Act→World→Prop
 | [],_,_,_,_=>False
 | .code c::k,sa,e,a,w=>match e with
   | .normal=>c.wpIn (FR (rd k)) 0 P (post P R k sa) a w
   | e=>post P R k sa e a w
 | .ops all l::k,sa,e,a,w=>match e with
   | .normal=>wpListIn (FR (rd k)) 0 P all.toArray (post P R k sa) l a w
   | e=>post P R k sa e a w
 | .blk id::k,sa,e,a,w=>match e with
   | .exit id'=>if id'=id then post P R k sa .normal a w else post P R k sa (.exit id') a w
   | e=>post P R k sa e a w
 | .ret rs dst::k,sa,e,a,w=>match e with
   | .normal|.ret=>a.defers=[] ∧ ∃ v,(resultsA rs a.tmps).run P w=.ok v w∧retP sa dst (post P R k) v w
   | _=>False
 | .inv J::k,sa,e,a,w=>match e with
   | .normal=>J sa a w∧DF k a.defers sa
   | e=>post P R k sa e a w
 | .fin rs::_,_,e,a,w=>match e with
   | .normal|.ret=>shut P a.defers w fun w' => ∃ v,(resultsA rs a.tmps).run P w'=.ok v w'∧R v w'
   | _=>False
 | .mk D::k,sa,e,a,w=>match e with
   | .normal|.ret => ∃ ds w',a.defers=mkD D::ds∧(Instr.takeDeferred D).run P w=.ok [] w'∧post P R k sa .ret { a with defers:=ds } w'
   | _=>False
 | .beg l::k,sa,e,a,w=>match e with
   | .normal => ∃ w',(Instr.beginRound l).run P w=.ok () w'∧post P R k sa .normal a w'
   | _=>False
 | .rnd l dst::k,sa,e,a,w=>match e with
   | .normal=>rndP P l none (retP sa dst (post P R k)) w
   | .ret=>rndP P l (some .ret) (retP sa dst (post P R k)) w
   | .exit id=>rndP P l (some (.exit id)) (retP sa dst (post P R k)) w
   | _=>False
 | .rndj l c dst::k,sa,e,a,w=>match e with
   | .normal=>rndP P l (some c) (retP sa dst (post P R k)) w
   | _=>False
 | .erf l::k,sa,e,a,w=>match e with
   | .normal => ∃ jump w',(Instr.endLoop l).run P w=.ok jump w'∧(match jump with
     | none=>post P R k sa .normal a w'
     | some c=>c.wpIn (FR (rd k)) 0 P (post P R k sa) a w')
   | _=>False
def RepStack (E:Env):List (List V)→List Act→Prop
 | [],sa=>sa=[]
 | f::st,sa => ∃ a sa',sa=a::sa'∧RepL E f a.tmps.toList∧RepStack E st sa'
theorem RepStack.mono {E E':Env} (h:E.le E'):∀ {st:List (List V)} {sa:List Act},RepStack E st sa→RepStack E' st sa
 | [],sa,k=>k
 | f::st,sa,⟨a,sa',h1,h2,h4⟩=>⟨a,sa',h1,RepL.mono _ h h2,RepStack.mono h h4⟩
structure Ctx where
 P:Program
 G:Glob
 w0:World
 M0:Nat→Nat→Prop
 R:Value→World→Prop
structure RelE (X:Ctx) (fr:List V) (st:List (List V)) (sa:List Act) (a:Act) (E:Env):Prop where
 ok:EOK X.G X.w0 X.M0 E
 fr:RepL E fr a.tmps.toList
 st:RepStack E st sa
def RUN (X:Ctx) (c:Cfg):Prop := ∀ sa a E,E.H=c.H→RelE X c.fr c.st sa a E→DF c.k a.defers sa→post X.P X.R c.k sa .normal a E.w
theorem put_defers (a:Act) (d:Option Tmp) (x:Value):(a.put d x).defers=a.defers:=by cases d<;>rfl
theorem RelE.put {X:Ctx} {fr:List V} {st:List (List V)} {sa:List Act} {a:Act} {E E':Env} (h:RelE X fr st sa a E) (hle:E.le E') (hE:EOK X.G X.w0 X.M0 E') {v:V} {x:Value} (hv:Rep E' v x) (d:Option Tmp) :
 RelE X (putV fr d v) st sa (a.put d x) E':=by
 refine ⟨hE,?_,h.st.mono hle⟩
 have:=RepL.mono _ hle h.fr
 cases d with
 | none=>exact this
 | some d=>simpa [putV,Act.put,Array.toList_setIfInBounds] using this.set d hv
theorem guardV_sound {X:Ctx} {fr:List V} {a:Act} {E:Env} (hfr:RepL E fr a.tmps.toList) {all:List Oper} {o:Oper} {g:Bool} (h:guardV all fr o=some g):Region.wanted o (yielded all.toArray a.tmps)=g:=by
 unfold guardV at h
 unfold Region.wanted
 cases hg:o.guard with
 | none=>rw [hg] at h;injection h
 | some jw =>
   obtain ⟨j,want⟩:=jw
   rw [hg] at h
   simp only at h
   simp only [yielded,List.getElem?_toArray]
   cases hd:(all[j]?).bind (·.dst) with
   | none =>
     rw [hd] at h
     have:g=false:=by simpa using h.symm
     subst this;cases want<;>rfl
   | some t =>
     rw [hd] at h
     simp only at h
     simp only [Option.bind_some]
     have hr:=hfr.getD t
     rw [List.getD_eq_getElem?_getD,List.getD_eq_getElem?_getD] at hr
     rw [List.getD_eq_getElem?_getD] at h
     have hl:=hfr.length
     split at h
     ·rename_i b heq
      rw [heq] at hr
      simp only [Rep] at hr
      injection h with h;subst h
      have:a.tmps[t]?=some (.bool b):=by
       cases hq:a.tmps.toList[t]? with
       | none=>rw [hq] at hr;simp [undef] at hr
       | some x=>rw [hq] at hr;simp at hr;rw [Array.getElem?_toList] at hq;rw [hq,hr.1]
      rw [this];cases b<;>cases want<;>first|rfl|simp
     ·rename_i vs heq
      rw [heq] at hr
      simp only [Rep] at hr
      injection h with h;subst h
      obtain ⟨xs,hx,_⟩:=hr
      have:∀ b,a.tmps[t]?≠some (.bool b):=by
       intro b hb
       rw [← Array.getElem?_toList] at hb
       rw [hb] at hx;simp at hx
      cases hq:a.tmps[t]? with
      | none=>cases want<;>rfl
      | some x =>
        cases x<;>first|(cases want<;>rfl)|exact absurd hq (this _)
     ·cases h
theorem post_goto {P:Program} {R:Value→World→Prop} {l:Nat}:∀ {k:List It} {sa:List Act} {a:Act} {w:World},post P R k sa (.goto l) a w→False
 | [],sa,a,w,h=>h
 | .code c::k,sa,a,w,h=>post_goto (k:=k) (by simpa only [post] using h)
 | .ops all l::k,sa,a,w,h=>post_goto (k:=k) (by simpa only [post] using h)
 | .blk id::k,sa,a,w,h=>post_goto (k:=k) (by simpa only [post] using h)
 | .ret rs d::k,sa,a,w,h=>by simp only [post] at h
 | .inv J::k,sa,a,w,h=>post_goto (k:=k) (by simpa only [post] using h)
 | .fin rs::k,sa,a,w,h=>by simp only [post] at h
 | .mk D::k,sa,a,w,h=>by simp only [post] at h
 | .beg l::k,sa,a,w,h=>by simp only [post] at h
 | .rnd l d::k,sa,a,w,h=>by simp only [post] at h
 | .rndj l c d::k,sa,a,w,h=>by simp only [post] at h
 | .erf l::k,sa,a,w,h=>by simp only [post] at h
theorem noGoto_post {P:Program} {R:Value→World→Prop} {k:List It} {sa:List Act}:Exit.noGoto (post P R k sa)=post P R k sa:=by
 funext e a w
 cases e<;>simp only [Exit.noGoto]
 rename_i l
 exact propext ⟨fun h=>h.elim,fun h=>post_goto h⟩
theorem post_ret {P:Program} {R:Value→World→Prop}:∀ {k:List It} {sa:List Act} {a:Act} {w:World},post P R (toRet k) sa .normal a w→post P R k sa .ret a w
 | [],sa,a,w,h=>h
 | .code c::k,sa,a,w,h=>by simp only [post];exact post_ret (by simpa only [toRet] using h)
 | .ops all l::k,sa,a,w,h=>by simp only [post];exact post_ret (by simpa only [toRet] using h)
 | .blk id::k,sa,a,w,h=>by simp only [post];exact post_ret (by simpa only [toRet] using h)
 | .inv J::k,sa,a,w,h=>by simp only [post];exact post_ret (by simpa only [toRet] using h)
 | .ret rs d::k,sa,a,w,h=>by simpa only [toRet,post] using h
 | .fin rs::k,sa,a,w,h=>by simpa only [toRet,post] using h
 | .mk D::k,sa,a,w,h=>by simpa only [toRet,post] using h
 | .rnd l d::k,sa,a,w,h=>by simpa only [toRet,post] using h
 | .beg l::k,sa,a,w,h=>by simp only [toRet,post] at h
 | .rndj l c d::k,sa,a,w,h=>by simp only [toRet,post] at h
 | .erf l::k,sa,a,w,h=>by simp only [toRet,post] at h
theorem post_exit {P:Program} {R:Value→World→Prop} {id:Nat}:∀ {k k':List It} {sa:List Act} {a:Act} {w:World},toBlk id k=some k'→post P R k' sa .normal a w→post P R k sa (.exit id) a w
 | [],k',sa,a,w,h,_=>by simp [toBlk] at h
 | .code c::k,k',sa,a,w,h,hp=>by simp only [post];exact post_exit (by simpa only [toBlk] using h) hp
 | .ops all l::k,k',sa,a,w,h,hp=>by simp only [post];exact post_exit (by simpa only [toBlk] using h) hp
 | .inv J::k,k',sa,a,w,h,hp=>by simp only [post];exact post_exit (by simpa only [toBlk] using h) hp
 | .blk j::k,k',sa,a,w,h,hp=>by
   simp only [toBlk] at h
   simp only [post]
   split at h
   ·rename_i hj;injection h with h;subst h;rw [if_pos hj.symm];exact hp
   ·rename_i hj;rw [if_neg (fun e=>hj e.symm)];exact post_exit h hp
 | .ret rs d::k,k',sa,a,w,h,_=>by simp [toBlk] at h
 | .fin rs::k,k',sa,a,w,h,_=>by simp [toBlk] at h
 | .mk D::k,k',sa,a,w,h,_=>by simp [toBlk] at h
 | .rnd l d::k,k',sa,a,w,h,hp=>by
   simp only [toBlk] at h;injection h with h;subst h
   simpa only [post] using hp
 | .beg l::k,k',sa,a,w,h,_=>by simp [toBlk] at h
 | .rndj l c d::k,k',sa,a,w,h,_=>by simp [toBlk] at h
 | .erf l::k,k',sa,a,w,h,_=>by simp [toBlk] at h
theorem DF_ret:∀ {k:List It} {ds:List Deferred} {sa:List Act},DF k ds sa→DF (toRet k) ds sa
 | [],ds,sa,h=>h
 | .code c::k,ds,sa,h=>by simp only [toRet];exact DF_ret (by simpa only [DF] using h)
 | .ops all l::k,ds,sa,h=>by simp only [toRet];exact DF_ret (by simpa only [DF] using h)
 | .blk id::k,ds,sa,h=>by simp only [toRet];exact DF_ret (by simpa only [DF] using h)
 | .inv J::k,ds,sa,h=>by simp only [toRet];exact DF_ret (by simpa only [DF] using h)
 | .ret rs d::k,ds,sa,h=>by simpa only [toRet] using h
 | .fin rs::k,ds,sa,h=>by simpa only [toRet] using h
 | .mk D::k,ds,sa,h=>by simpa only [toRet] using h
 | .rnd l d::k,ds,sa,h=>by simpa only [toRet,DF] using h
 | .beg l::k,ds,sa,h=>by simp only [toRet,DF]
 | .rndj l c d::k,ds,sa,h=>by simp only [toRet,DF]
 | .erf l::k,ds,sa,h=>by simp only [toRet,DF]
theorem DF_blk {id:Nat}:∀ {k k':List It} {ds:List Deferred} {sa:List Act},toBlk id k=some k'→DF k ds sa→DF k' ds sa
 | [],k',ds,sa,h,_=>by simp [toBlk] at h
 | .code c::k,k',ds,sa,h,hd=>DF_blk (by simpa only [toBlk] using h) (by simpa only [DF] using hd)
 | .ops all l::k,k',ds,sa,h,hd=>DF_blk (by simpa only [toBlk] using h) (by simpa only [DF] using hd)
 | .inv J::k,k',ds,sa,h,hd=>DF_blk (by simpa only [toBlk] using h) (by simpa only [DF] using hd)
 | .blk j::k,k',ds,sa,h,hd=>by
   simp only [toBlk] at h
   simp only [DF] at hd
   split at h
   ·injection h with h;subst h;exact hd
   ·exact DF_blk h hd
 | .ret rs d::k,k',ds,sa,h,_=>by simp [toBlk] at h
 | .fin rs::k,k',ds,sa,h,_=>by simp [toBlk] at h
 | .mk D::k,k',ds,sa,h,_=>by simp [toBlk] at h
 | .rnd l d::k,k',ds,sa,h,hd=>by
   simp only [toBlk] at h;injection h with h;subst h
   simpa only [DF] using hd
 | .beg l::k,k',ds,sa,h,_=>by simp [toBlk] at h
 | .rndj l c d::k,k',ds,sa,h,_=>by simp [toBlk] at h
 | .erf l::k,k',ds,sa,h,_=>by simp [toBlk] at h
theorem then_post {P:Program} {R:Value→World→Prop} {k:List It} {sa:List Act} {y:Code}:Exit.then (y.wpIn (FR (rd k)) 0 P (post P R k sa)) (post P R k sa)=post P R (.code y::k) sa:=by
 funext e a w
 cases e<;>simp [Exit.then,post]
theorem inBlock_post {P:Program} {R:Value→World→Prop} {k:List It} {sa:List Act} {id:Nat}:Exit.inBlock id (post P R k sa)=post P R (.blk id::k) sa:=by
 funext e a w
 cases e<;>simp [Exit.inBlock,post]
theorem resOne_sound {P:Program} {G:Glob} {w0:World} {M0:Nat→Nat→Prop} {fr:List V} {a:Act} {E:Env} (hE:EOK G w0 M0 E) (hfr:RepL E fr a.tmps.toList) {r:ResultVar} {v:V} (h:resOne P fr E.H r=some v) :
 ∃ x,(match r with|.tmp t=>(Pure.pure (a.tmps.getD t undef):Sem Value)|.cell p t=>do loadVar t (← asAddr (a.tmps.getD p undef))).run P E.w=.ok x E.w∧Rep E v x:=by
 have hg:∀ t,Rep E (fr.getD t undefV) (a.tmps.getD t undef):=fun t=>by
  have:=hfr.getD t
  simpa [List.getD_eq_getElem?_getD,Array.getD_eq_getD_getElem?] using this
 cases r with
 | tmp t =>
   simp only [resOne] at h
   injection h with h;subst h
   exact ⟨_,rfl,hg t⟩
 | cell p t =>
   simp only [resOne,Option.bind_eq_some_iff] at h
   obtain ⟨d,hd,hl⟩:=h
   obtain ⟨b,o,y,h1,h2,h3⟩:=loadV_sound hE hd (hg p) hl
   refine ⟨y,?_,h3⟩
   simp only [h1,asAddr,Sem.run_bind,Sem.run_pure,Result.andThen_ok,h2]
theorem resL_sound {P:Program} {G:Glob} {w0:World} {M0:Nat→Nat→Prop} {fr:List V} {a:Act} {E:Env} (hE:EOK G w0 M0 E) (hfr:RepL E fr a.tmps.toList):∀ {rs:List ResultVar} {vs:List V},resL P fr E.H rs=some vs →
 ∃ xs,(rs.mapM fun (r:ResultVar)=>(match r with|.tmp t=>(Pure.pure (a.tmps.getD t undef):Sem Value)|.cell p t=>do loadVar t (← asAddr (a.tmps.getD p undef)))).run P E.w=.ok xs E.w∧RepL E vs xs
 | [],vs,h=>by simp only [resL] at h;injection h with h;subst h;exact ⟨[],by simp,RepL.nil E⟩
 | r::rs,vs,h=>by
   simp only [resL,Option.bind_eq_some_iff,Option.map_eq_some_iff] at h
   obtain ⟨v,h1,ws,h2,rfl⟩:=h
   obtain ⟨x,h3,h4⟩:=resOne_sound hE hfr h1
   obtain ⟨xs,h5,h6⟩:=resL_sound hE hfr h2
   refine ⟨x::xs,?_,RepL.cons h4 h6⟩
   rw [List.mapM_cons]
   simp only [Sem.run_bind,h3,h5,Result.andThen_ok,Sem.run_pure]
theorem results_sound {P:Program} {G:Glob} {w0:World} {M0:Nat→Nat→Prop} {fr:List V} {a:Act} {E:Env} (hE:EOK G w0 M0 E) (hfr:RepL E fr a.tmps.toList) {rs:List ResultVar} {vs:List V} (h:resL P fr E.H rs=some vs) :
 ∃ x,(resultsA rs a.tmps).run P E.w=.ok x E.w∧Rep E (resV vs) x:=by
 obtain ⟨xs,h1,h2⟩:=resL_sound hE hfr h
 have hl:=h2.length
 refine ⟨if h:xs.toArray.size=1 then xs.toArray[0] else .tuple xs.toArray,?_,?_⟩
 ·have e:(rs.toArray.mapM fun (r:ResultVar)=>(match r with|.tmp t=>(Pure.pure (a.tmps.getD t undef):Sem Value)|.cell p t=>do loadVar t (← asAddr (a.tmps.getD p undef)))) =
   List.toArray <$> (rs.mapM fun (r:ResultVar)=>(match r with|.tmp t=>(Pure.pure (a.tmps.getD t undef):Sem Value)|.cell p t=>do loadVar t (← asAddr (a.tmps.getD p undef)))):=by
   rw [List.mapM_toArray]
  simp only [resultsA,results]
  rw [Sem.run_bind]
  have e2:=congrArg (fun s=>s.run P E.w) e
  simp only [Sem.run_map,h1,Result.andThen_ok] at e2
  refine (congrArg (fun r=>Result.andThen r _) e2).trans ?_
  simp
 ·match vs,xs,h2,hl with
  | [],[],h2,_=>simp only [resV,Rep];exact ⟨[],by simp,RepL.nil E⟩
  | [v],[x],h2,_=>simpa [resV] using (RepL.cons_iff.1 h2).1
  | v::v'::vs,x::x'::xs,h2,_=>simp only [resV,Rep];exact ⟨_,by simp,h2⟩
theorem eff_not_defer {P:Program} {G:Glob} {fr:List V} {H:List AB} {nid:Nat} {op:Op} {r:V×Upd} (h:eff P G fr H nid op=some r):∀ c,op≠.defer c:=by
 rintro c rfl
 simp only [eff] at h;cases h
theorem step_sound {X:Ctx} {c c':Cfg} (h:step X.P X.G c=some c') (hr:RUN X c'):RUN X c:=by
 intro sa a E hH hR hD
 obtain ⟨k,fr,st,H⟩:=c
 simp only at hH hR hD
 subst hH
 cases k with
 | nil=>simp [step] at h
 | cons it k =>
   cases it with
   | code cd =>
     simp only [step] at h
     simp only [post]
     simp only [DF] at hD
     cases cd<;>(try simp only at h)<;>try (cases h;done)
     case skip=>injection h with h;subst h;exact wpIn_skip (hr sa a E rfl hR hD)
     case region id ops draw =>
      cases draw
      ·injection h with h;subst h
       exact wpIn_region_list (by simpa [post] using hr sa a E rfl hR hD)
      ·cases h
     case seq x y =>
      injection h with h;subst h
      refine wpIn_seq ?_
      rw [then_post]
      exact hr sa a E rfl hR hD
     case cond cc x y =>
      split at h
      ·rename_i t ht
       injection h with h;subst h
       have hc:=evalO_sound hR.ok hR.fr cc
       rw [ht] at hc;simp only [Rep] at hc
       refine wpIn_cond hc.1 ?_
       have:=hr sa a E rfl hR hD
       cases t<;>exact this
      ·cases h
     case block id b =>
      injection h with h;subst h
      refine wpIn_block ?_
      rw [inBlock_post]
      exact hr sa a E rfl hR hD
     case exit id =>
      simp only [Option.map_eq_some_iff] at h
      obtain ⟨k',h1,rfl⟩:=h
      exact wpIn_exit (post_exit h1 (hr sa a E rfl hR (DF_blk h1 hD)))
     case ret=>injection h with h;subst h;exact wpIn_ret (post_ret (hr sa a E rfl hR (DF_ret hD)))
     case label l=>injection h with h;subst h;exact wpIn_label (hr sa a E rfl hR hD)
     case scope b =>
      injection h with h;subst h
      refine wpIn_scope ?_
      rw [noGoto_post]
      exact hr sa a E rfl hR hD
   | ops all l =>
     simp only [DF] at hD
     cases l with
     | nil=>simp only [step] at h;injection h with h;subst h;exact hr sa a E rfl hR hD
     | cons o l =>
       simp only [step,opStep] at h
       simp only [post]
       split at h
       ·rename_i hgn
        simp only [Option.map_eq_some_iff] at h
        obtain ⟨⟨v,u⟩,he,rfl⟩:=h
        have hw:Region.wanted o (yielded all.toArray a.tmps)=true:=by simp [Region.wanted,hgn]
        have hA:After E.H E.H.length u (applyU E.H u):=by
         unfold After applyU
         cases u.new with
         | none=>rfl
         | some b =>
           have hl:∀ (s:List (Nat×AB)) (H:List AB),(setH H s).length=H.length:=by
            intro s
            induction s with
            | nil=>intro H;rfl
            | cons p s ih=>intro H;obtain ⟨i,b⟩:=p;simp [setH,ih]
           have:=NewAt.push (setH E.H u.sets) b
           rwa [hl] at this
        obtain ⟨x,E',h1,h2,h3,h4,h5⟩:=eff_sound (o:=o) hR.ok hR.fr he hA
        have hn:=hr sa (a.put o.dst x) E' h2 (hR.put h3 h4 h5 o.dst) (by simpa only [DF,put_defers] using hD)
        unfold wpListIn
        rw [if_pos hw]
        refine ⟨fun _ _=>trivial,?_⟩
        rw [Oper.semAt_eq _ _ _ (eff_not_defer he)]
        rcases h1 with h1|⟨h1,rfl⟩<;>rw [h1]
        ·exact hn
        ·exact hn
       ·rename_i jw hgs
        split at h
        ·rename_i hg
         injection h with h;subst h
         have hw:=guardV_sound (X:=X) hR.fr hg
         have hn:=hr sa a E rfl hR hD
         simp only [post] at hn
         unfold wpListIn at hn ⊢
         rw [if_pos hw]
         rw [if_pos (by simp [Region.wanted])] at hn
         exact ⟨fun _ _=>trivial,hn.2⟩
        ·rename_i hg
         injection h with h;subst h
         have hw:=guardV_sound (X:=X) hR.fr hg
         unfold wpListIn
         rw [if_neg (by rw [hw];simp)]
         exact ⟨fun _ _=>trivial,hr sa (a.put o.dst undef) E rfl (hR.put (Env.le.refl E) hR.ok (Rep.undef E) o.dst) (by simpa only [DF,put_defers] using hD)⟩
        ·cases h
   | blk id=>simp only [step] at h;injection h with h;subst h;exact hr sa a E rfl hR (by simpa only [DF] using hD)
   | ret rs dst =>
     cases st with
     | nil=>simp [step] at h
     | cons f st =>
       simp only [step,Option.map_eq_some_iff] at h
       obtain ⟨vs,h1,rfl⟩:=h
       simp only [DF] at hD
       simp only [post]
       obtain ⟨x,h2,h3⟩:=results_sound hR.ok hR.fr h1
       have hs:RepStack E (f::st) sa:=hR.st
       obtain ⟨a0,sa',rfl,h4,h6⟩:=hs
       refine ⟨hD.1,x,h2,a0,sa',rfl,?_⟩
       exact hr sa' (a0.put dst x) E rfl (RelE.put ⟨hR.ok,h4,h6⟩ (Env.le.refl E) hR.ok h3 dst) (by rw [put_defers];exact hD.2 a0 sa' rfl)
   | fin rs=>cases (show (none:Option Cfg)=some c' from h)
   | inv J=>cases (show (none:Option Cfg)=some c' from h)
   | mk D=>cases (show (none:Option Cfg)=some c' from h)
   | beg l=>cases (show (none:Option Cfg)=some c' from h)
   | rnd l d=>cases (show (none:Option Cfg)=some c' from h)
   | rndj l c d=>cases (show (none:Option Cfg)=some c' from h)
   | erf l=>cases (show (none:Option Cfg)=some c' from h)
end Go.Ab
namespace Go.Ab
open Go Go.RowKit
def Spec (P:Program) (G:Glob) (n:FuncId) (args:List V) (r:V) (Hr:List AB):Prop :=
 ∀ (E:Env) (xs:List Value),EOK G E.w E.M E.bare→RepL E.bare args xs →
  Calls P n xs.toArray E.w fun e w' => ∃ v E',e=.returned v∧E'.w=w'∧E'.H=Hr∧EOK G E.w E.M E'∧E.bare.le E'∧Rep E' r v
def RUNc (X:Ctx) (n:FuncId) (args:List V) (dst:Option Tmp) (c:Cfg):Prop :=
 ∀ sa a E xs,E.H=c.H→RelE X c.fr c.st sa a E→DF c.k a.defers sa→RepL E args xs →
  Calls X.P n xs.toArray E.w fun e w' => ∃ v,e=.returned v∧post X.P X.R c.k sa .normal (a.put dst v) w'
theorem callsFR {P:Program} {f:FuncId} {args:Array Value} {w:World} {R:Ending→World→Prop} (r:Option Nat) (n:Nat) (h:Calls P f args w R):CallsIn (FR r) n P f args w R:=by
 cases r with
 | none=>exact callsIn_wide.2 h
 | some l=>exact CallsIn.inRound l (callsIn_wide.2 h)
def callB (P:Program) (n:FuncId):Bool:=match P.funcs[n]? with
 | some fn => fn.body.isSome && !(fn.name == "runtime.NumGoroutine")
 | none=>false
theorem RUN_call {X:Ctx} {all l:List Oper} {o:Oper} {k:List It} {fr:List V} {st:List (List V)} {H:List AB} {c:Call} {f:Operand} {n:FuncId} {first cap:List V}
 (hg:guardV all fr o=some true) (ho:o.op=.call c) (hc:c.callee=.value f) (hf:evalO X.G fr f=.fn (.func n) first cap) (hn:callB X.P n=true)
 (h:RUNc X n (first++c.args.toList.map (evalO X.G fr)++cap) o.dst ⟨.ops all l::k,fr,st,H⟩):RUN X ⟨.ops all (o::l)::k,fr,st,H⟩:=by
 intro sa a E hH hR hD
 simp only at hH hR hD
 simp only [DF] at hD
 simp only [post]
 unfold wpListIn
 rw [if_pos (guardV_sound (X:=X) hR.fr hg)]
 refine ⟨fun _ _=>trivial,?_⟩
 have hfr:=evalO_sound hR.ok hR.fr f
 rw [hf] at hfr;simp only [Rep] at hfr
 obtain ⟨xs,ys,hfv,h1,h2⟩:=hfr
 have hargs:=evalL_sound hR.ok hR.fr c.args.toList
 unfold callB at hn
 split at hn
 ·rename_i fn hfn
  simp only [Bool.and_eq_true,Bool.not_eq_true'] at hn
  have hbn:fn.body.isNone=false:=by cases hb:fn.body<;>simp_all
  have hrun:(execOp a.eval o).run X.P E.w=.ok (.enter n (xs++c.args.toList.map a.eval++ys).toArray) E.w:=by
   have e:(xs.toArray++c.args.map a.eval++ys.toArray)=(xs++c.args.toList.map a.eval++ys).toArray:=by
    apply Array.ext';simp
   simp only [execOp,ho,resolve,hc,hfv,Deferred.ofValue,Sem.run_bind,Sem.run_pure,Result.andThen_ok,invoke,callFunc,run_program,hfn,hn.2,hbn,Bool.false_eq_true,if_false,e]
  rw [Oper.semAt_eq _ _ _ (by intro c' hc';rw [ho] at hc';cases hc'),hrun,Oper.uponIn_enter]
  refine ⟨(fun hd=>by simp [FR,Fence.wide] at hd),callsFR _ _ ((h sa a E _ hH hR (by simpa only [DF] using hD) ((h1.append hargs).append h2)).mono ?_)⟩
  rintro e w' ⟨v,rfl,hp⟩
  simpa only [post] using hp
 ·cases hn
theorem RUNc_inline {X:Ctx} {n:FuncId} {args:List V} {dst:Option Tmp} {k:List It} {fr:List V} {st:List (List V)} {H:List AB} {fn:Func} {body:Code} (hf:X.P.funcs[n]?=some fn) (hb:fn.body=some body)
 (h:RUN X ⟨.code body::.ret fn.results.toList dst::k,args++List.replicate (fn.ntmps - args.length) undefV,fr::st,H⟩):RUNc X n args dst ⟨k,fr,st,H⟩:=by
 intro sa a E xs hH hR hD hx
 have hl:=hx.length
 refine calls_of_wp hf hb ?_
 have hrep:RepL E (args++List.replicate (fn.ntmps - args.length) undefV) (xs.toArray++Array.replicate (fn.ntmps - xs.toArray.size) undef).toList:=by
  have hr:∀ m,RepL E (List.replicate m undefV) (List.replicate m undef):=by
   intro m
   induction m with
   | zero=>exact RepL.nil E
   | succ m ih=>exact RepL.cons (Rep.undef E) ih
  simpa [hl] using hx.append (hr (fn.ntmps - args.length))
 have:=h (a::sa) ⟨xs.toArray++Array.replicate (fn.ntmps - xs.toArray.size) undef,[]⟩ E hH ⟨hR.ok,hrep,⟨a,sa,rfl,hR.fr,hR.st⟩⟩ (by simp only [DF];exact ⟨trivial,fun a0 sa' e=>by injection e with e1 e2;subst e1;subst e2;exact hD⟩)
 simp only [post,rd,FR_none,wpIn_wide] at this
 refine Code.wp_mono (fun e a' w' q=>?_) this
 cases e<;>simp only [post] at q<;>try exact q.elim
 ·obtain ⟨h1,v,h2,a0,sa',h3,h4⟩:=q
  injection h3 with h3 h5;subst h3;subst h5
  exact ⟨h1,v,by rw [results_eq];exact h2,v,rfl,h4⟩
 ·obtain ⟨h1,v,h2,a0,sa',h3,h4⟩:=q
  injection h3 with h3 h5;subst h3;subst h5
  exact ⟨h1,v,by rw [results_eq];exact h2,v,rfl,h4⟩
theorem RUNc_spec {X:Ctx} {n:FuncId} {args args':List V} {r:V} {dst:Option Tmp} {k:List It} {fr:List V} {st:List (List V)} {H:List AB}
 (ha:fzL (immL H (rowsInL args)) args=some args') (hs:Spec X.P X.G n args' r []) (h:RUN X ⟨k,putV fr dst r,st,immL H (rowsInL args)⟩):RUNc X n args dst ⟨k,fr,st,H⟩:=by
 intro sa a E xs hH hR hD hx
 obtain ⟨E1,e1,e2,e3,e4⟩:=EOK.immL (rowsInL args) hR.ok
 simp only at hH
 rw [hH] at e2
 have hx1:=RepL.mono _ e4 hx
 have hx':=fzL_sound e3 args hx1 (by rw [e2];exact ha)
 have hb:EOK X.G E1.w E1.M E1.bare:=⟨Below.refl _ _,fun _ _ _=>Iff.rfl,e3.mlt,fun i v b hp=>by simp [Env.bare] at hp,fun i v j u b hp=>by simp [Env.bare] at hp,fun i h hh=>by simp [Env.bare] at hh,e3.glob⟩
 have hcalls:=hs E1 xs hb hx'
 rw [e1] at hcalls
 refine hcalls.mono ?_
 rintro e w' ⟨v,E2,rfl,hw,hH2,hok,hle,hv⟩
 refine ⟨v,rfl,?_⟩
 let E3:Env:={ w:=E2.w,φ:=E1.φ,τ:=E1.τ,M:=fun b o=>if b < E.w.heap.size then E1.M b o else False,H:=E1.H }
 have hstab:∀ b o u,E1.stab b o u→E3.stab b o u:=by
  intro b o u hs
  have:=hle.stab b o u hs
  refine ⟨this.1,?_⟩
  show ¬ (if b < E.w.heap.size then E1.M b o else False)
  split
  ·exact hs.2
  ·exact id
 have hle3:E1.le E3:=⟨hstab,fun _ _ _ h=>h,fun _ _ _ _ _ h=>.inr ⟨_,_,_,_,h,Nat.le_refl _,fun _=>rfl⟩,fun _ h=>h⟩
 have hle23:E2.le E3:=by
  refine ⟨fun b o u hs=>⟨hs.1,?_⟩,fun i v b hp=>?_,fun i sz es v m hr=>?_,fun i hd=>?_⟩
  ·show ¬ (if b < E.w.heap.size then E1.M b o else False)
   split
   ·rename_i hb;exact fun hm=>hs.2 ((hok.old b o hb).2 hm)
   ·exact id
  ·obtain ⟨⟨x,hx⟩,_⟩:=hok.phi i v b hp
   rw [hH2] at hx;simp at hx
  ·rw [hH2] at hr;simp at hr
  ·rw [hH2] at hd;simp at hd
 have hsize:=hok.below.size
 have hE3:EOK X.G X.w0 X.M0 E3:=by
  refine ⟨?_,fun b o hb=>?_,fun b o hm=>?_,fun i v b hp=>?_,e3.inj,fun i x hx=>?_,fun g cs hg=>RepAt.mono cs hle3.bare (e3.glob g cs hg)⟩
  ·have h1:Below X.w0.heap.size X.w0 E.w:=by rw [← e1];exact e3.below
   exact h1.trans (hok.below.mono h1.size)
  ·have h1:Below X.w0.heap.size X.w0 E.w:=by rw [← e1];exact e3.below
   show (if b < E.w.heap.size then E1.M b o else False)↔_
   rw [if_pos (Nat.lt_of_lt_of_le hb h1.size)]
   exact e3.old b o hb
  ·have hm':(if b < E.w.heap.size then E1.M b o else False):=hm
   split at hm'
   ·rename_i hb;exact Nat.lt_of_lt_of_le hb hsize
   ·exact hm'.elim
  ·obtain ⟨k1,k2,k3,k4⟩:=e3.phi i v b hp
   rw [e1] at k4
   exact ⟨k1,k2,k3,Nat.lt_of_lt_of_le k4 hsize⟩
  ·refine HOK.mono hle3 rfl rfl (fun v b hb=>?_) (e3.blk i x hx)
   have hb4:=(e3.phi i v b hb).2.2.2
   rw [e1] at hb4
   refine ⟨?_,fun o=>?_⟩
   ·show E2.w.heap[b]?=E1.w.heap[b]?
    rw [e1];exact hok.below.block b hb4
   ·show (if b < E.w.heap.size then E1.M b o else False)↔_
    rw [if_pos hb4]
 have hR1:RelE X fr st sa a E1:=⟨e3,RepL.mono _ e4 hR.fr,hR.st.mono e4⟩
 have:=h sa (a.put dst v) E3 (by show E1.H=_;exact e2) (hR1.put hle3 hE3 (Rep.mono _ hle23 hv) dst) (by rw [put_defers];exact hD)
 rw [← hw];exact this
theorem leaves_of_shut {P:Program} {F:Fence} {n:Nat} {fn:Func} {tmps:Array Value} {R:Ending→World→Prop}:∀ {ds:List Deferred} {w:World},
 shut P ds w (fun w' => ∃ v,(results fn tmps).run P w'=.ok v w'∧R (.returned v) w')→LeavesInM F n P fn tmps R ds .returning w
 | [],w,h=>h
 | d::ds,w,h=>by
   obtain ⟨D,w',rfl,h1,h2⟩:=h
   exact ⟨by simp,.inl ⟨D,w',rfl,h1,leaves_of_shut h2⟩⟩
theorem shut_mono {P:Program} {K K':World→Prop} (h:∀ w,K w→K' w):∀ {ds:List Deferred} {w:World},shut P ds w K→shut P ds w K'
 | [],w,hs=>h w hs
 | d::ds,w,⟨D,w',h1,h2,h3⟩=>⟨D,w',h1,h2,shut_mono h h3⟩
theorem Spec.of_run {P:Program} {G:Glob} {n:FuncId} {args:List V} {r:V} {Hr:List AB} {fn:Func} {body:Code} (hf:P.funcs[n]?=some fn) (hb:fn.body=some body)
 (h:∀ X:Ctx,X.P=P→X.G=G→(X.R=fun v w' => ∃ E',E'.w=w'∧E'.H=Hr∧EOK X.G X.w0 X.M0 E'∧Rep E' r v) →
   RUN X ⟨[.code body,.fin fn.results.toList],args++List.replicate (fn.ntmps - args.length) undefV,[],[]⟩):Spec P G n args r Hr:=by
 intro E xs hE hx
 have hl:=hx.length
 refine callsIn_wide.1 (callsIn_of_wp_marks (n:=0) hf hb trivial ?_)
 have hrep:RepL E.bare (args++List.replicate (fn.ntmps - args.length) undefV) (xs.toArray++Array.replicate (fn.ntmps - xs.toArray.size) undef).toList:=by
  have hr:∀ m,RepL E.bare (List.replicate m undefV) (List.replicate m undef):=by
   intro m
   induction m with
   | zero=>exact RepL.nil _
   | succ m ih=>exact RepL.cons (Rep.undef _) ih
  simpa [hl] using hx.append (hr (fn.ntmps - args.length))
 have:=h ⟨P,G,E.w,E.M,fun v w' => ∃ E',E'.w=w'∧E'.H=Hr∧EOK G E.w E.M E'∧Rep E' r v⟩ rfl rfl rfl [] ⟨_,[]⟩ E.bare rfl ⟨hE,hrep,rfl⟩ (by simp only [DF])
 simp only [post,rd,FR_none] at this
 refine wpIn_mono this (fun e a' w' q=>?_)
 have key:∀ {v:Value} {w':World},(∃ E',E'.w=w'∧E'.H=Hr∧EOK G E.w E.M E'∧Rep E' r v) → ∃ v' E',Ending.returned v=.returned v'∧E'.w=w'∧E'.H=Hr∧EOK G E.w E.M E'∧E.bare.le E'∧Rep E' r v':=by
  rintro v w' ⟨E',h1,h2,h3,h4⟩
  refine ⟨v,E',rfl,h1,h2,h3,⟨fun b o u hs=>?_,fun i v b hp=>by simp [Env.bare] at hp,fun _ _ _ _ _ hh=>by simp [Env.bare] at hh,fun _ hh=>by simp [Env.bare] at hh⟩,h4⟩
  have hb:=World.block_lt_of_cell? E.w ⟨b,o,none⟩ hs.1
  refine ⟨?_,fun hm=>hs.2 ((h3.old b o hb).1 hm)⟩
  rw [h3.below.cell (p:=⟨b,o,none⟩) hb];exact hs.1
 cases e<;>simp only [post] at q<;>try exact q.elim
 ·simp only [bodyPostM]
  refine leaves_of_shut (shut_mono (fun w2 hw2=>?_) q)
  obtain ⟨v,h2,h3⟩:=hw2
  exact ⟨v,by rw [results_eq];exact h2,key h3⟩
 ·simp only [bodyPostM]
  refine leaves_of_shut (shut_mono (fun w2 hw2=>?_) q)
  obtain ⟨v,h2,h3⟩:=hw2
  exact ⟨v,by rw [results_eq];exact h2,key h3⟩
theorem RUN_fin {X:Ctx} {rs:List ResultVar} {k:List It} {fr:List V} {st:List (List V)} {H:List AB} {vs:List V} {r r':V}
 (hR:X.R=fun v w' => ∃ E',E'.w=w'∧E'.H=[]∧EOK X.G X.w0 X.M0 E'∧Rep E' r v)
 (h1:resL X.P fr H rs=some vs) (h2:fz (immL H (rowsIn (resV vs))) (resV vs)=some r') (h3:r'=r):RUN X ⟨.fin rs::k,fr,st,H⟩:=by
 intro sa a E hH hRel hD
 simp only at hH hRel;subst hH;subst h3
 simp only [post]
 obtain ⟨x,k1,k2⟩:=results_sound hRel.ok hRel.fr h1
 obtain ⟨E1,e1,e2,e3,e4⟩:=EOK.immL (rowsIn (resV vs)) hRel.ok
 simp only [DF] at hD
 rw [hD]
 refine ⟨x,k1,?_⟩
 rw [hR]
 refine ⟨E1.bare,e1,rfl,⟨e3.below,e3.old,e3.mlt,fun i v b hp=>by simp [Env.bare] at hp,fun i v j u b hp=>by simp [Env.bare] at hp,fun i h hh=>by simp [Env.bare] at hh,e3.glob⟩,?_⟩
 exact fz_sound e3 _ (Rep.mono _ e4 k2) (by rw [e2];exact h2)
theorem RUN_finH {X:Ctx} {rs:List ResultVar} {k:List It} {fr:List V} {st:List (List V)} {H Hr:List AB} {vs:List V} {r:V}
 (hR:X.R=fun v w' => ∃ E',E'.w=w'∧E'.H=Hr∧EOK X.G X.w0 X.M0 E'∧Rep E' r v)
 (h1:resL X.P fr H rs=some vs) (h2:resV vs=r) (h3:H=Hr):RUN X ⟨.fin rs::k,fr,st,H⟩:=by
 intro sa a E hH hRel hD
 simp only at hH hRel;subst hH;subst h2;subst h3
 simp only [post]
 obtain ⟨x,k1,k2⟩:=results_sound hRel.ok hRel.fr h1
 simp only [DF] at hD
 rw [hD]
 refine ⟨x,k1,?_⟩
 rw [hR]
 exact ⟨E,rfl,rfl,hRel.ok,k2⟩
end Go.Ab
namespace Go.Ab
open Go Go.RowKit
mutual
def okN (n:Nat):V→Bool
 | .ptr i _=>decide (i < n)
 | .ptrE i _ _ _ _=>decide (i < n)
 | .row i _=>decide (i < n)
 | .vs i _ _ _=>decide (i < n)
 | .mp i=>decide (i < n)
 | .agg cs=>okL n cs
 | .tup cs=>okL n cs
 | .fn _ a b=>okL n a && okL n b
 | .iface _ v=>okN n v
 | _=>true
def okL (n:Nat):List V→Bool
 | []=>true
 | v::vs=>okN n v && okL n vs
end
def okAB (n:Nat):AB→Bool
 | .var cs=>okL n cs
 | .map own _ _ => !own
 | .lp _ _ _ fr _ _ _=>okL n fr
 | _=>true
def Env.trunc (E:Env) (n:Nat):Env:={ E with φ:=fun i v=>if i < n then E.φ i v else none,H:=E.H.take n }
theorem trunc_get (E:Env) {n i:Nat} (h:i < n):(E.trunc n).H[i]?=E.H[i]?:=by simp [Env.trunc,List.getElem?_take,h]
mutual
theorem Rep.trunc {E:Env} {n:Nat}:(v:V) → ∀ {x:Value},okN n v=true→Rep E v x→Rep (E.trunc n) v x
 | .any,x,_,_=>by simp only [Rep]
 | .val v,x,_,h=>by simpa only [Rep] using h
 | .ptr i o,x,k,h=>by
   simp only [okN,decide_eq_true_eq] at k
   simp only [Rep] at h ⊢
   obtain ⟨b,h1,h2⟩:=h;exact ⟨b,by simp [Env.trunc,k,h1],h2⟩
 | .ptrE i ver idx sz off,x,k,h=>by
   simp only [okN,decide_eq_true_eq] at k
   simp only [Rep,trunc_get E k] at h ⊢
   simpa [Env.trunc,k] using h
 | .cp cs,x,_,h=>by simp only [Rep] at h ⊢;exact h
 | .sl es m,x,_,h=>by simp only [Rep] at h ⊢;exact h
 | .row i ver,x,k,h=>by
   simp only [okN,decide_eq_true_eq] at k
   simp only [Rep,trunc_get E k] at h ⊢
   exact h
 | .vs i o m sz,x,k,h=>by
   simp only [okN,decide_eq_true_eq] at k
   simp only [Rep] at h ⊢
   obtain ⟨b,c,h1,h2⟩:=h;exact ⟨b,c,by simp [Env.trunc,k,h1],h2⟩
 | .agg cs,x,k,h=>by
   simp only [okN] at k
   simp only [Rep] at h ⊢
   obtain ⟨xs,h1,h2⟩:=h;exact ⟨xs,h1,RepL.trunc cs k h2⟩
 | .tup cs,x,k,h=>by
   simp only [okN] at k
   simp only [Rep] at h ⊢
   obtain ⟨xs,h1,h2⟩:=h;exact ⟨xs,h1,RepL.trunc cs k h2⟩
 | .fn f a b,x,k,h=>by
   simp only [okN,Bool.and_eq_true] at k
   simp only [Rep] at h ⊢
   obtain ⟨xs,ys,h1,h2,h3⟩:=h;exact ⟨xs,ys,h1,RepL.trunc a k.1 h2,RepL.trunc b k.2 h3⟩
 | .iface t v,x,k,h=>by
   simp only [okN] at k
   simp only [Rep] at h ⊢
   obtain ⟨y,h1,h2⟩:=h;exact ⟨y,h1,Rep.trunc v k h2⟩
 | .mp i,x,k,h=>by
   simp only [okN,decide_eq_true_eq] at k
   simp only [Rep] at h ⊢
   obtain ⟨b,h1,h2⟩:=h;exact ⟨b,by simp [Env.trunc,k,h1],h2⟩
theorem RepL.trunc {E:Env} {n:Nat}:(vs:List V) → ∀ {xs:List Value},okL n vs=true→RepL E vs xs→RepL (E.trunc n) vs xs
 | [],xs,_,h=>by simpa only [RepL] using h
 | v::vs,xs,k,h=>by
   simp only [okL,Bool.and_eq_true] at k
   simp only [RepL] at h ⊢
   obtain ⟨y,ys,h1,h2,h3⟩:=h
   exact ⟨y,ys,h1,Rep.trunc v k.1 h2,RepL.trunc vs k.2 h3⟩
end
inductive LeV:V→V→Prop where
 | refl (v:V):LeV v v
 | any (v:V):LeV v .any
 | sl (es:List V) (m:Mk):LeV (.sl es m) (.sl es .plain)
inductive LeL:List V→List V→Prop where
 | nil:LeL [] []
 | cons {v v':V} {vs vs':List V} (h:LeV v v') (hs:LeL vs vs'):LeL (v::vs) (v'::vs')
theorem Rep.le {E:Env} {v v':V} {x:Value} (h:LeV v v') (hr:Rep E v x):Rep E v' x:=by
 cases h with
 | refl=>exact hr
 | any=>simp only [Rep]
 | sl es m =>
   simp only [Rep] at hr ⊢
   obtain ⟨a,n,c,h1,h2,h3,h4,_,_,h7⟩:=hr
   exact ⟨a,n,c,h1,h2,h3,h4,by simp,by simp,h7⟩
theorem RepL.le {E:Env}:∀ {vs vs':List V} {xs:List Value},LeL vs vs'→RepL E vs xs→RepL E vs' xs
 | _,_,_,.nil,hr=>hr
 | _,_,_,.cons h hs,hr=>by
   simp only [RepL] at hr ⊢
   obtain ⟨y,ys,h1,h2,h3⟩:=hr
   exact ⟨y,ys,h1,Rep.le h h2,RepL.le hs h3⟩
theorem LeL.refl:∀ (vs:List V),LeL vs vs
 | []=>.nil
 | v::vs=>.cons (.refl v) (LeL.refl vs)
inductive LeAB:AB→AB→Prop where
 | refl (b:AB):LeAB b b
 | var {cs cs':List V} (h:LeL cs cs'):LeAB (.var cs) (.var cs')
 | dead (b:AB) (h:b≠AB.hole):LeAB b .dead
inductive LeH:List AB→List AB→Prop where
 | nil (H:List AB):LeH H []
 | cons {b b':AB} {H H':List AB} (h:LeAB b b') (hs:LeH H H'):LeH (b::H) (b'::H')
theorem LeH.get:∀ {H H':List AB},LeH H H' → ∀ (i:Nat) (b':AB),H'[i]?=some b' → ∃ b,H[i]?=some b∧LeAB b b'
 | _,_,.nil H,i,b',h=>by simp at h
 | _,_,.cons h hs,0,b',k=>by simp at k;subst k;exact ⟨_,by simp,h⟩
 | _,_,.cons h hs,i + 1,b',k=>by simpa using hs.get i b' (by simpa using k)
theorem LeH.length:∀ {H H':List AB},LeH H H'→H'.length≤H.length
 | _,_,.nil H=>by simp
 | _,_,.cons h hs=>by simpa using hs.length
structure Weak (fr:List V) (H:List AB) (fr':List V) (H':List AB):Prop where
 fr:LeL fr fr'
 H:LeH H H'
 okf:okL H'.length fr'=true
 okH:H'.all (okAB H'.length)=true
theorem RelE.weak {X:Ctx} {fr fr':List V} {st:List (List V)} {H':List AB} {sa:List Act} {a:Act} {E:Env} (h:RelE X fr st sa a E) (hw:Weak fr E.H fr' H') (hst:st.all (okL H'.length)=true) :
 ∃ E',E'.w=E.w∧E'.H=H'∧RelE X fr' st sa a E':=by
 let n:=H'.length
 let E':Env:={ E.trunc n with H:=H' }
 have hTE:E'.w=E.w:=rfl
 have hle:(E.trunc n).le E':=by
  refine ⟨fun _ _ _ h=>h,fun _ _ _ h=>h,fun i sz es v m hr=>?_,fun i hd=>?_⟩
  ·have hlt:i < n:=by
    rcases Nat.lt_or_ge i n with k|k
    ·exact k
    ·simp [Env.trunc,List.getElem?_take,Nat.not_lt.2 k] at hr
   rw [trunc_get E hlt] at hr
   obtain ⟨b',hb'⟩:∃ b',H'[i]?=some b':=⟨H'[i],List.getElem?_eq_getElem hlt⟩
   obtain ⟨b,h1,h2⟩:=hw.H.get i b' hb'
   rw [hr] at h1;injection h1 with h1;subst h1
   cases h2 with
   | refl=>exact .inr ⟨_,_,_,_,hb',Nat.le_refl _,fun _=>rfl⟩
   | dead=>exact .inl hb'
  ·have hlt:i < n:=by
    rcases Nat.lt_or_ge i n with k|k
    ·exact k
    ·simp [Env.trunc,List.getElem?_take,Nat.not_lt.2 k] at hd
   rw [trunc_get E hlt] at hd
   obtain ⟨b',hb'⟩:∃ b',H'[i]?=some b':=⟨H'[i],List.getElem?_eq_getElem hlt⟩
   obtain ⟨b,h1,h2⟩:=hw.H.get i b' hb'
   rw [hd] at h1;injection h1 with h1;subst h1
   cases h2<;>exact hb'
 have hrep:∀ {vs:List V} {xs:List Value},okL n vs=true→RepL E vs xs→RepL E' vs xs:=fun hk hr=>RepL.mono _ hle (RepL.trunc _ hk hr)
 have hbare:E'.bare=E.bare:=rfl
 refine ⟨E',rfl,rfl,⟨⟨h.ok.below,h.ok.old,h.ok.mlt,fun i v b hp=>?_,fun i v j u b hi hj=>?_,fun i x hx=>?_,fun g cs hg=>by rw [hbare];exact h.ok.glob g cs hg⟩,hrep hw.okf (RepL.le hw.fr h.fr),?_⟩⟩
 ·have hp':(if i < n then E.φ i v else none)=some b:=hp
  split at hp'
  ·rename_i hlt
   obtain ⟨⟨x,k1⟩,k2,k3,k4⟩:=h.ok.phi i v b hp'
   obtain ⟨b',hb'⟩:∃ b',H'[i]?=some b':=⟨H'[i],List.getElem?_eq_getElem hlt⟩
   refine ⟨⟨b',hb'⟩,fun hh=>?_,k3,k4⟩
   have hh':H'[i]?=some AB.hole:=hh
   rw [hb'] at hh';injection hh' with hh';subst hh'
   obtain ⟨b0,h1,h2⟩:=hw.H.get i _ hb'
   cases h2 with
   | refl=>exact k2 h1
  ·cases hp'
 ·have hi':(if i < n then E.φ i v else none)=some b:=hi
  have hj':(if j < n then E.φ j u else none)=some b:=hj
  split at hi'<;>try (cases hi';done)
  split at hj'<;>try (cases hj';done)
  exact h.ok.inj i v j u b hi' hj'
 ·have hx':H'[i]?=some x:=hx
  have hlt:i < n:=(List.getElem?_eq_some_iff.1 hx').1
  have hok:okAB n x=true:=(List.all_eq_true.1 hw.okH) x (List.mem_of_getElem? hx')
  obtain ⟨b0,h1,h2⟩:=hw.H.get i x hx'
  have hblk:=h.ok.blk i b0 h1
  have hphi:E'.φ i=E.φ i:=by funext v;show (if i < n then E.φ i v else none)=_;rw [if_pos hlt]
  cases h2 with
  | refl =>
    cases x with
    | dead=>trivial
    | hole=>simpa [HOK,hphi] using hblk
    | var cs =>
      obtain ⟨b,C,e,g1,g2,g3,g4⟩:=hblk
      exact ⟨b,C,e,by rw [hphi,g1],g2,hrep hok g3,g4⟩
    | row sz es ver imm =>
      obtain ⟨a',m,c,g1,g2,g3,g4,g5,g6⟩:=hblk
      refine ⟨a',m,c,g1,g2,g3,g4,⟨g5.1,fun u hu=>by rw [hphi];exact g5.2 u hu⟩,?_⟩
      rcases g6 with g6|⟨b,C,e,g6,g7⟩
      ·exact .inl g6
      ·exact .inr ⟨b,C,e,by rw [hphi,g6],g7⟩
    | map own sg f =>
      simp only [okAB,Bool.not_eq_true'] at hok
      subst hok
      obtain ⟨b,C,k,L,g1,g2,g3,g4,g5,g6⟩:=hblk
      exact ⟨b,C,k,L,by rw [hphi,g1],g2,g3,by rw [show E'.bare=E.bare from rfl];exact g4,g5,g6⟩
    | dfr D =>
      obtain ⟨g1,g2⟩:=hblk
      exact ⟨by rw [hphi,g1],g2⟩
    | lp l s pend lfr ps asg body =>
      simp only [okAB] at hok
      obtain ⟨fn,tmps,D,g1,g2,g3⟩:=hblk
      exact ⟨fn,tmps,D,by rw [hphi,g1],g2,hrep hok g3⟩
  | var hl =>
    obtain ⟨b,C,e,g1,g2,g3,g4⟩:=hblk
    exact ⟨b,C,e,by rw [hphi,g1],g2,hrep hok (RepL.le hl g3),g4⟩
  | dead=>trivial
 ·have:∀ {st:List (List V)} {sa:List Act},st.all (okL n)=true→RepStack E st sa→RepStack E' st sa:=by
   intro st
   induction st with
   | nil=>intro sa _ hs;exact hs
   | cons f st ih =>
     intro sa hk hs
     obtain ⟨a1,sa1,e1,e2,e4⟩:=hs
     simp only [List.all_cons,Bool.and_eq_true] at hk
     exact ⟨a1,sa1,e1,hrep hk.1 e2,ih hk.2 e4⟩
  exact this hst h.st
theorem wpIn_loop_ind {F:Fence} {n0:Nat} {P:Program} {c:Code} {Q:Exit→Act→World→Prop} (I:Nat→Act→World→Prop)
 (round:∀ n a w,I n a w→c.wpIn F n0 P (Exit.then (fun a' w' => ∃ m,m < n∧I m a' w') Q) a w) (n:Nat) (a:Act) (w:World) (h0:I n a w):(Code.loop c).wpIn F n0 P Q a w:=by
 intro b k cs hro hb hr
 have key:∀ n a w,I n a w → ∃ e a' w',Q e a' w'∧ArrivesIn (Machine.fenced P F) P (lone (b.atR a (.code c::.inLoop c::k)) cs w) b k cs e a' w':=by
  intro n
  induction n using Nat.strongRecOn with
  | _ n ih =>
    intro a w hI
    obtain ⟨e,a₁,w₁,hq,harr⟩:=round n a w hI b (.inLoop c::k) cs hro hb hr
    cases e with
    | normal =>
      obtain ⟨m,hlt,hI₁⟩:=hq
      obtain ⟨e₂,a₂,w₂,hq₂,harr₂⟩:=ih m hlt a₁ w₁ hI₁
      exact ⟨e₂,a₂,w₂,hq₂,.of_steps (StepsIn.trans harr (.one (fenced_calm hb hr rfl) stepR_inLoop)) harr₂⟩
    | exit id=>exact ⟨_,a₁,w₁,hq,.pass (x:=.inLoop c) rfl (fun _ _=>.inl (by simp)) harr⟩
    | goto l=>exact ⟨_,a₁,w₁,hq,.pass (x:=.inLoop c) rfl (fun _ _=>.inl (by simp)) harr⟩
    | ret=>exact ⟨_,a₁,w₁,hq,.pass (x:=.inLoop c) rfl (fun _ _=>.inl (by simp)) harr⟩
    | panic ch=>exact ⟨_,a₁,w₁,hq,.pass (x:=.inLoop c) rfl (fun _ _=>.inl (by simp)) harr⟩
    | outgrown=>exact ⟨_,a₁,w₁,hq,.pass (x:=.inLoop c) rfl (fun _ _=>.inl (by simp)) harr⟩
 obtain ⟨e,a',w',hq,harr⟩:=key n a w h0
 exact ⟨e,a',w',hq,.of_steps (.one (fenced_calm hb hr rfl) stepR_loop) harr⟩
def LoopJ (X:Ctx) {α:Type} (I:α→List V×List AB) (μ:α→Nat) (x:α) (st:List (List V)):List Act→Act→World→Prop :=
 fun sa a w => ∃ y E,μ y < μ x∧E.w=w∧E.H=(I y).2∧RelE X (I y).1 st sa a E
theorem RUN_inv {X:Ctx} {α:Type} {I:α→List V×List AB} {μ:α→Nat} {x:α} (y:α) {k:List It} {fr:List V} {st:List (List V)} {H:List AB} (hμ:μ y < μ x) (hw:Weak fr H (I y).1 (I y).2) (hst:st.all (okL (I y).2.length)=true) :
 RUN X ⟨.inv (LoopJ X I μ x st)::k,fr,st,H⟩:=by
 intro sa a E hH hR hD
 simp only at hH hR;subst hH
 obtain ⟨E',h1,h2,h3⟩:=hR.weak hw hst
 simp only [post]
 exact ⟨⟨y,E',hμ,h1,h2,h3⟩,by simpa only [DF] using hD⟩
theorem RUN_loop {X:Ctx} {α:Type} (I:α→List V×List AB) (μ:α→Nat) (x0:α) {body:Code} {k:List It} {fr:List V} {st:List (List V)} {H:List AB}
 (h0:Weak fr H (I x0).1 (I x0).2) (hst:st.all (okL (I x0).2.length)=true)
 (round:∀ x,RUN X ⟨.code body::.inv (LoopJ X I μ x st)::k,(I x).1,st,(I x).2⟩):RUN X ⟨.code (.loop body)::k,fr,st,H⟩:=by
 intro sa a E hH hR hD
 simp only at hH hR;subst hH
 simp only [DF] at hD
 obtain ⟨E',h1,h2,h3⟩:=hR.weak h0 hst
 simp only [post]
 rw [← h1]
 refine wpIn_loop_ind (fun n a w => ∃ x E,μ x=n∧E.w=w∧E.H=(I x).2∧RelE X (I x).1 st sa a E∧DF k a.defers sa) ?_ _ a E'.w ⟨x0,E',rfl,rfl,h2,h3,hD⟩
 rintro n a w ⟨x,E,rfl,rfl,hH,hR,hD⟩
 have:=round x sa a E hH hR (by simpa only [DF] using hD)
 simp only [post,rd] at this
 refine wpIn_mono this (fun e a' w' q=>?_)
 cases e<;>simp only [post] at q<;>try exact q
 obtain ⟨⟨y,E2,k1,k2,k3,k4⟩,k5⟩:=q
 exact ⟨μ y,k1,y,E2,rfl,k2,k3,k4,k5⟩
end Go.Ab
