import Derived.Test.YtaebkmmjjabnaaaGreatDoorW10
set_option maxRecDepth 100000
set_option maxHeartbeats 4000000
set_option linter.unusedSimpArgs false
set_option linter.unusedVariables false
namespace Go.Ab
open Go Go.RowKit
def insN:V→V→List (Nat×List Int)
 | .mp i,k=>[(i,keyN k)]
 | _,_=>[]
def keyNs:List V→List Int
 | []=>[]
 | .val (.int _ n)::cs=>n::keyNs cs
 | _::cs=>0::keyNs cs
structure DM where
 nid:Nat
 tr:List TrE
def isHole:AB→Bool
 | .hole=>true
 | _=>false
section
variable (P:Program) (G:Glob) (w0:World) (M0:Nat→Nat→Prop) (R:Value→World→Prop) (all:List Oper) (k:List It) (st:List (List V))
def DRP:List Oper→DM→List V→List AB→Prop
 | [],d,fr,H=>drawOK all d.tr=true∧RUNs P G w0 M0 R ⟨k,fr,st,H⟩
 | o::l,d,fr,H=>match guardV all fr o with
   | none=>False
   | some false=>DRP l ⟨d.nid,d.tr++[⟨[],[],d.nid,[]⟩]⟩ (putV fr o.dst undefV) H
   | some true=>match eff P G fr H d.nid o.op with
     | some (v,⟨s,none⟩)=>DRP l ⟨d.nid,d.tr++[⟨rdOf G fr o.op,s.map (·.1),d.nid,insK G fr o.op⟩]⟩ (putV fr o.dst v) (setH H s)
     | some (v,⟨[],some b⟩)=>isHole (getH H d.nid)=true∧DRP l ⟨d.nid + 1,d.tr++[⟨rdOf G fr o.op,[d.nid],d.nid,[]⟩]⟩ (putV fr o.dst v) (H.set d.nid b)
     | some _=>False
     | none=>match o.op with
       | .call c=>match c.callee with
         | .value f => ∃ n first cap args' r,evalO G fr f=.fn (.func n) first cap∧callB P n=true∧fzL H (first++c.args.toList.map (evalO G fr)++cap)=some args'∧Spec P G n args' r [] ∧
            DRP l ⟨d.nid,d.tr++[⟨rdOf G fr o.op,[],d.nid,[]⟩]⟩ (putV fr o.dst r) H
         | _=>False
       | _=>False
end
section
variable {P:Program} {G:Glob} {w0:World} {M0:Nat→Nat→Prop} {R:Value→World→Prop} {all:List Oper} {k:List It} {st:List (List V)}
theorem setH_nil (H:List AB):setH H []=H:=rfl
theorem DRP_sound:∀ (l:List Oper) (d:DM) (fr:List V) (H:List AB),l=all.drop d.tr.length→DRP P G w0 M0 R all k st l d fr H →
 ∃ t frF HF,SEQ P G all (fun j=>(d.tr++t).getD j ⟨[],[],0,[]⟩) (List.range' d.tr.length l.length) fr H frF HF∧drawOK all (d.tr++t)=true∧RUNs P G w0 M0 R ⟨k,frF,st,HF⟩
 | [],d,fr,H,hl,h=>by
   simp only [DRP] at h
   exact ⟨[],fr,H,.nil _ _,by simpa using h.1,h.2⟩
 | o::l,d,fr,H,hl,h=>by
   have ho:all[d.tr.length]?=some o:=by
    have:=congrArg (fun l=>l[0]?) hl
    simpa [List.getElem?_drop] using this.symm
   have hl':∀ (e:TrE) (nid:Nat),l=all.drop (⟨nid,d.tr++[e]⟩:DM).tr.length:=by
    intro e nid
    have:=congrArg List.tail hl
    simpa [List.tail_drop] using this
   have hget:∀ (e:TrE) (t:List TrE),((d.tr++[e])++t).getD d.tr.length ⟨[],[],0,[]⟩=e:=by
    intro e t
    simp [List.getD_eq_getElem?_getD]
   have hap:∀ (e:TrE) (t:List TrE),(d.tr++[e])++t=d.tr++(e::t):=by intro e t;simp
   have hlen:∀ (e:TrE),(d.tr++[e]).length=d.tr.length + 1:=by intro e;simp
   simp only [DRP] at h
   split at h
   ·exact h.elim
   ·rename_i hg
    obtain ⟨t,frF,HF,h1,h2,h3⟩:=DRP_sound l _ _ _ (hl' _ _) h
    refine ⟨_::t,frF,HF,?_,by rw [← hap];exact h2,h3⟩
    simp only [List.length_cons,List.range'_succ]
    refine .skip ho hg ?_
    simp only [hlen,hap] at h1
    exact h1
   ·rename_i hg
    split at h
    ·rename_i v s he
     obtain ⟨t,frF,HF,h1,h2,h3⟩:=DRP_sound l _ _ _ (hl' _ _) h
     refine ⟨_::t,frF,HF,?_,by rw [← hap];exact h2,h3⟩
     simp only [List.length_cons,List.range'_succ]
     simp only [hlen] at h1
     rw [← hap]
     refine .run (v:=v) (u:=⟨s,none⟩) ho hg ⟨.inl (by rw [hget];exact he),fun p hp=>by rw [hget] at hp;exact hp⟩ (fun b hb=>by rw [hget];exact hb) (fun p hp=>?_) (fun b hb=>by cases hb) ?_
     ·rw [hget]
      simp only [updS,newS,List.append_nil] at hp
      exact List.mem_map.2 ⟨p,hp,rfl⟩
     ·simpa only [updS,newS,List.append_nil] using h1
    ·rename_i v b he
     obtain ⟨hh,h⟩:=h
     obtain ⟨t,frF,HF,h1,h2,h3⟩:=DRP_sound l _ _ _ (hl' _ _) h
     refine ⟨_::t,frF,HF,?_,by rw [← hap];exact h2,h3⟩
     simp only [List.length_cons,List.range'_succ]
     simp only [hlen] at h1
     rw [← hap]
     have hhole:H[d.nid]?=some .hole:=by
      rcases getH_cases H d.nid with hq|⟨_,hq⟩
      ·rw [hq]
       cases hz:getH H d.nid<;>rw [hz] at hh<;>first|rfl|cases hh
      ·rw [hq] at hh;cases hh
     refine .run (v:=v) (u:=⟨[],some b⟩) ho hg ⟨.inl (by rw [hget];exact he),fun p hp=>by rw [hget] at hp;cases hp⟩ (fun b hb=>by rw [hget];exact hb) (fun p hp=>?_) (fun b' hb=>⟨by rw [hget];exact hhole,by rw [hget];simp,rfl⟩) ?_
     ·rw [hget] at hp ⊢
      simp only [updS,newS,List.nil_append,List.mem_singleton] at hp
      subst hp;simp
     ·rw [hget]
      exact h1
    ·exact h.elim
    ·rename_i he
     split at h
     ·rename_i c hc
      split at h
      ·rename_i f hf
       obtain ⟨n,first,cap,args',r,g1,g2,g3,g4,h⟩:=h
       obtain ⟨t,frF,HF,h1,h2,h3⟩:=DRP_sound l _ _ _ (hl' _ _) h
       refine ⟨_::t,frF,HF,?_,by rw [← hap];exact h2,h3⟩
       simp only [List.length_cons,List.range'_succ]
       simp only [hlen] at h1
       rw [← hap]
       refine .run (v:=r) (u:=.no) ho hg ⟨.inr ⟨c,f,n,first,cap,args',hc,hf,g1,g2,g3,g4,rfl⟩,fun p hp=>by rw [hget] at hp;cases hp⟩ (fun b hb=>by rw [hget];exact hb) (fun p hp=>?_) (fun b hb=>by cases hb) ?_
       ·simp [updS,Upd.no,newS] at hp
       ·simpa only [updS,newS,Upd.no,List.append_nil,setH_nil] using h1
      ·exact h.elim
     ·exact h.elim
theorem RUNs_draw (n:Nat) {id:Nat} {fr:List V} {H:List AB} (hm:P.follows .mixedOrders=true) (h:DRP P G w0 M0 R all k st all ⟨H.length,[]⟩ fr (H++List.replicate n .hole)) :
 RUNs P G w0 M0 R ⟨.code (.region id all.toArray true)::k,fr,st,H⟩:=by
 obtain ⟨t,frF,HF,h1,h2,h3⟩:=DRP_sound all ⟨H.length,[]⟩ _ _ (by simp) h
 refine RUNs_stop (by rfl) (RUN_draw (X:=⟨P,G,w0,M0,R⟩) n (t:=t) hm (by simpa using h2) ?_ (RUN_of_RUNs h3))
 have e:List.range' (⟨H.length,[]⟩:DM).tr.length all.length=List.range all.length:=by simp [List.range_eq_range']
 rw [e] at h1
 simpa using h1
variable {dst:Option Tmp} {t ty:TypeId} {p:String} {af:Array Edge} {l:List Oper} {fr:List V} {H:List AB} {d:DM}
theorem D_end:DRP P G w0 M0 R all k st [] d fr H=(drawOK all d.tr=true∧RUNs P G w0 M0 R ⟨k,fr,st,H⟩):=rfl
def DGR (P:Program) (G:Glob) (w0:World) (M0:Nat→Nat→Prop) (R:Value→World→Prop) (all:List Oper) (k:List It) (st:List (List V)) (g:Option Bool) (o:Oper) (l:List Oper) (d:DM) (fr:List V) (H:List AB):Prop:=match g with
 | none=>False
 | some false=>DRP P G w0 M0 R all k st l ⟨d.nid,d.tr++[⟨[],[],d.nid,[]⟩]⟩ (putV fr o.dst undefV) H
 | some true=>DRP P G w0 M0 R all k st ({ o with guard:=none }::l) d fr H
theorem D_guard {op:Op} {jw:Nat×Bool}:DRP P G w0 M0 R all k st (⟨dst,op,ty,p,af,some jw⟩::l) d fr H=DGR P G w0 M0 R all k st (guardV all fr ⟨dst,op,ty,p,af,some jw⟩) ⟨dst,op,ty,p,af,some jw⟩ l d fr H:=by
 unfold DGR
 cases hg:guardV all fr ⟨dst,op,ty,p,af,some jw⟩ with
 | none=>simp only [DRP,hg]
 | some b =>
   cases b with
   | false=>simp only [DRP,hg]
   | true =>
     have h2:guardV all fr ⟨dst,op,ty,p,af,none⟩=some true:=rfl
     simp only [DRP,hg,h2]
def DOV (P:Program) (G:Glob) (w0:World) (M0:Nat→Nat→Prop) (R:Value→World→Prop) (all:List Oper) (k:List It) (st:List (List V)) (r:Option V) (rd:List Nat) (dst:Option Tmp) (l:List Oper) (d:DM) (fr:List V) (H:List AB):Prop:=match r with
 | some v=>DRP P G w0 M0 R all k st l ⟨d.nid,d.tr++[⟨rd,[],d.nid,[]⟩]⟩ (putV fr dst v) H
 | none=>False
def DON (P:Program) (G:Glob) (w0:World) (M0:Nat→Nat→Prop) (R:Value→World→Prop) (all:List Oper) (k:List It) (st:List (List V)) (r:Option AB) (rd:List Nat) (dst:Option Tmp) (l:List Oper) (d:DM) (fr:List V) (H:List AB):Prop:=match r with
 | some b=>isHole (getH H d.nid)=true∧DRP P G w0 M0 R all k st l ⟨d.nid + 1,d.tr++[⟨rd,[d.nid],d.nid,[]⟩]⟩ (putV fr dst (.ptr d.nid 0)) (H.set d.nid b)
 | none=>False
def DOU (P:Program) (G:Glob) (w0:World) (M0:Nat→Nat→Prop) (R:Value→World→Prop) (all:List Oper) (k:List It) (st:List (List V)) (r:Option (List (Nat×AB))) (rd:List Nat) (ins:List (Nat×List Int)) (dst:Option Tmp) (l:List Oper) (d:DM) (fr:List V) (H:List AB):Prop:=match r with
 | some s=>DRP P G w0 M0 R all k st l ⟨d.nid,d.tr++[⟨rd,s.map (·.1),d.nid,ins⟩]⟩ (putV fr dst undefV) (setH H s)
 | none=>False
def DOC (P:Program) (G:Glob) (w0:World) (M0:Nat→Nat→Prop) (R:Value→World→Prop) (all:List Oper) (k:List It) (st:List (List V)) (r:Option (Bool×V×Upd)) (rd:List Nat) (dst:Option Tmp) (l:List Oper) (d:DM) (fr:List V) (H:List AB):Prop:=match r with
 | some (true,v,⟨s,none⟩)=>DRP P G w0 M0 R all k st l ⟨d.nid,d.tr++[⟨rd,s.map (·.1),d.nid,[]⟩]⟩ (putV fr dst v) (setH H s)
 | some (true,v,⟨[],some b⟩)=>isHole (getH H d.nid)=true∧DRP P G w0 M0 R all k st l ⟨d.nid + 1,d.tr++[⟨rd,[d.nid],d.nid,[]⟩]⟩ (putV fr dst v) (H.set d.nid b)
 | _=>False
theorem DOV_of {o:Oper} (hg:o.guard=none) {r:Option V} (h:eff P G fr H d.nid o.op=r.map fun v=>(v,Upd.no)) (hc:∀ c,o.op=.call c → ∀ f,c.callee≠.value f) (hi:insK G fr o.op=[]):DRP P G w0 M0 R all k st (o::l) d fr H=DOV P G w0 M0 R all k st r (rdOf G fr o.op) o.dst l d fr H:=by
 have hgv:guardV all fr o=some true:=by unfold guardV;rw [hg]
 cases r with
 | some v=>simp only [DRP,hgv,h,Option.map_some,Upd.no,DOV,List.map_nil,setH_nil,hi]
 | none =>
   simp only [DRP,hgv,h,Option.map_none,DOV]
   split
   ·rename_i c hcc
    split
    ·rename_i f hf;exact absurd hf (hc c hcc f)
    ·rfl
   ·rfl
theorem DON_of {o:Oper} (hg:o.guard=none) {r:Option AB} (h:eff P G fr H d.nid o.op=r.map fun b=>(V.ptr d.nid 0,(⟨[],some b⟩:Upd))) (hc:∀ c,o.op=.call c → ∀ f,c.callee≠.value f):DRP P G w0 M0 R all k st (o::l) d fr H=DON P G w0 M0 R all k st r (rdOf G fr o.op) o.dst l d fr H:=by
 have hgv:guardV all fr o=some true:=by unfold guardV;rw [hg]
 cases r with
 | some v=>simp only [DRP,hgv,h,Option.map_some,DON]
 | none =>
   simp only [DRP,hgv,h,Option.map_none,DON]
   split
   ·rename_i c hcc
    split
    ·rename_i f hf;exact absurd hf (hc c hcc f)
    ·rfl
   ·rfl
theorem DOU_of {o:Oper} (hg:o.guard=none) {r:Option (List (Nat×AB))} (h:eff P G fr H d.nid o.op=r.map fun u=>(undefV,(⟨u,none⟩:Upd))) (hc:∀ c,o.op=.call c → ∀ f,c.callee≠.value f):DRP P G w0 M0 R all k st (o::l) d fr H=DOU P G w0 M0 R all k st r (rdOf G fr o.op) (insK G fr o.op) o.dst l d fr H:=by
 have hgv:guardV all fr o=some true:=by unfold guardV;rw [hg]
 cases r with
 | some v=>simp only [DRP,hgv,h,Option.map_some,DOU]
 | none =>
   simp only [DRP,hgv,h,Option.map_none,DOU]
   split
   ·rename_i c hcc
    split
    ·rename_i f hf;exact absurd hf (hc c hcc f)
    ·rfl
   ·rfl
theorem DOC_of {o:Oper} (hg:o.guard=none) {r:Option (Bool×V×Upd)} (h:eff P G fr H d.nid o.op=condR r) (hc:∀ c,o.op=.call c → ∀ f,c.callee≠.value f) (hi:insK G fr o.op=[]):DRP P G w0 M0 R all k st (o::l) d fr H=DOC P G w0 M0 R all k st r (rdOf G fr o.op) o.dst l d fr H:=by
 have hgv:guardV all fr o=some true:=by unfold guardV;rw [hg]
 have hnone:eff P G fr H d.nid o.op=none→DRP P G w0 M0 R all k st (o::l) d fr H=False:=by
  intro h0
  simp only [DRP,hgv,h0]
  split
  ·rename_i c hcc
   split
   ·rename_i f hf;exact absurd hf (hc c hcc f)
   ·rfl
  ·rfl
 cases r with
 | none=>exact hnone h
 | some q =>
   obtain ⟨b,v,s,nw⟩:=q
   cases b with
   | false=>exact hnone h
   | true =>
     have h':eff P G fr H d.nid o.op=some (v,⟨s,nw⟩):=h
     cases nw with
     | none=>simp only [DRP,hgv,h',DOC,hi]
     | some b=>cases s<;>simp only [DRP,hgv,h',DOC]
def DCALLS (P:Program) (G:Glob) (w0:World) (M0:Nat→Nat→Prop) (R:Value→World→Prop) (all:List Oper) (k:List It) (st:List (List V)) (vf:V) (vargs:List V) (rd:List Nat) (dst:Option Tmp) (l:List Oper) (d:DM) (fr:List V) (H:List AB):Prop :=
 ∃ n first cap args' r,vf=.fn (.func n) first cap∧callB P n=true∧fzL H (first++vargs++cap)=some args'∧Spec P G n args' r []∧DRP P G w0 M0 R all k st l ⟨d.nid,d.tr++[⟨rd,[],d.nid,[]⟩]⟩ (putV fr dst r) H
theorem D_call {f:Operand} {args:List Operand} {ats:Array TypeId}:DRP P G w0 M0 R all k st (⟨dst,.call ⟨.value f,args.toArray,ats⟩,ty,p,af,none⟩::l) d fr H =
 DCALLS P G w0 M0 R all k st (evalO G fr f) (args.map (evalO G fr)) (idsL ((f::args).map (evalO G fr))) dst l d fr H:=by
 have hgv:guardV all fr ⟨dst,.call ⟨.value f,args.toArray,ats⟩,ty,p,af,none⟩=some true:=rfl
 have he:eff P G fr H d.nid (.call ⟨.value f,args.toArray,ats⟩)=none:=rfl
 have hrd:rdOf G fr (.call ⟨.value f,args.toArray,ats⟩)=idsL ((f::args).map (evalO G fr)):=by simp [rdOf,isMv,Op.operands,Call.operands]
 simp only [DRP,hgv,he,DCALLS,hrd]
theorem DCALLS_spec {n:FuncId} {first cap vargs args':List V} {r:V} {rd:List Nat} (hn:callB P n=true) (ha:fzL H (first++vargs++cap)=some args') (hs:Spec P G n args' r []) (h:DRP P G w0 M0 R all k st l ⟨d.nid,d.tr++[⟨rd,[],d.nid,[]⟩]⟩ (putV fr dst r) H) :
 DCALLS P G w0 M0 R all k st (.fn (.func n) first cap) vargs rd dst l d fr H:=⟨n,first,cap,args',r,rfl,hn,ha,hs,h⟩
theorem DGR_split {b:Bool} {op:Op} {g:Option (Nat×Bool)} (h1:b=true→DRP P G w0 M0 R all k st (⟨dst,op,t,p,af,none⟩::l) d fr H) (h2:b=false→DRP P G w0 M0 R all k st l ⟨d.nid,d.tr++[⟨[],[],d.nid,[]⟩]⟩ (putV fr dst undefV) H) :
 DGR P G w0 M0 R all k st (some b) ⟨dst,op,t,p,af,g⟩ l d fr H:=by
 cases b
 ·exact h2 rfl
 ·exact h1 rfl
def DGRN (P:Program) (G:Glob) (w0:World) (M0:Nat→Nat→Prop) (R:Value→World→Prop) (all:List Oper) (k:List It) (st:List (List V)) (b:Bool) (o:Oper) (l:List Oper) (d:DM) (fr:List V) (H:List AB):Prop:=match b with
 | true=>DRP P G w0 M0 R all k st l ⟨d.nid,d.tr++[⟨[],[],d.nid,[]⟩]⟩ (putV fr o.dst undefV) H
 | false=>DRP P G w0 M0 R all k st ({ o with guard:=none }::l) d fr H
theorem DGR_not {b:Bool} {o:Oper}:DGR P G w0 M0 R all k st (some (!b)) o l d fr H=DGRN P G w0 M0 R all k st b o l d fr H:=by cases b<;>rfl
theorem DGRN_split {b:Bool} {op:Op} {g:Option (Nat×Bool)} (h1:b=false→DRP P G w0 M0 R all k st (⟨dst,op,t,p,af,none⟩::l) d fr H) (h2:b=true→DRP P G w0 M0 R all k st l ⟨d.nid,d.tr++[⟨[],[],d.nid,[]⟩]⟩ (putV fr dst undefV) H) :
 DGRN P G w0 M0 R all k st b ⟨dst,op,t,p,af,g⟩ l d fr H:=by
 cases b
 ·exact h1 rfl
 ·exact h2 rfl
theorem DGR_true {op:Op} {g:Option (Nat×Bool)}:DGR P G w0 M0 R all k st (some true) ⟨dst,op,t,p,af,g⟩ l d fr H=DRP P G w0 M0 R all k st (⟨dst,op,t,p,af,none⟩::l) d fr H:=rfl
theorem DGR_false {op:Op} {g:Option (Nat×Bool)}:DGR P G w0 M0 R all k st (some false) ⟨dst,op,t,p,af,g⟩ l d fr H=DRP P G w0 M0 R all k st l ⟨d.nid,d.tr++[⟨[],[],d.nid,[]⟩]⟩ (putV fr dst (.tup [])) H:=rfl
theorem DGRN_t {op:Op} {g:Option (Nat×Bool)}:DGRN P G w0 M0 R all k st true ⟨dst,op,t,p,af,g⟩ l d fr H=DRP P G w0 M0 R all k st l ⟨d.nid,d.tr++[⟨[],[],d.nid,[]⟩]⟩ (putV fr dst (.tup [])) H:=rfl
theorem DGRN_f {op:Op} {g:Option (Nat×Bool)}:DGRN P G w0 M0 R all k st false ⟨dst,op,t,p,af,g⟩ l d fr H=DRP P G w0 M0 R all k st (⟨dst,op,t,p,af,none⟩::l) d fr H:=rfl
theorem DOV_some {v:V} {rd:List Nat}:DOV P G w0 M0 R all k st (some v) rd dst l d fr H=DRP P G w0 M0 R all k st l ⟨d.nid,d.tr++[⟨rd,[],d.nid,[]⟩]⟩ (putV fr dst v) H:=rfl
theorem DON_some {b:AB} {rd:List Nat}:DON P G w0 M0 R all k st (some b) rd dst l d fr H=(isHole (getH H d.nid)=true∧DRP P G w0 M0 R all k st l ⟨d.nid + 1,d.tr++[⟨rd,[d.nid],d.nid,[]⟩]⟩ (putV fr dst (.ptr d.nid 0)) (H.set d.nid b)):=rfl
theorem DOU_some {s:List (Nat×AB)} {rd:List Nat} {ins:List (Nat×List Int)}:DOU P G w0 M0 R all k st (some s) rd ins dst l d fr H=DRP P G w0 M0 R all k st l ⟨d.nid,d.tr++[⟨rd,s.map (·.1),d.nid,ins⟩]⟩ (putV fr dst (.tup [])) (setH H s):=rfl
theorem DOC_set {v:V} {s:List (Nat×AB)} {rd:List Nat}:DOC P G w0 M0 R all k st (some (true,v,⟨s,none⟩)) rd dst l d fr H=DRP P G w0 M0 R all k st l ⟨d.nid,d.tr++[⟨rd,s.map (·.1),d.nid,[]⟩]⟩ (putV fr dst v) (setH H s):=rfl
theorem DOC_no {v:V} {rd:List Nat}:DOC P G w0 M0 R all k st (some (true,v,.no)) rd dst l d fr H=DRP P G w0 M0 R all k st l ⟨d.nid,d.tr++[⟨rd,[],d.nid,[]⟩]⟩ (putV fr dst v) H:=rfl
theorem DOC_new {v:V} {b:AB} {rd:List Nat}:DOC P G w0 M0 R all k st (some (true,v,⟨[],some b⟩)) rd dst l d fr H=(isHole (getH H d.nid)=true∧DRP P G w0 M0 R all k st l ⟨d.nid + 1,d.tr++[⟨rd,[d.nid],d.nid,[]⟩]⟩ (putV fr dst v) (H.set d.nid b)):=rfl
theorem DOC_ok {q:Bool} {v:V} {u:Upd} {rd:List Nat} (hp:q=true) (h:DOC P G w0 M0 R all k st (some (true,v,u)) rd dst l d fr H):DOC P G w0 M0 R all k st (some (q,v,u)) rd dst l d fr H:=by subst hp;exact h
theorem insN_mp {i:Nat} {k:V}:insN (.mp i) k=[(i,keyN k)]:=rfl
theorem keyN_val {j:IntKind} {n:Int}:keyN (.val (.int j n))=[n]:=rfl
theorem keyN_agg {cs:List V}:keyN (.agg cs)=keyNs cs:=by
 simp only [keyN]
 induction cs with
 | nil=>rfl
 | cons c cs ih =>
   simp only [List.map_cons,ih]
   cases c<;>first|rfl|(rename_i w;cases w<;>rfl)
theorem keyNs_nil:keyNs []=[]:=rfl
theorem keyNs_cons {j:IntKind} {n:Int} {cs:List V}:keyNs (.val (.int j n)::cs)=n::keyNs cs:=rfl
theorem isHole_hole:isHole .hole=true:=rfl
theorem mapS_nil:([]:List (Nat×AB)).map (·.1)=[]:=rfl
theorem mapS_cons {i:Nat} {b:AB} {s:List (Nat×AB)}:((i,b)::s).map (·.1)=i::s.map (·.1):=rfl
theorem D_move {x:Operand}:DRP P G w0 M0 R all k st (⟨dst,.move x,ty,p,af,none⟩::l) d fr H=DRP P G w0 M0 R all k st l ⟨d.nid,d.tr++[⟨[],[],d.nid,[]⟩]⟩ (putV fr dst (evalO G fr x)) H:=rfl
theorem D_assign {x:Operand}:DRP P G w0 M0 R all k st (⟨dst,.assign x,ty,p,af,none⟩::l) d fr H=DRP P G w0 M0 R all k st l ⟨d.nid,d.tr++[⟨[],[],d.nid,[]⟩]⟩ (putV fr dst (evalO G fr x)) H:=rfl
theorem D_pick {c x y:Operand}  : DRP P G w0 M0 R all k st (⟨dst,.pick c x y,ty,p,af,none⟩::l) d fr H=DOV P G w0 M0 R all k st (pickE (evalO G fr c) (evalO G fr x) (evalO G fr y)) (idsL [evalO G fr c,evalO G fr x,evalO G fr y]) dst l d fr H:=by
 rw [DOV_of (o:=⟨dst,.pick c x y,ty,p,af,none⟩) rfl (E_pick) (fun c hc f=>by cases hc) rfl]
 have hrd:rdOf G fr (.pick c x y)=idsL [evalO G fr c,evalO G fr x,evalO G fr y]:=by simp [rdOf,isMv,Op.operands,Call.operands,Function.comp_def]
 rw [hrd]
theorem D_alloc  : DRP P G w0 M0 R all k st (⟨dst,.alloc t,ty,p,af,none⟩::l) d fr H=DON P G w0 M0 R all k st (allocE (tdOf P t)) (idsL []) dst l d fr H:=by
 rw [DON_of (o:=⟨dst,.alloc t,ty,p,af,none⟩) rfl (E_alloc) (fun c hc f=>by cases hc)]
 have hrd:rdOf G fr (.alloc t)=idsL []:=by simp [rdOf,isMv,Op.operands,Call.operands,Function.comp_def]
 rw [hrd]
theorem D_box {x:Operand}  : DRP P G w0 M0 R all k st (⟨dst,.box t x,ty,p,af,none⟩::l) d fr H=DON P G w0 M0 R all k st (boxE (evalO G fr x)) (idsL [evalO G fr x]) dst l d fr H:=by
 rw [DON_of (o:=⟨dst,.box t x,ty,p,af,none⟩) rfl (E_box) (fun c hc f=>by cases hc)]
 have hrd:rdOf G fr (.box t x)=idsL [evalO G fr x]:=by simp [rdOf,isMv,Op.operands,Call.operands,Function.comp_def]
 rw [hrd]
theorem D_load {x:Operand}  : DRP P G w0 M0 R all k st (⟨dst,.load t x,ty,p,af,none⟩::l) d fr H=DOV P G w0 M0 R all k st (loadE (tdOf P t) H (evalO G fr x)) (idsL [evalO G fr x]) dst l d fr H:=by
 rw [DOV_of (o:=⟨dst,.load t x,ty,p,af,none⟩) rfl (E_load) (fun c hc f=>by cases hc) rfl]
 have hrd:rdOf G fr (.load t x)=idsL [evalO G fr x]:=by simp [rdOf,isMv,Op.operands,Call.operands,Function.comp_def]
 rw [hrd]
theorem D_store {a x:Operand}  : DRP P G w0 M0 R all k st (⟨dst,.store t a x,ty,p,af,none⟩::l) d fr H=DOU P G w0 M0 R all k st (storeE (tdOf P t) H (evalO G fr x) (evalO G fr a)) (idsL [evalO G fr a,evalO G fr x]) (stK (evalO G fr a) (evalO G fr x)) dst l d fr H:=by
 rw [DOU_of (o:=⟨dst,.store t a x,ty,p,af,none⟩) rfl (E_store) (fun c hc f=>by cases hc)]
 have hrd:rdOf G fr (.store t a x)=idsL [evalO G fr a,evalO G fr x]:=by simp [rdOf,isMv,Op.operands,Call.operands,Function.comp_def]
 rw [hrd]
 rfl
theorem D_nilCheck {x:Operand}  : DRP P G w0 M0 R all k st (⟨dst,.nilCheck x,ty,p,af,none⟩::l) d fr H=DOV P G w0 M0 R all k st (nilCheckE (evalO G fr x)) (idsL [evalO G fr x]) dst l d fr H:=by
 rw [DOV_of (o:=⟨dst,.nilCheck x,ty,p,af,none⟩) rfl (E_nilCheck) (fun c hc f=>by cases hc) rfl]
 have hrd:rdOf G fr (.nilCheck x)=idsL [evalO G fr x]:=by simp [rdOf,isMv,Op.operands,Call.operands,Function.comp_def]
 rw [hrd]
theorem D_fieldAddr {x:Operand} {f:Nat}  : DRP P G w0 M0 R all k st (⟨dst,.fieldAddr t x f,ty,p,af,none⟩::l) d fr H=DOV P G w0 M0 R all k st (faE (tdOf P t) H f (evalO G fr x)) (idsL [evalO G fr x]) dst l d fr H:=by
 rw [DOV_of (o:=⟨dst,.fieldAddr t x f,ty,p,af,none⟩) rfl (E_fieldAddr) (fun c hc f=>by cases hc) rfl]
 have hrd:rdOf G fr (.fieldAddr t x f)=idsL [evalO G fr x]:=by simp [rdOf,isMv,Op.operands,Call.operands,Function.comp_def]
 rw [hrd]
theorem D_field {x:Operand} {f:Nat}  : DRP P G w0 M0 R all k st (⟨dst,.field t x f,ty,p,af,none⟩::l) d fr H=DOV P G w0 M0 R all k st (fieldE (tdOf P t) f (evalO G fr x)) (idsL [evalO G fr x]) dst l d fr H:=by
 rw [DOV_of (o:=⟨dst,.field t x f,ty,p,af,none⟩) rfl (E_field) (fun c hc f=>by cases hc) rfl]
 have hrd:rdOf G fr (.field t x f)=idsL [evalO G fr x]:=by simp [rdOf,isMv,Op.operands,Call.operands,Function.comp_def]
 rw [hrd]
theorem D_indexAddr {x ix:Operand}  : DRP P G w0 M0 R all k st (⟨dst,.indexAddr t x ix,ty,p,af,none⟩::l) d fr H=DOV P G w0 M0 R all k st (iaE (tdOf P t) H (evalO G fr x) (evalO G fr ix)) (idsL [evalO G fr x,evalO G fr ix]) dst l d fr H:=by
 rw [DOV_of (o:=⟨dst,.indexAddr t x ix,ty,p,af,none⟩) rfl (E_indexAddr) (fun c hc f=>by cases hc) rfl]
 have hrd:rdOf G fr (.indexAddr t x ix)=idsL [evalO G fr x,evalO G fr ix]:=by simp [rdOf,isMv,Op.operands,Call.operands,Function.comp_def]
 rw [hrd]
theorem D_index {x ix:Operand}  : DRP P G w0 M0 R all k st (⟨dst,.index t x ix,ty,p,af,none⟩::l) d fr H=DOV P G w0 M0 R all k st (indexE (tdOf P t) (evalO G fr x) (evalO G fr ix)) (idsL [evalO G fr x,evalO G fr ix]) dst l d fr H:=by
 rw [DOV_of (o:=⟨dst,.index t x ix,ty,p,af,none⟩) rfl (E_index) (fun c hc f=>by cases hc) rfl]
 have hrd:rdOf G fr (.index t x ix)=idsL [evalO G fr x,evalO G fr ix]:=by simp [rdOf,isMv,Op.operands,Call.operands,Function.comp_def]
 rw [hrd]
theorem D_binOp {op:BinOp} {x y:Operand} {t2:TypeId}  : DRP P G w0 M0 R all k st (⟨dst,.binOp op t x y t2,ty,p,af,none⟩::l) d fr H=DOV P G w0 M0 R all k st (binV P op t (evalO G fr x) (evalO G fr y)) (idsL [evalO G fr x,evalO G fr y]) dst l d fr H:=by
 rw [DOV_of (o:=⟨dst,.binOp op t x y t2,ty,p,af,none⟩) rfl (E_binOp) (fun c hc f=>by cases hc) rfl]
 have hrd:rdOf G fr (.binOp op t x y t2)=idsL [evalO G fr x,evalO G fr y]:=by simp [rdOf,isMv,Op.operands,Call.operands,Function.comp_def]
 rw [hrd]
theorem D_unOp {op:UnOp} {x:Operand}  : DRP P G w0 M0 R all k st (⟨dst,.unOp op t x,ty,p,af,none⟩::l) d fr H=DOV P G w0 M0 R all k st (unE op (evalO G fr x)) (idsL [evalO G fr x]) dst l d fr H:=by
 rw [DOV_of (o:=⟨dst,.unOp op t x,ty,p,af,none⟩) rfl (E_unOp) (fun c hc f=>by cases hc) rfl]
 have hrd:rdOf G fr (.unOp op t x)=idsL [evalO G fr x]:=by simp [rdOf,isMv,Op.operands,Call.operands,Function.comp_def]
 rw [hrd]
theorem D_convert {s:TypeId} {x:Operand}  : DRP P G w0 M0 R all k st (⟨dst,.convert s t x,ty,p,af,none⟩::l) d fr H=DOV P G w0 M0 R all k st (convE (tdOf P s) (tdOf P t) (evalO G fr x)) (idsL [evalO G fr x]) dst l d fr H:=by
 rw [DOV_of (o:=⟨dst,.convert s t x,ty,p,af,none⟩) rfl (E_convert) (fun c hc f=>by cases hc) rfl]
 have hrd:rdOf G fr (.convert s t x)=idsL [evalO G fr x]:=by simp [rdOf,isMv,Op.operands,Call.operands,Function.comp_def]
 rw [hrd]
theorem D_makeFunc {f:Fn} {a b:Array Operand}  : DRP P G w0 M0 R all k st (⟨dst,.makeFunc f a b,ty,p,af,none⟩::l) d fr H=DOV P G w0 M0 R all k st (some (.fn f (a.toList.map (evalO G fr)) (b.toList.map (evalO G fr)))) (idsL ((a.toList++b.toList).map (evalO G fr))) dst l d fr H:=by
 rw [DOV_of (o:=⟨dst,.makeFunc f a b,ty,p,af,none⟩) rfl (E_makeFunc) (fun c hc f=>by cases hc) rfl]
 have hrd:rdOf G fr (.makeFunc f a b)=idsL ((a.toList++b.toList).map (evalO G fr)):=by simp [rdOf,isMv,Op.operands,Call.operands,Function.comp_def]
 rw [hrd]
theorem D_extract {x:Operand} {i:Nat}  : DRP P G w0 M0 R all k st (⟨dst,.extract x i,ty,p,af,none⟩::l) d fr H=DOV P G w0 M0 R all k st (extractE (evalO G fr x) i) (idsL [evalO G fr x]) dst l d fr H:=by
 rw [DOV_of (o:=⟨dst,.extract x i,ty,p,af,none⟩) rfl (E_extract) (fun c hc f=>by cases hc) rfl]
 have hrd:rdOf G fr (.extract x i)=idsL [evalO G fr x]:=by simp [rdOf,isMv,Op.operands,Call.operands,Function.comp_def]
 rw [hrd]
theorem D_build {ps:Array (Nat×Operand)}  : DRP P G w0 M0 R all k st (⟨dst,.build t ps,ty,p,af,none⟩::l) d fr H=DOV P G w0 M0 R all k st (buildE (tdOf P t) (ps.toList.map fun p=>(p.1,evalO G fr p.2))) (idsL (ps.toList.map fun p=>evalO G fr p.2)) dst l d fr H:=by
 rw [DOV_of (o:=⟨dst,.build t ps,ty,p,af,none⟩) rfl (E_build) (fun c hc f=>by cases hc) rfl]
 have hrd:rdOf G fr (.build t ps)=idsL (ps.toList.map fun p=>evalO G fr p.2):=by simp [rdOf,isMv,Op.operands,Call.operands,Function.comp_def]
 rw [hrd]
theorem D_buildSlice {n:Nat} {ps:Array (Nat×Operand)}  : DRP P G w0 M0 R all k st (⟨dst,.buildSlice t n ps,ty,p,af,none⟩::l) d fr H=DOC P G w0 M0 R all k st (buildSliceE P H d.nid (tdOf P t) n (ps.toList.map fun p=>(p.1,evalO G fr p.2))) (idsL (ps.toList.map fun p=>evalO G fr p.2)) dst l d fr H:=by
 rw [DOC_of (o:=⟨dst,.buildSlice t n ps,ty,p,af,none⟩) rfl (E_buildSlice) (fun c hc f=>by cases hc) rfl]
 have hrd:rdOf G fr (.buildSlice t n ps)=idsL (ps.toList.map fun p=>evalO G fr p.2):=by simp [rdOf,isMv,Op.operands,Call.operands,Function.comp_def]
 rw [hrd]
theorem D_len {x:Operand}  : DRP P G w0 M0 R all k st (⟨dst,.call ⟨.builtin .len,#[x],#[t]⟩,ty,p,af,none⟩::l) d fr H=DOV P G w0 M0 R all k st (lenE (tdOf P t) H (evalO G fr x)) (idsL [evalO G fr x]) dst l d fr H:=by
 rw [DOV_of (o:=⟨dst,.call ⟨.builtin .len,#[x],#[t]⟩,ty,p,af,none⟩) rfl (E_len) (fun c hc f=>by cases hc;simp) rfl]
 have hrd:rdOf G fr (.call ⟨.builtin .len,#[x],#[t]⟩)=idsL [evalO G fr x]:=by simp [rdOf,isMv,Op.operands,Call.operands,Function.comp_def]
 rw [hrd]
theorem D_append {x y:Operand} {tx:TypeId}  : DRP P G w0 M0 R all k st (⟨dst,.call ⟨.builtin .append,#[x,y],#[t,tx]⟩,ty,p,af,none⟩::l) d fr H=DOC P G w0 M0 R all k st (appE (appT P t tx) (srcV H (evalO G fr y)) H d.nid (evalO G fr x)) (idsL [evalO G fr x,evalO G fr y]) dst l d fr H:=by
 rw [DOC_of (o:=⟨dst,.call ⟨.builtin .append,#[x,y],#[t,tx]⟩,ty,p,af,none⟩) rfl (E_append) (fun c hc f=>by cases hc;simp) rfl]
 have hrd:rdOf G fr (.call ⟨.builtin .append,#[x,y],#[t,tx]⟩)=idsL [evalO G fr x,evalO G fr y]:=by simp [rdOf,isMv,Op.operands,Call.operands,Function.comp_def]
 rw [hrd]
theorem D_slice {x:Operand} {lo hi mx:Option Operand}  : DRP P G w0 M0 R all k st (⟨dst,.slice t x lo hi mx,ty,p,af,none⟩::l) d fr H=DOC P G w0 M0 R all k st (slcE (slcT P t) (optN G fr lo) (optN G fr hi) (optN G fr mx) H (evalO G fr x)) (idsL ((x::(lo.toList++hi.toList++mx.toList)).map (evalO G fr))) dst l d fr H:=by
 rw [DOC_of (o:=⟨dst,.slice t x lo hi mx,ty,p,af,none⟩) rfl (E_slice) (fun c hc f=>by cases hc) rfl]
 have hrd:rdOf G fr (.slice t x lo hi mx)=idsL ((x::(lo.toList++hi.toList++mx.toList)).map (evalO G fr)):=by simp [rdOf,isMv,Op.operands,Call.operands,Function.comp_def]
 rw [hrd]
theorem D_makeInterface {x:Operand}  : DRP P G w0 M0 R all k st (⟨dst,.makeInterface t x,ty,p,af,none⟩::l) d fr H=DOV P G w0 M0 R all k st (bif ifcT P t then ifc t (evalO G fr x) else none) (idsL [evalO G fr x]) dst l d fr H:=by
 rw [DOV_of (o:=⟨dst,.makeInterface t x,ty,p,af,none⟩) rfl (E_makeInterface) (fun c hc f=>by cases hc) rfl]
 have hrd:rdOf G fr (.makeInterface t x)=idsL [evalO G fr x]:=by simp [rdOf,isMv,Op.operands,Call.operands,Function.comp_def]
 rw [hrd]
theorem D_makeMap  : DRP P G w0 M0 R all k st (⟨dst,.makeMap t none,ty,p,af,none⟩::l) d fr H=DOC P G w0 M0 R all k st (mkE P (mapT P t) d.nid) (idsL []) dst l d fr H:=by
 rw [DOC_of (o:=⟨dst,.makeMap t none,ty,p,af,none⟩) rfl (E_makeMap) (fun c hc f=>by cases hc) rfl]
 have hrd:rdOf G fr (.makeMap t none)=idsL []:=by simp [rdOf,isMv,Op.operands,Call.operands,Function.comp_def]
 rw [hrd]
theorem D_insert {m k2 x:Operand}  : DRP P G w0 M0 R all k st (⟨dst,.insert t m k2 x,ty,p,af,none⟩::l) d fr H=DOU P G w0 M0 R all k st (insE P (mapT P t) H (evalO G fr m) (evalO G fr k2) (evalO G fr x)) (idsL [evalO G fr m,evalO G fr k2,evalO G fr x]) (insN (evalO G fr m) (evalO G fr k2)) dst l d fr H:=by
 rw [DOU_of (o:=⟨dst,.insert t m k2 x,ty,p,af,none⟩) rfl (E_insert) (fun c hc f=>by cases hc)]
 have hrd:rdOf G fr (.insert t m k2 x)=idsL [evalO G fr m,evalO G fr k2,evalO G fr x]:=by simp [rdOf,isMv,Op.operands,Call.operands,Function.comp_def]
 rw [hrd]
 have hk:insK G fr (.insert t m k2 x)=insN (evalO G fr m) (evalO G fr k2):=by simp only [insK,insN];cases evalO G fr m<;>rfl
 rw [hk]
theorem D_mapUpdate {m k2 x:Operand}  : DRP P G w0 M0 R all k st (⟨dst,.mapUpdate t m k2 x,ty,p,af,none⟩::l) d fr H=DOU P G w0 M0 R all k st (insE P (mapT P t) H (evalO G fr m) (evalO G fr k2) (evalO G fr x)) (idsL [evalO G fr m,evalO G fr k2,evalO G fr x]) ([]:List (Nat×List Int)) dst l d fr H:=by
 rw [DOU_of (o:=⟨dst,.mapUpdate t m k2 x,ty,p,af,none⟩) rfl (E_mapUpdate) (fun c hc f=>by cases hc)]
 have hrd:rdOf G fr (.mapUpdate t m k2 x)=idsL [evalO G fr m,evalO G fr k2,evalO G fr x]:=by simp [rdOf,isMv,Op.operands,Call.operands,Function.comp_def]
 rw [hrd]
 rfl
theorem D_lookup {m k2:Operand} {ok:Bool}  : DRP P G w0 M0 R all k st (⟨dst,.lookup t m k2 ok,ty,p,af,none⟩::l) d fr H=DOV P G w0 M0 R all k st (lkE P (mapT P t) H ok (evalO G fr m) (evalO G fr k2)) (idsL [evalO G fr m,evalO G fr k2]) dst l d fr H:=by
 rw [DOV_of (o:=⟨dst,.lookup t m k2 ok,ty,p,af,none⟩) rfl (E_lookup) (fun c hc f=>by cases hc) rfl]
 have hrd:rdOf G fr (.lookup t m k2 ok)=idsL [evalO G fr m,evalO G fr k2]:=by simp [rdOf,isMv,Op.operands,Call.operands,Function.comp_def]
 rw [hrd]
theorem D_makeSlice {x y:Operand}  : DRP P G w0 M0 R all k st (⟨dst,.makeSlice t x y,ty,p,af,none⟩::l) d fr H=DOC P G w0 M0 R all k st (mkSlE P (tdOf P t) d.nid (evalO G fr x) (evalO G fr y)) (idsL [evalO G fr x,evalO G fr y]) dst l d fr H:=by
 rw [DOC_of (o:=⟨dst,.makeSlice t x y,ty,p,af,none⟩) rfl (E_makeSlice) (fun c hc f=>by cases hc) rfl]
 have hrd:rdOf G fr (.makeSlice t x y)=idsL [evalO G fr x,evalO G fr y]:=by simp [rdOf,isMv,Op.operands,Call.operands,Function.comp_def]
 rw [hrd]
theorem ids_val (w:Value):ids (.val w)=[]:=by simp only [ids]
theorem ids_sl (es:List V) (m:Mk):ids (.sl es m)=[]:=by simp only [ids]
theorem ids_cp (cs:List V):ids (.cp cs)=[]:=by simp only [ids]
theorem ids_any  : ids (.any)=[]:=by simp only [ids]
theorem ids_ptr (i o:Nat):ids (.ptr i o)=[i]:=by simp only [ids]
theorem ids_ptrE (i v x s o:Nat):ids (.ptrE i v x s o)=[i]:=by simp only [ids]
theorem ids_row (i v:Nat):ids (.row i v)=[i]:=by simp only [ids]
theorem ids_vs (i o n s:Nat):ids (.vs i o n s)=[i]:=by simp only [ids]
theorem ids_mp (i:Nat):ids (.mp i)=[i]:=by simp only [ids]
theorem ids_agg (cs:List V):ids (.agg cs)=idsL cs:=by simp only [ids]
theorem ids_tup (cs:List V):ids (.tup cs)=idsL cs:=by simp only [ids]
theorem ids_fn (f:Fn) (a b:List V):ids (.fn f a b)=idsL a++idsL b:=by simp only [ids]
theorem ids_iface (t:TypeId) (v:V):ids (.iface t v)=ids v:=by simp only [ids]
theorem idsL_nil:idsL []=[]:=by simp only [idsL]
theorem idsL_cons (v:V) (vs:List V):idsL (v::vs)=ids v++idsL vs:=by simp only [idsL]
theorem appT_nil (l:List TrE):[]++l=l:=rfl
theorem appT_cons (a:TrE) (l m:List TrE):(a::l)++m=a::(l++m):=rfl
theorem appO_nil (l:List Operand):[]++l=l:=rfl
theorem appO_cons (a:Operand) (l m:List Operand):(a::l)++m=a::(l++m):=rfl
theorem toO_none:(none:Option Operand).toList=[]:=rfl
theorem toO_some (x:Operand):(some x).toList=[x]:=rfl
theorem repH_zero:List.replicate 0 AB.hole=[]:=rfl
theorem repH_succ (n:Nat):List.replicate (n + 1) AB.hole=.hole::List.replicate n .hole:=rfl
end
theorem AB7:(((((((type_of% @DGR_not)∧(type_of% @DGRN_t))∧((type_of% @DGRN_f)∧(type_of% @D_end)))∧(((type_of% @D_guard)∧(type_of% @D_call))∧((type_of% @DGR_true)∧((type_of% @DGR_false)∧(type_of% @DOV_some)))))∧((((type_of% @DON_some)∧(type_of% @DOU_some))∧((type_of% @DOC_set)∧(type_of% @DOC_no)))∧(((type_of% @DOC_new)∧(type_of% @isHole_hole))∧((type_of% @insN_mp)∧((type_of% @keyN_val)∧(type_of% @keyN_agg))))))∧(((((type_of% @keyNs_nil)∧(type_of% @keyNs_cons))∧((type_of% @mapS_nil)∧(type_of% @mapS_cons)))∧(((type_of% @D_move)∧(type_of% @D_assign))∧((type_of% @D_pick)∧((type_of% @D_alloc)∧(type_of% @D_box)))))∧((((type_of% @D_load)∧(type_of% @D_store))∧((type_of% @D_nilCheck)∧(type_of% @D_fieldAddr)))∧(((type_of% @D_field)∧(type_of% @D_indexAddr))∧((type_of% @D_index)∧((type_of% @D_binOp)∧(type_of% @D_unOp)))))))∧((((((type_of% @D_convert)∧(type_of% @D_makeFunc))∧((type_of% @D_extract)∧(type_of% @D_build)))∧(((type_of% @D_buildSlice)∧(type_of% @D_len))∧((type_of% @D_append)∧((type_of% @D_slice)∧(type_of% @D_makeInterface)))))∧((((type_of% @D_makeMap)∧(type_of% @D_insert))∧((type_of% @D_mapUpdate)∧(type_of% @D_lookup)))∧(((type_of% @D_makeSlice)∧(type_of% @ids_val))∧((type_of% @ids_sl)∧((type_of% @ids_cp)∧(type_of% @ids_any))))))∧(((((type_of% @ids_ptr)∧(type_of% @ids_ptrE))∧((type_of% @ids_row)∧(type_of% @ids_vs)))∧(((type_of% @ids_mp)∧(type_of% @ids_agg))∧((type_of% @ids_tup)∧((type_of% @ids_fn)∧(type_of% @ids_iface)))))∧((((type_of% @idsL_nil)∧(type_of% @idsL_cons))∧((type_of% @appT_nil)∧((type_of% @appT_cons)∧(type_of% @appO_nil))))∧(((type_of% @appO_cons)∧(type_of% @toO_none))∧((type_of% @toO_some)∧((type_of% @repH_zero)∧(type_of% @repH_succ)))))))):=⟨⟨⟨⟨⟨⟨@DGR_not,@DGRN_t⟩,⟨@DGRN_f,@D_end⟩⟩,⟨⟨@D_guard,@D_call⟩,⟨@DGR_true,⟨@DGR_false,@DOV_some⟩⟩⟩⟩,⟨⟨⟨@DON_some,@DOU_some⟩,⟨@DOC_set,@DOC_no⟩⟩,⟨⟨@DOC_new,@isHole_hole⟩,⟨@insN_mp,⟨@keyN_val,@keyN_agg⟩⟩⟩⟩⟩,⟨⟨⟨⟨@keyNs_nil,@keyNs_cons⟩,⟨@mapS_nil,@mapS_cons⟩⟩,⟨⟨@D_move,@D_assign⟩,⟨@D_pick,⟨@D_alloc,@D_box⟩⟩⟩⟩,⟨⟨⟨@D_load,@D_store⟩,⟨@D_nilCheck,@D_fieldAddr⟩⟩,⟨⟨@D_field,@D_indexAddr⟩,⟨@D_index,⟨@D_binOp,@D_unOp⟩⟩⟩⟩⟩⟩,⟨⟨⟨⟨⟨@D_convert,@D_makeFunc⟩,⟨@D_extract,@D_build⟩⟩,⟨⟨@D_buildSlice,@D_len⟩,⟨@D_append,⟨@D_slice,@D_makeInterface⟩⟩⟩⟩,⟨⟨⟨@D_makeMap,@D_insert⟩,⟨@D_mapUpdate,@D_lookup⟩⟩,⟨⟨@D_makeSlice,@ids_val⟩,⟨@ids_sl,⟨@ids_cp,@ids_any⟩⟩⟩⟩⟩,⟨⟨⟨⟨@ids_ptr,@ids_ptrE⟩,⟨@ids_row,@ids_vs⟩⟩,⟨⟨@ids_mp,@ids_agg⟩,⟨@ids_tup,⟨@ids_fn,@ids_iface⟩⟩⟩⟩,⟨⟨⟨@idsL_nil,@idsL_cons⟩,⟨@appT_nil,⟨@appT_cons,@appO_nil⟩⟩⟩,⟨⟨@appO_cons,@toO_none⟩,⟨@toO_some,⟨@repH_zero,@repH_succ⟩⟩⟩⟩⟩⟩⟩
end Go.Ab
namespace Go.Ab
open Go Go.RowKit
theorem w64 {n:Int} (h0 : -9223372036854775808≤n) (h1:n < 9223372036854775808):IntKind.i64.wrap n=n:=by
 rw [IntKind.wrap_i64];omega
theorem w64s {i:Nat} (h:i < 9223372036854775807):IntKind.i64.wrap ((i:Int) + 1)=((i + 1:Nat):Int):=by
 rw [w64 (by omega) (by omega)];rfl
structure RSt (σ:Type) (n:Nat) (inv:Nat→σ→Prop) where
 i:Nat
 s:σ
 le:i≤n
 ok:inv i s
section
variable {P:Program} {G:Glob} {w0:World} {M0:Nat→Nat→Prop} {R:Value→World→Prop}
def RJ {σ:Type} (P:Program) (G:Glob) (w0:World) (M0:Nat→Nat→Prop) (R:Value→World→Prop) (n:Nat) (inv:Nat→σ→Prop) (I:Nat→σ→List V×List AB) (x:RSt σ n inv) (st:List (List V)):List Act→Act→World→Prop :=
 LoopJ ⟨P,G,w0,M0,R⟩ (fun x:RSt σ n inv=>I x.i x.s) (fun x=>n - x.i) x st
theorem RUNs_range {σ:Type} (n:Nat) (inv:Nat→σ→Prop) (I:Nat→σ→List V×List AB) (s0:σ) {body:Code} {k:List It} {fr:List V} {st:List (List V)} {H:List AB}
 (hinv:inv 0 s0) (h0:Weak fr H (I 0 s0).1 (I 0 s0).2) (hst:st.all (okL (I 0 s0).2.length)=true)
 (round:∀ x:RSt σ n inv,RUNs P G w0 M0 R ⟨.code body::.inv (RJ P G w0 M0 R n inv I x st)::k,(I x.i x.s).1,st,(I x.i x.s).2⟩):RUNs P G w0 M0 R ⟨.code (.loop body)::k,fr,st,H⟩ :=
 RUNs_loop (fun x:RSt σ n inv=>I x.i x.s) (fun x=>n - x.i) ⟨0,s0,Nat.zero_le _,hinv⟩ h0 hst round
theorem RUNs_next {σ:Type} {n:Nat} {inv:Nat→σ→Prop} {I:Nat→σ→List V×List AB} {x:RSt σ n inv} (s:σ) {k:List It} {fr:List V} {st:List (List V)} {H:List AB}
 (hw:Weak fr H (I (x.i + 1) s).1 (I (x.i + 1) s).2) (hst:st.all (okL (I (x.i + 1) s).2.length)=true) (hi:x.i < n) (hinv:inv (x.i + 1) s) :
 RUNs P G w0 M0 R ⟨.inv (RJ P G w0 M0 R n inv I x st)::k,fr,st,H⟩ :=
 RUNs_inv (I:=fun x:RSt σ n inv=>I x.i x.s) (μ:=fun x=>n - x.i) (x:=x) ⟨x.i + 1,s,hi,hinv⟩ (by show n - (x.i + 1) < n - x.i;omega) hw hst
end
def CUT {σ:Type} (P:Program) (G:Glob) (w0:World) (M0:Nat→Nat→Prop) (R:Value→World→Prop) (I:σ→List V×List AB) (ok:σ→Prop) (st:List (List V)):List Act→Act→World→Prop :=
 fun sa a w => ∃ s E,ok s∧E.w=w∧E.H=(I s).2∧RelE ⟨P,G,w0,M0,R⟩ (I s).1 st sa a E
section
variable {P:Program} {G:Glob} {w0:World} {M0:Nat→Nat→Prop} {R:Value→World→Prop}
theorem RUNs_cut_in {σ:Type} {I:σ→List V×List AB} {ok:σ→Prop} (s:σ) {k:List It} {fr:List V} {st:List (List V)} {H:List AB} (hw:Weak fr H (I s).1 (I s).2) (hst:st.all (okL (I s).2.length)=true) (h:ok s) :
 RUNs P G w0 M0 R ⟨.inv (CUT P G w0 M0 R I ok st)::k,fr,st,H⟩:=by
 refine RUNs_stop (by rfl) ?_
 intro sa a E hH hR hD
 simp only at hH hR;subst hH
 obtain ⟨E',h1,h2,h3⟩:=hR.weak hw hst
 simp only [post]
 exact ⟨⟨s,E',h,h1,h2,h3⟩,by simpa only [DF] using hD⟩
end
theorem getMap {α:Type} (f:α→V) (l:List α) {i:Nat} (h:i < l.length):(l.map f)[i]?=some (f l[i]):=by simp [h]
theorem lenMap {α:Type} (f:α→V) (l:List α):(l.map f).length=l.length:=List.length_map ..
theorem all_succ {α:Type} {l:List α} {p:α→Bool} {i:Nat} (h:i < l.length):(l.take (i + 1)).all p=((l.take i).all p && p l[i]):=by
 rw [List.take_succ_eq_append_getElem h,List.all_append,List.all_cons,List.all_nil,Bool.and_true]
theorem all_false {α:Type} {l:List α} {p:α→Bool} {i:Nat} (h:i < l.length) (hp:p l[i]=false):l.all p=false:=by
 rw [← Bool.not_eq_true];intro hc
 rw [List.all_eq_true] at hc
 rw [hc _ (List.getElem_mem h)] at hp;cases hp
def allIx {α:Type} (f:List α→α→Bool) (l:List α):Bool:=(List.range l.length).all fun i=>match l[i]? with
 | some x=>f (l.take i) x
 | none=>true
theorem allIx_succ {α:Type} {f:List α→α→Bool} {l:List α} {i:Nat} (h:i < l.length):allIx f (l.take (i + 1))=(allIx f (l.take i) && f (l.take i) l[i]):=by
 have e1:(l.take (i + 1)).length=i + 1:=by rw [List.length_take];omega
 have e2:(l.take i).length=i:=by rw [List.length_take];omega
 unfold allIx
 rw [e1,e2,List.range_succ,List.all_append,List.all_cons,List.all_nil,Bool.and_true]
 have e3:(l.take (i + 1))[i]?=some l[i]:=by rw [List.getElem?_take_of_lt (Nat.lt_succ_self i),List.getElem?_eq_getElem h]
 rw [e3]
 have e4:(l.take (i + 1)).take i=l.take i:=by rw [List.take_take];congr 1;omega
 simp only [e4]
 congr 1
 rw [Bool.eq_iff_iff,List.all_eq_true,List.all_eq_true]
 refine forall_congr' fun j=>forall_congr' fun hj=>?_
 rw [List.mem_range] at hj
 have e5:(l.take (i + 1))[j]?=(l.take i)[j]?:=by rw [List.getElem?_take_of_lt (by omega),List.getElem?_take_of_lt hj]
 have e6:(l.take (i + 1)).take j=(l.take i).take j:=by rw [List.take_take,List.take_take];congr 1;omega
 rw [e5,e6]
theorem allIx_false {α:Type} {f:List α→α→Bool} {l:List α} {i:Nat} (h:i < l.length) (hp:f (l.take i) l[i]=false):allIx f l=false:=by
 rw [← Bool.not_eq_true];intro hc
 unfold allIx at hc
 rw [List.all_eq_true] at hc
 have:=hc i (List.mem_range.2 h)
 rw [List.getElem?_eq_getElem h] at this
 simp only [hp] at this;cases this
theorem takeMap {α:Type} (f:α→V) (l:List α) (i:Nat):(l.map f).take i=(l.take i).map f:=by rw [List.map_take]
theorem dropMap {α:Type} (f:α→V) (l:List α) (i:Nat):(l.map f).drop i=(l.drop i).map f:=by rw [List.map_drop]
end Go.Ab
namespace Go.Ab
open Go Go.RowKit
def methB (P:Program) (t:TypeId) (name:String):Option FuncId:=match P.info? t with
 | some i=>match i.methods.find? (·.name==name) with
   | some m=>match m.path.toList,m.func,P.underlying t with
     | [],some (f,false),some (.struct _)=>some f
     | [],some (f,false),some (.func _ _ _)=>some f
     | _,_,_=>none
   | none=>none
 | none=>none
theorem methB_run {P:Program} {t:TypeId} {name:String} {f:FuncId} (h:methB P t name=some f) (n:Nat) (v:Value) (w:World):(method (n + 1) t v name).run P w=.ok (f,v) w:=by
 unfold methB at h
 split at h
 ·rename_i i hi
  split at h
  ·rename_i m hm
   split at h
   ·rename_i fs hp hf hu
    injection h with h;subst h
    simp [method,typeInfo,hi,hm,hp,hf,follow,receiverAt,underlying,hu,Place.get]
   ·rename_i hp hf hu
    injection h with h;subst h
    simp [method,typeInfo,hi,hm,hp,hf,follow,receiverAt,underlying,hu,Place.get]
   ·cases h
  ·cases h
 ·cases h
theorem RUN_invoke {X:Ctx} {all l:List Oper} {o:Oper} {k:List It} {fr:List V} {st:List (List V)} {H:List AB} {c:Call} {f:Operand} {name:String} {t:TypeId} {n:FuncId} {v:V}
 (hg:guardV all fr o=some true) (ho:o.op=.call c) (hc:c.callee=.invoke f name) (hf:evalO X.G fr f=.iface t v) (hm:methB X.P t name=some n) (hn:callB X.P n=true)
 (h:RUNc X n (v::c.args.toList.map (evalO X.G fr)) o.dst ⟨.ops all l::k,fr,st,H⟩):RUN X ⟨.ops all (o::l)::k,fr,st,H⟩:=by
 intro sa a E hH hR hD
 simp only at hH hR hD
 simp only [DF] at hD
 simp only [post]
 unfold wpListIn
 rw [if_pos (guardV_sound (X:=X) hR.fr hg)]
 refine ⟨fun _ _=>trivial,?_⟩
 have hfr:=evalO_sound hR.ok hR.fr f
 rw [hf] at hfr;simp only [Rep] at hfr
 obtain ⟨y,hfv,h1⟩:=hfr
 have hargs:=evalL_sound hR.ok hR.fr c.args.toList
 unfold callB at hn
 split at hn
 ·rename_i fn hfn
  simp only [Bool.and_eq_true,Bool.not_eq_true'] at hn
  have hbn:fn.body.isNone=false:=by cases hb:fn.body<;>simp_all
  have hrun:(execOp a.eval o).run X.P E.w=.ok (.enter n (y::c.args.toList.map a.eval).toArray) E.w:=by
   have e:(#[a.eval f]++c.args.map a.eval).extract 1 (#[a.eval f]++c.args.map a.eval).size=(c.args.toList.map a.eval).toArray:=by
    apply Array.ext';simp [List.take_of_length_le]
   have e0:(#[a.eval f]++c.args.map a.eval)[0]?=some (a.eval f):=by rw [← Array.getElem?_toList,Array.toList_append];rfl
   have e2 : #[y]++(c.args.toList.map a.eval).toArray=(y::c.args.toList.map a.eval).toArray:=by apply Array.ext';rw [Array.toList_append];rfl
   simp only [execOp,ho,resolve,hc,Sem.run_bind,Sem.run_pure,Result.andThen_ok,invoke]
   rw [e0]
   rw [hfv] at e
   simp only [e,callMethod,hfv,Sem.run_bind,Sem.run_pure,Result.andThen_ok,run_program,Made.depth,← Nat.add_assoc,methB_run hm,callFunc,hfn,hn.2,hbn,Bool.false_eq_true,if_false,e2]
  rw [Oper.semAt_eq _ _ _ (by intro c' hc';rw [ho] at hc';cases hc'),hrun,Oper.uponIn_enter]
  refine ⟨(fun hd=>by simp [FR,Fence.wide] at hd),callsFR _ _ ((h sa a E _ hH hR (by simpa only [DF] using hD) (RepL.cons h1 hargs)).mono ?_)⟩
  rintro e w' ⟨v,rfl,hp⟩
  simpa only [post] using hp
 ·cases hn
section
variable {P:Program} {G:Glob} {w0:World} {M0:Nat→Nat→Prop} {R:Value→World→Prop}
def INVS (P:Program) (G:Glob) (w0:World) (M0:Nat→Nat→Prop) (R:Value→World→Prop) (c:Cfg) (f:Operand) (name:String) (args:List Operand) (vf:V) (vargs:List V) (dst:Option Tmp) (all l:List Oper) (k:List It) (fr:List V) (st:List (List V)) (H:List AB):Prop :=
 evalO G fr f=vf→args.map (evalO G fr)=vargs→RUNs P G w0 M0 R c
theorem S_inv {f:Operand} {name:String} {args:List Operand} {ats:Array TypeId} {dst:Option Tmp} {ty:TypeId} {p:String} {af:Array Edge} {all l:List Oper} {k:List It} {fr:List V} {st:List (List V)} {H:List AB} :
 RUNs P G w0 M0 R ⟨.ops all (⟨dst,.call ⟨.invoke f name,args.toArray,ats⟩,ty,p,af,none⟩::l)::k,fr,st,H⟩ =
  INVS P G w0 M0 R ⟨.ops all (⟨dst,.call ⟨.invoke f name,args.toArray,ats⟩,ty,p,af,none⟩::l)::k,fr,st,H⟩ f name args (evalO G fr f) (args.map (evalO G fr)) dst all l k fr st H :=
 propext ⟨fun h _ _=>h,fun h=>h rfl rfl⟩
theorem INVS_call {f:Operand} {name:String} {args:List Operand} {ats:Array TypeId} {t:TypeId} {v:V} {n:FuncId} {vargs:List V} {dst:Option Tmp} {ty:TypeId} {p:String} {af:Array Edge} {all l:List Oper} {k:List It} {fr:List V} {st:List (List V)} {H:List AB}
 (hm:methB P t name=some n) (hn:callB P n=true) (h:RUNc ⟨P,G,w0,M0,R⟩ n (v::vargs) dst ⟨.ops all l::k,fr,st,H⟩) :
 INVS P G w0 M0 R ⟨.ops all (⟨dst,.call ⟨.invoke f name,args.toArray,ats⟩,ty,p,af,none⟩::l)::k,fr,st,H⟩ f name args (.iface t v) vargs dst all l k fr st H:=by
 intro h1 h2
 refine RUNs_stop (by rfl) ?_
 refine RUN_invoke (X:=⟨P,G,w0,M0,R⟩) (c:=⟨.invoke f name,args.toArray,ats⟩) rfl rfl rfl h1 hm hn ?_
 rw [show (Call.args ⟨.invoke f name,args.toArray,ats⟩).toList=args by rfl,h2];exact h
theorem INVS_spec2 {f:Operand} {name:String} {args:List Operand} {ats:Array TypeId} {t:TypeId} {v:V} {n:FuncId} {vargs args':List V} {r:V} {dst:Option Tmp} {ty:TypeId} {p:String} {af:Array Edge} {all l:List Oper} {k:List It} {fr:List V} {st:List (List V)} {H:List AB}
 (hm:methB P t name=some n) (hn:callB P n=true) (ha:fzL (immL H (rowsInL (v::vargs))) (v::vargs)=some args') (hs:Spec P G n args' r []) (h:RUNs P G w0 M0 R ⟨.ops all l::k,putV fr dst r,st,immL H (rowsInL (v::vargs))⟩) :
 INVS P G w0 M0 R ⟨.ops all (⟨dst,.call ⟨.invoke f name,args.toArray,ats⟩,ty,p,af,none⟩::l)::k,fr,st,H⟩ f name args (.iface t v) vargs dst all l k fr st H :=
 INVS_call hm hn (RUNc_spec (X:=⟨P,G,w0,M0,R⟩) ha hs (RUN_of_RUNs h))
end
end Go.Ab
namespace Go.Ab
open Go Go.RowKit
section
variable {P:Program} {G:Glob} {w0:World} {M0:Nat→Nat→Prop} {R:Value→World→Prop}
theorem GRDN_f {dst:Option Tmp} {op:Op} {t:TypeId} {p:String} {af:Array Edge} {g:Option (Nat×Bool)} {all l:List Oper} {k:List It} {fr:List V} {st:List (List V)} {H:List AB} :
 GRDN P G w0 M0 R false ⟨dst,op,t,p,af,g⟩ all l k fr st H=RUNs P G w0 M0 R ⟨.ops all (⟨dst,op,t,p,af,none⟩::l)::k,fr,st,H⟩:=rfl
theorem GRDN_t {dst:Option Tmp} {op:Op} {t:TypeId} {p:String} {af:Array Edge} {g:Option (Nat×Bool)} {all l:List Oper} {k:List It} {fr:List V} {st:List (List V)} {H:List AB} :
 GRDN P G w0 M0 R true ⟨dst,op,t,p,af,g⟩ all l k fr st H=RUNs P G w0 M0 R ⟨.ops all l::k,putV fr dst (.tup []),st,H⟩:=rfl
end
end Go.Ab
