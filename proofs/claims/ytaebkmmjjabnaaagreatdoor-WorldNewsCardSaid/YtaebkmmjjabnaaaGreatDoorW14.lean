import Derived.Test.YtaebkmmjjabnaaaGreatDoorW13
set_option maxRecDepth 100000
set_option maxHeartbeats 4000000
set_option linter.unusedSimpArgs false
set_option linter.unusedVariables false
namespace Ch
open Go Go.Ab Go.Proofs.Tryz
def dflt (i:Nat):Int:=orI .u32 1073741824 (IntKind.u32.wrap i)
def drawAt (l:List Int) (i:Nat):Int :=
 let w:=match l[i]? with
  | some x=>x
  | none=>dflt i
 if w < 2147483648 then IntKind.u32.wrap (w + 2147483648) else w
theorem At04_spec (d:Draws) (i:Nat):Spec PP GG 154 [d.v,i64 i] (u32 (drawAt d.list i)) []:=by
 refine Qs func154 ?_
 intro w0 M0
 simp only [f154,lf,Draws.v,z,seval]
 first|refine brk (fun h=>?_) (fun h=>?_)|fail
 ·have hlt:i < d.list.length:=by simpa using h
  simp only [z,seval,h,getMap u32 d.list hlt]
  first|refine brk (fun h=>?_) (fun h=>?_)|fail
  ·simp only [z,seval,h]
   (refine Qf ?_;simp only [z,seval])
   simp at h;simp [drawAt,hlt,h]
  ·simp only [z,seval,h]
   (refine Qf ?_;simp only [z,seval])
   simp at h;simp [drawAt,hlt];omega
 ·have hnl:d.list[i]?=none:=by simp at h ⊢;omega
  simp only [z,seval,h]
  first|refine brk (fun h=>?_) (fun h=>?_)|fail
  ·simp only [z,seval,h]
   (refine Qf ?_;simp only [z,seval])
   have h':=of_decide_eq_true h
   simp only [drawAt,hnl,dflt,h',if_true]
  ·simp only [z,seval,h]
   (refine Qf ?_;simp only [z,seval])
   have h':=of_decide_eq_false h
   simp only [drawAt,hnl,dflt,h',if_false]
theorem Take04_spec (d:Draws) (i:Nat) (hi:d.next=i):Spec PP GG 110 [d.v] (.tup [Draws.v ⟨d.list,IntKind.i64.wrap (d.next + 1)⟩,u32 (drawAt d.list i)]) []:=by
 refine Qs func110 ?_
 intro w0 M0
 simp only [f110,lf,Draws.v,hi,z,seval]
 (refine CALLS_spec (At04_spec ⟨d.list,i⟩ i) (by kernel_rfl) (by simp only [Draws.v,z,seval]) ?_;simp only [z,seval])
 (refine Qf ?_;simp only [z,seval])
def newPeople (l:List Int) (next:Nat):Nat→List Person
 | 0=>[⟨0,0,0,[],[],false⟩]
 | n + 1=>newPeople l next n++[⟨IntKind.u32.wrap ((n + 1:Nat):Int),drawAt l (next + n),0,[],[],false⟩]
theorem newPeople_len (l:List Int) (next:Nat):∀ n,(newPeople l next n).length=n + 1
 | 0=>rfl
 | n + 1=>by simp [newPeople,newPeople_len l next n]
abbrev zeroDraws:AB:=.var [.sl [] .nil,i64 0]
def newI (l:List Int) (k n:Nat):Nat→List V×List AB
 | 0=>([i64 n,.any,.any,.ptr 0 0,.any,.ptr 1 0,.sl [Person.v ⟨0,0,0,[],[],false⟩] .tight,i64 1,.any,.any,.any,.any,.any,.any,.any,.any,.any,.any,.any,.any,.any,.any,.any,.any,.any,.any,.any,.any,.any,.any,.any,.any],[.var [wordsV l,i64 k],zeroDraws])
 | j + 1=>([i64 n,.any,.any,.ptr 0 0,.any,.ptr 1 0,.row 3 j,i64 ((j + 2:Nat):Int),.any,.any,.any,.any,.any,.any,.any,.any,.any,.any,.any,.any,.any,.any,.any,.any,.any,.any,.any,.any,.any,.any,.any,.any],[.var [wordsV l,i64 ((k + j + 1:Nat):Int)],zeroDraws,.dead,.row 6 ((newPeople l k (j + 1)).map Person.v) j false])
theorem New10_spec (n:Nat) (hn:n≤100) (l:List Int) (k:Nat) (hk:k≤1048576):Spec PP GG 58 [i64 n,Draws.v ⟨l,k⟩] (.tup [peopleV (newPeople l k n),Draws.v ⟨l,((k + n:Nat):Int)⟩]) []:=by
 refine Qs func58 ?_
 intro w0 M0
 simp only [f58,lf,Draws.v,z,seval]
 refine RUNs_range n (fun _ (_:Unit)=>True) (fun i _=>newI l k n i) () trivial ?_ rfl ?_
 ·exact wk
 rintro ⟨i,_,hi,_⟩
 have w1:IntKind.i64.wrap ((k:Int) + 1)=((k + 1:Nat):Int):=w64s (by omega)
 have w2:IntKind.i64.wrap (1 + 1)=((0 + 2:Nat):Int):=by rw [w64 (by omega) (by omega)];rfl
 rcases i with _|j
 ·simp only [newI,z,seval]
  first|refine brk (fun h=>?_) (fun h=>?_)|fail
  ·simp only [z,seval,h]
   (refine CU (Take04_spec ⟨l,k⟩ k rfl) (h:=?_);simp only [z,seval])
   simp only [z,seval,w1,w2]
   have hlt:0 < n:=by have:=of_decide_eq_true h;omega
   refine NX () (hi:=hlt) (hinv:=?_)
   trivial
  ·simp only [z,seval,h]
   (refine Qw 0 ?_;simp only [z,seval])
   (refine ⟨by kernel_rfl,?_⟩)
   (refine Qf ?_;simp only [z,seval])
   have:n=0:=by simp at h;omega
   subst this
   rfl
 ·have w3:IntKind.i64.wrap (((k + j + 1:Nat):Int) + 1)=((k + (j + 1) + 1:Nat):Int):=by rw [w64s (by omega)];congr 1
  have w4:IntKind.i64.wrap (((j + 2:Nat):Int) + 1)=((j + 1 + 2:Nat):Int):=by rw [w64s (by omega)]
  simp only [newI,z,seval]
  first|refine brk (fun h=>?_) (fun h=>?_)|fail
  ·simp only [z,seval,h]
   (refine CU (Take04_spec ⟨l,((k + j + 1:Nat):Int)⟩ (k + j + 1) rfl) (h:=?_);simp only [z,seval])
   refine OPC_ok ?_ ?_
   ·simp [newPeople_len];omega
   have e:(newPeople l k (j + 1)).map Person.v++[Person.v ⟨IntKind.u32.wrap ((j + 2:Nat):Int),drawAt l (k + j + 1),0,[],[],false⟩]=(newPeople l k (j + 1 + 1)).map Person.v:=by
    rw [newPeople.eq_2 l k (j + 1),List.map_append];rfl
   simp only [Person.v,wordsV,runsV,List.map_nil] at e
   simp only [z,seval,w3,w4,e]
   have hlt:j + 1 < n:=by have:=of_decide_eq_true h;omega
   refine NX () (hi:=hlt) (hinv:=?_)
   trivial
  ·simp only [z,seval,h]
   (refine Qw 0 ?_;simp only [z,seval])
   (refine ⟨by kernel_rfl,?_⟩)
   (refine Qf ?_;simp only [z,seval])
   have:n=j + 1:=by simp at h;omega
   subst this
   rfl
def newWorld (c:Conf) (l:List Int) (n m:Nat):World:=⟨c,⟨l,n⟩,⟨c.box,[]⟩,⟨c.net,[],[]⟩,newPeople l 0 n,[],List.replicate m [],[]⟩
def nwCells (c:Conf) (l:List Int) (n m:Nat) (regs:V):List V:=[u32 c.window,i64 n,i64 c.box,i64 c.used,i64 c.runs,i64 c.net,i64 m,.sl (l.map u32) .plain,i64 n,i64 c.box,.sl [] .plain,i64 c.net,.sl [] .plain,.sl [] .plain,.sl ((newPeople l 0 n).map Person.v) .plain,.sl [] .plain,regs,.sl [] .plain]
def nwV (c:Conf) (l:List Int) (n m:Nat):V:=.agg (nwCells c l n m (.row 4 m))
def nwH (m:Nat):List AB:=[.dead,.dead,.dead,.dead,.row 1 ((List.replicate m []).map wordsV) m false]
theorem repSucc {α:Type} (f:α→V) (a:α) (n:Nat):(List.replicate n a).map f++[f a]=(List.replicate (n + 1) a).map f:=by
 rw [List.replicate_succ' (n:=n),List.map_append];rfl
theorem New12_H (c:Conf) (n m:Nat) (hn:n≤100) (hm:m≤100) (h1:c.people=n) (h2:c.regs=m) (l:List Int):Spec PP GG 22 [c.v,wordsV l] (nwV c l n m) (nwH m):=by
 have hN:=New10_spec n hn l 0 (by omega)
 simp only [Int.natCast_zero,Int.cast_ofNat_Int,z,seval] at hN
 refine Qs func22 ?_
 intro w0 M0
 simp only [f22,lf,h1,h2,z,seval]
 (refine CU hN (h:=?_);simp only [z,seval])
 (refine RUNs_row0H 2 16 1 (h:=?_);simp only [z,seval])
 refine RUNs_rangeS (m) (fun _ (_:Unit)=>True) (fun i _=>[(8,i64 i)]) (fun i _=>[(2,.var (nwCells c l n m (.row 4 i))),(4,.row 1 ((List.replicate i []).map wordsV) i false)]) () ?_ (by simp only [z,seval];exact wk) rfl ?_
 ·trivial
 rintro ⟨i,_,hi,_⟩
 simp only [nwCells,z,seval]
 first|refine brk (fun h=>?_) (fun h=>?_)|fail
 ·have hlt:i < m:=by have:=of_decide_eq_true h;omega
  simp only [h,z,seval]
  refine OPC_ok (by simp;omega) ?_
  have e:=repSucc wordsV [] i
  simp only [wordsV,List.map_nil] at e
  simp only [List.map_nil,e,w64s (i:=i) (by omega),z,seval]
  refine NX () (hi:=hlt) (hinv:=?_)
  trivial
 ·obtain rfl:i=m:=by have:=of_decide_eq_false h;omega
  simp only [h,z,seval]
  (refine FINS_keep [4] (by simp only [List.filter_cons,List.filter_nil,List.contains_cons,List.contains_nil,beq_self_eq_true,Bool.or_false,Bool.false_or,Bool.or_true,Bool.true_or,Bool.not_true,Bool.not_false,Bool.false_eq_true,if_false,if_true,nwV,nwCells,nwH,z,seval]) ?_;simp only [List.filter_cons,List.filter_nil,List.contains_cons,List.contains_nil,beq_self_eq_true,Bool.or_false,Bool.false_or,Bool.or_true,Bool.true_or,Bool.not_true,Bool.not_false,Bool.false_eq_true,if_false,if_true,nwV,nwCells,nwH,z,seval];exact wk)
theorem New12_spec (c:Conf) (n m:Nat) (hn:n≤100) (hm:m≤100) (h1:c.people=n) (h2:c.regs=m) (l:List Int):Spec PP GG 22 [c.v,wordsV l] ((newWorld c l n m).v) []:=by
 refine (New12_H c n m hn hm h1 h2 l).fz ?_
 simp only [nwV,nwH,nwCells,newWorld,h1,h2,List.map_nil,z,seval]
theorem wu64 {n:Int} (h0:0≤n) (h1:n < 18446744073709551616):IntKind.u64.wrap n=n:=by
 rw [IntKind.wrap_u64];omega
theorem in_spec (l:List Person) (n:Nat) (hn:n < 4294967296) (hl:l.length≤1099511627776):Spec PP GG 145 [peopleV l,u32 n] (.bool (decide (n < l.length))) []:=by
 refine Qs func145 ?_
 intro w0 M0
 simp only [f145,lf,z,seval]
 simp only [wu64 (n:=(n:Int)) (by omega) (by omega),wu64 (n:=(l.length:Int)) (by omega) (by omega),z,seval]
 (refine Qf ?_;simp only [z,seval])
 simp
def zeroP:Person:=⟨0,0,0,[],[],false⟩
def getP (l:List Person) (n:Nat):Person:=(l[n]?).getD zeroP
theorem Get_spec (l:List Person) (n:Nat) (hn:n < 4294967296) (hl:l.length≤1099511627776):Spec PP GG 148 [peopleV l,u32 n] (.tup [(getP l n).v,.bool (decide (n < l.length))]) []:=by
 refine Qs func148 ?_
 intro w0 M0
 simp only [f148,lf,z,seval]
 (refine CU (in_spec l n hn hl) (h:=?_);simp only [z,seval])
 first|refine brk (fun h=>?_) (fun h=>?_)|fail
 ·have hlt:n < l.length:=by simpa using h
  simp only [h,getMap Person.v l hlt,z,seval]
  (refine Qf ?_;simp only [z,seval])
  simp [getP,hlt,Person.v,wordsV,runsV]
 ·have hlt:¬ n < l.length:=by simpa using h
  simp only [h,z,seval]
  (refine Qf ?_;simp only [z,seval])
  simp [getP,hlt,zeroP]
theorem Person_spec (w:World) (n:Nat) (hn:n < 4294967296) (hl:w.people.length≤1099511627776):Spec PP GG 86 [w.v,u32 n] (getP w.people n).v []:=by
 refine Qs func86 ?_
 intro w0 M0
 simp only [f86,lf,z,seval]
 (refine CU (Get_spec w.people n hn hl) (h:=?_);simp only [z,seval])
 (refine Qf ?_;simp only [z,seval])
structure World.lim (w:World):Prop where
 draws:w.draws.list.length≤1099511627776
 rows:w.box.rows.length≤1099511627776
 plain:∀ s∈w.box.rows,s.plain.length≤1099511627776
 grams:w.net.grams.length≤1099511627776
 words:∀ g∈w.net.grams,g.words.length≤1099511627776
 seen:w.net.seen.length≤1099511627776
 seens:∀ l∈w.net.seen,l.length≤1099511627776
 people:w.people.length≤1099511627776
 used:∀ p∈w.people,p.used.length≤1099511627776
 runs:∀ p∈w.people,p.runs.length≤1099511627776
 log:w.log.length≤1099511627776
 regs:w.regs.length≤1099511627776
 reg:∀ l∈w.regs,l.length≤1099511627776
 leaks:w.leaks.length≤1099511627776
theorem okMap {α:Type} {f:α→V} {sz:Nat} (l:List α) (h:∀ a,okE sz (f a)=true) (hl:l.length≤1099511627776):((l.map f).all (okE sz) && decide (l.length≤1099511627776))=true:=by
 simp only [Bool.and_eq_true,List.all_eq_true,decide_eq_true_eq]
 exact ⟨fun x hx=>by obtain ⟨a,_,rfl⟩:=List.mem_map.1 hx;exact h a,hl⟩
def overM (now t w:Int):Bool:=decide (now≥1073741824) || decide (now > t + w)
def freshM (now t w:Int):Bool:=decide (now < 1073741824) && (decide (t < 1073741824) && (decide (now≤t + w) && decide (t≤now + w)))
def tickM (now by_:Int):Int:=if now + by_ < 1073741824 then now + by_ else 1073741824
def usedMay (l:List Int) (room w:Int):Int:=bif decide (w∈l) then 8 else bif decide ((l.length:Int)≥room) then 10 else 0
def usedNote (l:List Int) (room w:Int):List Int×Int:=bif usedMay l room w==0 then (l++[w],0) else (l,usedMay l room w)
def runsAdd (l:List Run) (room:Int) (r:Run):List Run×Int:=bif May09 r then (bif decide ((l.length:Int)≥room) then (l,10) else (l++[r],0)) else (l,1)
def isRun (proto role state:Int) (r:Run):Bool:=r.proto==proto && (r.role==role && r.state==state)
def setM (l:List Person) (p:Person):List Person×Int:=bif decide (p.name.toNat < l.length) then (l.set p.name.toNat p,0) else (l,1)
def pairM (l:List Person) (a b:Int):Bool := !(a==b) && (!(a==0) && (!(b==0) && (decide (a.toNat < l.length) && decide (b.toNat < l.length))))
def netSend (n:Net) (g:Gram):Net×Int:=bif decide (n.room - n.grams.length < 1) then (n,10) else (⟨n.room,n.grams++[g],n.seen++[g.words]⟩,0)
def boxFind (b:Box) (h:Int):Option Sld:=b.rows.find? fun s=>s.handle==h
def boxSeal (b:Box) (h key label:Int) (plain:List Int):Box×Int :=
 bif decide ((plain.length:Int) > 64) then (b,3) else bif (boxFind b h).isSome then (b,8) else bif decide (b.room - b.rows.length < 1) then (b,10) else (⟨b.room,b.rows++[⟨h,key,label,plain⟩]⟩,0)
def boxOpen (b:Box) (key label h:Int):Option (List Int):=match boxFind b h with
 | none=>none
 | some s=>bif s.key==key && s.label==label then some s.plain else none
def zPart:Part:=⟨0,0,0,0,0,0,0⟩
def partWs (label:Int) (p:Part):List Int :=
 bif label==2 then [p.n,p.b,p.k,p.t,p.h] else bif label==3 then [p.k,p.a,p.t] else bif label==4 || label==5 then [p.n] else bif label==6 || label==7 then [p.n,p.m,p.a,p.b] else bif label==8 || label==9 then [p.n,p.k] else []
def partRd (label:Int) (l:List Int):Part :=
 bif label==2 then ⟨l.getD 0 0,0,0,l.getD 1 0,l.getD 2 0,l.getD 3 0,l.getD 4 0⟩ else bif label==3 then ⟨0,0,l.getD 1 0,0,l.getD 0 0,l.getD 2 0,0⟩ else bif label==4 || label==5 then ⟨l.getD 0 0,0,0,0,0,0,0⟩
 else bif label==6 || label==7 then ⟨l.getD 0 0,l.getD 1 0,l.getD 2 0,l.getD 3 0,0,0,0⟩ else ⟨l.getD 0 0,0,0,0,l.getD 1 0,0,0⟩
def label? (label:Int):Bool:=decide (label≥2) && decide (label≤9)
def partGet (label:Int) (l:List Int):Part×Int:=bif label? label then (bif l.length==(partWs label zPart).length then (partRd label l,0) else (zPart,2)) else (zPart,1)
def eqPart (p q:Part):Bool:=p.n==q.n && (p.m==q.m && (p.a==q.a && (p.b==q.b && (p.k==q.k && (p.t==q.t && p.h==q.h)))))
def partPut (label:Int) (p:Part):List Int×Int:=bif label? label && eqPart p (partRd label (partWs label p)) then (partWs label p,0) else ([],1)
def zMsg:Msg:=⟨0,0,0,0,0,0,0⟩
def hasM (kind tag:Int):Bool :=
 bif kind==1 then tag==3 || (tag==4 || tag==5) else bif kind==2 || (kind==3 || (kind==4 || kind==5)) then tag==6 else bif kind==6 then tag==2 || (tag==3 || (tag==4 || tag==6))
 else bif kind==7 then tag==2 || (tag==3 || (tag==4 || (tag==6 || tag==7))) else bif kind==8 then tag==2 || (tag==6 || tag==7) else bif kind==9 then tag==2 || tag==6 else false
def msgWord (m:Msg) (tag:Int):Int:=bif tag==2 then m.run else bif tag==3 then m.a else bif tag==4 then m.b else bif tag==5 then m.nonce else bif tag==6 then m.box else m.more
def tags:List Int:=[2,3,4,5,6,7]
def msgMay (m:Msg):Bool:=decide (m.kind≥1) && (decide (m.kind≤9) && tags.all fun t=>hasM m.kind t || msgWord m t==0)
def msgWs (m:Msg):List Int:=[1,1,m.kind]++tags.flatMap fun t=>bif hasM m.kind t then [t,1,msgWord m t] else []
def msgPut (m:Msg):List Int×Int:=bif msgMay m then (msgWs m,0) else ([],1)
def drawW (w:World):World×Int:=({ w with draws:=⟨w.draws.list,w.draws.next + 1⟩ },drawAt w.draws.list w.draws.next.toNat)
def sealW (w:World) (key label:Int) (p:Part):World×Int×Int :=
 bif (partPut label p).2==0 then (bif (boxSeal w.box (drawW w).2 key label (partPut label p).1).2==0 then ({ (drawW w).1 with box:=(boxSeal w.box (drawW w).2 key label (partPut label p).1).1 },(drawW w).2,0)
  else (w,0,(boxSeal w.box (drawW w).2 key label (partPut label p).1).2)) else (w,0,(partPut label p).2)
def openW (w:World) (key label handle:Int):Part×Bool:=match boxOpen w.box key label handle with
 | none=>(zPart,false)
 | some l=>((partGet label l).1,(partGet label l).2==0)
def sendW (w:World) (to:Int) (m:Msg):World×Int :=
 bif (msgPut m).2==0 then (bif (netSend w.net ⟨to,(msgPut m).1⟩).2==0 then ({ w with net:=(netSend w.net ⟨to,(msgPut m).1⟩).1 },0) else (w,(netSend w.net ⟨to,(msgPut m).1⟩).2)) else (w,(msgPut m).2)
def logW (w:World) (e:Event):World:={ w with log:=w.log++[e] }
def roomW (w:World) (boxes frames:Int):Bool:=decide (w.box.room - w.box.rows.length≥boxes) && decide (w.net.room - w.net.grams.length≥frames)
def personW (w:World) (name:Int):Person:=getP w.people name.toNat
def withW (w:World) (p:Person):World:={ w with people:=(setM w.people p).1 }
theorem label_cases {l:Int} (h:label? l=true):l=2∨l=3∨l=4∨l=5∨l=6∨l=7∨l=8∨l=9:=by
 simp only [label?,Bool.and_eq_true,decide_eq_true_eq] at h;omega
theorem pPut_spec (label:Int) (p:Part):Spec PP GG 222 [u32 label,p.v] (.tup [wordsV (partPut label p).1,i64 (partPut label p).2]) []:=by
 obtain ⟨n,m,a,b,k,t,h⟩:=p
 refine Qs func222 ?_
 intro w0 M0
 simp only [f222,lf,z,seval]
 (refine qc func247 ?_;simp only [f247,lf,z,seval])
 cases hl:label? label with
 | true =>
   rcases label_cases hl with rfl|rfl|rfl|rfl|rfl|rfl|rfl|rfl
   all_goals
    simp only [z,seval]
    first|(refine qc func262 ?_;simp only [f262,lf,z,seval])|(refine qc func263 ?_;simp only [f263,lf,z,seval])|(refine qc func264 ?_;simp only [f264,lf,z,seval])|(refine qc func265 ?_;simp only [f265,lf,z,seval])|(refine qc func266 ?_;simp only [f266,lf,z,seval])|(refine qc func267 ?_;simp only [f267,lf,z,seval])|(refine qc func268 ?_;simp only [f268,lf,z,seval])|(refine qc func269 ?_;simp only [f269,lf,z,seval])
    try ((refine Qw 1 ?_;simp only [z,seval]);(refine ⟨by kernel_rfl,?_⟩))
    (refine RUNs_unroll 6 ?_;simp only [z,seval])
    repeat' (refine RUNs_unr ?_;simp only [z,seval])
    first|refine brk (fun h=>?_) (fun h=>?_)|fail
    ·simp only [h,z,seval]
     (refine Qf ?_;simp only [z,seval])
     simp only [partPut,hl,Bool.true_and,eqPart,partRd,partWs,Int.reduceBEq,cond_true,cond_false,beq_self_eq_true,Bool.true_and,Bool.or_true,Bool.or_false,Bool.true_or,List.getD_cons_zero,List.getD_cons_succ,h,List.map_cons,List.map_nil,z,seval]
    ·simp only [h,z,seval]
     (refine Qf ?_;simp only [z,seval])
     simp only [partPut,hl,Bool.true_and,eqPart,partRd,partWs,Int.reduceBEq,cond_true,cond_false,beq_self_eq_true,Bool.true_and,Bool.or_true,Bool.or_false,Bool.true_or,List.getD_cons_zero,List.getD_cons_succ,h,List.map_cons,List.map_nil,z,seval]
 | false =>
   have hn:∀ k:Int,2≤k→k≤9→(label==k)=false:=by
    intro k h2 h9
    simp only [label?,Bool.and_eq_false_iff,decide_eq_false_iff_not] at hl
    simp;omega
   simp only [hn 2 (by decide) (by decide),hn 3 (by decide) (by decide),hn 4 (by decide) (by decide),hn 5 (by decide) (by decide),hn 6 (by decide) (by decide),hn 7 (by decide) (by decide),hn 8 (by decide) (by decide),hn 9 (by decide) (by decide),z,seval]
   (refine Qf ?_;simp only [z,seval])
   simp [partPut,hl]
theorem partGet_ne {label:Int} {l:List Int} (hl:label? label=true) (h:¬ l.length=(partWs label zPart).length):partGet label l=(zPart,2):=by
 rw [partGet,hl,cond_true,beq_eq_false_iff_ne.2 h];rfl
theorem pGet_spec (label:Int) (l:List Int):Spec PP GG 300 [u32 label,wordsV l] (.tup [(partGet label l).1.v,i64 (partGet label l).2]) []:=by
 refine Qs func300 ?_
 intro w0 M0
 simp only [f300,lf,z,seval]
 (refine qc func247 ?_;simp only [f247,lf,z,seval])
 cases hl:label? label with
 | true =>
   rcases label_cases hl with rfl|rfl|rfl|rfl|rfl|rfl|rfl|rfl
   all_goals
    simp only [z,seval]
    first|(refine qc func262 ?_;simp only [f262,lf,z,seval])|(refine qc func263 ?_;simp only [f263,lf,z,seval])|(refine qc func264 ?_;simp only [f264,lf,z,seval])|(refine qc func265 ?_;simp only [f265,lf,z,seval])|(refine qc func266 ?_;simp only [f266,lf,z,seval])|(refine qc func267 ?_;simp only [f267,lf,z,seval])|(refine qc func268 ?_;simp only [f268,lf,z,seval])|(refine qc func269 ?_;simp only [f269,lf,z,seval])
    try ((refine Qw 1 ?_;simp only [z,seval]);(refine ⟨by kernel_rfl,?_⟩))
    first|refine brk (fun h=>?_) (fun h=>?_)|fail
    ·have hq:=h
     rcases l with _|⟨x0,_|⟨x1,_|⟨x2,_|⟨x3,_|⟨x4,_|⟨x5,l⟩⟩⟩⟩⟩⟩
     all_goals first
      | (exfalso;simp at hq;done)
      | (exfalso;simp at hq;omega)
      | (simp only [h,List.map_cons,List.map_nil,z,seval]
         (refine RUNs_unroll 6 ?_;simp only [z,seval])
         repeat' (refine RUNs_unr ?_;simp only [z,seval])
         (refine Qf ?_;simp only [z,seval])
         simp only [partGet,hl,partRd,partWs,Int.reduceBEq,cond_true,cond_false,beq_self_eq_true,Bool.true_and,Bool.or_true,Bool.or_false,Bool.true_or,List.getD_cons_zero,List.getD_cons_succ,List.length_cons,List.length_nil,z,seval])
    ·simp only [h,z,seval]
     (refine Qf ?_;simp only [z,seval])
     have hq:=h
     rw [partGet_ne hl (by intro hh;simp [partWs] at hh;simp [hh] at hq)];rfl
 | false =>
   have hn:∀ k:Int,2≤k→k≤9→(label==k)=false:=by
    intro k h2 h9
    simp only [label?,Bool.and_eq_false_iff,decide_eq_false_iff_not] at hl
    simp;omega
   simp only [hn 2 (by decide) (by decide),hn 3 (by decide) (by decide),hn 4 (by decide) (by decide),hn 5 (by decide) (by decide),hn 6 (by decide) (by decide),hn 7 (by decide) (by decide),hn 8 (by decide) (by decide),hn 9 (by decide) (by decide),z,seval]
   (refine Qf ?_;simp only [z,seval])
   simp [partGet,hl,zPart]
theorem CloneW_spec (l:List Int) (hl:l.length≤1099511627776):Spec PP GG 210 [.sl (l.map u32) .plain] (.row 0 0) [.row 1 (l.map u32) 0 false]:=by
 refine Qs func210 ?_
 intro w0 M0
 simp only [f210,lf,z,seval]
 refine OPV_nilq rfl rfl ty25 rfl rfl ?_
 intro b hb _
 rcases b
 ·simp only [z,seval]
  refine OPC_ok (okMap _ (fun a=>rfl) hl) ?_
  simp only [z,seval]
  exact FINS_own rfl rfl
 ·obtain rfl:l=[]:=by
   cases l with
   | nil=>rfl
   | cons a l=>exact absurd (hb (by simp)) (by simp)
  simp only [List.map_nil,z,seval]
  intro _
  refine RUNs_row0 2 1 (h:=?_)
  simp only [z,seval]
  exact FINS_own rfl rfl
theorem CloneW_fz (l:List Int) (hl:l.length≤1099511627776):Spec PP GG 210 [wordsV l] (wordsV l) []:=(CloneW_spec l hl).fz rfl
def fieldMay (f:Field):Bool:=decide (f.tag≥1) && (decide (f.tag≤255) && decide ((f.data.length:Int)≤16))
theorem wMay_spec (f:Field):Spec PP GG 261 [f.v] (.bool (fieldMay f)) []:=by
 refine Qs func261 ?_
 intro w0 M0
 simp only [f261,lf,z,seval]
 repeat' ((first|refine brk (fun h=>?_) (fun h=>?_)|fail)<;>simp only [z,seval,h])
 all_goals (refine Qf ?_;simp only [z,seval])
 all_goals (first|(simp_all [fieldMay];done)|(simp_all [fieldMay];intros;omega))
theorem One_spec (t:Int) (l:List Int) (hl:l.length≤1099511627776):Spec PP GG 243 [u32 t,wordsV l] (Field.v ⟨t,l⟩) []:=by
 refine Qs func243 ?_
 intro w0 M0
 simp only [f243,lf,z,seval]
 (refine CU (CloneW_fz l hl) (h:=?_);simp only [z,seval])
 (refine Qf ?_;simp only [z,seval])
def flatF (f:Field):List Int:=[f.tag,IntKind.u32.wrap f.data.length]++f.data
def flatFs (l:List Field):List Int:=l.flatMap flatF
theorem flatFs_succ {l:List Field} {i:Nat} (h:i < l.length):flatFs (l.take (i + 1))=flatFs (l.take i)++flatF l[i]:=by
 rw [List.take_succ_eq_append_getElem h,flatFs,List.flatMap_append];simp [flatFs]
theorem flatFs_len:∀ (l:List Field),l.all fieldMay=true→(flatFs l).length≤18 * l.length
 | [],_=>by simp [flatFs]
 | f::l,h=>by
   simp only [List.all_cons,Bool.and_eq_true] at h
   have:=flatFs_len l h.2
   have h1:=h.1
   simp only [fieldMay,Bool.and_eq_true,decide_eq_true_eq] at h1
   simp only [flatFs,List.flatMap_cons,List.length_append,List.length_cons,flatF,List.length_nil] at this ⊢
   omega
def wirePut (l:List Field):List Int×Int:=bif l.all fieldMay then (bif decide ((l.length:Int) > 8) || decide (((flatFs l).length:Int) > 64) then ([],3) else (flatFs l,0)) else ([],2)
theorem wPut_spec (l:List Field) (hl:l.length≤1000000):Spec PP GG 246 [fieldsV l] (.tup [wordsV (wirePut l).1,i64 (wirePut l).2]) []:=by
 refine Qs func246 ?_
 intro w0 M0
 simp only [f246,lf,z,seval]
 (refine RUNs_row0 4 1 (h:=?_);simp only [z,seval])
 refine RUNs_rangeS (l.length) (fun i (_:Unit)=>(l.take i).all fieldMay=true) (fun i _=>[(9,i64 i),(4,.row 0 (i + i))]) (fun i _=>[(0,.row 1 ((flatFs (l.take i)).map u32) (i + i) false)]) () ?_ (by simp only [z,seval];exact wk) rfl ?_
 ·simp
 rintro ⟨i,_,hi,hw⟩
 simp only [z,seval]
 refine CONDS_split (fun h=>?_) (fun h=>?_)
 ·have hlt:i < l.length:=by simpa using h
  simp only [z,seval,getMap Field.v l hlt]
  (refine CU (wMay_spec l[i]) (h:=?_);simp only [z,seval])
  first|refine brk (fun h=>?_) (fun h=>?_)|fail
  ·have hlen:=flatFs_len _ hw
   have h16:l[i].data.length≤16:=by have:=h;simp only [fieldMay,Bool.and_eq_true,decide_eq_true_eq] at this;omega
   simp only [List.length_take] at hlen
   simp only [h,z,seval]
   (refine Qw 0 ?_;simp only [z,seval])
   refine DOC_ok (by simp;omega) ?_
   simp only [z,seval]
   refine DOC_ok ?_ ?_
   ·simp only [List.length_append,List.length_map,List.length_cons,List.length_nil,Bool.and_eq_true,List.all_eq_true,decide_eq_true_eq]
    exact ⟨fun x hx=>by obtain ⟨a,_,rfl⟩:=List.mem_map.1 hx;rfl,by omega⟩
   simp only [z,seval]
   (refine ⟨by kernel_rfl,?_⟩)
   have e:(flatFs (l.take i)).map u32++[u32 l[i].tag,u32 (IntKind.u32.wrap (l[i].data.length:Int))]++l[i].data.map u32=(flatFs (l.take (i + 1))).map u32:=by
    rw [flatFs_succ hlt];simp [flatF]
   simp only [e,w64s (i:=i) (by omega),show i + i + 1 + 1=i + 1 + (i + 1) by omega,z,seval]
   refine NX () (hi:=hlt) (hinv:=?_)
   rw [all_succ hlt,hw,h];rfl
  ·simp only [h,z,seval]
   (refine Qf ?_;simp only [z,seval])
   rw [wirePut,all_false hlt h];rfl
 ·obtain rfl:i=l.length:=by simp at h;omega
  rw [List.take_length] at hw ⊢
  simp only [z,seval]
  repeat' ((first|refine brk (fun h=>?_) (fun h=>?_)|fail)<;>simp only [z,seval,h])
  all_goals (refine Qf ?_;simp only [z,seval])
  all_goals (rw [wirePut,hw];clear hw;first|(simp_all;done)|(simp_all;rw [decide_eq_false (by omega),decide_eq_false (by omega)];exact ⟨rfl,rfl⟩))
theorem gLook:List.lookup 0 GG=some [u32 0,u32 56,u32 64,u32 64,u32 64,u32 64,u32 92,u32 220,u32 196,u32 68]:=rfl
theorem mpart_spec (kind tag:Int) (hk:1≤kind∧kind≤9) (ht:tag∈tags):Spec PP GG 245 [u32 kind,i64 tag] (.bool (hasM kind tag)) []:=by
 have h1:kind=1∨kind=2∨kind=3∨kind=4∨kind=5∨kind=6∨kind=7∨kind=8∨kind=9:=by omega
 have h2:tag=2∨tag=3∨tag=4∨tag=5∨tag=6∨tag=7:=by simpa [tags] using ht
 have h0:¬ tag < 0:=by omega
 refine Qs func245 ?_
 intro w0 M0
 simp only [f245,lf,z,seval]
 rcases h1 with rfl|rfl|rfl|rfl|rfl|rfl|rfl|rfl|rfl
 all_goals
  (refine Qw 0 ?_;simp only [z,seval])
  simp only [gLook,if_neg h0,z,seval]
  (refine ⟨by kernel_rfl,?_⟩)
  (refine Qf ?_;simp only [z,seval])
  rcases h2 with rfl|rfl|rfl|rfl|rfl|rfl<;>exact congrArg (fun b=>some (V.bool b)) (by decide +kernel)
def okTo (m:Msg) (i:Nat):Bool:=tags.all fun t=>decide ((i:Int)≤t) || (hasM m.kind t || msgWord m t==0)
theorem okTo_step {m:Msg} {i:Nat} (h:okTo m i=true) (h2:hasM m.kind i=true∨msgWord m i=0):okTo m (i + 1)=true:=by
 simp only [okTo,List.all_eq_true,Bool.or_eq_true,decide_eq_true_eq,beq_iff_eq] at h ⊢
 intro t ht
 rcases h t ht with h1|h1
 ·by_cases h3:(i:Int)=t
  ·subst h3;exact .inr h2
  ·exact .inl (by omega)
 ·exact .inr h1
theorem mMay_spec (m:Msg) (hm:m.ok):Spec PP GG 242 [m.v] (.bool (msgMay m)) []:=by
 have hk0:=hm.1.1
 by_cases hk:1≤m.kind∧m.kind≤9
 ·have hM:msgMay m=tags.all fun t=>hasM m.kind t || msgWord m t==0:=by
   rw [msgMay,decide_eq_true (show m.kind≥1 by omega),decide_eq_true (show m.kind≤9 by omega)];rfl
  have e1:decide (m.kind < 1)=false:=decide_eq_false (by omega)
  have e2:decide (m.kind > 9)=false:=decide_eq_false (by omega)
  refine Qs func242 ?_
  intro w0 M0
  simp only [f242,lf,e1,e2,z,seval]
  (refine qc func244 ?_;simp only [f244,lf,z,seval])
  (refine Qw 0 ?_;simp only [z,seval])
  (refine ⟨by kernel_rfl,?_⟩)
  refine RUNs_rangeS (8) (fun i (_:Unit)=>okTo m i=true) (fun i _=>[(14,i64 i)]) (fun _ _=>[]) () ?_ (by simp only [z,seval];exact wk) rfl ?_
  ·simp [okTo,tags]
  rintro ⟨i,_,hi,hw⟩
  have hcase:i=0∨i=1∨i=2∨i=3∨i=4∨i=5∨i=6∨i=7∨i=8:=by omega
  rcases hcase with rfl|rfl|rfl|rfl|rfl|rfl|rfl|rfl|rfl
  iterate 2
   ·simp only [Int.cast_ofNat_Int,z,seval]
    refine NX () (hi:=by simp) (hinv:=by simp [okTo,tags])
  ·simp only [Int.cast_ofNat_Int,z,seval]
   (refine CU (mpart_spec m.kind 2 hk (by decide)) (h:=?_);simp only [z,seval])
   first|refine brk (fun h=>?_) (fun h=>?_)|fail
   ·simp only [h,z,seval]
    first|refine brk (fun h=>?_) (fun h=>?_)|fail
    ·simp only [h,z,seval]
     refine NX () (hi:=by simp) (hinv:=okTo_step hw (.inr (by simpa [msgWord] using h)))
    ·simp only [h,z,seval]
     (refine Qf ?_;simp only [z,seval])
     have:msgMay m=false:=by
      rw [hM,List.all_eq_false]
      exact ⟨2,by decide,by simp_all [msgWord]⟩
     rw [this]
   ·simp only [h,z,seval]
    refine NX () (hi:=by simp) (hinv:=okTo_step hw (.inl (by simpa using h)))
  ·simp only [Int.cast_ofNat_Int,z,seval]
   (refine CU (mpart_spec m.kind 3 hk (by decide)) (h:=?_);simp only [z,seval])
   first|refine brk (fun h=>?_) (fun h=>?_)|fail
   ·simp only [h,z,seval]
    first|refine brk (fun h=>?_) (fun h=>?_)|fail
    ·simp only [h,z,seval]
     refine NX () (hi:=by simp) (hinv:=okTo_step hw (.inr (by simpa [msgWord] using h)))
    ·simp only [h,z,seval]
     (refine Qf ?_;simp only [z,seval])
     have:msgMay m=false:=by
      rw [hM,List.all_eq_false]
      exact ⟨3,by decide,by simp_all [msgWord]⟩
     rw [this]
   ·simp only [h,z,seval]
    refine NX () (hi:=by simp) (hinv:=okTo_step hw (.inl (by simpa using h)))
  ·simp only [Int.cast_ofNat_Int,z,seval]
   (refine CU (mpart_spec m.kind 4 hk (by decide)) (h:=?_);simp only [z,seval])
   first|refine brk (fun h=>?_) (fun h=>?_)|fail
   ·simp only [h,z,seval]
    first|refine brk (fun h=>?_) (fun h=>?_)|fail
    ·simp only [h,z,seval]
     refine NX () (hi:=by simp) (hinv:=okTo_step hw (.inr (by simpa [msgWord] using h)))
    ·simp only [h,z,seval]
     (refine Qf ?_;simp only [z,seval])
     have:msgMay m=false:=by
      rw [hM,List.all_eq_false]
      exact ⟨4,by decide,by simp_all [msgWord]⟩
     rw [this]
   ·simp only [h,z,seval]
    refine NX () (hi:=by simp) (hinv:=okTo_step hw (.inl (by simpa using h)))
  ·simp only [Int.cast_ofNat_Int,z,seval]
   (refine CU (mpart_spec m.kind 5 hk (by decide)) (h:=?_);simp only [z,seval])
   first|refine brk (fun h=>?_) (fun h=>?_)|fail
   ·simp only [h,z,seval]
    first|refine brk (fun h=>?_) (fun h=>?_)|fail
    ·simp only [h,z,seval]
     refine NX () (hi:=by simp) (hinv:=okTo_step hw (.inr (by simpa [msgWord] using h)))
    ·simp only [h,z,seval]
     (refine Qf ?_;simp only [z,seval])
     have:msgMay m=false:=by
      rw [hM,List.all_eq_false]
      exact ⟨5,by decide,by simp_all [msgWord]⟩
     rw [this]
   ·simp only [h,z,seval]
    refine NX () (hi:=by simp) (hinv:=okTo_step hw (.inl (by simpa using h)))
  ·simp only [Int.cast_ofNat_Int,z,seval]
   (refine CU (mpart_spec m.kind 6 hk (by decide)) (h:=?_);simp only [z,seval])
   first|refine brk (fun h=>?_) (fun h=>?_)|fail
   ·simp only [h,z,seval]
    first|refine brk (fun h=>?_) (fun h=>?_)|fail
    ·simp only [h,z,seval]
     refine NX () (hi:=by simp) (hinv:=okTo_step hw (.inr (by simpa [msgWord] using h)))
    ·simp only [h,z,seval]
     (refine Qf ?_;simp only [z,seval])
     have:msgMay m=false:=by
      rw [hM,List.all_eq_false]
      exact ⟨6,by decide,by simp_all [msgWord]⟩
     rw [this]
   ·simp only [h,z,seval]
    refine NX () (hi:=by simp) (hinv:=okTo_step hw (.inl (by simpa using h)))
  ·simp only [Int.cast_ofNat_Int,z,seval]
   (refine CU (mpart_spec m.kind 7 hk (by decide)) (h:=?_);simp only [z,seval])
   first|refine brk (fun h=>?_) (fun h=>?_)|fail
   ·simp only [h,z,seval]
    first|refine brk (fun h=>?_) (fun h=>?_)|fail
    ·simp only [h,z,seval]
     refine NX () (hi:=by simp) (hinv:=okTo_step hw (.inr (by simpa [msgWord] using h)))
    ·simp only [h,z,seval]
     (refine Qf ?_;simp only [z,seval])
     have:msgMay m=false:=by
      rw [hM,List.all_eq_false]
      exact ⟨7,by decide,by simp_all [msgWord]⟩
     rw [this]
   ·simp only [h,z,seval]
    refine NX () (hi:=by simp) (hinv:=okTo_step hw (.inl (by simpa using h)))
  ·simp only [Int.cast_ofNat_Int,z,seval]
   (refine Qf ?_;simp only [z,seval])
   have:msgMay m=true:=by
    rw [hM];simpa [okTo,tags] using hw
   rw [this]
 ·have hM:msgMay m=false:=by
   rw [msgMay]
   rcases Int.lt_or_le m.kind 1 with h|h
   ·rw [decide_eq_false (show ¬ m.kind≥1 by omega)];rfl
   ·rw [decide_eq_false (show ¬ m.kind≤9 by omega)];simp
  rw [hM]
  refine Qs func242 ?_
  intro w0 M0
  simp only [f242,lf,z,seval]
  repeat' ((first|refine brk (fun h=>?_) (fun h=>?_)|fail)<;>simp only [h,z,seval])
  all_goals first|((refine Qf ?_;simp only [z,seval]);done)|(simp at *;omega)
def fieldsOf (m:Msg):List Field:=⟨1,[m.kind]⟩::tags.flatMap fun t=>bif hasM m.kind t then [⟨t,[msgWord m t]⟩] else []
theorem wire_fields (m:Msg) (hk:1≤m.kind∧m.kind≤9):wirePut (fieldsOf m)=(msgWs m,0):=by
 obtain ⟨kind,run,a,b,nonce,box,more⟩:=m
 have h1:kind=1∨kind=2∨kind=3∨kind=4∨kind=5∨kind=6∨kind=7∨kind=8∨kind=9:=by simp only at hk;omega
 rcases h1 with rfl|rfl|rfl|rfl|rfl|rfl|rfl|rfl|rfl<;>rfl
theorem fields_len (m:Msg):(fieldsOf m).length≤1000000:=by
 simp only [fieldsOf,tags,List.flatMap_cons,List.flatMap_nil,List.length_cons,List.length_append,List.length_nil]
 have:∀ (c:Bool) (x:Field),(bif c then [x] else []).length≤1:=by intro c x;cases c<;>simp
 have h2:=this (hasM m.kind 2) ⟨2,[msgWord m 2]⟩
 have h3:=this (hasM m.kind 3) ⟨3,[msgWord m 3]⟩
 have h4:=this (hasM m.kind 4) ⟨4,[msgWord m 4]⟩
 have h5:=this (hasM m.kind 5) ⟨5,[msgWord m 5]⟩
 have h6:=this (hasM m.kind 6) ⟨6,[msgWord m 6]⟩
 have h7:=this (hasM m.kind 7) ⟨7,[msgWord m 7]⟩
 omega
theorem may_kind {m:Msg} (h:msgMay m=true):1≤m.kind∧m.kind≤9:=by
 simp only [msgMay,Bool.and_eq_true,decide_eq_true_eq] at h;exact ⟨h.1,h.2.1⟩
theorem mPut_spec (m:Msg) (hm:m.ok):Spec PP GG 220 [m.v] (.tup [wordsV (msgPut m).1,i64 (msgPut m).2]) []:=by
 refine Qs func220 ?_
 intro w0 M0
 simp only [f220,lf,z,seval]
 (refine CU (mMay_spec m hm) (h:=?_);simp only [z,seval])
 first|refine brk (fun h=>?_) (fun h=>?_)|fail
 ·have hmay:=h
  have hk:=may_kind hmay
  simp only [h,z,seval]
  (refine CU (One_spec 1 [m.kind] (by simp)) (h:=?_);simp only [z,seval])
  (refine qc func244 ?_;simp only [f244,lf,z,seval])
  (refine Qw 0 ?_;simp only [z,seval])
  (refine ⟨by kernel_rfl,?_⟩)
  rw [msgPut,hmay]
  clear h hmay hm
  obtain ⟨kind,run,a,b,nonce,box,more⟩:=m
  have h1:kind=1∨kind=2∨kind=3∨kind=4∨kind=5∨kind=6∨kind=7∨kind=8∨kind=9:=by simp only at hk;omega
  simp only at hk ⊢
  have hl9:=fields_len ⟨kind,run,a,b,nonce,box,more⟩
  rcases h1 with rfl|rfl|rfl|rfl|rfl|rfl|rfl|rfl|rfl
  all_goals
   (refine RUNs_unroll 9 ?_;simp only [z,seval])
   (refine RUNs_unr ?_;simp only [z,seval])
   (refine RUNs_unr ?_;simp only [z,seval])
   (refine CU (mpart_spec _ 2 hk (by decide)) (h:=?_);simp only [z,seval])
   simp only [hasM,Int.reduceBEq,Bool.or_false,Bool.false_or,Bool.or_true,Bool.true_or,z,seval]
   try ((refine CU (One_spec 2 [run] (by simp)) (h:=?_);simp only [z,seval]))
   (refine RUNs_unr ?_;simp only [z,seval])
   (refine CU (mpart_spec _ 3 hk (by decide)) (h:=?_);simp only [z,seval])
   simp only [hasM,Int.reduceBEq,Bool.or_false,Bool.false_or,Bool.or_true,Bool.true_or,z,seval]
   try ((refine CU (One_spec 3 [a] (by simp)) (h:=?_);simp only [z,seval]))
   (refine RUNs_unr ?_;simp only [z,seval])
   (refine CU (mpart_spec _ 4 hk (by decide)) (h:=?_);simp only [z,seval])
   simp only [hasM,Int.reduceBEq,Bool.or_false,Bool.false_or,Bool.or_true,Bool.true_or,z,seval]
   try ((refine CU (One_spec 4 [b] (by simp)) (h:=?_);simp only [z,seval]))
   (refine RUNs_unr ?_;simp only [z,seval])
   (refine CU (mpart_spec _ 5 hk (by decide)) (h:=?_);simp only [z,seval])
   simp only [hasM,Int.reduceBEq,Bool.or_false,Bool.false_or,Bool.or_true,Bool.true_or,z,seval]
   try ((refine CU (One_spec 5 [nonce] (by simp)) (h:=?_);simp only [z,seval]))
   (refine RUNs_unr ?_;simp only [z,seval])
   (refine CU (mpart_spec _ 6 hk (by decide)) (h:=?_);simp only [z,seval])
   simp only [hasM,Int.reduceBEq,Bool.or_false,Bool.false_or,Bool.or_true,Bool.true_or,z,seval]
   try ((refine CU (One_spec 6 [box] (by simp)) (h:=?_);simp only [z,seval]))
   (refine RUNs_unr ?_;simp only [z,seval])
   (refine CU (mpart_spec _ 7 hk (by decide)) (h:=?_);simp only [z,seval])
   simp only [hasM,Int.reduceBEq,Bool.or_false,Bool.false_or,Bool.or_true,Bool.true_or,z,seval]
   try ((refine CU (One_spec 7 [more] (by simp)) (h:=?_);simp only [z,seval]))
   (refine RUNs_unr ?_;simp only [z,seval])
   (refine CU (wPut_spec _ hl9) (h:=?_);simp only [z,seval])
   rw [wire_fields _ hk]
   (refine Qf ?_;simp only [z,seval])
 ·simp only [h,z,seval]
  (refine Qf ?_;simp only [z,seval])
  rw [msgPut,h];rfl
def idxM (l:List Int) (w:Int):Int:=if w∈l then (l.idxOf w:Int) else -1
theorem idxM_at {l:List Int} {w:Int} {i:Nat} (hi:i < l.length) (h:w ∉ l.take i) (hw:l[i]=w):idxM l w=i:=by
 have hm:w∈l:=hw ▸ List.getElem_mem hi
 have e:l.idxOf w=i:=by
  have:(l.take i++l.drop i).idxOf w=i:=by
   rw [List.idxOf_append,if_neg h,List.drop_eq_getElem_cons hi,hw,List.idxOf_cons_self]
   simp;omega
  rwa [List.take_append_drop] at this
 simp [idxM,hm,e]
theorem Index_spec (l:List Int) (w:Int) (hl:l.length≤1099511627776):Spec PP GG 204 [wordsV l,u32 w] (i64 (idxM l w)) []:=by
 refine Qs func204 ?_
 intro w0 M0
 simp only [f204,lf,wordsV,z,seval]
 refine RUNs_range l.length (fun i (_:Unit)=>w ∉ l.take i) (fun i _=>([.sl (l.map u32) .plain,u32 w,.any,.any,i64 0,.any,.sl (l.map u32) .plain,i64 l.length,i64 i,.any,.any,.any,.any,.any,.any,.any,.any,.any,.any],[])) () (by simp) wk rfl ?_
 rintro ⟨i,_,hi,hw⟩
 simp only [z,seval]
 refine CONDS_split (fun h=>?_) (fun h=>?_)
 ·have hlt:i < l.length:=by simpa using h
  simp only [z,seval,getMap u32 l hlt]
  refine CONDS_split (fun h=>?_) (fun h=>?_)
  ·simp only [z,seval]
   (refine Qf ?_;simp only [z,seval])
   rw [idxM_at hlt hw (by simp at h;exact h.symm)]
  ·simp only [z,seval,w64s (i:=i) (by omega)]
   refine NX () (hi:=hlt) (hinv:=?_)
   have h':w≠l[i]:=by simpa using h
   simp only [List.take_succ_eq_append_getElem hlt,List.mem_append,List.mem_singleton]
   rintro (h1|h1)
   ·exact hw h1
   ·exact h' h1
 ·simp only [z,seval]
  (refine Qf ?_;simp only [z,seval])
  have:i=l.length:=by simp at h;omega
  subst this
  simp at hw;simp [idxM,hw]
theorem Contains_spec (l:List Int) (w:Int) (hl:l.length≤1099511627776):Spec PP GG 153 [wordsV l,u32 w] (.bool (decide (w∈l))) []:=by
 refine Qs func153 ?_
 intro w0 M0
 simp only [f153,lf,z,seval]
 (refine CU (Index_spec l w hl) (h:=?_);simp only [z,seval])
 (refine Qf ?_;simp only [z,seval])
 by_cases h:w∈l<;>simp [idxM,h]
theorem nat_or_top {n:Nat} (h:n < 4294967296):n ||| 2147483648=if n < 2147483648 then n + 2147483648 else n:=by
 have key:∀ r,r < 2147483648→2147483648 ||| r=2147483648 + r:=fun r hr=>by
  have:=Nat.two_pow_add_eq_or_of_lt (i:=31) (b:=r) (by simpa using hr) 1
  simpa using this.symm
 split
 ·rename_i h1
  rw [Nat.or_comm,key n h1];omega
 ·rename_i h1
  have e:n=2147483648 ||| (n - 2147483648):=by rw [key _ (by omega)];omega
  rw [e,Nat.or_comm,← Nat.or_assoc,Nat.or_self]
theorem orI_top {x:Int} (h:U x):orI .u32 x 2147483648=if x < 2147483648 then IntKind.u32.wrap (x + 2147483648) else x:=by
 obtain ⟨n,rfl⟩:=Int.eq_ofNat_of_zero_le h.1
 have hn:n < 4294967296:=by have:=h.2;omega
 simp only [orI]
 have e1:(BitVec.ofInt IntKind.u32.bits (n:Int) ||| BitVec.ofInt IntKind.u32.bits 2147483648).toNat=n ||| 2147483648:=by
  show (BitVec.ofInt 32 (n:Int) ||| BitVec.ofInt 32 ((2147483648:Nat):Int)).toNat=_
  rw [BitVec.ofInt_natCast,BitVec.ofInt_natCast,BitVec.toNat_or,BitVec.toNat_ofNat,BitVec.toNat_ofNat,Nat.mod_eq_of_lt hn]
 rw [e1,nat_or_top hn]
 by_cases hc:n < 2147483648
 ·rw [if_pos hc,if_pos (by omega)];rfl
 ·rw [if_neg hc,if_neg (by omega),IntKind.wrap_u32];omega
theorem Draw_spec (x:Int):Spec PP GG 235 [u32 x] (u32 (orI .u32 x 2147483648)) []:=by
 refine Qs func235 ?_
 intro w0 M0
 simp only [f235,lf,z,seval]
 (refine Qf ?_;simp only [z,seval])
theorem drawAt_or {l:List Int} (hl:∀ x∈l,U x) {i:Nat} (hd:U (dflt i)):drawAt l i=orI .u32 ((l[i]?).getD (dflt i)) 2147483648:=by
 cases h:l[i]? with
 | none=>simp only [drawAt,h,Option.getD_none];rw [orI_top hd]
 | some x=>simp only [drawAt,h,Option.getD_some];rw [orI_top (hl x (List.mem_of_getElem? h))]
theorem at_spec (d:Draws) (i:Nat):Spec PP GG 209 [d.v,i64 i] (u32 (orI .u32 ((d.list[i]?).getD (dflt i)) 2147483648)) []:=by
 refine Qs func209 ?_
 intro w0 M0
 simp only [f209,lf,Draws.v,z,seval]
 first|refine brk (fun h=>?_) (fun h=>?_)|fail
 ·have hlt:i < d.list.length:=by simpa using h
  simp only [z,seval,h,getMap u32 d.list hlt]
  (refine CU (Draw_spec d.list[i]) (h:=?_);simp only [z,seval])
  (refine Qf ?_;simp only [z,seval])
  simp [hlt]
 ·have hnl:d.list[i]?=none:=by simp at h ⊢;omega
  simp only [z,seval,h]
  (refine CU (Draw_spec (dflt i)) (h:=?_);simp only [z,seval])
  (refine Qf ?_;simp only [z,seval])
  rw [hnl];rfl
theorem dflt_U (i:Nat):U (dflt i):=by
 simp only [dflt,U,orI,IntKind.wrap_u32]
 omega
theorem at_specU (d:Draws) (hl:∀ x∈d.list,U x) (i:Nat):Spec PP GG 209 [d.v,i64 i] (u32 (drawAt d.list i)) []:=by
 rw [drawAt_or hl (dflt_U i)];exact at_spec d i
end Ch
namespace Go.Proofs
open Go.Shelf
def Tryz.growSealed_ren:Go.Shelf.Ren:=⟨fun|4=>260|n=>n,fun|0=>0|3=>3|4=>4|9=>9|20=>20|22=>29|25=>121|n=>n,fun n=>n⟩
theorem Tryz.growSealed:Lays8.n4 Tryz.prog Tryz.growSealed_ren where
 mixed:=by kernel_rfl
 f4:=⟨Tryz.f260.name,of_decide_eq_true (by kernel_rfl),Tryz.func260.trans (congrArg some (by kernel_rfl))⟩
 t0:=Tryz.underlying0
 a0:=Tryz.isAgg0
 z0:=Tryz.sizeOf0
 v0:=Tryz.zeroValue0
 t3:=Tryz.underlying3
 a3:=Tryz.isAgg3
 z3:=Tryz.sizeOf3
 v3:=Tryz.zeroValue3
 t4:=Tryz.underlying4
 a4:=Tryz.isAgg4
 z4:=Tryz.sizeOf4
 v4:=Tryz.zeroValue4
 t9:=Tryz.underlying9
 a9:=Tryz.isAgg9
 z9:=Tryz.sizeOf9
 v9:=Tryz.zeroValue9
 t20:=Tryz.underlying20
 a20:=Tryz.isAgg20
 z20:=Tryz.sizeOf20
 v20:=Tryz.zeroValue20
 t22:=Tryz.underlying29
 a22:=Tryz.isAgg29
 z22:=Tryz.sizeOf29
 v22:=Tryz.zeroValue29
end Go.Proofs
theorem Ch.GrowSealed_spec (n:Nat) (hn:n≤1099511627776):Go.Ab.Spec Go.Ab.PP Ch.GG 260 [.sl [] .nil,Ch.i64 n] (.row 0 0) [.row 4 [] 0 false] :=
 Go.Ab.Grow_nil' Go.Proofs.Tryz.growSealed Ch.GG 29 rfl Go.Ab.ty29 rfl Go.Ab.ty121 rfl (by decide) (by decide) n hn
namespace Go.Proofs
open Go.Shelf
def Tryz.growW_ren:Go.Shelf.Ren:=⟨fun|4=>233|n=>n,fun|0=>0|3=>3|4=>4|9=>9|20=>20|22=>25|25=>22|n=>n,fun n=>n⟩
theorem Tryz.growW:Lays8.n4 Tryz.prog Tryz.growW_ren where
 mixed:=by kernel_rfl
 f4:=⟨Tryz.f233.name,of_decide_eq_true (by kernel_rfl),Tryz.func233.trans (congrArg some (by kernel_rfl))⟩
 t0:=Tryz.underlying0
 a0:=Tryz.isAgg0
 z0:=Tryz.sizeOf0
 v0:=Tryz.zeroValue0
 t3:=Tryz.underlying3
 a3:=Tryz.isAgg3
 z3:=Tryz.sizeOf3
 v3:=Tryz.zeroValue3
 t4:=Tryz.underlying4
 a4:=Tryz.isAgg4
 z4:=Tryz.sizeOf4
 v4:=Tryz.zeroValue4
 t9:=Tryz.underlying9
 a9:=Tryz.isAgg9
 z9:=Tryz.sizeOf9
 v9:=Tryz.zeroValue9
 t20:=Tryz.underlying20
 a20:=Tryz.isAgg20
 z20:=Tryz.sizeOf20
 v20:=Tryz.zeroValue20
 t22:=Tryz.underlying25
 a22:=Tryz.isAgg25
 z22:=Tryz.sizeOf25
 v22:=Tryz.zeroValue25
end Go.Proofs
theorem Ch.GrowW_spec (n:Nat) (hn:n≤1099511627776):Go.Ab.Spec Go.Ab.PP Ch.GG 233 [.sl [] .nil,Ch.i64 n] (.row 0 0) [.row 1 [] 0 false] :=
 Go.Ab.Grow_nil' Go.Proofs.Tryz.growW Ch.GG 25 rfl Go.Ab.ty25 rfl Go.Ab.ty22 rfl (by decide) (by decide) n hn
namespace Go.Proofs
open Go.Shelf
def Tryz.growEvent_ren:Go.Shelf.Ren:=⟨fun|4=>241|n=>n,fun|0=>0|3=>3|4=>4|9=>9|20=>20|22=>37|25=>76|n=>n,fun n=>n⟩
theorem Tryz.growEvent:Lays8.n4 Tryz.prog Tryz.growEvent_ren where
 mixed:=by kernel_rfl
 f4:=⟨Tryz.f241.name,of_decide_eq_true (by kernel_rfl),Tryz.func241.trans (congrArg some (by kernel_rfl))⟩
 t0:=Tryz.underlying0
 a0:=Tryz.isAgg0
 z0:=Tryz.sizeOf0
 v0:=Tryz.zeroValue0
 t3:=Tryz.underlying3
 a3:=Tryz.isAgg3
 z3:=Tryz.sizeOf3
 v3:=Tryz.zeroValue3
 t4:=Tryz.underlying4
 a4:=Tryz.isAgg4
 z4:=Tryz.sizeOf4
 v4:=Tryz.zeroValue4
 t9:=Tryz.underlying9
 a9:=Tryz.isAgg9
 z9:=Tryz.sizeOf9
 v9:=Tryz.zeroValue9
 t20:=Tryz.underlying20
 a20:=Tryz.isAgg20
 z20:=Tryz.sizeOf20
 v20:=Tryz.zeroValue20
 t22:=Tryz.underlying37
 a22:=Tryz.isAgg37
 z22:=Tryz.sizeOf37
 v22:=Tryz.zeroValue37
end Go.Proofs
theorem Ch.GrowEvent_spec (n:Nat) (hn:n≤1099511627776):Go.Ab.Spec Go.Ab.PP Ch.GG 241 [.sl [] .nil,Ch.i64 n] (.row 0 0) [.row 10 [] 0 false] :=
 Go.Ab.Grow_nil' Go.Proofs.Tryz.growEvent Ch.GG 37 rfl Go.Ab.ty37 rfl Go.Ab.ty76 rfl (by decide) (by decide) n hn
namespace Go.Proofs
open Go.Shelf
def Tryz.growR_ren:Go.Shelf.Ren:=⟨fun|4=>207|n=>n,fun|0=>0|3=>3|4=>4|9=>9|20=>20|22=>33|25=>25|n=>n,fun n=>n⟩
theorem Tryz.growR:Lays8.n4 Tryz.prog Tryz.growR_ren where
 mixed:=by kernel_rfl
 f4:=⟨Tryz.f207.name,of_decide_eq_true (by kernel_rfl),Tryz.func207.trans (congrArg some (by kernel_rfl))⟩
 t0:=Tryz.underlying0
 a0:=Tryz.isAgg0
 z0:=Tryz.sizeOf0
 v0:=Tryz.zeroValue0
 t3:=Tryz.underlying3
 a3:=Tryz.isAgg3
 z3:=Tryz.sizeOf3
 v3:=Tryz.zeroValue3
 t4:=Tryz.underlying4
 a4:=Tryz.isAgg4
 z4:=Tryz.sizeOf4
 v4:=Tryz.zeroValue4
 t9:=Tryz.underlying9
 a9:=Tryz.isAgg9
 z9:=Tryz.sizeOf9
 v9:=Tryz.zeroValue9
 t20:=Tryz.underlying20
 a20:=Tryz.isAgg20
 z20:=Tryz.sizeOf20
 v20:=Tryz.zeroValue20
 t22:=Tryz.underlying33
 a22:=Tryz.isAgg33
 z22:=Tryz.sizeOf33
 v22:=Tryz.zeroValue33
end Go.Proofs
theorem Ch.GrowR_spec (n:Nat) (hn:n≤1099511627776):Go.Ab.Spec Go.Ab.PP Ch.GG 207 [.sl [] .nil,Ch.i64 n] (.row 0 0) [.row 1 [] 0 false] :=
 Go.Ab.Grow_nil' Go.Proofs.Tryz.growR Ch.GG 33 rfl Go.Ab.ty33 rfl Go.Ab.ty25 rfl (by decide) (by decide) n hn
namespace Ch
open Go Go.Ab Go.Proofs.Tryz
theorem flat_succ {α:Type} {L:List (List α)} {i:Nat} (h:i < L.length):(L.take (i + 1)).flatten=(L.take i).flatten++L[i]:=by
 rw [List.take_succ_eq_append_getElem h,List.flatten_append];simp
theorem flat_le {α:Type} (L:List (List α)) (i:Nat):(L.take i).flatten.length≤L.flatten.length:=by
 have:L.flatten=(L.take i).flatten++(L.drop i).flatten:=by rw [← List.flatten_append,List.take_append_drop]
 rw [this];simp
theorem ConcatSealed_spec (L:List (List Sld)) (hl:L.flatten.length≤1099511627776) (hL:L.length≤1099511627776):Spec PP GG 238 [.sl (L.map fun l=>.sl (l.map Sld.v) .plain) .plain] (.sl (L.flatten.map Sld.v) .plain) []:=by
 refine Qs func238 ?_
 intro w0 M0
 simp only [f238,lf,z,seval]
 refine RUNs_rangeS (L.length) (fun _ (_:Unit)=>True) (fun i _=>[(3,i64 (L.take i).flatten.length),(11,i64 i)]) (fun _ _=>[]) () ?_ (by simp only [z,seval];exact wk) rfl ?_
 ·trivial
 rintro ⟨i,_,hi,-⟩
 simp only [z,seval]
 refine CONDS_split (fun h=>?_) (fun h=>?_)
 ·have hlt:i < L.length:=by simpa using h
  have hs:=flat_succ hlt
  have hf:=flat_le L (i + 1)
  have hk:IntKind.i64.wrap (((L.take i).flatten.length:Int) + (L[i].length:Int))=((L.take (i + 1)).flatten.length:Nat):=by
   rw [hs] at hf ⊢
   rw [List.length_append] at hf ⊢
   rw [w64 (by omega) (by omega)];omega
  simp only [z,seval,getMap (fun l:List Sld=>V.sl (l.map Sld.v) .plain) L hlt,hk]
  refine CONDS_split (fun h=>?_) (fun h=>?_)
  ·exact absurd h (by simp)
  ·simp only [z,seval,w64s (i:=i) (by omega)]
   refine NX () (hi:=hlt) (hinv:=?_)
   trivial
 ·obtain rfl:i=L.length:=by simp at h;omega
  rw [List.take_length]
  simp only [z,seval]
  (refine CALLS_specP' (by kernel_rfl) (GrowSealed_spec L.flatten.length hl) (by rfl) (by rfl) ?_;simp only [z,seval])
  refine RUNs_rangeS (L.length) (fun _ (_:Unit)=>True) (fun i _=>[(6,.row 0 i),(27,i64 i)]) (fun i _=>[(0,.row 4 ((L.take i).flatten.map Sld.v) i false)]) () ?_ (by simp only [z,seval];exact wk) rfl ?_
  ·trivial
  rintro ⟨i,_,hi,-⟩
  simp only [z,seval]
  refine CONDS_split (fun h=>?_) (fun h=>?_)
  ·have hlt:i < L.length:=by simpa using h
   simp only [z,seval,getMap (fun l:List Sld=>V.sl (l.map Sld.v) .plain) L hlt]
   have hs:=flat_succ hlt
   have hf:=flat_le L (i + 1)
   rw [hs,List.length_append] at hf
   refine OPC_ok (by simp only [Bool.and_eq_true,List.all_eq_true,decide_eq_true_eq];exact ⟨fun x hx=>by obtain ⟨y,_,rfl⟩:=List.mem_map.1 hx;rfl,by first|omega|(simp only [List.length_map];omega)⟩) ?_
   rw [← List.map_append,← hs]
   simp only [z,seval,w64s (i:=i) (by omega)]
   refine NX () (hi:=hlt) (hinv:=?_)
   trivial
  ·simp only [z,seval]
   obtain rfl:i=L.length:=by simp at h;omega
   rw [List.take_length]
   (refine Qf ?_;simp only [z,seval])
theorem ConcatSealed_2 (A B:List Sld) (hl:A.length + B.length≤1099511627776):Spec PP GG 238 [.sl [.sl (A.map Sld.v) .plain,.sl (B.map Sld.v) .plain] .plain] (.sl ((A++B).map Sld.v) .plain) []:=by
 have:=ConcatSealed_spec [A,B] (by simpa using hl) (by simp)
 simpa using this
theorem ConcatW_spec (L:List (List Int)) (hl:L.flatten.length≤1099511627776) (hL:L.length≤1099511627776):Spec PP GG 201 [.sl (L.map fun l=>.sl (l.map u32) .plain) .plain] (.sl (L.flatten.map u32) .plain) []:=by
 refine Qs func201 ?_
 intro w0 M0
 simp only [f201,lf,z,seval]
 refine RUNs_rangeS (L.length) (fun _ (_:Unit)=>True) (fun i _=>[(3,i64 (L.take i).flatten.length),(11,i64 i)]) (fun _ _=>[]) () ?_ (by simp only [z,seval];exact wk) rfl ?_
 ·trivial
 rintro ⟨i,_,hi,-⟩
 simp only [z,seval]
 refine CONDS_split (fun h=>?_) (fun h=>?_)
 ·have hlt:i < L.length:=by simpa using h
  have hs:=flat_succ hlt
  have hf:=flat_le L (i + 1)
  have hk:IntKind.i64.wrap (((L.take i).flatten.length:Int) + (L[i].length:Int))=((L.take (i + 1)).flatten.length:Nat):=by
   rw [hs] at hf ⊢
   rw [List.length_append] at hf ⊢
   rw [w64 (by omega) (by omega)];omega
  simp only [z,seval,getMap (fun l:List Int=>V.sl (l.map u32) .plain) L hlt,hk]
  refine CONDS_split (fun h=>?_) (fun h=>?_)
  ·exact absurd h (by simp)
  ·simp only [z,seval,w64s (i:=i) (by omega)]
   refine NX () (hi:=hlt) (hinv:=?_)
   trivial
 ·obtain rfl:i=L.length:=by simp at h;omega
  rw [List.take_length]
  simp only [z,seval]
  (refine CALLS_specP' (by kernel_rfl) (GrowW_spec L.flatten.length hl) (by rfl) (by rfl) ?_;simp only [z,seval])
  refine RUNs_rangeS (L.length) (fun _ (_:Unit)=>True) (fun i _=>[(6,.row 0 i),(27,i64 i)]) (fun i _=>[(0,.row 1 ((L.take i).flatten.map u32) i false)]) () ?_ (by simp only [z,seval];exact wk) rfl ?_
  ·trivial
  rintro ⟨i,_,hi,-⟩
  simp only [z,seval]
  refine CONDS_split (fun h=>?_) (fun h=>?_)
  ·have hlt:i < L.length:=by simpa using h
   simp only [z,seval,getMap (fun l:List Int=>V.sl (l.map u32) .plain) L hlt]
   have hs:=flat_succ hlt
   have hf:=flat_le L (i + 1)
   rw [hs,List.length_append] at hf
   refine OPC_ok (by simp only [Bool.and_eq_true,List.all_eq_true,decide_eq_true_eq];exact ⟨fun x hx=>by obtain ⟨y,_,rfl⟩:=List.mem_map.1 hx;rfl,by first|omega|(simp only [List.length_map];omega)⟩) ?_
   rw [← List.map_append,← hs]
   simp only [z,seval,w64s (i:=i) (by omega)]
   refine NX () (hi:=hlt) (hinv:=?_)
   trivial
  ·simp only [z,seval]
   obtain rfl:i=L.length:=by simp at h;omega
   rw [List.take_length]
   (refine Qf ?_;simp only [z,seval])
theorem ConcatW_2 (A B:List Int) (hl:A.length + B.length≤1099511627776):Spec PP GG 201 [.sl [.sl (A.map u32) .plain,.sl (B.map u32) .plain] .plain] (.sl ((A++B).map u32) .plain) []:=by
 have:=ConcatW_spec [A,B] (by simpa using hl) (by simp)
 simpa using this
theorem ConcatEvent_spec (L:List (List Event)) (hl:L.flatten.length≤1099511627776) (hL:L.length≤1099511627776):Spec PP GG 219 [.sl (L.map fun l=>.sl (l.map Event.v) .plain) .plain] (.sl (L.flatten.map Event.v) .plain) []:=by
 refine Qs func219 ?_
 intro w0 M0
 simp only [f219,lf,z,seval]
 refine RUNs_rangeS (L.length) (fun _ (_:Unit)=>True) (fun i _=>[(3,i64 (L.take i).flatten.length),(11,i64 i)]) (fun _ _=>[]) () ?_ (by simp only [z,seval];exact wk) rfl ?_
 ·trivial
 rintro ⟨i,_,hi,-⟩
 simp only [z,seval]
 refine CONDS_split (fun h=>?_) (fun h=>?_)
 ·have hlt:i < L.length:=by simpa using h
  have hs:=flat_succ hlt
  have hf:=flat_le L (i + 1)
  have hk:IntKind.i64.wrap (((L.take i).flatten.length:Int) + (L[i].length:Int))=((L.take (i + 1)).flatten.length:Nat):=by
   rw [hs] at hf ⊢
   rw [List.length_append] at hf ⊢
   rw [w64 (by omega) (by omega)];omega
  simp only [z,seval,getMap (fun l:List Event=>V.sl (l.map Event.v) .plain) L hlt,hk]
  refine CONDS_split (fun h=>?_) (fun h=>?_)
  ·exact absurd h (by simp)
  ·simp only [z,seval,w64s (i:=i) (by omega)]
   refine NX () (hi:=hlt) (hinv:=?_)
   trivial
 ·obtain rfl:i=L.length:=by simp at h;omega
  rw [List.take_length]
  simp only [z,seval]
  (refine CALLS_specP' (by kernel_rfl) (GrowEvent_spec L.flatten.length hl) (by rfl) (by rfl) ?_;simp only [z,seval])
  refine RUNs_rangeS (L.length) (fun _ (_:Unit)=>True) (fun i _=>[(6,.row 0 i),(27,i64 i)]) (fun i _=>[(0,.row 10 ((L.take i).flatten.map Event.v) i false)]) () ?_ (by simp only [z,seval];exact wk) rfl ?_
  ·trivial
  rintro ⟨i,_,hi,-⟩
  simp only [z,seval]
  refine CONDS_split (fun h=>?_) (fun h=>?_)
  ·have hlt:i < L.length:=by simpa using h
   simp only [z,seval,getMap (fun l:List Event=>V.sl (l.map Event.v) .plain) L hlt]
   have hs:=flat_succ hlt
   have hf:=flat_le L (i + 1)
   rw [hs,List.length_append] at hf
   refine OPC_ok (by simp only [Bool.and_eq_true,List.all_eq_true,decide_eq_true_eq];exact ⟨fun x hx=>by obtain ⟨y,_,rfl⟩:=List.mem_map.1 hx;rfl,by first|omega|(simp only [List.length_map];omega)⟩) ?_
   rw [← List.map_append,← hs]
   simp only [z,seval,w64s (i:=i) (by omega)]
   refine NX () (hi:=hlt) (hinv:=?_)
   trivial
  ·simp only [z,seval]
   obtain rfl:i=L.length:=by simp at h;omega
   rw [List.take_length]
   (refine Qf ?_;simp only [z,seval])
theorem ConcatEvent_2 (A B:List Event) (hl:A.length + B.length≤1099511627776):Spec PP GG 219 [.sl [.sl (A.map Event.v) .plain,.sl (B.map Event.v) .plain] .plain] (.sl ((A++B).map Event.v) .plain) []:=by
 have:=ConcatEvent_spec [A,B] (by simpa using hl) (by simp)
 simpa using this
theorem ConcatR_spec (L:List (List (List Int))) (hl:L.flatten.length≤1099511627776) (hL:L.length≤1099511627776):Spec PP GG 163 [.sl (L.map fun l=>.sl (l.map wordsV) .plain) .plain] (.sl (L.flatten.map wordsV) .plain) []:=by
 refine Qs func163 ?_
 intro w0 M0
 simp only [f163,lf,z,seval]
 refine RUNs_rangeS (L.length) (fun _ (_:Unit)=>True) (fun i _=>[(3,i64 (L.take i).flatten.length),(11,i64 i)]) (fun _ _=>[]) () ?_ (by simp only [z,seval];exact wk) rfl ?_
 ·trivial
 rintro ⟨i,_,hi,-⟩
 simp only [z,seval]
 refine CONDS_split (fun h=>?_) (fun h=>?_)
 ·have hlt:i < L.length:=by simpa using h
  have hs:=flat_succ hlt
  have hf:=flat_le L (i + 1)
  have hk:IntKind.i64.wrap (((L.take i).flatten.length:Int) + (L[i].length:Int))=((L.take (i + 1)).flatten.length:Nat):=by
   rw [hs] at hf ⊢
   rw [List.length_append] at hf ⊢
   rw [w64 (by omega) (by omega)];omega
  simp only [z,seval,getMap (fun l:List (List Int)=>V.sl (l.map wordsV) .plain) L hlt,hk]
  refine CONDS_split (fun h=>?_) (fun h=>?_)
  ·exact absurd h (by simp)
  ·simp only [z,seval,w64s (i:=i) (by omega)]
   refine NX () (hi:=hlt) (hinv:=?_)
   trivial
 ·obtain rfl:i=L.length:=by simp at h;omega
  rw [List.take_length]
  simp only [z,seval]
  (refine CALLS_specP' (by kernel_rfl) (GrowR_spec L.flatten.length hl) (by rfl) (by rfl) ?_;simp only [z,seval])
  refine RUNs_rangeS (L.length) (fun _ (_:Unit)=>True) (fun i _=>[(6,.row 0 i),(27,i64 i)]) (fun i _=>[(0,.row 1 ((L.take i).flatten.map wordsV) i false)]) () ?_ (by simp only [z,seval];exact wk) rfl ?_
  ·trivial
  rintro ⟨i,_,hi,-⟩
  simp only [z,seval]
  refine CONDS_split (fun h=>?_) (fun h=>?_)
  ·have hlt:i < L.length:=by simpa using h
   simp only [z,seval,getMap (fun l:List (List Int)=>V.sl (l.map wordsV) .plain) L hlt]
   have hs:=flat_succ hlt
   have hf:=flat_le L (i + 1)
   rw [hs,List.length_append] at hf
   refine OPC_ok (by simp only [Bool.and_eq_true,List.all_eq_true,decide_eq_true_eq];exact ⟨fun x hx=>by obtain ⟨y,_,rfl⟩:=List.mem_map.1 hx;rfl,by first|omega|(simp only [List.length_map];omega)⟩) ?_
   rw [← List.map_append,← hs]
   simp only [z,seval,w64s (i:=i) (by omega)]
   refine NX () (hi:=hlt) (hinv:=?_)
   trivial
  ·simp only [z,seval]
   obtain rfl:i=L.length:=by simp at h;omega
   rw [List.take_length]
   (refine Qf ?_;simp only [z,seval])
theorem ConcatR_2 (A B:List (List Int)) (hl:A.length + B.length≤1099511627776):Spec PP GG 163 [.sl [.sl (A.map wordsV) .plain,.sl (B.map wordsV) .plain] .plain] (.sl ((A++B).map wordsV) .plain) []:=by
 have:=ConcatR_spec [A,B] (by simpa using hl) (by simp)
 simpa using this
theorem IndexFuncSealed_pure (l:List Sld) (p:Sld→Bool) (vf:V) (H:List AB) (hl:l.length≤1099511627776) (hH:H.all (okAB H.length)=true) (hv:okN H.length vf=true) (hp:∀ a∈l,PureFn PP GG vf H [Sld.v a] (.bool (p a))) :
 PureFn PP GG (.fn (.func 258) [] []) H [.sl (l.map Sld.v) .plain,vf] (i64 (idxP p l)):=by
 refine PureFn.of (fn:=f258) func258 rfl (by kernel_rfl) hH rfl ?_
 intro w0 M0 R dst all l' k fr st h1 h2
 simp only [f258,lf,z,seval]
 refine RUNs_rangeS l.length (fun i (_:Unit)=>(l.take i).any p=false) (fun i _=>[(1,vf),(8,i64 i)]) (fun _ _=>[]) () (by simp) (by simp only [z,seval];exact WkF (by simp only [okL,okN,hv,Bool.true_and]) hH) (by simp only [z,seval];exact stok h1 h2) ?_
 rintro ⟨i,_,hi,hw⟩
 simp only [z,seval]
 refine CONDS_split (fun h=>?_) (fun h=>?_)
 ·have hlt:i < l.length:=by simpa using h
  simp only [z,seval,hlt,getMap Sld.v l hlt]
  have hpi:=hp _ (List.getElem_mem hlt)
  try simp only [mv] at hpi
  refine PureFn.use hpi (by simp only [okL,okN,hv,Bool.true_and]) (stok h1 h2) ?_
  simp only [z,seval]
  refine CONDS_split (fun h=>?_) (fun h=>?_)
  ·simp only [z,seval]
   exact RUNs_pure h1 h2 hH rfl (hle:=LeH.refl H) (he:=by rw [idxP_at hlt hw h])
  ·simp only [z,seval,w64s (i:=i) (by omega)]
   refine NX () (hw:=by simp only [z,seval];exact WkF (by simp only [okL,okN,hv,Bool.true_and]) hH) (hst:=by simp only [z,seval];exact stok h1 h2) (hi:=hlt) (hinv:=any_snoc hlt hw h)
 ·obtain rfl:i=l.length:=by simp at h;omega
  rw [List.take_length] at hw
  simp only [z,seval]
  exact RUNs_pure h1 h2 hH rfl (hle:=LeH.refl H) (he:=by rw [idxP_none hw])
theorem ClonePerson_spec (l:List Person) (hl:l.length≤1099511627776):Spec PP GG 240 [.sl (l.map Person.v) .plain] (.row 0 0) [.row 6 (l.map Person.v) 0 false]:=by
 refine Qs func240 ?_
 intro w0 M0
 simp only [f240,lf,z,seval]
 refine OPV_nilq rfl rfl ty36 rfl rfl ?_
 intro b hb _
 rcases b
 ·simp only [z,seval]
  refine OPC_ok (okMap _ (fun a=>rfl) hl) ?_
  simp only [z,seval]
  exact FINS_own rfl rfl
 ·obtain rfl:l=[]:=by
   cases l with
   | nil=>rfl
   | cons a l=>exact absurd (hb (by simp)) (by simp)
  simp only [List.map_nil,z,seval]
  intro _
  refine RUNs_row0 2 6 (h:=?_)
  simp only [z,seval]
  exact FINS_own rfl rfl
end Ch
