import Derived.Test.YtaebkmmjjabnaaaGreatDoorZ3
import Derived.Test.YtaebkmmjjabnaaaGreatDoorZ9
set_option maxRecDepth 100000
set_option maxHeartbeats 4000000
set_option linter.unusedSimpArgs false
set_option linter.unusedVariables false
namespace Ch
open Go Go.Ab Go.Proofs.Tryz
theorem unlike_of {row L:List Int} {n:Nat} (hr:row=(List.range n).map (drawAt L)) (hn:row.Nodup):∀ i j,i < n→j < n→drawAt L i=drawAt L j→i=j:=by
 intro i j hi hj e
 subst hr
 have hp:=List.pairwise_iff_getElem.1 hn
 have li:i < ((List.range n).map (drawAt L)).length:=by simpa using hi
 have lj:j < ((List.range n).map (drawAt L)).length:=by simpa using hj
 rcases Nat.lt_trichotomy i j with h|h|h
 ·exact absurd (by simpa using e) (hp i j li lj h)
 ·exact h
 ·exact absurd (by simpa using e.symm) (hp j i lj li h)
theorem lit_of {row L:List Int} {n:Nat} (hr:row=(List.range n).map (drawAt L)) {o:Op} (h:(!(o.kind==0) || o.words.all fun x => !decide (x∈row))=true):Lit L n o:=by
 intro hk x hx j hj e
 subst hr
 rw [hk] at h
 simp only [beq_self_eq_true,Bool.not_true,Bool.false_or,List.all_eq_true] at h
 have:=h x hx
 simp only [Bool.not_eq_true',decide_eq_false_iff_not] at this
 exact this (List.mem_map.2 ⟨j,List.mem_range.2 hj,e⟩)
theorem rPersonK_spec (w:World) (n:Int) (hl:w.people.length≤1099511627776):Spec PP GG 90 [w.v,u32 n] ((rGet w.people n).getD zeroP).v []:=by
 refine Qs func90 ?_
 intro w0 M0
 simp only [f90,lf,z,seval]
 (refine CU (rGet_spec w.people n hl) (h:=?_);simp only [z,seval])
 (refine Qf ?_;simp only [z,seval])
def rhonest (l:List Person) (n:Int):Bool := !((rGet l n).getD zeroP).corrupt
def rRow (d:Draws) (n:Nat):List Int:=(List.range n).map (drawAt d.list)
theorem rRow_succ (d:Draws) (i:Nat):rRow d (i + 1)=rRow d i++[drawAt d.list i]:=by simp [rRow,List.range_succ]
theorem rRow_len (d:Draws) (i:Nat):(rRow d i).length=i:=by simp [rRow]
theorem Row_spec (d:Draws) (n:Nat) (hn:n≤1099511627776):Spec PP GG 92 [d.v,i64 0,i64 n] (wordsV (rRow d n)) []:=by
 refine Qs func92 ?_
 intro w0 M0
 simp only [f92,lf,z,seval]
 (refine RUNs_row0 7 1 (h:=?_);simp only [z,seval])
 refine RUNs_rangeS (n) (fun i (_:Unit)=>True) (fun i _=>[(8,i64 i),(7,.row 1 i)]) (fun i _=>[(1,.row 1 ((rRow d i).map u32) i false)]) () ?_ (by simp only [z,seval];exact wk) rfl ?_
 ·trivial
 rintro ⟨i,_,hi,_⟩
 have hsu:=rRow_succ d i
 simp only [z,seval]
 refine CONDS_split (fun h=>?_) (fun h=>?_)
 ·have hlt:i < n:=by simpa using h
  simp only [z,seval,show IntKind.i64.wrap (0 + (i:Int))=(i:Int) by rw [Int.zero_add];exact w64n (by omega)]
  (refine CU (At04_spec d i) (h:=?_);simp only [z,seval])
  have e:(rRow d i).map u32++[u32 (drawAt d.list i)]=(rRow d (i + 1)).map u32:=by rw [hsu,List.map_append];rfl
  refine OPC_ok ?_ ?_
  ·simp [rRow_len];omega
  simp only [e,w64s (i:=i) (by omega),z,seval]
  refine NX () (hi:=hlt) (hinv:=?_)
  trivial
 ·have hlt:n=i:=by simp at h;omega
  subst hlt
  simp only [z,seval]
  (refine Qf ?_;simp only [z,seval])
def freshO (row:List Int) (o:Op):Bool := !(o.kind==0) || o.words.all fun x => !decide (x∈row)
def cleanM (row:List Int) (l:List Op):Bool:=decide row.Nodup && l.all (freshO row)
theorem all_at {α:Type} {l:List α} {f:α→Bool} {i:Nat} (h:i < l.length) (h2:f l[i]=false):l.all f=false:=by
 rw [List.all_eq_false];exact ⟨l[i],List.getElem_mem h,by simp [h2]⟩
theorem rClean_spec (w:World) (l:List Op) (n:Nat) (hn:w.draws.next=n) (hn2:n≤1099511627776) (hl:l.length≤1099511627776) (hw:∀ o∈l,o.words.length≤1099511627776):Spec PP GG 41 [w.v,opsV l] (.bool (cleanM (rRow w.draws n) l)) []:=by
 refine Qs func41 ?_
 intro w0 M0
 simp only [f41,lf,hn,z,seval]
 have hR:=Row_spec w.draws n hn2
 rw [Draws.v,hn] at hR
 (refine CU hR (h:=?_);simp only [z,seval])
 have hlen:(rRow w.draws n).length≤1099511627776:=by rw [rRow_len];exact hn2
 generalize rRow w.draws n=row at hlen ⊢
 (refine CU (rUnlike_spec row hlen) (h:=?_);simp only [z,seval])
 first|refine brk (fun h=>?_) (fun h=>?_)|fail
 ·simp only [h,z,seval]
  refine RUNs_rangeF l.length (fun i (_:Unit)=>(l.take i).all (freshO row)=true) (fun i _=>[.any,.sl (l.map Op.v) .plain,.ptr 0 0,.any,.bool false,.sl (row.map u32) .plain,i64 i,.any,.any,.any,.any,.any,.any,.any,.any,.any,.any,.any,.any,.any,.any,.any,.any,.any,.any,.any,.any,.any,.any,.any,.any,.any,.any,.any,.any,.any,.any,.any,.any,.any,.any,.any,.any,.any,.any,.any,.any,.any,.any,.any,.any]) () (by simp) wk rfl ?_
  rintro ⟨i,_,hi,hx⟩
  simp only [z,seval]
  refine CONDS_split (fun h=>?_) (fun h=>?_)
  ·have hlt:i < l.length:=by have:=of_decide_eq_true h;omega
   have hwl:=hw _ (List.getElem_mem hlt)
   simp only [z,seval]
   refine RUNs_rangeF l[i].words.length (fun k (_:Unit)=>(l[i].words.take k).all (fun x => !decide (x∈row))=true) (fun k _=>[.any,.sl (l.map Op.v) .plain,.ptr 0 0,.any,.bool false,.sl (row.map u32) .plain,i64 i,i64 k,.any,.any,.any,.any,.any,.any,.any,.any,.any,.any,.any,.any,.any,.any,.any,.any,.any,.any,.any,.any,.any,.any,.any,.any,.any,.any,.any,.any,.any,.any,.any,.any,.any,.any,.any,.any,.any,.any,.any,.any,.any,.any,.any]) () (by simp) wk rfl ?_
   rintro ⟨k,_,hk,hy⟩
   simp only [getMap Op.v l hlt,z,seval]
   have hgo:freshO row l[i]=true→(l.take (i + 1)).all (freshO row)=true:=fun h=>all_succ hlt hx h
   first|refine brk (fun h=>?_) (fun h=>?_)|fail
   ·have hkl:k < l[i].words.length:=by have:=of_decide_eq_true h;omega
    simp only [h,getMap Op.v l hlt,z,seval]
    first|refine brk (fun h=>?_) (fun h=>?_)|fail
    ·have hkd:(l[i].kind==0)=true:=h
     simp only [h,getMap Op.v l hlt,getMap u32 l[i].words hkl,z,seval]
     have hrl:row.length≤9223372036854775807:=by omega
     (refine CU (Has_spec row l[i].words[k] hrl) (h:=?_);simp only [z,seval])
     refine CONDS_split (fun h=>?_) (fun h=>?_)
     ·simp only [h,z,seval]
      (refine Qf ?_;simp only [z,seval])
      have:freshO row l[i]=false:=by
       rw [freshO,hkd,Bool.not_true,Bool.false_or]
       exact all_at hkl (by simp [h])
      rw [cleanM,all_at hlt this,Bool.and_false]
     ·simp only [h,w64s (i:=k) (by omega),z,seval]
      refine NX () (hi:=hkl) (hinv:=?_)
      exact all_succ hkl hy (by simp [h])
    ·have hkd:(l[i].kind==0)=false:=h
     simp only [h,w64s (i:=i) (by omega),z,seval]
     refine NX () (hi:=hlt) (hinv:=?_)
     exact hgo (by rw [freshO,hkd];rfl)
   ·have hkl:k=l[i].words.length:=by have:=of_decide_eq_false h;omega
    subst hkl
    rw [List.take_length] at hy
    simp only [h,w64s (i:=i) (by omega),z,seval]
    refine NX () (hi:=hlt) (hinv:=?_)
    exact hgo (by rw [freshO,hy,Bool.or_true])
  ·have hi':i=l.length:=by have:=of_decide_eq_false h;omega
   subst hi'
   rw [List.take_length] at hx
   simp only [z,seval]
   (refine Qf ?_;simp only [z,seval])
   simp_all [cleanM]
 ·simp only [h,z,seval]
  (refine Qf ?_;simp only [z,seval])
  simp_all [cleanM]
theorem rhonest_right {l:List Person} (h:Right10 l=true) {n:Int} (h0:0≤n):rhonest l n=honest l n:=by
 obtain ⟨m,rfl⟩:=Int.eq_ofNat_of_zero_le h0
 simp [rhonest,honest,getP,rGet_right h]
theorem few22_words {l:List Op} (h:Few22 l=true):∀ o∈l,o.words.length≤80:=by
 simp only [Few22,Bool.and_eq_true,decide_eq_true_eq] at h
 obtain ⟨h1,h2⟩:=h
 rw [List.take_of_length_le (by omega),List.all_eq_true] at h1
 exact fun o ho=>by simpa using h1 o ho
theorem run_end {w:World} {l:List Op} (H:Runs w l 1100) (h200:l.length≤200):(runM w l).1.fit 2100∧(runM w l).1.form∧(runM w l).1.draws.next≤w.draws.next + 600:=by
 have hx:=H.next
 obtain ⟨k1,k2,_,k4⟩:=run_inv l w 1100 H.fit H.form H.ok (by decide) (by omega) (by omega)
 exact ⟨k1.mono (by omega),k2,by omega⟩
theorem clean22 {c:Conf} (hm:May12 c=true) (hc:c.ok) {ls:List Int} (hl:LL U ls) (h1000:ls.length≤1000) {n m:Nat} (hn:c.people=n) (hr:c.regs=m) {l:List Op} (ho:LL Op.ok l) (h200:l.length≤200) {k:Nat}
 (hk:(runM (newWorld c ls n m) l).1.draws.next=k) (hcl:cleanM (rRow (runM (newWorld c ls n m) l).1.draws k) l=true) (i:Nat) :
 Inv ls k (runM (newWorld c ls n m) (l.take i)).1∧Tr (runM (newWorld c ls n m) (l.take i)).1∧Kept (runM (newWorld c ls n m) (l.take i)).1 (runM (newWorld c ls n m) l).1:=by
 obtain ⟨a1,a2,_⟩:=may_all hm
 have hw0:=new_fit hm hc hl hn hr (N:=1000) (by omega) h1000
 have hf0:=new_form hm ls hn hr
 have hd:(newWorld c ls n m).draws.next=(n:Int):=rfl
 obtain ⟨_,_,k3,_⟩:=run_inv l _ 1000 hw0 hf0 ho.2 (by omega) (by rw [hd];omega) (by omega)
 have hlist:(runM (newWorld c ls n m) l).1.draws.list=ls:=k3.list
 have hnx:nx (runM (newWorld c ls n m) l).1=k:=by
  show (runM (newWorld c ls n m) l).1.draws.next.toNat=k
  rw [hk];exact Int.toNat_natCast k
 have hrow:rRow (runM (newWorld c ls n m) l).1.draws k=(List.range k).map (drawAt ls):=by rw [rRow,hlist]
 simp only [cleanM,Bool.and_eq_true,decide_eq_true_eq,List.all_eq_true] at hcl
 have hu:=unlike_of hrow hcl.1
 have hlit:∀ o∈l,Lit ls k o:=fun o h=>lit_of hrow (hcl.2 o h)
 rw [← hnx] at hu hlit ⊢
 exact clean_run hm hc hl h1000 hn hr ho.2 (by omega) hu hlit
abbrev tOp:Ty:=.struct (.prod tI (.prod tI (.prod tI (.prod tI (.prod tI (.prod tW .unit))))))
def opOf:tOp.den→Op|(a,b,c,d,e,f,_)=>⟨a,b,c,d,e,f⟩
theorem enc_op (x:tOp.den):elV true (encC tOp x)=(opOf x).v:=by obtain ⟨a,b,c,d,e,f,_⟩:=x;rfl
theorem lim_op (x:tOp.den) (h:lim tOp x):(opOf x).ok:=by
 obtain ⟨a,b,c,d,e,f,_⟩:=x;obtain ⟨h1,h2,h3,h4,h5,h6,_⟩:=h
 exact ⟨lim_i h1,lim_i h2,lim_i h3,lim_i h4,lim_i h5,lim_words h6⟩
end Ch
namespace Ch
open Go Go.Ab
theorem enc_conf (x:tConf.den):elV true (encC tConf x)=(confOf x).v:=by obtain ⟨a,b,c,d,e,f,g,_⟩:=x;rfl
theorem enc_ops (x:(Ty.slice tOp true).den):elV false (encC (.slice tOp true) x)=opsV (List.map opOf x) :=
 congrArg (V.sl · .plain) (enc_list enc_op (show List tOp.den from x))
theorem lim_ops (x:(Ty.slice tOp true).den) (h:lim (.slice tOp true) x):LL Op.ok (List.map opOf x):=lim_list lim_op h
theorem enc_wordsA (x:tW.den):elV false (encC tW x)=wordsV x:=rfl
end Ch
