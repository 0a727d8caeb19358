import Derived.Test.YtaebkmmjjabnaaaGreatDoorZ1
import Derived.Test.YtaebkmmjjabnaaaGreatDoorZ5
set_option maxRecDepth 100000
set_option maxHeartbeats 4000000
set_option linter.unusedSimpArgs false
set_option linter.unusedVariables false
namespace Go.Ab
open Go Go.RowKit
theorem w64n {i:Nat} (h:i < 9223372036854775808):IntKind.i64.wrap (i:Int)=(i:Int):=w64 (by omega) (by omega)
end Go.Ab
namespace Ch
open Go Go.Ab Go.Proofs.Tryz
def honest (l:List Person) (n:Int):Bool := !(getP l n.toNat).corrupt
theorem runAt_mem {l:List Run} {i:Nat} (h:i < l.length):runAt l i∈l:=by
 simp only [runAt,List.getElem?_eq_getElem h,Option.getD_some];exact List.getElem_mem h
theorem runM_app (w:World) (l l':List Op):runM w (l++l')=((runM (runM w l).1 l').1,(runM w l).2++(runM (runM w l).1 l').2):=by
 induction l generalizing w with
 | nil=>rfl
 | cons a l ih=>simp only [List.cons_append,runM,ih]
theorem firstM_some {w:World} {i x:Int} (h:firstM w i=some x):∃ l,regM w i=some (x::l):=by
 unfold firstM at h
 cases c:regM w i with
 | none=>rw [c] at h;cases h
 | some l =>
   rw [c] at h
   cases l with
   | nil=>cases h
   | cons y l=>simp only [Option.some.injEq] at h;subst h;exact ⟨l,rfl⟩
def Few22 (l:List Op):Bool:=(l.take 300).all (fun o=>decide (o.words.length≤80)) && decide (l.length≤200)
theorem Few22_spec (l:List Op) (hl:l.length≤9223372036854775807):Spec PP GG 78 [opsV l] (.bool (Few22 l)) []:=by
 refine Qs func78 ?_
 intro w0 M0
 simp only [f78,lf,z,seval]
 refine RUNs_rangeF (min l.length 300) (fun i (_:Unit)=>(l.take i).all (fun o=>decide (o.words.length≤80))=true) (fun i _=>[.sl (l.map Op.v) .plain,.any,.bool false,i64 i,.any,.any,.any,.any,.any,.any,.any,.any,.any,.any,.any,.any,.any,.any,.any,.any,.any,.any,.any,.any]) () (by simp) wk rfl ?_
 rintro ⟨i,_,hi,hw⟩
 simp only [z,seval]
 have hend:¬ i < min l.length 300→i=min l.length 300:=fun h=>by omega
 first|refine brk (fun h=>?_) (fun h=>?_)|fail
 ·have hlt:i < l.length:=by simpa using h
  simp only [h,z,seval]
  first|refine brk (fun h=>?_) (fun h=>?_)|fail
  ·have h3:i < 300:=by have:=of_decide_eq_true h;omega
   simp only [h,z,seval,getMap Op.v l hlt]
   refine CONDS_split (fun h=>?_) (fun h=>?_)
   ·simp only [z,seval]
    (refine Qf ?_;simp only [z,seval])
    have hx:¬ l[i].words.length≤80:=by have:=of_decide_eq_true h;omega
    have:Few22 l=false:=by
     simp only [Few22,Bool.and_eq_false_iff]
     left
     rw [List.all_eq_false]
     exact ⟨l[i],List.mem_take_iff_getElem.2 ⟨i,by omega,rfl⟩,by simpa using hx⟩
    simp [this]
   ·simp only [z,seval,w64s (i:=i) (by omega)]
    have hlt2:i < min l.length 300:=by omega
    refine NX () (hi:=hlt2) (hinv:=?_)
    have hx:l[i].words.length≤80:=by have:=of_decide_eq_false h;omega
    simp only [List.take_succ_eq_append_getElem hlt,List.all_append,hw,List.all_cons,List.all_nil,Bool.and_true,Bool.true_and,decide_eq_true_eq]
    exact hx
  ·have h3:¬ i < 300:=by have:=of_decide_eq_false h;omega
   have:=hend (by omega)
   have:i=300:=by omega
   subst this
   simp only [h,z,seval]
   (refine Qf ?_;simp only [z,seval])
   simp only [Few22,hw,Bool.true_and]
   simp;omega
 ·have hlt:¬ i < l.length:=by simpa using h
  simp only [h,z,seval]
  (refine Qf ?_;simp only [z,seval])
  have hi2:i=l.length:=by omega
  subst hi2
  rw [List.take_length] at hw
  simp only [Few22]
  rw [List.take_of_length_le (by omega),hw]
  simp;omega
def fits22 (c:Conf) (ls:List Int) (l:List Op):Bool:=May12 c && (decide ((ls.length:Int)≤1000) && Few22 l)
theorem few22_len {l:List Op} (h:Few22 l=true):l.length≤200:=by
 simp only [Few22,Bool.and_eq_true,decide_eq_true_eq] at h
 exact h.2
theorem fits22_spec (c:Conf) (ls:List Int) (l:List Op) (hl:l.length≤9223372036854775807):Spec PP GG 27 [c.v,wordsV ls,opsV l] (.bool (fits22 c ls l)) []:=by
 have h1:=May12_spec c
 have h2:=Few22_spec l hl
 unfold fits22
 cases c1:May12 c with
 | false =>
   rw [c1] at h1
   refine Qs func27 ?_
   intro w0 M0
   simp only [f27,lf,z,seval]
   (refine CU h1 (h:=?_);simp only [z,seval])
   (refine Qf ?_;simp only [z,seval])
   try rfl
 | true =>
 rw [c1] at h1
 cases c2:decide ((ls.length:Int)≤1000) with
 | false =>
   refine Qs func27 ?_
   intro w0 M0
   simp only [f27,lf,z,seval]
   (refine CU h1 (h:=?_);simp only [z,seval])
   simp only [c2,z,seval]
   (refine Qf ?_;simp only [z,seval])
   try rfl
 | true =>
   refine Qs func27 ?_
   intro w0 M0
   simp only [f27,lf,z,seval]
   (refine CU h1 (h:=?_);simp only [z,seval])
   simp only [c2,z,seval]
   (refine CU h2 (h:=?_);simp only [z,seval])
   (refine Qf ?_;simp only [z,seval])
   try rfl
theorem fresh22 {c:Conf} (hm:May12 c=true) (hc:c.ok) {ls:List Int} (hl:LL U ls) (h1000:ls.length≤1000):∃ n m:Nat,c.people=n∧c.regs=m∧1≤n∧n≤6∧1≤m∧m≤8∧(newWorld c ls n m).fit 1100∧(newWorld c ls n m).form:=by
 obtain ⟨a1,a2,a3,a4,a5,a6,a7,a8⟩:=may_all hm
 obtain ⟨n,hn⟩:=Int.eq_ofNat_of_zero_le (show 0≤c.people by omega)
 obtain ⟨m,hm2⟩:=Int.eq_ofNat_of_zero_le (show 0≤c.regs by omega)
 exact ⟨n,m,hn,hm2,by omega,by omega,by omega,by omega,new_fit hm hc hl hn hm2 (by decide) (by omega),new_form hm ls hn hm2⟩
theorem runs22 {c:Conf} {ls:List Int} {l:List Op} {n m:Nat} (hf:(newWorld c ls n m).fit 1100) (hg:(newWorld c ls n m).form) (hn:n≤6) (hl:LL Op.ok l) (h2:l.length≤200):Runs (newWorld c ls n m) l 1100 :=
 ⟨hf,hg,hl.2,by decide,by show (n:Int) + 3 * l.length≤1048576;omega,by omega⟩
def Src.word (w:World):Src→Int
 | .key p=>(getP w.people p).key
 | .sess e=>e.k
 | .num e=>e.n
def Sec (w:World) (x:Int):Prop := ∃ s:Src,s.has w∧s.word w=x∧s.guard w
def Pub (L:List Int) (E:Nat) (w:World) (x:Int):Prop:=old L E (nx w) x ∧ ¬ Sec w x
def keyOf (w:World) (a:Int):Int:=(personW w a).key
def name? (w:World) (a:Int):Prop:=1≤a∧a.toNat < w.people.length
inductive Typed (L:List Int) (E:Nat) (w:World) (s:Sld):Prop where
 | grant (e:Event) (he:e∈w.log) (h1:e.kind=2) (h2:e.proto=1) (h:Int) (k:s.key=keyOf w e.a) (l:s.label=2) (p:s.plain=[e.n,e.b,e.k,e.t,h]) (pn:Pub L E w e.n) (ph:Pub L E w h)
 | ticket (e:Event) (he:e∈w.log) (h1:e.kind=2) (h2:e.proto=1) (k:s.key=keyOf w e.b) (l:s.label=3) (p:s.plain=[e.k,e.a,e.t])
 | echo (e:Event) (he:e∈w.log) (h1:e.kind=3) (h2:e.proto=1) (h3:e.role=2) (k:s.key=e.k) (l:s.label=4) (p:s.plain=[e.n])
 | back (e:Event) (he:e∈w.log) (h1:e.kind=4) (h2:e.proto=1) (h3:e.role=1) (k:s.key=e.k) (l:s.label=5) (p:s.plain=[e.n]) (q:Pub L E w e.n ∨ ∃ f∈w.log,f.kind=3∧f.proto=1∧f.role=2∧f.k=e.k∧f.n=e.n)
 | or1 (e:Event) (he:e∈w.log) (h1:e.kind=1) (h2:e.proto=2) (h3:e.role=1) (k:s.key=keyOf w e.a) (l:s.label=6) (p:s.plain=[e.n,e.m,e.a,e.b]) (pm:Pub L E w e.m)
 | or2 (e:Event) (he:e∈w.log) (h1:e.kind=3) (h2:e.proto=2) (h3:e.role=2) (k:s.key=keyOf w e.b) (l:s.label=7) (p:s.plain=[e.n,e.m,e.a,e.b]) (pm:Pub L E w e.m)
 | sh8 (e:Event) (he:e∈w.log) (h1:e.kind=2) (h2:e.proto=2) (x:Int) (k:s.key=keyOf w e.b) (l:s.label=8) (p:s.plain=[x,e.k]) (q:(∃ f∈w.log,f.kind=3∧f.proto=2∧f.role=2∧f.n=x∧f.a=e.a∧f.b=e.b∧f.m=e.m)∨(¬ hon w e.b∧Pub L E w x))
 | sh9 (e:Event) (he:e∈w.log) (h1:e.kind=2) (h2:e.proto=2) (x:Int) (k:s.key=keyOf w e.a) (l:s.label=9) (p:s.plain=[x,e.k]) (q:(∃ f∈w.log,f.kind=1∧f.proto=2∧f.role=1∧f.n=x∧f.a=e.a∧f.b=e.b∧f.m=e.m)∨(¬ hon w e.a∧Pub L E w x))
def Row (L:List Int) (E:Nat) (w:World) (s:Sld):Prop:=(Pub L E w s.key ∧ ∀ x∈s.plain,Pub L E w x)∨Typed L E w s
structure EvOk (L:List Int) (E:Nat) (w:World) (e:Event):Prop where
 names:name? w e.a∧name? w e.b∧e.a≠e.b
 small:e.t≤1073741824
 kold:old L E (nx w) e.k
 nold:old L E (nx w) e.n
 mold:old L E (nx w) e.m
structure Drawn (L:List Int) (E:Nat) (w:World):Prop where
 list:w.draws.list=L
 uL:∀ x∈L,U x
 le:nx w≤E
 unlike:∀ i j,i < E→j < E→drawAt L i=drawAt L j→i=j
 keys:∀ p,1≤p→p < w.people.length→(getP w.people p).key=drawAt L (p - 1)
 npl:w.people.length≤nx w + 1
 few:w.people.length≤100
 src:∀ s:Src,s.has w → ∃ i,i < nx w∧s.word w=drawAt L i
 uniq:∀ s t:Src,s.has w→t.has w→s.word w=t.word w→s=t
theorem Drawn.sec {L:List Int} {E:Nat} {w:World} (h:Drawn L E w) {s:Src} (hs:s.has w) (hx:Sec w (s.word w)):s.guard w:=by
 obtain ⟨t,ht,e,g⟩:=hx
 rw [← h.uniq t s ht hs e];exact g
theorem Drawn.big {L:List Int} {E:Nat} {w:World} (h:Drawn L E w) {x:Int} (hx:Sec w x):2147483648≤x:=by
 obtain ⟨s,hs,rfl,_⟩:=hx
 obtain ⟨i,_,e⟩:=h.src s hs
 rw [e];exact drawAt_top h.uL i
theorem Drawn.fresh {L:List Int} {E:Nat} {w:World} (h:Drawn L E w) {j:Nat} (h1:nx w≤j) (h2:j < E):¬ Sec w (drawAt L j):=by
 rintro ⟨s,hs,e,_⟩
 obtain ⟨i,hi,e2⟩:=h.src s hs
 have:=h.unlike i j (by have:=h.le;omega) h2 (e2.symm.trans e)
 omega
theorem Drawn.big_old {L:List Int} {E n:Nat} (hu:∀ x∈L,U x) {x:Int} (hx:x < 2147483648):old L E n x:=fun j _ _ e=>by
 have:=drawAt_top hu j
 omega
theorem Drawn.small {L:List Int} {E:Nat} {w:World} (h:Drawn L E w) {x:Int} (hx:x < 2147483648):Pub L E w x :=
 ⟨Drawn.big_old h.uL hx,fun hs=>by have:=h.big hs;omega⟩
theorem Drawn.key_sec {L:List Int} {E:Nat} {w:World} (h:Drawn L E w) {a:Int} (ha:name? w a) (hk:¬ Sec w (keyOf w a)):¬ hon w a:=fun hh =>
 hk ⟨.key a.toNat,⟨by have:=ha.1;omega,ha.2⟩,rfl,by
  have:=ha.1
  show (personW w ((a.toNat:Nat):Int)).corrupt=false
  rw [Int.toNat_of_nonneg (by omega)];exact hh⟩
theorem Drawn.key_inj {L:List Int} {E:Nat} {w:World} (h:Drawn L E w) {a b:Int} (ha:name? w a) (hb:name? w b) (e:keyOf w a=keyOf w b):a=b:=by
 have h1:=h.keys a.toNat (by have:=ha.1;omega) ha.2
 have h2:=h.keys b.toNat (by have:=hb.1;omega) hb.2
 have e':(getP w.people a.toNat).key=(getP w.people b.toNat).key:=e
 rw [h1,h2] at e'
 have hl:=h.le
 have hn:=h.npl
 have:=h.unlike _ _ (by have:=ha.2;have:=ha.1;omega) (by have:=hb.2;have:=hb.1;omega) e'
 have:=ha.1
 have:=hb.1
 omega
theorem row_pub {L:List Int} {E:Nat} {w:World} (h:Drawn L E w) (he:∀ e∈w.log,EvOk L E w e) {s:Sld} (hr:Row L E w s) (hk:¬ Sec w s.key):∀ x∈s.plain,Pub L E w x:=by
 rcases hr with hp|ht
 ·exact hp.2
 ·have iss:∀ e∈w.log,e.kind=2 → ¬ (hon w e.a∧hon w e.b)→Pub L E w e.k:=fun e hm h1 hno=>⟨(he e hm).kold,fun hs=>by
   have:=h.sec (s:=.sess e) ⟨hm,h1⟩ hs
   exact hno ⟨this.1,this.2.1⟩⟩
  have sm:∀ e∈w.log,Pub L E w e.a∧Pub L E w e.b∧Pub L E w e.t:=fun e hm=>by
   obtain ⟨h1,h2,_⟩:=(he e hm).names
   have h3:=(he e hm).small
   have hl:=h.few
   have:=h1.1
   have:=h1.2
   have:=h2.1
   have:=h2.2
   exact ⟨h.small (by omega),h.small (by omega),h.small (by omega)⟩
  have num:∀ e∈w.log,isNum e → ¬ (Src.num e).guard w→Pub L E w e.n:=fun e hm h1 hg=>⟨(he e hm).nold,fun hs=>hg (h.sec (s:=.num e) ⟨hm,h1⟩ hs)⟩
  have no1:∀ e∈w.log,e.proto=2 → ¬ (hon w e.a∧hon w e.b) → ¬ (Src.num e).guard w:=fun e hm h2 hno hg=>by
   rcases hg with hg|hg
   ·exact hno hg.2
   ·rw [h2] at hg;exact absurd hg.1 (by decide)
  have no2:∀ e∈w.log,e.proto=1 → ¬ Sec w e.k → ¬ (Src.num e).guard w:=fun e hm h2 hno hg=>by
   rcases hg with hg|hg
   ·rw [h2] at hg;exact absurd hg.1 (by decide)
   ·obtain ⟨_,_,f,hf,hi,hk,hsf⟩:=hg
    exact hno ⟨.sess f,⟨hf,hi⟩,hk,hsf⟩
  cases ht with
  | grant e hm h1 h2 hh k l p pn ph =>
    have hno:=h.key_sec (he e hm).names.1 (by rw [← k];exact hk)
    intro x hx
    rw [p] at hx
    simp only [List.mem_cons,List.not_mem_nil,or_false] at hx
    rcases hx with rfl|rfl|rfl|rfl|rfl
    ·exact pn
    ·exact (sm e hm).2.1
    ·exact iss e hm h1 (fun hb=>hno hb.1)
    ·exact (sm e hm).2.2
    ·exact ph
  | ticket e hm h1 h2 k l p =>
    have hno:=h.key_sec (he e hm).names.2.1 (by rw [← k];exact hk)
    intro x hx
    rw [p] at hx
    simp only [List.mem_cons,List.not_mem_nil,or_false] at hx
    rcases hx with rfl|rfl|rfl
    ·exact iss e hm h1 (fun hb=>hno hb.2)
    ·exact (sm e hm).1
    ·exact (sm e hm).2.2
  | echo e hm h1 h2 h3 k l p =>
    intro x hx
    rw [p] at hx
    simp only [List.mem_cons,List.not_mem_nil,or_false] at hx
    subst hx
    exact num e hm (.inr ⟨h1,h3⟩) (no2 e hm h2 (by rw [← k];exact hk))
  | back e hm h1 h2 h3 k l p q =>
    intro x hx
    rw [p] at hx
    simp only [List.mem_cons,List.not_mem_nil,or_false] at hx
    subst hx
    rcases q with q|⟨f,hf,f1,f2,f3,f4,f5⟩
    ·exact q
    ·rw [← f5]
     exact num f hf (.inr ⟨f1,f3⟩) (no2 f hf f2 (by rw [f4,← k];exact hk))
  | or1 e hm h1 h2 h3 k l p pm =>
    have hno:=h.key_sec (he e hm).names.1 (by rw [← k];exact hk)
    intro x hx
    rw [p] at hx
    simp only [List.mem_cons,List.not_mem_nil,or_false] at hx
    rcases hx with rfl|rfl|rfl|rfl
    ·exact num e hm (.inl ⟨h1,h3⟩) (no1 e hm h2 (fun hb=>hno hb.1))
    ·exact pm
    ·exact (sm e hm).1
    ·exact (sm e hm).2.1
  | or2 e hm h1 h2 h3 k l p pm =>
    have hno:=h.key_sec (he e hm).names.2.1 (by rw [← k];exact hk)
    intro x hx
    rw [p] at hx
    simp only [List.mem_cons,List.not_mem_nil,or_false] at hx
    rcases hx with rfl|rfl|rfl|rfl
    ·exact num e hm (.inr ⟨h1,h3⟩) (no1 e hm h2 (fun hb=>hno hb.2))
    ·exact pm
    ·exact (sm e hm).1
    ·exact (sm e hm).2.1
  | sh8 e hm h1 h2 y k l p q =>
    have hno:=h.key_sec (he e hm).names.2.1 (by rw [← k];exact hk)
    intro x hx
    rw [p] at hx
    simp only [List.mem_cons,List.not_mem_nil,or_false] at hx
    rcases hx with rfl|rfl
    ·rcases q with ⟨f,hf,f1,f2,f3,f4,f5,f6,f7⟩|q
     ·rw [← f4]
      exact num f hf (.inr ⟨f1,f3⟩) (no1 f hf f2 (fun hb=>hno (by rw [← f6];exact hb.2)))
     ·exact q.2
    ·exact iss e hm h1 (fun hb=>hno hb.2)
  | sh9 e hm h1 h2 y k l p q =>
    have hno:=h.key_sec (he e hm).names.1 (by rw [← k];exact hk)
    intro x hx
    rw [p] at hx
    simp only [List.mem_cons,List.not_mem_nil,or_false] at hx
    rcases hx with rfl|rfl
    ·rcases q with ⟨f,hf,f1,f2,f3,f4,f5,f6,f7⟩|q
     ·rw [← f4]
      exact num f hf (.inl ⟨f1,f3⟩) (no1 f hf f2 (fun hb=>hno (by rw [← f5];exact hb.1)))
     ·exact q.2
    ·exact iss e hm h1 (fun hb=>hno hb.1)
def Fr (L:List Int) (w v:World) (x:Int):Prop := ∃ j,nx w≤j∧j < nx v∧x=drawAt L j
structure Grow (L:List Int) (E:Nat) (w v:World):Prop where
 list:v.draws.list=w.draws.list
 next:nx w≤nx v
 le:nx v≤E
 key:∀ p,(getP v.people p).key=(getP w.people p).key
 plen:v.people.length=w.people.length
 hon:∀ a,hon v a→hon w a
 leak:∀ k,unleaked v k→unleaked w k
 log:v.log=w.log ∨ ∃ e,v.log=w.log++[e]∧(isIss e→Fr L w v e.k)∧(isNum e→Fr L w v e.n)
theorem Grow.mem {L:List Int} {E:Nat} {w v:World} (g:Grow L E w v) {e:Event} (h:e∈w.log):e∈v.log:=by
 rcases g.log with h1|⟨f,h1,_⟩
 ·rw [h1];exact h
 ·rw [h1];exact List.mem_append_left _ h
theorem Grow.cases {L:List Int} {E:Nat} {w v:World} (g:Grow L E w v) {e:Event} (h:e∈v.log):e∈w.log∨(v.log=w.log++[e]∧(isIss e→Fr L w v e.k)∧(isNum e→Fr L w v e.n)):=by
 rcases g.log with h1|⟨f,h1,h2⟩
 ·rw [h1] at h;exact .inl h
 ·rw [h1] at h
  rcases List.mem_append.1 h with h3|h3
  ·exact .inl h3
  ·simp only [List.mem_singleton] at h3;subst h3;exact .inr ⟨h1,h2⟩
theorem Fr.not_old {L:List Int} {E:Nat} {w v:World} {x:Int} (h:Fr L w v x) (hE:nx v≤E):¬ old L E (nx w) x:=by
 obtain ⟨j,h1,h2,h3⟩:=h
 intro ho
 exact ho j h1 (by omega) h3.symm
theorem Grow.safe {L:List Int} {E:Nat} {w v:World} (g:Grow L E w v) {e:Event} (h:safe v e):safe w e:=⟨g.hon _ h.1,g.hon _ h.2.1,g.leak _ h.2.2⟩
theorem Grow.sec {L:List Int} {E:Nat} {w v:World} (g:Grow L E w v) (ho:∀ e∈w.log,old L E (nx w) e.k) {x:Int} (hx:old L E (nx w) x) (hs:Sec v x):Sec w x:=by
 obtain ⟨s,hh,e,hg⟩:=hs
 cases s with
 | key p=>exact ⟨.key p,⟨hh.1,by have:=hh.2;have:=g.plen;omega⟩,(g.key p).symm.trans e,g.hon _ hg⟩
 | sess f =>
   rcases g.cases hh.1 with h1|⟨_,h2,_⟩
   ·exact ⟨.sess f,⟨h1,hh.2⟩,e,g.safe hg⟩
   ·exact absurd (by rw [← e] at hx;exact hx) ((h2 hh.2).not_old g.le)
 | num f =>
   rcases g.cases hh.1 with h1|⟨_,_,h2⟩
   ·refine ⟨.num f,⟨h1,hh.2⟩,e,?_⟩
    rcases hg with hg|⟨g1,g2,f',hf,hi,hk,hsf⟩
    ·exact .inl ⟨hg.1,g.hon _ hg.2.1,g.hon _ hg.2.2⟩
    ·refine .inr ⟨g1,g2,f',?_,hi,hk,g.safe hsf⟩
     rcases g.cases hf with h3|⟨_,h3,_⟩
     ·exact h3
     ·exact absurd (by rw [hk];exact ho f h1) ((h3 hi).not_old g.le)
   ·exact absurd (by rw [← e] at hx;exact hx) ((h2 hh.2).not_old g.le)
theorem Grow.pub {L:List Int} {E:Nat} {w v:World} (g:Grow L E w v) (ho:∀ e∈w.log,EvOk L E w e) {x:Int} (h:Pub L E w x):Pub L E v x :=
 ⟨h.1.mono g.next,fun hs=>h.2 (g.sec (fun e he=>(ho e he).kold) h.1 hs)⟩
theorem Grow.keyOf {L:List Int} {E:Nat} {w v:World} (g:Grow L E w v) (a:Int):keyOf v a=keyOf w a:=g.key a.toNat
theorem Grow.name {L:List Int} {E:Nat} {w v:World} (g:Grow L E w v) {a:Int} (h:name? w a):name? v a:=⟨h.1,by have:=h.2;have:=g.plen;omega⟩
theorem Grow.evok {L:List Int} {E:Nat} {w v:World} (g:Grow L E w v) {e:Event} (h:EvOk L E w e):EvOk L E v e :=
 ⟨⟨g.name h.names.1,g.name h.names.2.1,h.names.2.2⟩,h.small,h.kold.mono g.next,h.nold.mono g.next,h.mold.mono g.next⟩
theorem Grow.typed {L:List Int} {E:Nat} {w v:World} (g:Grow L E w v) (ho:∀ e∈w.log,EvOk L E w e) {s:Sld} (h:Typed L E w s):Typed L E v s:=by
 cases h with
 | grant e hm h1 h2 hh k l p pn ph=>exact .grant e (g.mem hm) h1 h2 hh (by rw [g.keyOf];exact k) l p (g.pub ho pn) (g.pub ho ph)
 | ticket e hm h1 h2 k l p=>exact .ticket e (g.mem hm) h1 h2 (by rw [g.keyOf];exact k) l p
 | echo e hm h1 h2 h3 k l p=>exact .echo e (g.mem hm) h1 h2 h3 k l p
 | back e hm h1 h2 h3 k l p q =>
   refine .back e (g.mem hm) h1 h2 h3 k l p ?_
   rcases q with q|⟨f,hf,q⟩
   ·exact .inl (g.pub ho q)
   ·exact .inr ⟨f,g.mem hf,q⟩
 | or1 e hm h1 h2 h3 k l p pm=>exact .or1 e (g.mem hm) h1 h2 h3 (by rw [g.keyOf];exact k) l p (g.pub ho pm)
 | or2 e hm h1 h2 h3 k l p pm=>exact .or2 e (g.mem hm) h1 h2 h3 (by rw [g.keyOf];exact k) l p (g.pub ho pm)
 | sh8 e hm h1 h2 y k l p q =>
   refine .sh8 e (g.mem hm) h1 h2 y (by rw [g.keyOf];exact k) l p ?_
   rcases q with ⟨f,hf,q⟩|q
   ·exact .inl ⟨f,g.mem hf,q⟩
   ·exact .inr ⟨fun hh=>q.1 (g.hon _ hh),g.pub ho q.2⟩
 | sh9 e hm h1 h2 y k l p q =>
   refine .sh9 e (g.mem hm) h1 h2 y (by rw [g.keyOf];exact k) l p ?_
   rcases q with ⟨f,hf,q⟩|q
   ·exact .inl ⟨f,g.mem hf,q⟩
   ·exact .inr ⟨fun hh=>q.1 (g.hon _ hh),g.pub ho q.2⟩
theorem Grow.row {L:List Int} {E:Nat} {w v:World} (g:Grow L E w v) (ho:∀ e∈w.log,EvOk L E w e) {s:Sld} (h:Row L E w s):Row L E v s:=by
 rcases h with h|h
 ·exact .inl ⟨g.pub ho h.1,fun x hx=>g.pub ho (h.2 x hx)⟩
 ·exact .inr (g.typed ho h)
theorem Grow.drawn {L:List Int} {E:Nat} {w v:World} (g:Grow L E w v) (d:Drawn L E w):Drawn L E v:=by
 have hw:∀ p,Src.word v (.key p)=Src.word w (.key p):=fun p=>g.key p
 have hsrc:∀ s:Src,s.has v→(s.has w∧s.word v=s.word w)∨Fr L w v (s.word v):=by
  intro s hs
  cases s with
  | key p=>exact .inl ⟨⟨hs.1,by have:=hs.2;have:=g.plen;omega⟩,g.key p⟩
  | sess e =>
    rcases g.cases hs.1 with h1|⟨_,h2,_⟩
    ·exact .inl ⟨⟨h1,hs.2⟩,rfl⟩
    ·exact .inr (h2 hs.2)
  | num e =>
    rcases g.cases hs.1 with h1|⟨_,_,h2⟩
    ·exact .inl ⟨⟨h1,hs.2⟩,rfl⟩
    ·exact .inr (h2 hs.2)
 refine ⟨g.list.trans d.list,d.uL,g.le,d.unlike,fun p h1 h2=>(g.key p).trans (d.keys p h1 (by have:=g.plen;omega)),by have:=d.npl;have:=g.plen;have:=g.next;omega,by have:=d.few;have:=g.plen;omega,?_,?_⟩
 ·intro s hs
  rcases hsrc s hs with ⟨h1,h2⟩|⟨j,h1,h2,h3⟩
  ·obtain ⟨i,hi,e⟩:=d.src s h1
   exact ⟨i,by have:=g.next;omega,h2.trans e⟩
  ·exact ⟨j,h2,h3⟩
 ·intro s t hs ht e
  rcases hsrc s hs with ⟨h1,h2⟩|⟨j,j1,j2,j3⟩
  ·rcases hsrc t ht with ⟨k1,k2⟩|⟨j,j1,j2,j3⟩
   ·exact d.uniq s t h1 k1 (h2.symm.trans (e.trans k2))
   ·exfalso
    obtain ⟨i,hi,e2⟩:=d.src s h1
    have:=d.unlike i j (by have:=d.le;omega) (by have:=g.le;omega) (e2.symm.trans (h2.symm.trans (e.trans j3)))
    omega
  ·rcases hsrc t ht with ⟨k1,k2⟩|⟨i,i1,i2,i3⟩
   ·exfalso
    obtain ⟨i,hi,e2⟩:=d.src t k1
    have:=d.unlike i j (by have:=d.le;omega) (by have:=g.le;omega) (e2.symm.trans (k2.symm.trans (e.symm.trans j3)))
    omega
   ·
    rcases g.log with hl|⟨f,hl,f1,f2⟩
    ·exfalso
     have hb:∀ s:Src,s.has v→s.has w∧s.word v=s.word w:=by
      intro s hs
      cases s with
      | key p=>exact ⟨⟨hs.1,by have:=hs.2;have:=g.plen;omega⟩,g.key p⟩
      | sess e=>exact ⟨⟨by rw [← hl];exact hs.1,hs.2⟩,rfl⟩
      | num e=>exact ⟨⟨by rw [← hl];exact hs.1,hs.2⟩,rfl⟩
     obtain ⟨h1,h2⟩:=hb s hs
     obtain ⟨q,hq,e2⟩:=d.src s h1
     have:=d.unlike q j (by have:=d.le;omega) (by have:=g.le;omega) (e2.symm.trans (h2.symm.trans j3))
     omega
    ·have hnew:∀ (s:Src) (j:Nat),s.has v→nx w≤j→j < nx v→s.word v=drawAt L j→(isIss f∧s=.sess f)∨(isNum f∧s=.num f):=by
      intro s j hs h1 h2 h3
      have hno:¬ (s.has w∧s.word v=s.word w):=by
       rintro ⟨k1,k2⟩
       obtain ⟨q,hq,e2⟩:=d.src s k1
       have:=d.unlike q j (by have:=d.le;omega) (by have:=g.le;omega) (e2.symm.trans (k2.symm.trans h3))
       omega
      cases s with
      | key p=>exact absurd ⟨⟨hs.1,by have:=hs.2;have:=g.plen;omega⟩,g.key p⟩ hno
      | sess e =>
        have hm:=hs.1
        rw [hl] at hm
        rcases List.mem_append.1 hm with hm|hm
        ·exact absurd ⟨⟨hm,hs.2⟩,rfl⟩ hno
        ·simp only [List.mem_singleton] at hm;subst hm;exact .inl ⟨hs.2,rfl⟩
      | num e =>
        have hm:=hs.1
        rw [hl] at hm
        rcases List.mem_append.1 hm with hm|hm
        ·exact absurd ⟨⟨hm,hs.2⟩,rfl⟩ hno
        ·simp only [List.mem_singleton] at hm;subst hm;exact .inr ⟨hs.2,rfl⟩
     have hex:¬ (isIss f∧isNum f):=by
      rintro ⟨a1,a2⟩
      unfold isIss at a1
      rcases a2 with a2|a2
      ·omega
      ·omega
     rcases hnew s j hs j1 j2 j3 with ⟨a1,a2⟩|⟨a1,a2⟩
     ·rcases hnew t i ht i1 i2 i3 with ⟨b1,b2⟩|⟨b1,b2⟩
      ·rw [a2,b2]
      ·exact absurd ⟨a1,b1⟩ hex
     ·rcases hnew t i ht i1 i2 i3 with ⟨b1,b2⟩|⟨b1,b2⟩
      ·exact absurd ⟨b1,a1⟩ hex
      ·rw [a2,b2]
structure RunIn (L:List Int) (E:Nat) (w:World) (p:Nat) (r:Run):Prop where
 peer:name? w r.peer
 other:r.peer≠p
 time:r.t≤1073741824
 kold:old L E (nx w) r.k
 minold:old L E (nx w) r.mine
 mold:old L E (nx w) r.m
theorem Grow.run {L:List Int} {E:Nat} {w v:World} (g:Grow L E w v) {p:Nat} {r:Run} (h:RunIn L E w p r):RunIn L E v p r :=
 ⟨g.name h.peer,h.other,h.time,h.kold.mono g.next,h.minold.mono g.next,h.mold.mono g.next⟩
structure Inv (L:List Int) (E:Nat) (w:World):Prop where
 d:Drawn L E w
 form:w.form
 evs:∀ e∈w.log,EvOk L E w e
 box:∀ s∈w.box.rows,Row L E w s
 regs:∀ l∈w.regs,∀ x∈l,Pub L E w x
 seen:∀ l∈w.net.seen,∀ x∈l,Pub L E w x
 grams:∀ g∈w.net.grams,∀ x∈g.words,Pub L E w x
 runs:∀ p,p < w.people.length → ∀ r∈(getP w.people p).runs,RunIn L E w p r
theorem nx_mkT {w:World} {k:Int} {sl:List Sld} {gs:List Gram} {n:Nat} {p:Person} {e:Event} (h0:0≤w.draws.next) (hk:0≤k):nx (mkT w k sl gs n p e)=nx w + k.toNat:=by
 show (w.draws.next + k).toNat=w.draws.next.toNat + k.toNat
 omega
theorem fr_dAt {L:List Int} {w v:World} (hl:w.draws.list=L) (h0:0≤w.draws.next) {i:Int} (hi:0≤i) (h:nx w + i.toNat < nx v):Fr L w v (dAt w i):=by
 refine ⟨nx w + i.toNat,by omega,h,?_⟩
 unfold dAt nx
 rw [hl]
 congr 1
 omega
theorem grow_mkT {L:List Int} {E:Nat} {w:World} {k:Int} {sl:List Sld} {gs:List Gram} {n:Nat} {p:Person} {e:Event} (h0:0≤w.draws.next) (hk:0≤k) (hE:nx (mkT w k sl gs n p e)≤E) (hin:n < w.people.length) (h1:p.key=(getP w.people n).key) (h2:p.corrupt=(getP w.people n).corrupt)
 (hi:isIss e→Fr L w (mkT w k sl gs n p e) e.k) (hn:isNum e→Fr L w (mkT w k sl gs n p e) e.n):Grow L E w (mkT w k sl gs n p e) where
 list:=rfl
 next:=by rw [nx_mkT h0 hk];omega
 le:=hE
 key:=fun q=>by
  show (getP (w.people.set n p) q).key=_
  rw [getP_set hin];split
  ·rename_i h;rw [h];exact h1
  ·rfl
 plen:=by show (w.people.set n p).length=_;rw [List.length_set]
 hon:=fun a h=>by
  have h':(getP (w.people.set n p) a.toNat).corrupt=false:=h
  rw [getP_set hin] at h'
  show (getP w.people a.toNat).corrupt=false
  split at h'
  ·rename_i hq;rw [hq,← h2];exact h'
  ·exact h'
 leak:=fun k h=>h
 log:=.inr ⟨e,rfl,hi,hn⟩
theorem Inv.mkT {L:List Int} {E:Nat} {w:World} {k:Int} {sl:List Sld} {gs:List Gram} {n:Nat} {p:Person} {e:Event} (I:Inv L E w) (g:Grow L E w (mkT w k sl gs n p e)) (hin:n < w.people.length) (hf:(mkT w k sl gs n p e).form)
 (he:EvOk L E (mkT w k sl gs n p e) e) (hs:∀ s∈sl,Row L E (mkT w k sl gs n p e) s) (hg:∀ x∈gs,∀ y∈x.words,Pub L E (mkT w k sl gs n p e) y) (hr:∀ r∈p.runs,RunIn L E (mkT w k sl gs n p e) n r):Inv L E (mkT w k sl gs n p e) where
 d:=g.drawn I.d
 form:=hf
 evs:=fun f hm=>by
  rcases List.mem_append.1 (show f∈w.log++[e] from hm) with h|h
  ·exact g.evok (I.evs f h)
  ·simp only [List.mem_singleton] at h;subst h;exact he
 box:=fun s hm=>by
  rcases List.mem_append.1 (show s∈w.box.rows++sl from hm) with h|h
  ·exact g.row I.evs (I.box s h)
  ·exact hs s h
 regs:=fun l hm x hx=>g.pub I.evs (I.regs l hm x hx)
 seen:=fun l hm x hx=>by
  rcases List.mem_append.1 (show l∈w.net.seen++gs.map Gram.words from hm) with h|h
  ·exact g.pub I.evs (I.seen l h x hx)
  ·obtain ⟨q,hq,rfl⟩:=List.mem_map.1 h
   exact hg q hq x hx
 grams:=fun q hm x hx=>by
  rcases List.mem_append.1 (show q∈w.net.grams++gs from hm) with h|h
  ·exact g.pub I.evs (I.grams q h x hx)
  ·exact hg q h x hx
 runs:=fun q hq r hm=>by
  have hm':r∈(getP (w.people.set n p) q).runs:=hm
  rw [getP_set hin] at hm'
  split at hm'
  ·rename_i h;subst h;exact hr r hm'
  ·refine g.run (I.runs q ?_ r hm')
   have:(w.people.set n p).length=w.people.length:=List.length_set
   have hq':q < (w.people.set n p).length:=hq
   omega
theorem Grow.pub_draw {L:List Int} {E:Nat} {w v:World} (g:Grow L E w v) (d:Drawn L E w) {j:Nat} (h1:nx w≤j) (h2:j < nx v) (hne:∀ e,v.log=w.log++[e]→(isIss e→e.k≠drawAt L j)∧(isNum e→e.n≠drawAt L j)):Pub L E v (drawAt L j):=by
 have hle:=g.le
 refine ⟨fun i i1 i2 e=>by have:=d.unlike i j i2 (by omega) e;omega,?_⟩
 rintro ⟨s,hs,e,_⟩
 have hno:¬ (s.has w∧s.word v=s.word w):=by
  rintro ⟨k1,k2⟩
  obtain ⟨q,hq,e2⟩:=d.src s k1
  have:=d.unlike q j (by have:=d.le;omega) (by omega) (e2.symm.trans (k2.symm.trans e))
  omega
 cases s with
 | key p=>exact hno ⟨⟨hs.1,by have:=hs.2;have:=g.plen;omega⟩,g.key p⟩
 | sess f =>
   rcases g.cases hs.1 with h|⟨h,_,_⟩
   ·exact hno ⟨⟨h,hs.2⟩,rfl⟩
   ·exact (hne f h).1 hs.2 e
 | num f =>
   rcases g.cases hs.1 with h|⟨h,_,_⟩
   ·exact hno ⟨⟨h,hs.2⟩,rfl⟩
   ·exact (hne f h).2 hs.2 e
theorem Grow.pub_dAt {L:List Int} {E:Nat} {w v:World} (g:Grow L E w v) (d:Drawn L E w) (h0:0≤w.draws.next) {i:Int} (hi:0≤i) (h2:nx w + i.toNat < nx v) (hne:∀ e,v.log=w.log++[e]→(isIss e→e.k≠dAt w i)∧(isNum e→e.n≠dAt w i)):Pub L E v (dAt w i):=by
 have e:dAt w i=drawAt L (nx w + i.toNat):=by
  unfold dAt nx
  rw [d.list]
  congr 1
  omega
 rw [e] at hne ⊢
 exact g.pub_draw d (by omega) h2 hne
theorem dAt_ne {L:List Int} {E:Nat} {w:World} (d:Drawn L E w) (h0:0≤w.draws.next) {i j:Int} (hi:0≤i) (hj:0≤j) (hne:i≠j) (h1:nx w + i.toNat < E) (h2:nx w + j.toNat < E):dAt w i≠dAt w j:=by
 intro e
 unfold dAt at e
 rw [d.list] at e
 have:=d.unlike _ _ (by unfold nx at h1;omega) (by unfold nx at h2;omega) e
 omega
theorem msg_pub {L:List Int} {E:Nat} {w:World} (d:Drawn L E w) {l:List Int} (hu:∀ x∈l,U x) (hl:∀ x∈l,Pub L E w x) {m:Msg} (h:msgGet l=(m,0)):Pub L E w m.run∧Pub L E w m.nonce∧Pub L E w m.box∧Pub L E w m.more∧Pub L E w m.a∧Pub L E w m.b:=by
 obtain ⟨h1,h2⟩:=msgGet_ok hu h
 subst h2
 have z:Pub L E w 0:=d.small (by decide)
 have hk:=kind9 (may_kd h1)
 obtain ⟨k,run,a,b,nonce,box,more⟩:=m
 simp only at hk
 rcases hk with rfl|rfl|rfl|rfl|rfl|rfl|rfl|rfl|rfl
 all_goals
  simp [msgMay,tags,hasM,msgWord] at h1
  simp [msgWs,tags,hasM,msgWord] at hl
  refine ⟨?_,?_,?_,?_,?_,?_⟩<;>simp_all
theorem open_row {w:World} {key label h:Int} (ho:(openW w key label h).2=true):∃ s∈w.box.rows,s.key=key∧s.label=label∧(openW w key label h).1=partRd label s.plain:=by
 unfold openW at ho ⊢
 cases hb:boxOpen w.box key label h with
 | none=>rw [hb] at ho;cases ho
 | some l =>
   obtain ⟨s,hm,e1,_,e3,e4⟩:=open_plain hb
   subst e1
   rw [hb] at ho
   refine ⟨s,hm,e3,e4,?_⟩
   simp only [partGet] at ho ⊢
   cases c1:label? label
   ·rw [c1] at ho;exact absurd ho (by simp)
   ·rw [c1] at ho
    simp only [cond_true] at ho ⊢
    cases c2:(s.plain.length==(partWs label zPart).length)
    ·rw [c2] at ho;exact absurd ho (by simp)
    ·rfl
theorem getD_pub {L:List Int} {E:Nat} {w:World} (d:Drawn L E w) {l:List Int} (h:∀ x∈l,Pub L E w x) (i:Nat):Pub L E w (l.getD i 0):=by
 rw [List.getD_eq_getElem?_getD]
 cases hi:l[i]? with
 | none=>exact d.small (by decide)
 | some x=>exact h x (List.mem_of_getElem? hi)
theorem rd_pub {L:List Int} {E:Nat} {w:World} (d:Drawn L E w) {l:List Int} (h:∀ x∈l,Pub L E w x) (label:Int):Pub L E w (partRd label l).n∧Pub L E w (partRd label l).m∧Pub L E w (partRd label l).a∧Pub L E w (partRd label l).b∧Pub L E w (partRd label l).k∧Pub L E w (partRd label l).t∧Pub L E w (partRd label l).h:=by
 have z:Pub L E w 0:=d.small (by decide)
 have g:=getD_pub d h
 unfold partRd
 cases (label==2)<;>cases (label==3)<;>cases (label==4 || label==5)<;>cases (label==6 || label==7)<;>exact ⟨by first|exact g _|exact z,by first|exact g _|exact z,by first|exact g _|exact z,by first|exact g _|exact z,by first|exact g _|exact z,by first|exact g _|exact z,by first|exact g _|exact z⟩
theorem msgWs_pub {L:List Int} {E:Nat} {w:World} (d:Drawn L E w) {m:Msg} (hk:m.kind < 2147483648) (h1:Pub L E w m.run) (h2:Pub L E w m.a) (h3:Pub L E w m.b) (h4:Pub L E w m.nonce) (h5:Pub L E w m.box) (h6:Pub L E w m.more):∀ x∈msgWs m,Pub L E w x:=by
 have hw:∀ t,Pub L E w (msgWord m t):=fun t=>by
  unfold msgWord
  cases (t==2)<;>cases (t==3)<;>cases (t==4)<;>cases (t==5)<;>cases (t==6)<;>assumption
 intro x hx
 simp only [msgWs,List.mem_append,List.mem_flatMap] at hx
 rcases hx with hx|⟨t,ht,hx⟩
 ·simp only [List.mem_cons,List.not_mem_nil,or_false] at hx
  rcases hx with rfl|rfl|rfl
  ·exact d.small (by decide)
  ·exact d.small (by decide)
  ·exact d.small hk
 ·cases hM:hasM m.kind t with
  | false=>rw [hM] at hx;simp at hx
  | true =>
    rw [hM] at hx
    simp only [cond_true,List.mem_cons,List.not_mem_nil,or_false] at hx
    rcases hx with rfl|rfl|rfl
    ·have ht':x=2∨x=3∨x=4∨x=5∨x=6∨x=7:=by simpa [tags] using ht
     exact d.small (by omega)
    ·exact d.small (by decide)
    ·exact hw t
theorem name_pub {L:List Int} {E:Nat} {w:World} (d:Drawn L E w) {a:Int} (h:name? w a):Pub L E w a:=by
 have:=h.1
 have:=h.2
 have:=d.few
 exact d.small (by omega)
theorem pair_names {w:World} {a b:Int} (ha:U a) (hb:U b) (h:pairM w.people a b=true):name? w a∧name? w b∧a≠b:=by
 obtain ⟨h1,h2,h3,h4,h5⟩:=pair_in h
 have:=ha.1
 have:=hb.1
 exact ⟨⟨by omega,h4⟩,⟨by omega,h5⟩,h1⟩
theorem fresh_small {c t w:Int} (h:freshM c t w=true):t≤1073741824:=by
 simp only [freshM,Bool.and_eq_true,decide_eq_true_eq] at h
 omega
theorem old_dAt {L:List Int} {E:Nat} {w v:World} (d:Drawn L E w) (h0:0≤w.draws.next) {i:Int} (hi:0≤i) (h:nx w + i.toNat < nx v) (hE:nx v≤E):old L E (nx v) (dAt w i):=by
 intro j h1 h2 e
 unfold dAt at e
 rw [d.list] at e
 have:=d.unlike _ _ h2 (by unfold nx at h hE;omega) e
 unfold nx at h h1
 omega
theorem set_runs {L:List Int} {E:Nat} {w v:World} (I:Inv L E w) (g:Grow L E w v) {n:Nat} (hn:n < w.people.length) {i:Nat} {r:Run} (hr:RunIn L E v n r):∀ x∈(setRun (getP w.people n) i r).runs,RunIn L E v n x:=by
 intro x hx
 rcases List.mem_or_eq_of_mem_set (show x∈(getP w.people n).runs.set i r from hx) with h|rfl
 ·exact g.run (I.runs n hn x h)
 ·exact hr
theorem push_runs {L:List Int} {E:Nat} {w v:World} (I:Inv L E w) (g:Grow L E w v) {n:Nat} (hn:n < w.people.length) {p:Person} (hp:p.runs=(getP w.people n).runs) {r:Run} (hr:RunIn L E v n r):∀ x∈(pushRun p r).runs,RunIn L E v n x:=by
 intro x hx
 rcases List.mem_append.1 (show x∈p.runs++[r] from hx) with h|h
 ·rw [hp] at h;exact g.run (I.runs n hn x h)
 ·simp only [List.mem_singleton] at h;subst h;exact hr
theorem grams_one {L:List Int} {E:Nat} {v:World} {to:Int} {m:Msg} (h:∀ x∈msgWs m,Pub L E v x):∀ q∈[(⟨to,msgWs m⟩:Gram)],∀ y∈q.words,Pub L E v y:=by
 intro q hq y hy
 simp only [List.mem_singleton] at hq
 subst hq
 exact h y hy
theorem nat_of {a:Int} (h:U a):((a.toNat:Nat):Int)=a:=Int.toNat_of_nonneg h.1
theorem inv_step {L:List Int} {E:Nat} {w:World} {k:Int} {sl:List Sld} {gs:List Gram} {n:Nat} {p:Person} {e:Event} (I:Inv L E w) (hk:0≤k) (hE:nx (mkT w k sl gs n p e)≤E) (hin:n < w.people.length) (h1:p.key=(getP w.people n).key) (h2:p.corrupt=(getP w.people n).corrupt) (hf:(mkT w k sl gs n p e).form)
 (hi:isIss e → ∃ i,0≤i∧i < k∧e.k=dAt w i) (hn:isNum e → ∃ i,0≤i∧i < k∧e.n=dAt w i)
 (H:Grow L E w (mkT w k sl gs n p e)→nx (mkT w k sl gs n p e)=nx w + k.toNat→EvOk L E (mkT w k sl gs n p e) e∧(∀ s∈sl,Row L E (mkT w k sl gs n p e) s)∧(∀ x∈gs,∀ y∈x.words,Pub L E (mkT w k sl gs n p e) y)∧(∀ r∈p.runs,RunIn L E (mkT w k sl gs n p e) n r)):Inv L E (mkT w k sl gs n p e):=by
 have h0:=I.form.next0
 have hx:=nx_mkT (sl:=sl) (gs:=gs) (n:=n) (p:=p) (e:=e) h0 hk
 have fr:∀ x,(∃ i,0≤i∧i < k∧x=dAt w i)→Fr L w (mkT w k sl gs n p e) x:=by
  rintro x ⟨i,i0,i1,rfl⟩
  exact fr_dAt I.d.list h0 i0 (by rw [hx];omega)
 have g:=grow_mkT (L:=L) (E:=E) h0 hk hE hin h1 h2 (fun h=>fr _ (hi h)) (fun h=>fr _ (hn h))
 obtain ⟨a1,a2,a3,a4⟩:=H g hx
 exact I.mkT g hin hf a1 a2 a3 a4
theorem last_ev {w:World} {k:Int} {sl:List Sld} {gs:List Gram} {n:Nat} {p:Person} {e f:Event} (h:(mkT w k sl gs n p e).log=w.log++[f]):f=e:=by
 have h':w.log++[e]=w.log++[f]:=h
 have:=List.append_cancel_left h'
 simp only [List.cons.injEq,and_true] at this
 exact this.symm
theorem num_pub {L:List Int} {E:Nat} {v:World} (d:Drawn L E v) {e:Event} (he:e∈v.log) (hn:isNum e) (ho:old L E (nx v) e.n) (hg:¬ (Src.num e).guard v):Pub L E v e.n:=⟨ho,fun hs=>hg (d.sec (s:=.num e) ⟨he,hn⟩ hs)⟩
theorem new_mem (w:World) (k:Int) (sl:List Sld) (gs:List Gram) (n:Nat) (p:Person) (e:Event):e∈(mkT w k sl gs n p e).log:=List.mem_append_right _ (List.mem_singleton.2 rfl)
theorem n12:¬ (1:Int)=2:=by decide
theorem n13:¬ (1:Int)=3:=by decide
theorem n21:¬ (2:Int)=1:=by decide
theorem n32:¬ (3:Int)=2:=by decide
theorem n31:¬ (3:Int)=1:=by decide
theorem n41:¬ (4:Int)=1:=by decide
theorem n42:¬ (4:Int)=2:=by decide
theorem n43:¬ (4:Int)=3:=by decide
theorem n23:¬ (2:Int)=3:=by decide
theorem inv_startN {L:List Int} {E N:Nat} {w:World} (I:Inv L E w) (hw:w.fit N) {a b:Int} (ha:U a) (hb:U b) (hn:w.draws.next + 3≤1048576) (hE:nx (startN w a b).1≤E):Inv L E (startN w a b).1:=by
 by_cases he:(startN w a b).2=0
 rotate_left 1
 ·rw [startN_err he];exact I
 have hf:=startN_form (b:=b) I.form ha hn
 obtain ⟨h1,h2,h3⟩:=startN_T I.form.right ha he
 have h0:=I.form.next0
 obtain ⟨na,nb,nab⟩:=pair_names ha hb h1
 rw [h3] at hE hf ⊢
 refine inv_step I (by decide) hE na.2 rfl rfl hf (fun h=>absurd h n12) (fun _=>⟨0,by decide,by decide,rfl⟩) (fun g hx=>?_)
 have d:=g.drawn I.d
 have o0:=old_dAt I.d h0 (i:=0) (by decide) (by rw [hx];simp) g.le
 have z:=d.small (x:=0) (by decide)
 have hp:Pub L E _ (dAt w 0):=num_pub d (new_mem _ _ _ _ _ _ _) (.inl ⟨rfl,rfl⟩) o0 (by
  rintro (h|h)
  ·exact absurd h.1 n12
  ·exact absurd h.2.1 n13)
 refine ⟨⟨⟨g.name na,g.name nb,nab⟩,t0,z.1,o0,z.1⟩,fun s hs=>(by cases hs),grams_one (msgWs_pub d (by simp) z (name_pub d (g.name na)) (name_pub d (g.name nb)) hp z z),?_⟩
 exact push_runs I g na.2 rfl ⟨g.name nb,by rw [nat_of ha];exact fun e=>nab e.symm,t0,z.1,o0,z.1⟩
theorem inv_startO {L:List Int} {E N:Nat} {w:World} (I:Inv L E w) (hw:w.fit N) {a b:Int} (ha:U a) (hb:U b) (hn:w.draws.next + 3≤1048576) (hE:nx (startO w a b).1≤E):Inv L E (startO w a b).1:=by
 by_cases he:(startO w a b).2=0
 rotate_left 1
 ·rw [startO_err he];exact I
 have hf:=startO_form (b:=b) I.form ha hn
 obtain ⟨h1,h2,h4,h3⟩:=startO_T I.form.right ha he
 have h0:=I.form.next0
 obtain ⟨na,nb,nab⟩:=pair_names ha hb h1
 rw [h3] at hE hf ⊢
 refine inv_step I (by decide) hE na.2 rfl rfl hf (fun h=>absurd h n12) (fun _=>⟨1,by decide,by decide,rfl⟩) (fun g hx=>?_)
 have d:=g.drawn I.d
 have hle:=g.le
 rw [hx] at hle
 have o0:=old_dAt I.d h0 (i:=0) (by decide) (by rw [hx];simp) g.le
 have o1:=old_dAt I.d h0 (i:=1) (by decide) (by rw [hx];simp) g.le
 have z:=d.small (x:=0) (by decide)
 have p0:Pub L E _ (dAt w 0):=g.pub_dAt I.d h0 (i:=0) (by decide) (by rw [hx];simp) (fun f hf=>by
  have:=last_ev hf
  subst this
  exact ⟨fun h=>absurd h n12,fun _=>dAt_ne I.d h0 (i:=1) (j:=0) (by decide) (by decide) (by decide) (by simp at hle ⊢;omega) (by simp at hle ⊢;omega)⟩)
 have p2:Pub L E _ (dAt w 2):=g.pub_dAt I.d h0 (i:=2) (by decide) (by rw [hx];simp) (fun f hf=>by
  have:=last_ev hf
  subst this
  exact ⟨fun h=>absurd h n12,fun _=>dAt_ne I.d h0 (i:=1) (j:=2) (by decide) (by decide) (by decide) (by simp at hle ⊢;omega) (by simp at hle ⊢;omega)⟩)
 refine ⟨⟨⟨g.name na,g.name nb,nab⟩,t0,z.1,o1,o0⟩,fun s hs=>?_,grams_one (msgWs_pub d (by simp) p0 (name_pub d (g.name na)) (name_pub d (g.name nb)) z p2 z),?_⟩
 ·simp only [List.mem_singleton] at hs
  subst hs
  exact .inr (.or1 _ (new_mem _ _ _ _ _ _ _) rfl rfl rfl (by rw [g.keyOf];rfl) rfl rfl p0)
 ·exact push_runs I g na.2 rfl ⟨g.name nb,by rw [nat_of ha];exact fun e=>nab e.symm,t0,z.1,o1,o0⟩
theorem open_grant {L:List Int} {E:Nat} {w:World} (I:Inv L E w) {me h:Int} (hm:name? w me) (ho:(openW w (keyOf w me) 2 h).2=true) :
 ((Pub L E w (keyOf w me)∧Pub L E w (openW w (keyOf w me) 2 h).1.k) ∨ ∃ e∈w.log,e.kind=2∧e.proto=1∧e.a=me∧e.n=(openW w (keyOf w me) 2 h).1.n∧e.b=(openW w (keyOf w me) 2 h).1.b∧e.k=(openW w (keyOf w me) 2 h).1.k∧e.t=(openW w (keyOf w me) 2 h).1.t)∧old L E (nx w) (openW w (keyOf w me) 2 h).1.k∧Pub L E w (openW w (keyOf w me) 2 h).1.h:=by
 obtain ⟨s,hs,k1,l1,e1⟩:=open_row ho
 rw [e1]
 rcases I.box s hs with hp|ht
 ·have:=rd_pub I.d hp.2 2
  exact ⟨.inl ⟨by rw [← k1];exact hp.1,this.2.2.2.2.1⟩,this.2.2.2.2.1.1,this.2.2.2.2.2.2⟩
 ·cases ht with
  | grant e hm1 h1 h2 hh k l p pn ph =>
    have:=I.d.key_inj (I.evs e hm1).names.1 hm (k.symm.trans k1)
    rw [p]
    exact ⟨.inr ⟨e,hm1,h1,h2,this,rfl,rfl,rfl,rfl⟩,(I.evs e hm1).kold,ph⟩
  | ticket _ _ _ _ _ l _=>rw [l1] at l;exact absurd l (by decide)
  | echo _ _ _ _ _ _ l _=>rw [l1] at l;exact absurd l (by decide)
  | back _ _ _ _ _ _ l _ _=>rw [l1] at l;exact absurd l (by decide)
  | or1 _ _ _ _ _ _ l _ _=>rw [l1] at l;exact absurd l (by decide)
  | or2 _ _ _ _ _ _ l _ _=>rw [l1] at l;exact absurd l (by decide)
  | sh8 _ _ _ _ _ _ l _ _=>rw [l1] at l;exact absurd l (by decide)
  | sh9 _ _ _ _ _ _ l _ _=>rw [l1] at l;exact absurd l (by decide)
theorem open_ticket {L:List Int} {E:Nat} {w:World} (I:Inv L E w) {me h:Int} (hm:name? w me) (ho:(openW w (keyOf w me) 3 h).2=true) :
 ((Pub L E w (keyOf w me)∧Pub L E w (openW w (keyOf w me) 3 h).1.k) ∨ ∃ e∈w.log,e.kind=2∧e.proto=1∧e.b=me∧e.a=(openW w (keyOf w me) 3 h).1.a∧e.k=(openW w (keyOf w me) 3 h).1.k∧e.t=(openW w (keyOf w me) 3 h).1.t)∧old L E (nx w) (openW w (keyOf w me) 3 h).1.k:=by
 obtain ⟨s,hs,k1,l1,e1⟩:=open_row ho
 rw [e1]
 rcases I.box s hs with hp|ht
 ·have:=rd_pub I.d hp.2 3
  exact ⟨.inl ⟨by rw [← k1];exact hp.1,this.2.2.2.2.1⟩,this.2.2.2.2.1.1⟩
 ·cases ht with
  | ticket e hm1 h1 h2 k l p =>
    have:=I.d.key_inj (I.evs e hm1).names.2.1 hm (k.symm.trans k1)
    rw [p]
    exact ⟨.inr ⟨e,hm1,h1,h2,this,rfl,rfl,rfl⟩,(I.evs e hm1).kold⟩
  | grant _ _ _ _ _ _ l _ _ _=>rw [l1] at l;exact absurd l (by decide)
  | echo _ _ _ _ _ _ l _=>rw [l1] at l;exact absurd l (by decide)
  | back _ _ _ _ _ _ l _ _=>rw [l1] at l;exact absurd l (by decide)
  | or1 _ _ _ _ _ _ l _ _=>rw [l1] at l;exact absurd l (by decide)
  | or2 _ _ _ _ _ _ l _ _=>rw [l1] at l;exact absurd l (by decide)
  | sh8 _ _ _ _ _ _ l _ _=>rw [l1] at l;exact absurd l (by decide)
  | sh9 _ _ _ _ _ _ l _ _=>rw [l1] at l;exact absurd l (by decide)
theorem open_echo {L:List Int} {E:Nat} {w:World} (I:Inv L E w) {key h:Int} (ho:(openW w key 4 h).2=true) :
 old L E (nx w) (openW w key 4 h).1.n∧(Pub L E w (openW w key 4 h).1.n∧Pub L E w key ∨ ∃ f∈w.log,f.kind=3∧f.proto=1∧f.role=2∧f.k=key∧f.n=(openW w key 4 h).1.n):=by
 obtain ⟨s,hs,k1,l1,e1⟩:=open_row ho
 rw [e1]
 rcases I.box s hs with hp|ht
 ·have:=rd_pub I.d hp.2 4
  exact ⟨this.1.1,.inl ⟨this.1,by rw [← k1];exact hp.1⟩⟩
 ·cases ht with
  | echo e hm1 h1 h2 h3 k l p =>
    rw [p]
    exact ⟨(I.evs e hm1).nold,.inr ⟨e,hm1,h1,h2,h3,k.symm.trans k1,rfl⟩⟩
  | ticket _ _ _ _ _ l _=>rw [l1] at l;exact absurd l (by decide)
  | grant _ _ _ _ _ _ l _ _ _=>rw [l1] at l;exact absurd l (by decide)
  | back _ _ _ _ _ _ l _ _=>rw [l1] at l;exact absurd l (by decide)
  | or1 _ _ _ _ _ _ l _ _=>rw [l1] at l;exact absurd l (by decide)
  | or2 _ _ _ _ _ _ l _ _=>rw [l1] at l;exact absurd l (by decide)
  | sh8 _ _ _ _ _ _ l _ _=>rw [l1] at l;exact absurd l (by decide)
  | sh9 _ _ _ _ _ _ l _ _=>rw [l1] at l;exact absurd l (by decide)
theorem open_or1 {L:List Int} {E:Nat} {w:World} (I:Inv L E w) {a h:Int} (hm:name? w a) (ho:(openW w (keyOf w a) 6 h).2=true) :
 (Pub L E w (keyOf w a)∧Pub L E w (openW w (keyOf w a) 6 h).1.n) ∨ ∃ f∈w.log,f.kind=1∧f.proto=2∧f.role=1∧f.n=(openW w (keyOf w a) 6 h).1.n∧f.a=(openW w (keyOf w a) 6 h).1.a∧f.b=(openW w (keyOf w a) 6 h).1.b∧f.m=(openW w (keyOf w a) 6 h).1.m:=by
 obtain ⟨s,hs,k1,l1,e1⟩:=open_row ho
 rw [e1]
 rcases I.box s hs with hp|ht
 ·have:=rd_pub I.d hp.2 6
  exact .inl ⟨by rw [← k1];exact hp.1,this.1⟩
 ·cases ht with
  | or1 e hm1 h1 h2 h3 k l p pm =>
    rw [p]
    exact .inr ⟨e,hm1,h1,h2,h3,rfl,rfl,rfl,rfl⟩
  | _=>exfalso;omega
theorem open_or2 {L:List Int} {E:Nat} {w:World} (I:Inv L E w) {b h:Int} (hm:name? w b) (ho:(openW w (keyOf w b) 7 h).2=true) :
 (Pub L E w (keyOf w b)∧Pub L E w (openW w (keyOf w b) 7 h).1.n) ∨ ∃ f∈w.log,f.kind=3∧f.proto=2∧f.role=2∧f.n=(openW w (keyOf w b) 7 h).1.n∧f.a=(openW w (keyOf w b) 7 h).1.a∧f.b=(openW w (keyOf w b) 7 h).1.b∧f.m=(openW w (keyOf w b) 7 h).1.m:=by
 obtain ⟨s,hs,k1,l1,e1⟩:=open_row ho
 rw [e1]
 rcases I.box s hs with hp|ht
 ·have:=rd_pub I.d hp.2 7
  exact .inl ⟨by rw [← k1];exact hp.1,this.1⟩
 ·cases ht with
  | or2 e hm1 h1 h2 h3 k l p pm =>
    rw [p]
    exact .inr ⟨e,hm1,h1,h2,h3,rfl,rfl,rfl,rfl⟩
  | _=>exfalso;omega
theorem open_sh8 {L:List Int} {E:Nat} {w:World} (I:Inv L E w) {b h:Int} (hm:name? w b) (ho:(openW w (keyOf w b) 8 h).2=true) :
 old L E (nx w) (openW w (keyOf w b) 8 h).1.k∧((Pub L E w (keyOf w b)∧Pub L E w (openW w (keyOf w b) 8 h).1.k) ∨ ∃ e∈w.log,e.kind=2∧e.proto=2∧e.b=b∧e.k=(openW w (keyOf w b) 8 h).1.k∧((∃ f∈w.log,f.kind=3∧f.proto=2∧f.role=2∧f.n=(openW w (keyOf w b) 8 h).1.n∧f.a=e.a∧f.b=e.b∧f.m=e.m)∨(¬ hon w b))):=by
 obtain ⟨s,hs,k1,l1,e1⟩:=open_row ho
 rw [e1]
 rcases I.box s hs with hp|ht
 ·have:=rd_pub I.d hp.2 8
  exact ⟨this.2.2.2.2.1.1,.inl ⟨by rw [← k1];exact hp.1,this.2.2.2.2.1⟩⟩
 ·cases ht with
  | sh8 e hm1 h1 h2 x k l p q =>
    have hb:=I.d.key_inj (I.evs e hm1).names.2.1 hm (k.symm.trans k1)
    rw [p]
    refine ⟨(I.evs e hm1).kold,.inr ⟨e,hm1,h1,h2,hb,rfl,?_⟩⟩
    rcases q with q|q
    ·exact .inl q
    ·exact .inr (by rw [← hb];exact q.1)
  | _=>exfalso;omega
theorem open_sh9 {L:List Int} {E:Nat} {w:World} (I:Inv L E w) {a h:Int} (hm:name? w a) (ho:(openW w (keyOf w a) 9 h).2=true) :
 old L E (nx w) (openW w (keyOf w a) 9 h).1.k∧((Pub L E w (keyOf w a)∧Pub L E w (openW w (keyOf w a) 9 h).1.k) ∨ ∃ e∈w.log,e.kind=2∧e.proto=2∧e.a=a∧e.k=(openW w (keyOf w a) 9 h).1.k∧((∃ f∈w.log,f.kind=1∧f.proto=2∧f.role=1∧f.n=(openW w (keyOf w a) 9 h).1.n∧f.a=e.a∧f.b=e.b∧f.m=e.m)∨(¬ hon w a))):=by
 obtain ⟨s,hs,k1,l1,e1⟩:=open_row ho
 rw [e1]
 rcases I.box s hs with hp|ht
 ·have:=rd_pub I.d hp.2 9
  exact ⟨this.2.2.2.2.1.1,.inl ⟨by rw [← k1];exact hp.1,this.2.2.2.2.1⟩⟩
 ·cases ht with
  | sh9 e hm1 h1 h2 x k l p q =>
    have ha:=I.d.key_inj (I.evs e hm1).names.1 hm (k.symm.trans k1)
    rw [p]
    refine ⟨(I.evs e hm1).kold,.inr ⟨e,hm1,h1,h2,ha,rfl,?_⟩⟩
    rcases q with q|q
    ·exact .inl q
    ·exact .inr (by rw [← ha];exact q.1)
  | _=>exfalso;omega
theorem run_in {L:List Int} {E:Nat} {w:World} (I:Inv L E w) {me:Int} (hin:me.toNat < w.people.length) {i:Nat} (hi:i < (personW w me).runs.length):RunIn L E w me.toNat (runAt (personW w me).runs i):=I.runs me.toNat hin _ (runAt_mem hi)
theorem inv_grantN {L:List Int} {E N:Nat} {w:World} (I:Inv L E w) (hw:w.fit N) {me:Int} (hme:U me) (h1me:1≤me) {m:Msg} (hf:(grantN w me m).1.form) (hE:nx (grantN w me m).1≤E):Inv L E (grantN w me m).1:=by
 by_cases he:(grantN w me m).2=0
 rotate_left 1
 ·rw [grantN_err he];exact I
 obtain ⟨i,h1,h2,h3,hin,h4⟩:=grantN_T I.form.right hme he
 obtain ⟨hi,r1,r2,r3,r4,r5⟩:=grant_run h1
 have hR:=run_in I hin hi
 have hO:=open_grant I (me:=me) ⟨h1me,hin⟩ h2
 rw [h4] at hE hf ⊢
 refine inv_step I (by decide) hE hin rfl rfl hf (fun h=>absurd h n32) (fun h=>?_) (fun g hx=>?_)
 ·rcases h with h|h
  ·exact absurd h.1 n31
  ·exact absurd h.2 n12
 have d:=g.drawn I.d
 have z:=d.small (x:=0) (by decide)
 have ko:old L E (nx w) (aG w me m).1.k:=hO.2.1
 have ph:Pub L E w (aG w me m).1.h:=hO.2.2
 have hne:me≠(runAt (personW w me).runs i).peer:=fun e=>hR.other (by rw [nat_of hme];exact e.symm)
 refine ⟨⟨⟨g.name ⟨h1me,hin⟩,g.name hR.peer,hne⟩,fresh_small h3,ko.mono g.next,hR.minold.mono g.next,z.1⟩,fun s hs=>(by cases hs),grams_one (msgWs_pub d (by simp) z z z z (g.pub I.evs ph) z),?_⟩
 exact set_runs I g hin ⟨g.name hR.peer,hR.other,fresh_small h3,ko.mono g.next,hR.minold.mono g.next,hR.mold.mono g.next⟩
theorem inv_echoN {L:List Int} {E N:Nat} {w:World} (I:Inv L E w) (hw:w.fit N) {me:Int} (hme:U me) (h1me:1≤me) {m:Msg} (hf:(echoN w me m).1.form) (hE:nx (echoN w me m).1≤E):Inv L E (echoN w me m).1:=by
 by_cases he:(echoN w me m).2=0
 rotate_left 1
 ·rw [echoN_err he];exact I
 have h0:=I.form.next0
 obtain ⟨i,h1,h2,hin,h3,h4⟩:=echoN_T I.form.right hme he
 obtain ⟨hi,r1,r2,r3,r4⟩:=echo_run h1
 have hR:=run_in I hin hi
 have hO:=open_echo I r4
 rw [h4] at hE hf ⊢
 refine inv_step I (by decide) hE hin rfl rfl hf (fun h=>absurd h n42) (fun h=>?_) (fun g hx=>?_)
 ·rcases h with h|h
  ·exact absurd h.1 n41
  ·exact absurd h.1 n43
 have d:=g.drawn I.d
 have z:=d.small (x:=0) (by decide)
 have no:old L E (nx w) (eN w me m i):=hO.1
 have hne:me≠(runAt (personW w me).runs i).peer:=fun e=>hR.other (by rw [nat_of hme];exact e.symm)
 have p0:Pub L E _ (dAt w 0):=g.pub_dAt I.d h0 (i:=0) (by decide) (by rw [hx];simp) (fun f hf=>by
  have:=last_ev hf
  subst this
  exact ⟨fun h=>absurd h n42,fun h=>by
   rcases h with h|h
   ·exact absurd h.1 n41
   ·exact absurd h.1 n43⟩)
 refine ⟨⟨⟨g.name ⟨h1me,hin⟩,g.name hR.peer,hne⟩,hR.time,hR.kold.mono g.next,no.mono g.next,z.1⟩,fun s hs=>?_,grams_one (msgWs_pub d (by simp) z z z z p0 z),?_⟩
 ·simp only [List.mem_singleton] at hs
  subst hs
  refine .inr (.back _ (new_mem _ _ _ _ _ _ _) rfl rfl rfl rfl rfl rfl ?_)
  rcases hO.2 with q|⟨f,f1,f2,f3,f4,f5,f6⟩
  ·exact .inl (g.pub I.evs q.1)
  ·exact .inr ⟨f,g.mem f1,f2,f3,f4,f5,f6⟩
 ·exact set_runs I g hin ⟨g.name hR.peer,hR.other,hR.time,hR.kold.mono g.next,hR.minold.mono g.next,hR.mold.mono g.next⟩
theorem inv_ticketB {L:List Int} {E N:Nat} {w:World} (I:Inv L E w) (hw:w.fit N) {me:Int} (hme:U me) (h1me:1≤me) {m:Msg} (hf:(ticketB w me m).1.form) (hE:nx (ticketB w me m).1≤E):Inv L E (ticketB w me m).1:=by
 by_cases he:(ticketB w me m).2=0
 rotate_left 1
 ·rw [ticketB_err he];exact I
 have h0:=I.form.next0
 obtain ⟨h1,h2,h3,h4,h5,h6,h7⟩:=ticketB_T I.form.right hme he
 have hga:U (tG w me m).1.a:=(openW_ok hw _ _ _).2.2.1
 obtain ⟨na,nb,nab⟩:=pair_names hga hme h2
 have hO:=open_ticket I (me:=me) nb h1
 rw [h7] at hE hf ⊢
 refine inv_step I (by decide) hE nb.2 rfl rfl hf (fun h=>absurd h n32) (fun _=>⟨0,by decide,by decide,rfl⟩) (fun g hx=>?_)
 have d:=g.drawn I.d
 have hle:=g.le
 rw [hx] at hle
 have z:=d.small (x:=0) (by decide)
 have ko:old L E (nx w) (tG w me m).1.k:=hO.2
 have o0:=old_dAt I.d h0 (i:=0) (by decide) (by rw [hx];simp) g.le
 have p1:Pub L E _ (dAt w 1):=g.pub_dAt I.d h0 (i:=1) (by decide) (by rw [hx];simp) (fun f hf=>by
  have:=last_ev hf
  subst this
  exact ⟨fun h=>absurd h n32,fun _=>dAt_ne I.d h0 (i:=0) (j:=1) (by decide) (by decide) (by decide) (by simp at hle ⊢;omega) (by simp at hle ⊢;omega)⟩)
 refine ⟨⟨⟨g.name na,g.name nb,nab⟩,fresh_small h3,ko.mono g.next,o0,z.1⟩,fun s hs=>?_,grams_one (msgWs_pub d (by simp) z z z z p1 z),?_⟩
 ·simp only [List.mem_singleton] at hs
  subst hs
  exact .inr (.echo _ (new_mem _ _ _ _ _ _ _) rfl rfl rfl rfl rfl rfl)
 ·exact push_runs I g nb.2 rfl ⟨g.name na,by rw [nat_of hme];exact nab,fresh_small h3,ko.mono g.next,o0,z.1⟩
theorem inv_backB {L:List Int} {E N:Nat} {w:World} (I:Inv L E w) (hw:w.fit N) {me:Int} (hme:U me) (h1me:1≤me) {m:Msg} (hf:(backB w me m).1.form) (hE:nx (backB w me m).1≤E):Inv L E (backB w me m).1:=by
 by_cases he:(backB w me m).2=0
 rotate_left 1
 ·rw [backB_err he];exact I
 obtain ⟨i,h1,h2,hin,h4⟩:=backB_T I.form.right hme he
 obtain ⟨hi,r1,r2,r3,r4,r5⟩:=back_run h1
 have hR:=run_in I hin hi
 rw [h4] at hE hf ⊢
 refine inv_step I (by decide) hE hin rfl rfl hf (fun h=>absurd h n42) (fun h=>?_) (fun g hx=>?_)
 ·rcases h with h|h
  ·exact absurd h.1 n41
  ·exact absurd h.1 n43
 have d:=g.drawn I.d
 have z:=d.small (x:=0) (by decide)
 have hne:(runAt (personW w me).runs i).peer≠me:=fun e=>hR.other (by rw [nat_of hme];exact e)
 exact ⟨⟨⟨g.name hR.peer,g.name ⟨h1me,hin⟩,hne⟩,hR.time,hR.kold.mono g.next,hR.minold.mono g.next,z.1⟩,fun s hs=>(by cases hs),fun x hx=>(by cases hx),set_runs I g hin ⟨g.name hR.peer,hR.other,hR.time,hR.kold.mono g.next,hR.minold.mono g.next,hR.mold.mono g.next⟩⟩
theorem inv_shareO {L:List Int} {E N:Nat} {w:World} (I:Inv L E w) (hw:w.fit N) {me:Int} (hme:U me) (h1me:1≤me) {m:Msg} (hf:(shareO w me m).1.form) (hE:nx (shareO w me m).1≤E):Inv L E (shareO w me m).1:=by
 by_cases he:(shareO w me m).2=0
 rotate_left 1
 ·rw [shareO_err he];exact I
 obtain ⟨i,h1,h2,h3,hin,h4⟩:=shareO_T I.form.right hme he
 obtain ⟨hi,r1,r2,r3,r4⟩:=wait_run (show (personW w me).runs.findIdx? (waitM 2 1 m.run)=some i from h1)
 have hR:=run_in I hin hi
 have hO:=open_sh9 I (a:=me) ⟨h1me,hin⟩ h2
 rw [h4] at hE hf ⊢
 refine inv_step I (by decide) hE hin rfl rfl hf (fun h=>absurd h n42) (fun h=>?_) (fun g hx=>?_)
 ·rcases h with h|h
  ·exact absurd h.1 n41
  ·exact absurd h.1 n43
 have d:=g.drawn I.d
 have z:=d.small (x:=0) (by decide)
 have ko:old L E (nx w) (oO w me m).1.k:=hO.1
 have hne:me≠(runAt (personW w me).runs i).peer:=fun e=>hR.other (by rw [nat_of hme];exact e.symm)
 exact ⟨⟨⟨g.name ⟨h1me,hin⟩,g.name hR.peer,hne⟩,t0,ko.mono g.next,hR.minold.mono g.next,hR.mold.mono g.next⟩,fun s hs=>(by cases hs),fun x hx=>(by cases hx),set_runs I g hin ⟨g.name hR.peer,hR.other,hR.time,ko.mono g.next,hR.minold.mono g.next,hR.mold.mono g.next⟩⟩
theorem inv_shareB {L:List Int} {E N:Nat} {w:World} (I:Inv L E w) (hw:w.fit N) {me:Int} (hme:U me) (h1me:1≤me) {m:Msg} (pr:Pub L E w m.run) (pb:Pub L E w m.box) (hf:(shareB w me m).1.form) (hE:nx (shareB w me m).1≤E):Inv L E (shareB w me m).1:=by
 by_cases he:(shareB w me m).2=0
 rotate_left 1
 ·rw [shareB_err he];exact I
 obtain ⟨i,h1,h2,h3,hin,h4⟩:=shareB_T I.form.right hme he
 obtain ⟨hi,r1,r2,r3,r4⟩:=wait_run (show (personW w me).runs.findIdx? (waitM 2 2 m.run)=some i from h1)
 have hR:=run_in I hin hi
 have hO:=open_sh8 I (b:=me) ⟨h1me,hin⟩ h2
 rw [h4] at hE hf ⊢
 refine inv_step I (by decide) hE hin rfl rfl hf (fun h=>absurd h n42) (fun h=>?_) (fun g hx=>?_)
 ·rcases h with h|h
  ·exact absurd h.1 n41
  ·exact absurd h.1 n43
 have d:=g.drawn I.d
 have z:=d.small (x:=0) (by decide)
 have ko:old L E (nx w) (bO w me m).1.k:=hO.1
 have hne:(runAt (personW w me).runs i).peer≠me:=fun e=>hR.other (by rw [nat_of hme];exact e)
 exact ⟨⟨⟨g.name hR.peer,g.name ⟨h1me,hin⟩,hne⟩,t0,ko.mono g.next,hR.minold.mono g.next,hR.mold.mono g.next⟩,fun s hs=>(by cases hs),grams_one (msgWs_pub d (by simp) (g.pub I.evs pr) z z z (g.pub I.evs pb) z),set_runs I g hin ⟨g.name hR.peer,hR.other,hR.time,ko.mono g.next,hR.minold.mono g.next,hR.mold.mono g.next⟩⟩
theorem inv_firstB {L:List Int} {E N:Nat} {w:World} (I:Inv L E w) (hw:w.fit N) {me:Int} (hme:U me) {m:Msg} (hma:U m.a) (pr:Pub L E w m.run) (pb:Pub L E w m.box) (hf:(firstB w me m).1.form) (hE:nx (firstB w me m).1≤E):Inv L E (firstB w me m).1:=by
 by_cases he:(firstB w me m).2=0
 rotate_left 1
 ·rw [firstB_err he];exact I
 have h0:=I.form.next0
 obtain ⟨h1,h2,h3,h4,h5,h6⟩:=firstB_T I.form.right hme he
 obtain ⟨na,nb,nab⟩:=pair_names hma hme h2
 rw [h6] at hE hf ⊢
 refine inv_step I (by decide) hE nb.2 rfl rfl hf (fun h=>absurd h n32) (fun _=>⟨0,by decide,by decide,rfl⟩) (fun g hx=>?_)
 have d:=g.drawn I.d
 have hle:=g.le
 rw [hx] at hle
 have z:=d.small (x:=0) (by decide)
 have o0:=old_dAt I.d h0 (i:=0) (by decide) (by rw [hx];simp) g.le
 have p1:Pub L E _ (dAt w 1):=g.pub_dAt I.d h0 (i:=1) (by decide) (by rw [hx];simp) (fun f hf=>by
  have:=last_ev hf
  subst this
  exact ⟨fun h=>absurd h n32,fun _=>dAt_ne I.d h0 (i:=0) (j:=1) (by decide) (by decide) (by decide) (by simp at hle ⊢;omega) (by simp at hle ⊢;omega)⟩)
 have pr':=g.pub I.evs pr
 refine ⟨⟨⟨g.name na,g.name nb,nab⟩,t0,z.1,o0,pr'.1⟩,fun s hs=>?_,grams_one (msgWs_pub d (by simp) pr' (name_pub d (g.name na)) (name_pub d (g.name nb)) z (g.pub I.evs pb) p1),?_⟩
 ·simp only [List.mem_singleton] at hs
  subst hs
  exact .inr (.or2 _ (new_mem _ _ _ _ _ _ _) rfl rfl rfl (by rw [g.keyOf];rfl) rfl rfl pr')
 ·exact push_runs I g nb.2 rfl ⟨g.name na,by rw [nat_of hme];exact nab,t0,z.1,o0,pr'.1⟩
end Ch
