import Derived.Test.YtaebkmmjjabnaaaGreatDoorZ13
set_option maxRecDepth 100000
set_option maxHeartbeats 4000000
set_option linter.unusedSimpArgs false
set_option linter.unusedVariables false
namespace Ch
open Go Go.Ab Go.Proofs.Tryz
theorem kept_hon {w v:World} (k:Kept w v) {a:Int} (h:hon v a):hon w a:=by
 have:=(k.ppl a.toNat).corrupt
 unfold hon personW at h ⊢
 cases hc:(getP w.people a.toNat).corrupt
 ·rfl
 ·rw [this hc] at h;cases h
theorem kept_leak {w v:World} (k:Kept w v) {x:Int} (h:unleaked v x):unleaked w x:=by
 obtain ⟨q,hq⟩:=k.leaks
 intro l hl
 exact h l (by rw [hq];exact List.mem_append_left _ hl)
theorem secret_plain {L:List Int} {E:Nat} {w v:World} (I:Inv L E w) (k:Kept w v) {e:Event} (he:e∈w.log) (h2:e.kind=2) (ha:hon v e.a) (hb:hon v e.b) (hl:unleaked v e.k):¬ known w e.k:=fun h =>
 known_pub I h ⟨.sess e,⟨he,h2⟩,rfl,kept_hon k ha,kept_hon k hb,kept_leak k hl⟩
def rsafeM (w:World) (e:Event):Bool:=e.kind==2 && ((rhonest w.people e.a && rhonest w.people e.b) && !leakedM w.leaks e.k)
theorem rSafe_spec (w:World) (e:Event) (hp:w.people.length≤1099511627776) (hl:w.leaks.length≤1099511627776):Spec PP GG 45 [w.v,e.v] (.bool (rsafeM w e)) []:=by
 obtain ⟨ek,ep,er,ea,eb,k,e2,e3,e4,e5⟩:=e
 refine Qs func45 ?_
 intro w0 M0
 simp only [f45,lf,z,seval]
 first|refine brk (fun h=>?_) (fun h=>?_)|fail
 ·simp only [h,z,seval]
  (refine CU (Honest_spec w ea eb hp) (h:=?_);simp only [z,seval])
  first|refine brk (fun h=>?_) (fun h=>?_)|fail
  ·simp only [h,z,seval]
   (refine CU (Leaked_spec w k hl) (h:=?_);simp only [z,seval])
   (refine Qf ?_;simp only [z,seval])
   simp_all [rsafeM]
  ·simp only [h,z,seval]
   (refine Qf ?_;simp only [z,seval])
   simp_all [rsafeM]
 ·simp only [h,z,seval]
  (refine Qf ?_;simp only [z,seval])
  simp_all [rsafeM]
theorem rsafe_right {w:World} (h:Right10 w.people=true) {e:Event} (ha:U e.a) (hb:U e.b):rsafeM w e=safeM w e:=by
 simp only [rsafeM,safeM,rhonest_right h ha.1,rhonest_right h hb.1]
 cases (e.kind==2)<;>cases leakedM w.leaks e.k<;>cases honest w.people e.a<;>cases honest w.people e.b<;>rfl
theorem sec22 {L:List Int} {E:Nat} {w v:World} (I:Inv L E w) (kp:Kept w v) (hR:Right10 v.people=true) {e:Event} (he:e∈w.log) (ha:U e.a) (hb:U e.b):(rsafeM v e && knownM w e.k)=false:=by
 cases h:rsafeM v e && knownM w e.k
 ·rfl
 ·rw [Bool.and_eq_true] at h
  obtain ⟨h1,h2⟩:=h
  rw [rsafe_right hR ha hb] at h1
  simp only [safeM,Bool.and_eq_true,beq_iff_eq,Bool.not_eq_true'] at h1
  obtain ⟨k2,lk,h3,h4⟩:=h1
  exact absurd (known_iff.1 h2) (secret_plain I kp he k2 (hon_iff.1 h3) (hon_iff.1 h4) (leaked_iff.1 lk))
theorem open22 {L:List Int} {E:Nat} {w:World} (I:Inv L E w) (kp:Kept w w):w.log.filter (openE w)=[]:=by
 rw [List.filter_eq_nil_iff]
 intro e he h
 simp only [openE,safeM,Bool.and_eq_true,beq_iff_eq,Bool.not_eq_true'] at h
 obtain ⟨⟨k2,lk,h3,h4⟩,h2⟩:=h
 exact absurd (known_iff.1 h2) (secret_plain I kp he k2 (hon_iff.1 h3) (hon_iff.1 h4) (leaked_iff.1 lk))
theorem KnowSecret_law (c:Conf) (hc:c.ok) (ls:List Int) (hl:LL U ls) (l:List Op) (ho:LL Op.ok l):Spec PP GG 14 [c.v,wordsV ls,opsV l] (.bool true) []:=by
 have hA:=L23.awake_spec_23
 have hF:=fits22_spec c ls l ho.1
 cases hf:fits22 c ls l with
 | false =>
   rw [hf] at hF
   refine Qs func14 ?_
   intro w0 M0
   simp only [f14,lf,z,seval]
   (refine CU hA (h:=?_);simp only [z,seval])
   (refine CU hF (h:=?_);simp only [z,seval])
   (refine CU hA (h:=?_);simp only [z,seval])
   (refine Qf ?_;simp only [z,seval])
 | true =>
 rw [hf] at hF
 simp only [fits22,Bool.and_eq_true,decide_eq_true_eq] at hf
 obtain ⟨hm,h1000,h22⟩:=hf
 have h200:=few22_len h22
 have hlw:=few22_words h22
 obtain ⟨n,m,hn,hr,n1,n6,m1,m8,hfit,hform⟩:=fresh22 hm hc hl (by omega)
 have hD:=pMay12_spec c
 rw [hm] at hD
 have hN:=wNew_spec c ls hl.2 n m hD n1 n6 hn hr m8
 have H:=runs22 hfit hform n6 ho h200
 have hR:=Run_spec _ l H (by omega)
 obtain ⟨a3,a4,a5⟩:=run_end H h200
 have hP:=fun k => @clean22 c hm hc ls hl (by omega) n m hn hr l ho h200 k
 have h00:0≤(newWorld c ls n m).draws.next:=hform.next0
 have hk0:(newWorld c ls n m).draws.next≤6:=by show (n:Int)≤6;omega
 clear hfit hform hD
 generalize newWorld c ls n m=W0 at *
 generalize hRW:runM W0 l=RW at *
 obtain ⟨W,es⟩:=RW
 simp only at hR a3 a4 a5 hP
 have hx0:0≤W.draws.next:=a4.next0
 cases c2:decide (W.draws.next > 2000) with
 | true =>
   refine Qs func14 ?_
   intro w0 M0
   simp only [f14,lf,z,seval]
   (refine CU hA (h:=?_);simp only [z,seval])
   (refine CU hF (h:=?_);simp only [z,seval])
   (refine CU hN (h:=?_);simp only [z,seval])
   (refine CU hR (h:=?_);simp only [z,seval])
   simp only [c2,z,seval]
   (refine Qf ?_;simp only [z,seval])
 | false =>
 obtain ⟨k,hk⟩:=Int.eq_ofNat_of_zero_le hx0
 have hk2:k≤3000:=by have:=of_decide_eq_false c2;omega
 have h6:=rClean_spec W l k hk (by omega) (by omega) (fun o ho=>by have:=hlw o ho;omega)
 cases c6:cleanM (rRow W.draws k) l with
 | false =>
   rw [c6] at h6
   refine Qs func14 ?_
   intro w0 M0
   simp only [f14,lf,z,seval]
   (refine CU hA (h:=?_);simp only [z,seval])
   (refine CU hF (h:=?_);simp only [z,seval])
   (refine CU hN (h:=?_);simp only [z,seval])
   (refine CU hR (h:=?_);simp only [z,seval])
   simp only [c2,z,seval]
   (refine CU h6 (h:=?_);simp only [z,seval])
   (refine Qf ?_;simp only [z,seval])
 | true =>
 rw [c6] at h6
 have hP:=hP k hk c6
 have hUW:∀ e∈W.log,U e.a∧U e.b:=fun e he=>by
  have:=a3.ok.2.2.2.2.2.1.2 e he
  exact ⟨this.2.2.2.1,this.2.2.2.2.1⟩
 have hRW10:=a4.right
 have hO:=Open_spec W (by have:=a3.log;omega) (by have:=a3.people;omega) (by have:=a3.leaks;omega) (by have:=a3.regs;have:=a3.seen;rw [List.length_append];omega) (fun q hq=>by
  rcases List.mem_append.1 hq with h|h
  ·have:=a3.reg q h;omega
  ·have:=a3.seens q h;omega) hUW
 obtain ⟨iE,tE,kE⟩:=hP l.length
 rw [List.take_length,hRW] at iE kE
 rw [open22 iE kE] at hO
 have hSf:=fun e=>rSafe_spec W e (by have:=a3.people;omega) (by have:=a3.leaks;omega)
 clear a3 a4 iE tE kE
 refine Qs func14 ?_
 intro w0 M0
 simp only [f14,lf,z,seval]
 (refine CU hA (h:=?_);simp only [z,seval])
 (refine CU hF (h:=?_);simp only [z,seval])
 (refine CU hN (h:=?_);simp only [z,seval])
 (refine CU hR (h:=?_);simp only [z,seval])
 simp only [c2,z,seval]
 (refine CU h6 (h:=?_);simp only [z,seval])
 simp only [List.map_nil,z,seval] at hO
 (refine CU hO (h:=?_);simp only [z,seval])
 refine RUNs_rangeS (l.length) (fun i (s:World)=>s=(runM W0 (l.take i)).1) (fun i _=>[(11,i64 i)]) (fun _ s=>[(1,.var s.cells)]) W0 ?_ (by simp only [z,seval];exact wk) rfl ?_
 ·rfl
 rintro ⟨i,s,hi,hs⟩
 simp only [z,seval]
 first|refine brk (fun h=>?_) (fun h=>?_)|fail
 rotate_left 1
 ·simp only [h,z,seval]
  (refine Qf ?_;simp only [z,seval])
 have hlt:i < l.length:=by have:=of_decide_eq_true h;omega
 obtain ⟨M,m1,m2,m3,m4,m5⟩:=H.at i
 have hnx:=congrArg Prod.fst (run_at W0 hlt)
 obtain ⟨iV,tV,kV⟩:=hP (i + 1)
 rw [← hs] at m3 m4 m5 hnx
 have hS:=Step_spec s m3 m1 m2 m4.right m4.box (rooms_ok m4).1 (rooms_ok m4).2 l[i]
 have hvf:=stepM_fit m3 m1 m2 (H.ok _ (List.getElem_mem hlt))
 rw [hnx] at iV kV
 have g:=getMap Op.v l hlt
 have wi:=w64s (i:=i) (by omega)
 clear m3 m4 m5
 simp only at hnx
 generalize stepM s l[i]=R at hS hnx hvf iV kV
 obtain ⟨v,e⟩:=R
 simp only at hS hnx hvf iV kV
 have hKn:=fun y=>Known_spec v y (by have:=hvf.regs;have:=hvf.seen;rw [List.length_append];omega) (fun q hq=>by
  rcases List.mem_append.1 hq with h|h
  ·have:=hvf.reg q h;omega
  ·have:=hvf.seens q h;omega)
 have hB:∀ e∈v.log,(rsafeM W e && knownM v e.k)=false:=fun e he=>by
  have:=hvf.ok.2.2.2.2.2.1.2 e he
  exact sec22 iV kV hRW10 he this.2.2.2.1 this.2.2.2.2.1
 have hvl:=hvf.log
 clear iV kV tV hvf
 simp only [mv] at g
 simp only [h,z,seval]
 (refine Qw 1 ?_;simp only [z,seval])
 simp only [g,z,seval]
 (refine DU hS (h:=?_);simp only [z,seval])
 (refine ⟨by kernel_rfl,?_⟩)
 try simp only [z,seval]
 refine RUNs_rangeS (v.log.length) (fun _ (_:Unit)=>True) (fun j _=>[(12,i64 j)]) (fun _ _=>[]) () ?_ (by simp only [z,seval];exact wk) rfl ?_
 ·trivial
 rintro ⟨j,_,hj,-⟩
 simp only [z,seval]
 first|refine brk (fun h=>?_) (fun h=>?_)|fail
 ·have hjl:j < v.log.length:=by have:=of_decide_eq_true h;omega
  have ge:=getMap Event.v v.log hjl
  have hBe:=hB _ (List.getElem_mem hjl)
  have wj:=w64s (i:=j) (by omega)
  generalize v.log[j]=q at ge hBe
  have hSq:=hSf q
  have hKq:=hKn q.k
  simp only [mv] at ge hSq
  simp only [h,z,seval]
  cases cs:rsafeM W q with
  | false =>
    rw [cs] at hSq
    (refine Qw 0 ?_;simp only [z,seval])
    simp only [ge,z,seval]
    (refine DU hSq (h:=?_);simp only [z,seval])
    (refine ⟨by kernel_rfl,?_⟩)
    try simp only [wj,z,seval]
    (refine NX () ?_ (by rfl) hjl ?_;simp only [z,seval];exact wk)
    trivial
  | true =>
    rw [cs] at hSq hBe
    rw [Bool.true_and] at hBe
    rw [hBe] at hKq
    (refine Qw 0 ?_;simp only [z,seval])
    simp only [ge,z,seval]
    (refine DU hSq (h:=?_);simp only [z,seval])
    simp only [ge,z,seval]
    (refine DU hKq (h:=?_);simp only [z,seval])
    (refine ⟨by kernel_rfl,?_⟩)
    try simp only [wj,z,seval]
    (refine NX () ?_ (by rfl) hjl ?_;simp only [z,seval];exact wk)
    trivial
 ·simp only [h,wi,z,seval]
  (refine NX v ?_ (by rfl) hlt ?_;simp only [z,seval];exact wk)
  exact hnx.symm
end Ch
