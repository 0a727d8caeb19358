import Derived.Test.YtaebkmmjjabnaaaGreatDoorW25
import Derived.DataReads
import GoSem.ClaimChange
import Derived.ProofKit
import Derived.SizedLaws
import Derived.Handed
import Derived.LaidMore
import Derived.LaidLaws
import Derived.OpenShut
import Derived.Stop.Joined
set_option maxRecDepth 100000
set_option maxHeartbeats 4000000
set_option linter.unusedSimpArgs false
set_option linter.unusedVariables false
namespace Ch
open Go Go.Ab Go.Proofs.Tryz
theorem Step_13 (w:World) {N:Nat} (hw:w.fit N) (h5:64≤N) (hN:N≤400000000000) (hr:Right10 w.people=true) (hb7:Right07 w.box=true) (hnet:0≤w.net.room∧w.net.room≤1099511627776) (hpl:w.people.length≤255) (a b c d:Int) (ws:List Int):Spec PP GG 25 [w.v,Op.v ⟨13,a,b,c,d,ws⟩] (.tup [(double13 w ⟨13,a,b,c,d,ws⟩).1.v,i64 (double13 w ⟨13,a,b,c,d,ws⟩).2]) []:=by
 have hIs:=advIs_spec ⟨13,a,b,c,d,ws⟩
 rw [show isAdv ⟨13,a,b,c,d,ws⟩=false from rfl] at hIs
 have hgr:=hw.grams
 have hpp:=hw.people
 have hDb:=nDouble_spec w.net a hnet (by omega)
 rw [double_w] at hDb
 unfold double13
 cases ci:inNet w a with
 | false =>
   rw [ci] at hDb
   simp only [cond_false] at hDb ⊢
   refine Qs func25 ?_
   intro w0 M0
   simp only [f25,lf,z,seval]
   (refine CU hIs (h:=?_);simp only [z,seval])
   apply once
   ·intro key
    (refine Qa 9 ?_)
    repeat' (first|(refine Qk ?_)|(refine QD 4 0 ?_)|(refine Qi 0 1 ?_ ?_)|(refine Qi 0 2 ?_ ?_)|(refine Qj 0 ?_)|(refine Qj 1 ?_)|(refine Qj 2 ?_)|(refine Qj 3 ?_)|(refine qc func69 ?_;simp only [f69,lf,z,seval])|(refine qc func116 ?_;simp only [f116,lf,z,seval])|(simp only [z,seval]))
    all_goals exact key
   ·(refine qc func121 ?_;simp only [f121,lf,z,seval])
    (refine CU hDb (h:=?_);simp only [z,seval])
    (refine Qf ?_;simp only [z,seval])
 | true =>
 rw [ci] at hDb
 cases cf:decide (w.net.room - (w.net.grams.length:Int) < 1) with
 | true =>
   rw [cf] at hDb
   simp only [cond_true] at hDb ⊢
   refine Qs func25 ?_
   intro w0 M0
   simp only [f25,lf,z,seval]
   (refine CU hIs (h:=?_);simp only [z,seval])
   apply once
   ·intro key
    (refine Qa 9 ?_)
    repeat' (first|(refine Qk ?_)|(refine QD 4 0 ?_)|(refine Qi 0 1 ?_ ?_)|(refine Qi 0 2 ?_ ?_)|(refine Qj 0 ?_)|(refine Qj 1 ?_)|(refine Qj 2 ?_)|(refine Qj 3 ?_)|(refine qc func69 ?_;simp only [f69,lf,z,seval])|(refine qc func116 ?_;simp only [f116,lf,z,seval])|(simp only [z,seval]))
    all_goals exact key
   ·(refine qc func121 ?_;simp only [f121,lf,z,seval])
    (refine CU hDb (h:=?_);simp only [z,seval])
    (refine Qf ?_;simp only [z,seval])
 | false =>
   rw [cf] at hDb
   simp only [cond_true,cond_false] at hDb ⊢
   refine Qs func25 ?_
   intro w0 M0
   simp only [f25,lf,z,seval]
   (refine CU hIs (h:=?_);simp only [z,seval])
   apply once
   ·intro key
    (refine Qa 9 ?_)
    repeat' (first|(refine Qk ?_)|(refine QD 4 0 ?_)|(refine Qi 0 1 ?_ ?_)|(refine Qi 0 2 ?_ ?_)|(refine Qj 0 ?_)|(refine Qj 1 ?_)|(refine Qj 2 ?_)|(refine Qj 3 ?_)|(refine qc func69 ?_;simp only [f69,lf,z,seval])|(refine qc func116 ?_;simp only [f116,lf,z,seval])|(simp only [z,seval]))
    all_goals exact key
   ·(refine qc func121 ?_;simp only [f121,lf,z,seval])
    (refine CU hDb (h:=?_);simp only [z,seval])
    (refine Qf ?_;simp only [z,seval])
    try rfl
theorem Step_14 (w:World) {N:Nat} (hw:w.fit N) (h5:64≤N) (hN:N≤400000000000) (hr:Right10 w.people=true) (hb7:Right07 w.box=true) (hnet:0≤w.net.room∧w.net.room≤1099511627776) (hpl:w.people.length≤255) (a b c d:Int) (ws:List Int):Spec PP GG 25 [w.v,Op.v ⟨14,a,b,c,d,ws⟩] (.tup [(inject14 w ⟨14,a,b,c,d,ws⟩).1.v,i64 (inject14 w ⟨14,a,b,c,d,ws⟩).2]) []:=by
 have hIs:=advIs_spec ⟨14,a,b,c,d,ws⟩
 rw [show isAdv ⟨14,a,b,c,d,ws⟩=false from rfl] at hIs
 have hgr:=hw.grams
 have hpp:=hw.people
 rcases reg_cases w a with ⟨a1,ae⟩|⟨a1,a2,ae⟩|⟨a,rfl,ah,a1,a2,ae,ag⟩<;>cases b1:decide (b≥0)<;>cases b2:decide (b≤255)
 all_goals try
  (rw [show inject14 w ⟨14,a,b,c,d,ws⟩=(w,1) by unfold inject14;simp only [ae]]
   refine Qs func25 ?_
   intro w0 M0
   simp only [f25,lf,z,seval]
   (refine CU hIs (h:=?_);simp only [z,seval])
   apply once
   ·intro key
    (refine Qa 9 ?_)
    repeat' (first|(refine Qk ?_)|(refine QD 4 0 ?_)|(refine Qi 0 1 ?_ ?_)|(refine Qi 0 2 ?_ ?_)|(refine Qj 0 ?_)|(refine Qj 1 ?_)|(refine Qj 2 ?_)|(refine Qj 3 ?_)|(refine qc func69 ?_;simp only [f69,lf,z,seval])|(refine qc func116 ?_;simp only [f116,lf,z,seval])|(simp only [z,seval]))
    all_goals exact key
   ·(refine qc func122 ?_;simp only [f122,lf,z,seval])
    (refine qc func178 ?_;simp only [f178,lf,z,seval])
    simp only [b1,b2,z,seval]
    try (first|simp only [a1,a2,ag,z,seval]|simp only [a1,a2,z,seval]|simp only [a1,z,seval])
    (refine Qf ?_;simp only [z,seval])
   done)
 all_goals try
  (rw [show inject14 w ⟨14,a,b,c,d,ws⟩=(w,5) by unfold inject14;simp only [ae,nameB,b1,b2];rfl]
   refine Qs func25 ?_
   intro w0 M0
   simp only [f25,lf,z,seval]
   (refine CU hIs (h:=?_);simp only [z,seval])
   apply once
   ·intro key
    (refine Qa 9 ?_)
    repeat' (first|(refine Qk ?_)|(refine QD 4 0 ?_)|(refine Qi 0 1 ?_ ?_)|(refine Qi 0 2 ?_ ?_)|(refine Qj 0 ?_)|(refine Qj 1 ?_)|(refine Qj 2 ?_)|(refine Qj 3 ?_)|(refine qc func69 ?_;simp only [f69,lf,z,seval])|(refine qc func116 ?_;simp only [f116,lf,z,seval])|(simp only [z,seval]))
    all_goals exact key
   ·(refine qc func122 ?_;simp only [f122,lf,z,seval])
    (refine qc func178 ?_;simp only [f178,lf,z,seval])
    simp only [b1,b2,z,seval]
    try (first|simp only [a1,a2,ag,z,seval]|simp only [a1,a2,z,seval]|simp only [a1,z,seval])
    (refine Qf ?_;simp only [z,seval])
   done)
 have hl:=regM_ok hw ae
 rw [show inject14 w ⟨14,a,b,c,d,ws⟩=deliverM w b w.regs[a] by unfold inject14;simp only [ae,nameB_of b1 b2];rfl]
 have h1:=Deliver_spec w b w.regs[a] hw (by omega) hN (nameB_U (nameB_of b1 b2)) hl.1.2 (by have:=hl.2;omega) hr hb7
 have wb:=nameU b1 b2
 refine Qs func25 ?_
 intro w0 M0
 simp only [f25,lf,z,seval]
 (refine CU hIs (h:=?_);simp only [z,seval])
 apply once
 ·intro key
  (refine Qa 9 ?_)
  repeat' (first|(refine Qk ?_)|(refine QD 4 0 ?_)|(refine Qi 0 1 ?_ ?_)|(refine Qi 0 2 ?_ ?_)|(refine Qj 0 ?_)|(refine Qj 1 ?_)|(refine Qj 2 ?_)|(refine Qj 3 ?_)|(refine qc func69 ?_;simp only [f69,lf,z,seval])|(refine qc func116 ?_;simp only [f116,lf,z,seval])|(simp only [z,seval]))
  all_goals exact key
 ·(refine qc func122 ?_;simp only [f122,lf,z,seval])
  (refine qc func178 ?_;simp only [f178,lf,z,seval])
  simp only [b1,b2,wb,z,seval]
  try simp only [a1,a2,z,seval]
  (refine Qw 0 ?_;simp only [z,seval])
  simp only [ag,z,seval]
  (refine DU h1 (h:=?_);simp only [z,seval])
  (refine ⟨by kernel_rfl,?_⟩)
  try simp only [z,seval]
  (refine Qf ?_;simp only [z,seval])
theorem right_len7 {l:List Person} (h:Right10 l=true):l.length≤7:=by
 simp only [Right10,Bool.and_eq_true,decide_eq_true_eq] at h
 omega
theorem Step_none (w:World) (k a b c d:Int) (ws:List Int) (h:k < 0∨14 < k):Spec PP GG 25 [w.v,Op.v ⟨k,a,b,c,d,ws⟩] (.tup [w.v,i64 1]) []:=by
 have hIs:=advIs_spec ⟨k,a,b,c,d,ws⟩
 have hn:isAdv ⟨k,a,b,c,d,ws⟩=false:=by
  unfold isAdv
  rw [Bool.and_eq_false_iff]
  rcases h with h|h
  ·exact .inl (decide_eq_false (by simp only;omega))
  ·exact .inr (decide_eq_false (by simp only;omega))
 rw [hn] at hIs
 have q:∀ n:Int,0≤n→n≤14→(k==n)=false:=fun n h0 h1=>by rw [beq_eq_false_iff_ne];omega
 have q8:=q 8 (by decide) (by decide)
 have q9:=q 9 (by decide) (by decide)
 have q10:=q 10 (by decide) (by decide)
 have q11:=q 11 (by decide) (by decide)
 have q12:=q 12 (by decide) (by decide)
 have q13:=q 13 (by decide) (by decide)
 have q14:=q 14 (by decide) (by decide)
 refine Qs func25 ?_
 intro w0 M0
 simp only [f25,lf,z,seval]
 (refine CU hIs (h:=?_);simp only [z,seval])
 apply once
 ·intro key
  (refine Qa 9 ?_)
  repeat' (first|(refine Qk ?_)|(refine QD 4 0 ?_)|(refine Qi 0 1 ?_ ?_)|(refine Qi 0 2 ?_ ?_)|(refine Qj 0 ?_)|(refine Qj 1 ?_)|(refine Qj 2 ?_)|(refine Qj 3 ?_)|(refine qc func69 ?_;simp only [f69,lf,z,seval])|(refine qc func116 ?_;simp only [f116,lf,z,seval])|(simp only [q8,q9,q10,q11,q12,q13,q14,z,seval]))
  all_goals exact key
 ·try simp only [z,seval]
  (refine Qf ?_;simp only [z,seval])
theorem Step_spec (w:World) {N:Nat} (hw:w.fit N) (h5:64≤N) (hN:N≤400000000000) (hr:Right10 w.people=true) (hb7:Right07 w.box=true) (hbr:0≤w.box.room∧w.box.room≤1099511627776) (hnet:0≤w.net.room∧w.net.room≤1099511627776) (o:Op):Spec PP GG 25 [w.v,o.v] (.tup [(stepM w o).1.v,i64 (stepM w o).2]) []:=by
 have hpl:=right_len7 hr
 cases hadv:isAdv o with
 | true =>
   have hIs:=advIs_spec o
   rw [hadv] at hIs
   have hD:=advDo_spec w hw h5 hN hbr (by omega) o hadv
   rw [step_adv hadv]
   generalize advM w o=R at hD
   obtain ⟨v,e⟩:=R
   obtain ⟨k,a,b,c,d,ws⟩:=o
   refine Qs func25 ?_
   intro w0 M0
   simp only [f25,lf,z,seval]
   (refine CU hIs (h:=?_);simp only [z,seval])
   (refine CU hD (h:=?_);simp only [z,seval])
   (refine Qf ?_;simp only [z,seval])
 | false =>
   obtain ⟨k,a,b,c,d,ws⟩:=o
   by_cases hk:k < 0∨14 < k
   ·rw [step_none hk]
    exact Step_none w k a b c d ws hk
   have h7:¬ k≤7:=fun h=>by
    unfold isAdv at hadv
    rw [Bool.and_eq_false_iff] at hadv
    rcases hadv with h'|h'
    ·have:=of_decide_eq_false h';simp only at this;omega
    ·have:=of_decide_eq_false h';simp only at this;omega
   rcases kinds15 hk h7 with rfl|rfl|rfl|rfl|rfl|rfl|rfl
   ·exact Step_8 w hw h5 hN hr hb7 hnet (by omega) a b c d ws
   ·exact Step_9 w hw h5 hN hr hb7 hnet (by omega) a b c d ws
   ·exact Step_10 w hw h5 hN hr hb7 hnet (by omega) a b c d ws
   ·exact Step_11 w hw h5 hN hr hb7 hnet (by omega) a b c d ws
   ·exact Step_12 w hw h5 hN hr hb7 hnet (by omega) a b c d ws
   ·exact Step_13 w hw h5 hN hr hb7 hnet (by omega) a b c d ws
   ·exact Step_14 w hw h5 hN hr hb7 hnet (by omega) a b c d ws
theorem np_get (l:List Int):∀ n i,i≤n→n≤6→getP (newPeople l 0 n) i=⟨i,if i=0 then 0 else drawAt l (i - 1),0,[],[],false⟩
 | 0,i,hi,_=>by
   obtain rfl:i=0:=by omega
   rfl
 | n + 1,i,hi,hn=>by
   by_cases h:i≤n
   ·have:=np_get l n i h (by omega)
    have hl:i < (newPeople l 0 n).length:=by rw [newPeople_len];omega
    have e:getP (newPeople l 0 (n + 1)) i=getP (newPeople l 0 n) i:=by
     simp only [getP,newPeople]
     rw [List.getElem?_append_left hl]
    rw [e,this]
   ·obtain rfl:i=n + 1:=by omega
    have e:getP (newPeople l 0 (n + 1)) (n + 1)=⟨IntKind.u32.wrap ((n + 1:Nat):Int),drawAt l (0 + n),0,[],[],false⟩:=by
     simp only [getP,newPeople]
     rw [List.getElem?_append_right (by rw [newPeople_len];omega),newPeople_len]
     simp
    rw [e,IntKind.wrap_u32,if_neg (by omega)]
    congr 1
    ·omega
    ·simp
theorem np_mem {l:List Int} {n:Nat} (hn:n≤6) {p:Person} (hp:p∈newPeople l 0 n):∃ i,i≤n∧p=⟨(i:Nat),if i=0 then 0 else drawAt l (i - 1),0,[],[],false⟩:=by
 obtain ⟨i,hi,rfl⟩:=List.getElem_of_mem hp
 have hi':=hi
 rw [newPeople_len] at hi'
 refine ⟨i,by omega,?_⟩
 rw [← np_get l n i (by omega) hn]
 simp only [getP,List.getElem?_eq_getElem hi,Option.getD_some]
theorem may_all {c:Conf} (h:May12 c=true):1≤c.people∧c.people≤6∧(0≤c.box∧c.box≤64)∧(0≤c.used∧c.used≤64)∧(0≤c.runs∧c.runs≤64)∧(0≤c.net∧c.net≤64)∧1≤c.regs∧c.regs≤8:=by
 simp only [May12,room,Bool.and_eq_true,decide_eq_true_eq] at h
 omega
theorem np_right (l:List Int) {n:Nat} (h1:1≤n) (h6:n≤6):Right10 (newPeople l 0 n)=true:=by
 rcases (by omega:n=1∨n=2∨n=3∨n=4∨n=5∨n=6) with rfl|rfl|rfl|rfl|rfl|rfl<;>rfl
theorem new_form {c:Conf} (h:May12 c=true) (l:List Int) {n m:Nat} (h1:c.people=n) (h2:c.regs=m):(newWorld c l n m).form:=by
 obtain ⟨a1,a2,a3,a4,a5,a6,a7,a8⟩:=may_all h
 refine ⟨h,?_,rfl,?_,rfl,np_right l (by omega) (by omega),?_,?_,?_,?_,?_,?_,?_,?_⟩
 ·show Right07 ⟨c.box,[]⟩=true
  simp only [Right07,Bool.and_eq_true,decide_eq_true_eq]
  exact ⟨⟨⟨a3.1,a3.2⟩,by simpa using a3.1⟩,rfl⟩
 ·show Right06 ⟨c.net,[],[]⟩=true
  simp only [Right06,Bool.and_eq_true,decide_eq_true_eq]
  exact ⟨⟨a6.1,a6.2⟩,by simpa using a6.1⟩
 ·show ((newPeople l 0 n).length:Int)=c.people + 1
  rw [newPeople_len];omega
 ·show ((List.replicate m ([]:List Int)).length:Int)=c.regs
  rw [List.length_replicate];omega
 ·show (0:Int)≤(n:Int);omega
 ·show (n:Int)≤1048576;omega
 ·intro p hp
  obtain ⟨i,hi,rfl⟩:=np_mem (by omega) hp
  show okP c _=true
  simp only [okP,Right08,Right09,Bool.and_eq_true,decide_eq_true_eq]
  exact ⟨⟨⟨rfl,by simpa using a4.1⟩,⟨rfl,by simpa using a5.1⟩⟩,by decide⟩
 ·intro x hx
  have:x=[]:=(List.mem_replicate.1 (show x∈List.replicate m [] from hx)).2
  subst this;simp
 ·intro x hx;cases hx
 ·intro x hx;cases hx
theorem new_fit {c:Conf} (h:May12 c=true) (hc:c.ok) {l:List Int} (hl:LL U l) {n m N:Nat} (h1:c.people=n) (h2:c.regs=m) (hN:10≤N) (hn:l.length≤N):(newWorld c l n m).fit N:=by
 obtain ⟨a1,a2,a3,a4,a5,a6,a7,a8⟩:=may_all h
 have hreg:∀ x∈List.replicate m ([]:List Int),x=[]:=fun x hx=>(List.mem_replicate.1 hx).2
 have hp:∀ p∈newPeople l 0 n,Person.ok p∧p.used=[]∧p.runs=[]:=fun p hp=>by
  obtain ⟨i,hi,rfl⟩:=np_mem (by omega) hp
  refine ⟨⟨⟨by simp,by show (i:Int) < _;omega⟩,?_,(show U 0 by decide),⟨by simp,fun x hx=>by cases hx⟩,⟨by simp,fun x hx=>by cases hx⟩⟩,rfl,rfl⟩
  show U (if i=0 then 0 else drawAt l (i - 1))
  split
  ·decide
  ·exact drawAt_U hl.2 _
 have e1:∀ {α:Type} {p:α→Prop},LL p ([]:List α):=fun {α p}=>⟨by simp,fun x hx=>by cases hx⟩
 refine ⟨⟨hc,⟨hl,by show (_:Int)≤(n:Int);omega,by show (n:Int)≤_;omega⟩,⟨hc.2.2.1,e1⟩,⟨hc.2.2.2.2.2.1,e1,e1⟩,⟨?_,fun p h=>(hp p h).1⟩,e1,⟨?_,fun x hx=>?_⟩,e1⟩,?_,?_,?_,?_,hn,?_,?_,?_,?_,?_,?_,?_,fun p h=>?_,fun p h=>?_,?_,?_,fun x hx=>?_,?_⟩
 ·show (newPeople l 0 n).length≤_;rw [newPeople_len];omega
 ·show (List.replicate m ([]:List Int)).length≤_;rw [List.length_replicate];omega
 ·rw [hreg x hx];exact e1
 ·show (0:Int)≤(n:Int);omega
 ·show (n:Int)≤(N:Int);omega
 ·show 0≤c.box∧c.box≤_;omega
 ·show 0≤c.net∧c.net≤_;omega
 ·show (0:Nat)≤N;omega
 ·intro x hx;cases hx
 ·show (0:Nat)≤N;omega
 ·intro x hx;cases hx
 ·show (0:Nat)≤N;omega
 ·intro x hx;cases hx
 ·show (newPeople l 0 n).length≤N;rw [newPeople_len];omega
 ·rw [(hp p h).2.1];simp
 ·rw [(hp p h).2.2];simp
 ·show (0:Nat)≤N;omega
 ·show (List.replicate m ([]:List Int)).length≤N;rw [List.length_replicate];omega
 ·rw [hreg x hx];simp
 ·show (0:Nat)≤N;omega
end Ch

namespace Ch
open Go Go.Ab Go.Proofs.Tryz
namespace L20
def w0:World:=L17.w0
def m0:Msg:=⟨1,0,1,2,9,0,0⟩
def l0:List Int:=[1,1,1,3,1,1,4,1,2,5,1,9]
def wa:World:=(deliverM w0 0 l0).1
theorem w0_fit:w0.fit 21:=L17.w0_fit
theorem p0:msgPut m0=(l0,0):=by decide +kernel
theorem g0:deliverM w0 0 l0=(wa,0):=by
 have:(deliverM w0 0 l0).2=0:=by decide +kernel
 rw [← this];rfl
theorem g1:(deliverM w0 1 l0).2=4:=by decide +kernel
theorem g2:(deliverM w0 3 l0).2=5:=by decide +kernel
theorem g3:(deliverM w0 0 [1,1,1,3]).2=2:=by decide +kernel
theorem g4:deliverM wa 0 l0=(wa,8):=by
 have h:(deliverM wa 0 l0).2=8:=by decide +kernel
 exact Prod.ext (deliverM_err (w:=wa) (to:=0) (l:=l0) (by rw [h];decide)) h
theorem r0:Right10 w0.people=true:=by decide +kernel
theorem b0:Right07 w0.box=true:=by decide +kernel
end L20
def inE (e:Int):Prop:=0≤e∧e≤10
theorem i0:inE 0:=⟨by decide,by decide⟩
theorem i1:inE 1:=⟨by decide,by decide⟩
theorem i3:inE 3:=⟨by decide,by decide⟩
def dRow (l:List Int) (m n:Nat):List Int:=(List.range n).map fun i=>drawAt l (m + i)
theorem dRow_succ (l:List Int) (m i:Nat):dRow l m (i + 1)=dRow l m i++[drawAt l (m + i)]:=by simp [dRow,List.range_succ]
theorem dRow_len (l:List Int) (m n:Nat):(dRow l m n).length=n:=by simp [dRow]
theorem RUNs_rangeGd {P:Program} {G:Glob} {w0:Go.World} {M0:Nat→Nat→Prop} {R:Value→Go.World→Prop} {σ:Type} (n:Nat) (inv:Nat→σ→Prop) (I:List AB→Nat→σ→List V×List AB) (s0:σ) {body:Code} {k:List It} {fr:List V} {st:List (List V)} {H:List AB}
 (hinv:inv 0 s0) (h0:Weak fr H (I H 0 s0).1 (I H 0 s0).2) (hst:st.all (okL (I H 0 s0).2.length)=true)
 (round:∀ x:RSt σ n inv,RUNs P G w0 M0 R ⟨.code body::.inv (RJ P G w0 M0 R n inv (I H) x st)::k,(I H x.i x.s).1,st,(I H x.i x.s).2⟩):RUNs P G w0 M0 R ⟨.code (.loop body)::k,fr,st,H⟩ :=
 RUNs_range n inv (I H) s0 hinv h0 hst round
def dH (l:List Int) (m:Nat) (H:List AB) (i:Nat):Nat→List AB
 | 0=>H
 | j + 1=>(H.set 3 (.var [i64 (m + i:Nat)])).set 1 (.var [.row 7 j])++[.row 1 ((dRow l m i).map u32) j false]
theorem dH_zero (l:List Int) (m:Nat) (H:List AB) (i:Nat):dH l m H i 0=H:=rfl
theorem dH_succ (l:List Int) (m:Nat) (H:List AB) (i j:Nat):dH l m H i (j + 1)=(H.set 3 (.var [i64 (m + i:Nat)])).set 1 (.var [.row 7 j])++[.row 1 ((dRow l m i).map u32) j false]:=rfl
theorem dPeek_spec (ls:List Int) (hl:∀ x∈ls,U x) (m n:Nat) (hm:m≤1099511627776) (hn:n≤1099511627776):Spec PP GG 107 [Draws.v ⟨ls,m⟩,i64 n] (wordsV (dRow ls m n)) []:=by
 refine Qs func107 ?_
 intro w0 M0
 simp only [f107,lf,Draws.v,z,seval]
 (refine qc func168 ?_;simp only [f168,lf,z,seval])
 (refine RUNs_rangeFunc f208 func208 rfl (by kernel_rfl) rfl rfl ?_;intro D l;simp only [f208,lf,z,seval])
 have hmn:IntKind.i64.wrap ((m:Int) + (n:Int))=((m + n:Nat):Int):=by rw [w64 (by omega) (by omega)];omega
 simp only [hmn]
 refine RUNs_rangeGd n (fun i (c:Nat)=>i=c) (fun H i c=>([yieldV l,.ptr 3 0,.ptr 4 0,.ptr 2 0,.any,.any,.any,.any,.any,.any,.any,.any,.any,.any,.any,.any],dH ls m H i c)) 0 rfl ?_ rfl ?_
 ·exact wk
 rintro ⟨i,c,hi,rfl⟩
 have hA:=at_specU ⟨ls,(m:Int)⟩ hl (m + i)
 rw [Draws.v] at hA
 have hsu:=dRow_succ ls m i
 rcases i with _|j
 ·simp only [dH_zero,dH_succ,z,seval]
  refine CONDS_split (fun h=>?_) (fun h=>?_)
  ·have hlt:0 < n:=by have:=of_decide_eq_true h;omega
   simp only [z,seval]
   (refine CU hA (h:=?_);simp only [z,seval])
   (refine CALLS_yield 6 rfl rfl ?_;simp only [z,seval];refine RUNs_beg 6 rfl ?_;simp only [z,seval])
   (first|refine RUNs_rnd 6 rfl ?_|refine RUNs_rndj 6 rfl ?_;simp only [z,seval])
   have hw1:IntKind.i64.wrap ((m:Int) + 1)=((m + (0 + 1):Nat):Int):=by rw [w64 (by omega) (by omega)];omega
   have e:[u32 (drawAt ls (m + 0))]=(dRow ls m (0 + 1)).map u32:=by rw [hsu];rfl
   simp only [hw1,e,z,seval]
   (refine NX 1 ?_ (by rfl) hlt ?_;simp only [dH_zero,dH_succ,z,seval];exact wk)
   rfl
  ·have hlt:n=0:=by have:=of_decide_eq_false h;omega
   subst hlt
   simp only [z,seval]
   (refine RUNs_erf 6 rfl (by simp) ?_;simp only [z,seval])
   (refine RUNs_mk 5 rfl ?_;simp only [z,seval])
   (refine Qf ?_;simp only [z,seval])
   rfl
 ·simp only [dH_zero,dH_succ,z,seval]
  refine CONDS_split (fun h=>?_) (fun h=>?_)
  ·have hlt:j + 1 < n:=by have:=of_decide_eq_true h;omega
   simp only [z,seval]
   (refine CU hA (h:=?_);simp only [z,seval])
   (refine CALLS_yield 6 rfl rfl ?_;simp only [z,seval];refine RUNs_beg 6 rfl ?_;simp only [z,seval])
   refine OPC_ok ?_ ?_
   ·simp [dRow];omega
   simp only [z,seval]
   (first|refine RUNs_rnd 6 rfl ?_|refine RUNs_rndj 6 rfl ?_;simp only [z,seval])
   have hw1:IntKind.i64.wrap (((m + (j + 1):Nat):Int) + 1)=((m + (j + 1 + 1):Nat):Int):=by rw [w64 (by omega) (by omega)];omega
   have e:(dRow ls m (j + 1)).map u32++[u32 (drawAt ls (m + (j + 1)))]=(dRow ls m (j + 1 + 1)).map u32:=by rw [hsu,List.map_append];rfl
   simp only [hw1,e,z,seval]
   (refine NX (j + 2) ?_ (by rfl) hlt ?_;simp only [dH_zero,dH_succ,z,seval];exact wk)
   rfl
  ·have hlt:n=j + 1:=by have:=of_decide_eq_false h;omega
   subst hlt
   simp only [z,seval]
   (refine RUNs_erf 6 rfl (by simp) ?_;simp only [z,seval])
   (refine RUNs_mk 5 rfl ?_;simp only [z,seval])
   (refine Qf ?_;simp only [z,seval])
def rowP (keys:List Int):Nat→List Person
 | 0=>[⟨0,0,0,[],[],false⟩]
 | n + 1=>rowP keys n++[⟨IntKind.u32.wrap ((n + 1:Nat):Int),keys.getD n 0,0,[],[],false⟩]
theorem rowP_len (keys:List Int):∀ n,(rowP keys n).length=n + 1
 | 0=>rfl
 | n + 1=>by simp [rowP,rowP_len keys n]
theorem rowP_new (l:List Int):∀ (n N:Nat),n≤N→rowP (dRow l 0 N) n=newPeople l 0 n
 | 0,_,_=>rfl
 | n + 1,N,h=>by
   have e:(dRow l 0 N).getD n 0=drawAt l (0 + n):=by
    rw [List.getD_eq_getElem?_getD,List.getElem?_eq_getElem (by rw [dRow_len];omega)]
    simp [dRow]
   simp only [rowP,newPeople,rowP_new l n N (by omega),e]
def rowI (keys:List Int):Nat→List V×List AB
 | 0=>([.any,.any,.any,.sl [Person.v ⟨0,0,0,[],[],false⟩] .tight,.any,.any,.any,.any,wordsV keys,i64 keys.length,i64 0,.any,.any,.any,.any,.any,.any,.any,.any,.any,.any,.any,.any,.any,.any],[])
 | j + 1=>([.any,.any,.any,.row 0 j,.any,.any,.any,.any,wordsV keys,i64 keys.length,i64 ((j + 1:Nat):Int),.any,.any,.any,.any,.any,.any,.any,.any,.any,.any,.any,.any,.any,.any],[.row 6 ((rowP keys (j + 1)).map Person.v) j false])
theorem prow_spec (keys:List Int) (hk:keys.length≤1000):Spec PP GG 108 [wordsV keys] (peopleV (rowP keys keys.length)) []:=by
 refine Qs func108 ?_
 intro w0 M0
 simp only [f108,lf,z,seval]
 refine RUNs_range keys.length (fun _ (_:Unit)=>True) (fun i _=>rowI keys i) () trivial ?_ rfl ?_
 ·exact wk
 rintro ⟨i,_,hi,_⟩
 rcases i with _|j
 ·simp only [rowI,z,seval]
  first|refine brk (fun h=>?_) (fun h=>?_)|fail
  ·have hlt:0 < keys.length:=by simpa using h
   have g:=getMap u32 keys hlt
   have w1:IntKind.i64.wrap (0 + 1)=((0 + 1:Nat):Int):=by decide
   have e:[Person.v ⟨0,0,0,[],[],false⟩]++[Person.v ⟨IntKind.u32.wrap ((0 + 1:Nat):Int),keys[0],0,[],[],false⟩]=(rowP keys 1).map Person.v:=by
    simp [rowP,hlt]
   simp only [mv,List.map_nil] at g e
   simp only [h,g,w1,z,seval]
   (refine NX () ?_ (by rfl) hlt ?_;simp only [rowI,← e,z,seval];exact wk)
   trivial
  ·have:keys=[]:=List.eq_nil_of_length_eq_zero (by simp at h;simp [h])
   subst this
   simp only [h,z,seval]
   (refine Qf ?_;simp only [z,seval])
   rfl
 ·simp only [rowI,z,seval]
  first|refine brk (fun h=>?_) (fun h=>?_)|fail
  ·have hlt:j + 1 < keys.length:=by have:=of_decide_eq_true h;omega
   have g:=getMap u32 keys hlt
   have w1:IntKind.i64.wrap (((j + 1:Nat):Int) + 1)=((j + 1 + 1:Nat):Int):=w64s (by omega)
   have e:(rowP keys (j + 1)).map Person.v++[Person.v ⟨IntKind.u32.wrap ((j + 1 + 1:Nat):Int),keys[j + 1],0,[],[],false⟩]=(rowP keys (j + 1 + 1)).map Person.v:=by
    rw [rowP.eq_2 keys (j + 1),List.map_append]
    simp [hlt]
   simp only [mv,List.map_nil] at g e
   simp only [h,g,w1,z,seval]
   refine OPC_ok ?_ ?_
   ·simp [rowP_len];omega
   simp only [e,w1,z,seval]
   (refine NX () ?_ (by rfl) hlt ?_;simp only [rowI,z,seval];exact wk)
   trivial
  ·have:j + 1=keys.length:=by have:=of_decide_eq_false h;omega
   simp only [h,z,seval]
   (refine Qf ?_;simp only [z,seval])
   rw [← this]
theorem pNew_spec (ls:List Int) (hl:∀ x∈ls,U x) (n:Nat) (h1:1≤n) (h6:n≤6):Spec PP GG 53 [i64 n,Draws.v ⟨ls,0⟩] (.tup [peopleV (newPeople ls 0 n),Draws.v ⟨ls,n⟩,i64 0]) []:=by
 have hP:=dPeek_spec ls hl 0 n (by omega) (by omega)
 have hR:=prow_spec (dRow ls 0 n) (by rw [dRow_len];omega)
 rw [dRow_len,rowP_new ls n n (Nat.le_refl n)] at hR
 simp only [Int.natCast_zero,Int.cast_ofNat_Int,z,seval] at hP
 have c1:decide ((n:Int) < 1)=false:=decide_eq_false (by omega)
 have c2:decide ((n:Int) > 6)=false:=decide_eq_false (by omega)
 have w1:IntKind.i64.wrap (0 + (n:Int))=(n:Int):=by rw [w64 (by omega) (by omega)];omega
 refine Qs func53 ?_
 intro w0 M0
 simp only [f53,lf,z,seval]
 simp only [c1,c2,z,seval]
 (refine CU hP (h:=?_);simp only [z,seval])
 simp only [w1,z,seval]
 (refine Qw 0 ?_;simp only [z,seval])
 (refine DU hR (h:=?_);simp only [z,seval])
 (refine ⟨by kernel_rfl,?_⟩)
 (refine Qf ?_;simp only [z,seval])
def zW:World:=⟨⟨0,0,0,0,0,0,0⟩,⟨[],0⟩,⟨0,[]⟩,⟨0,[],[]⟩,[],[],[],[]⟩
theorem wNew_no (c:Conf) (ls:List Int) (hm:Spec PP GG 52 [c.v] (.bool false) []):Spec PP GG 19 [c.v,wordsV ls] (.tup [zW.v,i64 1]) []:=by
 refine Qs func19 ?_
 intro w0 M0
 simp only [f19,lf,z,seval]
 (refine CU hm (h:=?_);simp only [z,seval])
 (refine Qf ?_;simp only [z,seval])
 rfl
theorem wNew_spec (c:Conf) (ls:List Int) (hl:∀ x∈ls,U x) (n m:Nat) (hm:Spec PP GG 52 [c.v] (.bool true) []) (h1:1≤n) (h6:n≤6) (hn:c.people=n) (hr:c.regs=m) (hm8:m≤8):Spec PP GG 19 [c.v,wordsV ls] (.tup [(newWorld c ls n m).v,i64 0]) []:=by
 have hP:=pNew_spec ls hl n h1 h6
 simp only [Conf.v,hn,hr] at hm
 refine Qs func19 ?_
 intro w0 M0
 simp only [f19,lf,hn,hr,z,seval]
 (refine CU hm (h:=?_);simp only [z,seval])
 (refine CU hP (h:=?_);simp only [z,seval])
 (refine Qw 1 ?_;simp only [z,seval])
 refine DOC_ok (by simp;omega) ?_
 simp only [Int.toNat_natCast,z,seval]
 (refine ⟨by kernel_rfl,?_⟩)
 have e:(List.replicate m []).map wordsV=List.replicate m (V.sl [] .plain):=by rw [List.map_replicate];rfl
 (refine Qf ?_;simp only [z,seval])
 simp only [newWorld,hn,hr,e,List.map_nil,z,seval]
theorem run_at (w:World) {l:List Op} {i:Nat} (h:i < l.length):runM w (l.take (i + 1))=((stepM (runM w (l.take i)).1 l[i]).1,(runM w (l.take i)).2++[(stepM (runM w (l.take i)).1 l[i]).2]):=by
 rw [List.take_succ_eq_append_getElem h,runM_snoc]
theorem rooms_ok {w:World} (h:w.form):(0≤w.box.room∧w.box.room≤1099511627776)∧(0≤w.net.room∧w.net.room≤1099511627776):=by
 have h1:=h.box
 have h2:=h.net
 simp only [Right07,Right06,Bool.and_eq_true,decide_eq_true_eq] at h1 h2
 omega
structure Runs (w:World) (l:List Op) (N:Nat):Prop where
 fit:w.fit N
 form:w.form
 ok:∀ o∈l,o.ok
 n64:64≤N
 next:w.draws.next + 3 * l.length≤1048576
 big:N + 5 * l.length≤400000000000
theorem Runs.at {w:World} {l:List Op} {N:Nat} (h:Runs w l N) (i:Nat):∃ M,64≤M∧M≤400000000000∧(runM w (l.take i)).1.fit M∧(runM w (l.take i)).1.form∧(runM w (l.take i)).1.draws.next≤w.draws.next + 3 * (l.take i).length:=by
 have hl:(l.take i).length≤l.length:=by rw [List.length_take];omega
 have hb:=h.big
 have hx:=h.next
 have hn:=h.n64
 obtain ⟨a,b,_,c⟩:=run_inv (l.take i) w N h.fit h.form (fun o ho=>h.ok o (List.mem_of_mem_take ho)) hn (by omega) (by omega)
 exact ⟨_,by omega,by omega,a,b,c⟩
theorem Run_spec (w:World) (l:List Op) {N:Nat} (H:Runs w l N) (hl:l.length≤1000):Spec PP GG 28 [w.v,opsV l] (.tup [(runM w l).1.v,.sl ((runM w l).2.map i64) .plain]) []:=by
 refine Qs func28 ?_
 intro w0 M0
 simp only [f28,lf,z,seval]
 (refine RUNs_row0 6 1 (h:=?_);simp only [z,seval])
 refine RUNs_rangeS (l.length) (fun i (s:World×List Int)=>s=runM w (l.take i)) (fun i _=>[(6,.row 2 i),(13,i64 i)]) (fun i s=>[(0,.var s.1.cells),(2,.row 1 (s.2.map i64) i false)]) (w,[]) ?_ (by simp only [z,seval];exact wk) rfl ?_
 ·rfl
 rintro ⟨i,s,hi,hs⟩
 simp only [z,seval]
 first|refine brk (fun h=>?_) (fun h=>?_)|fail
 ·have hlt:i < l.length:=by have:=of_decide_eq_true h;omega
  obtain ⟨M,m1,m2,m3,m4,_⟩:=H.at i
  have hlen:s.2.length=i:=by rw [hs,runM_len,List.length_take];omega
  rw [← hs] at m3 m4
  have hS:=Step_spec s.1 m3 m1 m2 m4.right m4.box (rooms_ok m4).1 (rooms_ok m4).2 l[i]
  have hnx:=run_at w hlt
  rw [← hs] at hnx
  have g:=getMap Op.v l hlt
  have w1:=w64s (i:=i) (by omega)
  clear m3 m4 H
  obtain ⟨W,es⟩:=s
  simp only at hS hnx hlen
  generalize stepM W l[i]=R at hS hnx
  obtain ⟨v,e⟩:=R
  have he:es.map i64++[i64 e]=(es++[e]).map i64:=by simp
  simp only [mv] at g
  simp only [h,g,z,seval]
  (refine CU hS (h:=?_);simp only [z,seval])
  refine OPC_ok ?_ ?_
  ·simp;omega
  simp only [he,w1,z,seval]
  (refine NX (v,es++[e]) ?_ (by rfl) hlt ?_;simp only [z,seval];exact wk)
  exact hnx.symm
 ·obtain rfl:i=l.length:=by have:=of_decide_eq_false h;omega
  rw [List.take_length] at hs
  subst hs
  simp only [h,z,seval]
  (refine Qf ?_;simp only [z,seval])
theorem within_spec (n a b:Int):Spec PP GG 106 [i64 n,i64 a,i64 b] (.bool (decide (n≥a) && decide (n≤b))) []:=by
 refine Qs func106 ?_
 intro w0 M0
 simp only [f106,lf,z,seval]
 repeat' ((first|refine brk (fun h=>?_) (fun h=>?_)|fail)<;>simp only [h,z,seval])
 all_goals (refine Qf ?_;simp only [z,seval])
 all_goals simp_all
theorem pMay12_spec (c:Conf):Spec PP GG 52 [c.v] (.bool (May12 c)) []:=by
 refine Qs func52 ?_
 intro w0 M0
 simp only [f52,lf,z,seval]
 (refine RUNs_unroll 5 ?_;simp only [z,seval])
 (refine CU (within_spec c.box 0 64) (h:=?_);simp only [z,seval])
 cases h1:(decide (c.box≥0) && decide (c.box≤64)) with
 | false =>
   simp only [h1,z,seval]
   (refine Qf ?_;simp only [z,seval])
   (simp_all [May12,room];intros;omega)
 | true =>
 simp only [h1,z,seval]
 (refine RUNs_unr ?_;simp only [z,seval])
 (refine CU (within_spec c.used 0 64) (h:=?_);simp only [z,seval])
 cases h2:(decide (c.used≥0) && decide (c.used≤64)) with
 | false =>
   simp only [h2,z,seval]
   (refine Qf ?_;simp only [z,seval])
   (simp_all [May12,room];intros;omega)
 | true =>
 simp only [h2,z,seval]
 (refine RUNs_unr ?_;simp only [z,seval])
 (refine CU (within_spec c.runs 0 64) (h:=?_);simp only [z,seval])
 cases h3:(decide (c.runs≥0) && decide (c.runs≤64)) with
 | false =>
   simp only [h3,z,seval]
   (refine Qf ?_;simp only [z,seval])
   (simp_all [May12,room];intros;omega)
 | true =>
 simp only [h3,z,seval]
 (refine RUNs_unr ?_;simp only [z,seval])
 (refine CU (within_spec c.net 0 64) (h:=?_);simp only [z,seval])
 cases h4:(decide (c.net≥0) && decide (c.net≤64)) with
 | false =>
   simp only [h4,z,seval]
   (refine Qf ?_;simp only [z,seval])
   (simp_all [May12,room];intros;omega)
 | true =>
 simp only [h4,z,seval]
 (refine RUNs_unr ?_;simp only [z,seval])
 repeat' (first|(refine CU (within_spec c.people 1 6) (h:=?_);simp only [z,seval])|(refine CU (within_spec c.regs 1 8) (h:=?_);simp only [z,seval])|((first|refine brk (fun h=>?_) (fun h=>?_)|fail)<;>simp only [h,z,seval]))
 all_goals (refine Qf ?_;simp only [z,seval])
 all_goals first|(simp_all [May12,room];done)|(simp_all [May12,room];intros;omega)
namespace L12
def c0:Conf:=⟨5,2,4,4,4,4,2⟩
def w0:World:=newWorld c0 [11,12,13,14] 2 2
def p8:Part:=⟨8,0,0,0,0,0,0⟩
def wa:World:=(sealW w0 5 4 p8).1
def m4:Msg:=⟨4,0,0,0,0,9,0⟩
def wb:World:=(sendW w0 2 m4).1
def e1:Event:=⟨1,0,0,0,0,0,0,0,0,0⟩
def q2:Person:={ personW w0 2 with clock:=3 }
theorem w0_ok:w0.ok:=⟨by unfold Conf.ok;decide +kernel,⟨by decide +kernel,by decide +kernel⟩,⟨by decide +kernel,by decide +kernel⟩,⟨by decide +kernel,by decide +kernel,⟨by decide +kernel,fun l hl=>by cases hl⟩⟩,by decide +kernel,⟨by decide +kernel,fun l hl=>by cases hl⟩,⟨by decide +kernel,fun l hl=>by
 have:l=[]:=by
  have hl':l∈List.replicate 2 ([]:List Int):=hl
  exact (List.mem_replicate.1 hl').2
 subst this;exact ⟨by decide,fun x hx=>by cases hx⟩⟩,⟨by decide +kernel,fun l hl=>by cases hl⟩⟩
theorem w0_fit:w0.fit 21:=⟨w0_ok,by decide +kernel,by decide +kernel,by decide +kernel,by decide +kernel,by decide +kernel,by decide +kernel,by decide +kernel,by decide +kernel,by decide +kernel,by decide +kernel,by decide +kernel,by decide +kernel,by decide +kernel,by decide +kernel,by decide +kernel,by decide +kernel,by decide +kernel,by decide +kernel⟩
theorem g0:sealW w0 5 4 p8=(wa,2147483661,0):=by
 have h1:(sealW w0 5 4 p8).2=(2147483661,0):=by decide +kernel
 rw [← h1];rfl
theorem g1:openW wa 5 4 2147483661=(p8,true):=by kernel_rfl
theorem g2:openW wa 5 5 2147483661=(zPart,false):=by kernel_rfl
theorem g3:sendW w0 2 m4=(wb,0):=by
 have h1:(sendW w0 2 m4).2=0:=by decide +kernel
 rw [← h1];rfl
theorem g4:(sendW w0 2 zMsg)=(w0,1):=by kernel_rfl
theorem g5:wb.net.grams.length=1:=by decide +kernel
theorem g6:personW w0 2=⟨2,2147483660,0,[],[],false⟩:=by kernel_rfl
theorem g7:personW (withW w0 q2) 2=⟨2,2147483660,3,[],[],false⟩:=by kernel_rfl
theorem g8:drawW w0=((drawW w0).1,2147483661):=by
 have h1:(drawW w0).2=2147483661:=by decide +kernel
 rw [← h1]
theorem g9:(drawW w0).1.draws.next=3:=by decide +kernel
theorem g10:roomW w0 4 4=true:=by decide +kernel
theorem g11:roomW w0 5 0=false:=by decide +kernel
theorem g12:Form12 w0=true:=by decide +kernel
def zW:World:=⟨⟨0,0,0,0,0,0,0⟩,⟨[],0⟩,⟨0,[]⟩,⟨0,[],[]⟩,[],[],[],[]⟩
end L12
namespace L22
def c0:Conf:=⟨5,2,9,4,4,9,2⟩
def d0:List Int:=[11,12,13]
def w0:World:=newWorld c0 d0 2 2
def l0:List Op:=[⟨9,1,2,0,0,[]⟩,⟨11,0,0,0,0,[]⟩,⟨11,5,0,0,0,[]⟩,⟨8,2,7,0,0,[]⟩,⟨15,0,0,0,0,[]⟩,⟨12,0,0,0,0,[]⟩]
theorem c0_ok:c0.ok:=by unfold Conf.ok;decide
theorem d0_ok:LL U d0:=⟨by decide,by decide⟩
theorem c0_may:May12 c0=true:=by decide +kernel
theorem w0_fit:w0.fit 100:=new_fit c0_may c0_ok d0_ok rfl rfl (by decide) (by decide)
theorem w0_form:w0.form:=new_form c0_may d0 rfl rfl
theorem l0_ok:∀ o∈l0,o.ok:=by
 intro o ho
 simp only [l0,List.mem_cons,List.not_mem_nil,or_false] at ho
 rcases ho with rfl|rfl|rfl|rfl|rfl|rfl<;>exact ⟨by decide,by decide,by decide,by decide,by decide,by decide,fun x hx=>by cases hx⟩
theorem r0:(runM w0 l0).2=[0,0,1,0,1,0]:=by decide +kernel
theorem r1:(runM w0 l0).1.people.length=3:=by decide +kernel
theorem r2:(getP (runM w0 l0).1.people 2).clock=7:=by decide +kernel
theorem r3:(runM w0 l0).1.log.length=2:=by decide +kernel
theorem r4:(runM w0 l0).1.net.grams.length=0:=by decide +kernel
theorem r5:(runM w0 l0).1.net.seen.length=2:=by decide +kernel
theorem runs0:Runs w0 l0 100:=⟨w0_fit,w0_form,l0_ok,by decide,by decide,by decide⟩
theorem conf_spec:Spec PP GG 51 [] c0.v []:=by
 refine Qs func51 ?_
 intro w0 M0
 simp only [f51,lf,z,seval]
 (refine Qf ?_;simp only [z,seval])
 rfl
theorem awake_spec:Spec PP GG 18 [] (.bool true) []:=by
 have hc:=conf_spec
 have hM:Spec PP GG 52 [c0.v] (.bool true) []:=by
  have:=pMay12_spec c0
  rw [c0_may] at this
  exact this
 have hM2:Spec PP GG 52 [Conf.v ⟨0,0,0,0,0,0,0⟩] (.bool false) []:=by
  have:=pMay12_spec ⟨0,0,0,0,0,0,0⟩
  rw [show May12 ⟨0,0,0,0,0,0,0⟩=false from by decide +kernel] at this
  exact this
 have hN:=wNew_spec c0 d0 d0_ok.2 2 2 hM (by decide) (by decide) rfl rfl (by decide)
 have hN2:=wNew_no ⟨0,0,0,0,0,0,0⟩ [] hM2
 have hR:=Run_spec w0 l0 runs0 (by decide)
 have hNr:Spec PP GG 22 [c0.v,wordsV d0] w0.v []:=New12_spec c0 2 2 (by decide) (by decide) rfl rfl d0
 have hS:=Same12 w0 (w0_fit.toLim (by decide))
 have h1:=r1
 have h3:=r3
 have h4:=r4
 have h5:=r5
 have hg:((runM w0 l0).1.people.map Person.v)[2]?=some (getP (runM w0 l0).1.people 2).v:=by
  rw [getMap Person.v _ (by rw [r1];decide),get_in9 (by rw [r1];decide)]
 have h2:=r2
 rw [r0] at hR
 change Spec PP GG _ [c0.v,wordsV d0] (.tup [w0.v,i64 0]) [] at hN
 generalize (runM w0 l0).1=va at *
 generalize w0=w at *
 generalize getP va.people 2=p2 at *
 simp only [mv] at hg
 simp only [c0,d0,l0,List.map_cons,List.map_nil,mv] at hc hN hN2 hR hNr
 refine Qs func18 ?_
 intro w0 M0
 simp only [f18,lf,List.append_eq,z,seval]
 (refine CU hc (h:=?_);simp only [z,seval])
 (refine CU hN (h:=?_);simp only [z,seval])
 (refine CU hN2 (h:=?_);simp only [z,seval])
 (refine CU hR (h:=?_);simp only [z,seval])
 simp only [h1,z,seval]
 (refine Qw 0 ?_;simp only [z,seval])
 (refine DU hc (h:=?_);simp only [z,seval])
 (refine DU hNr (h:=?_);simp only [z,seval])
 (refine DU hS (h:=?_);simp only [z,seval])
 simp only [hg,h1,h2,h3,h4,h5,z,seval]
 (refine ⟨by kernel_rfl,?_⟩)
 (refine Qf ?_;simp only [z,seval])
end L22
end Ch
namespace Go.Ab
open Go Go.RowKit
inductive Ty where
 | int (k:IntKind)
 | bool
 | slice (e:Ty) (agg:Bool)
 | struct (fs:Ty)
 | prod (a b:Ty)
 | unit
def Ty.den:Ty→Type
 | .int _=>Int
 | .bool=>Bool
 | .slice e _=>List e.den
 | .struct fs=>fs.den
 | .prod a b=>a.den×b.den
 | .unit=>Unit
def Ty.cells:Ty→Nat
 | .int _=>1
 | .bool=>1
 | .slice _ _=>1
 | .struct fs=>fs.cells
 | .prod a b=>a.cells + b.cells
 | .unit=>0
def elV (agg:Bool) (cs:List V):V:=bif agg then .agg cs else (match cs with|c::_=>c|[]=>.any)
def encC:(t:Ty)→t.den→List V
 | .int k,n=>[.int k n]
 | .bool,b=>[.bool b]
 | .slice e agg,l=>[.sl (List.map (fun x=>elV agg (encC e x)) l) .plain]
 | .struct fs,x=>encC fs x
 | .prod a b,x=>encC a x.1++encC b x.2
 | .unit,_=>[]
def lim:(t:Ty)→t.den→Prop
 | .int k,n=>k.min≤(show Int from n)∧(show Int from n)≤k.max
 | .bool,_=>True
 | .slice e agg,l=>List.length (show List e.den from l)≤9223372036854775807 ∧ ∀ x:e.den,x∈(show List e.den from l)→lim e x
 | .struct fs,x=>lim fs x
 | .prod a b,x=>lim a x.1∧lim b x.2
 | .unit,_=>True
def matchF (P:Program) (mt:TypeId→Ty→Bool):List Field→Nat→Ty→Bool
 | [],_,.unit=>true
 | f::r,off,.prod a b=>f.offset==off && mt f.type a && P.cellsOf f.type==a.cells && matchF P mt r (off + a.cells) b
 | _,_,_=>false
def isScalar:Ty→Bool
 | .int _=>true
 | .bool=>true
 | .slice _ _=>true
 | _=>false
def matchT (P:Program):Nat→TypeId→Ty→Bool
 | 0,_,_=>false
 | n + 1,t,.int k=>match P.underlying t with
   | some (.int k')=>k==k'
   | _=>false
 | n + 1,t,.bool=>match P.underlying t with
   | some .bool=>true
   | _=>false
 | n + 1,t,.slice e agg=>match P.underlying t with
   | some (.slice e')=>matchT P n e' e && P.cellsOf e'==e.cells && decide (0 < e.cells) && (agg || isScalar e)
   | _=>false
 | n + 1,t,.struct fs=>match P.underlying t with
   | some (.struct fields)=>matchF P (matchT P n) fields.toList 0 fs && P.cellsOf t==fs.cells
   | _=>false
 | _ + 1,_,_=>false
theorem encC_len:(t:Ty)→(x:t.den)→(encC t x).length=t.cells
 | .int _,_=>rfl
 | .bool,_=>rfl
 | .slice _ _,_=>rfl
 | .struct fs,x=>encC_len fs x
 | .prod a b,x=>by simp only [encC,List.length_append,encC_len a,encC_len b,Ty.cells]
 | .unit,_=>rfl
theorem elV_cells {agg:Bool} {e:Ty} (h:(agg || isScalar e)=true) (x:e.den):(elV agg (encC e x)).cells=encC e x:=by
 cases agg with
 | true=>rfl
 | false =>
   cases e<;>simp [isScalar] at h<;>simp [elV,encC,V.cells]
def E0 (w:World):Env:=⟨w,fun _ _=>none,fun _=>.bool false,fun _ _=>False,[]⟩
theorem E0_bare (w:World):(E0 w).bare=E0 w:=rfl
theorem choose_list {α β:Type} {p:Nat→α→β→Prop}:∀ (l:List α) (k:Nat),(∀ i a,l[i]?=some a → ∃ b,p (k + i) a b) → ∃ r:List β,r.length=l.length ∧ ∀ i a,l[i]?=some a → ∃ b,r[i]?=some b∧p (k + i) a b
 | [],k,h=>⟨[],rfl,fun i a ha=>by simp at ha⟩
 | a::l,k,h=>by
   obtain ⟨b,hb⟩:=h 0 a (by simp)
   obtain ⟨r,h1,h2⟩:=choose_list (p:=p) l (k + 1) fun i a ha=>by
    have:=h (i + 1) a (by simpa using ha)
    rwa [show k + (i + 1)=k + 1 + i by omega] at this
   refine ⟨b::r,by simp [h1],fun i a' ha=>?_⟩
   cases i with
   | zero=>simp at ha;subst ha;exact ⟨b,by simp,hb⟩
   | succ i =>
     obtain ⟨b',k1,k2⟩:=h2 i a' (by simpa using ha)
     exact ⟨b',by simpa using k1,by rwa [show k + (i + 1)=k + 1 + i by omega]⟩
section
variable {H:Type} {enc:TypeId×Value→H} {P:Program} {w:World} {base:Nat} {spare:Nat→Bool} {held:Bool}
theorem trodF (n fuel:Nat) (ih:∀ (t:TypeId) (ty:Ty) (cs:List Value) (d:DataW H) (ps:List MemPlace),matchT P n t ty=true→DataW.trod enc P w base spare held fuel t cs=some (d,ps) → ∃ x:ty.den,RepL (E0 w) (encC ty x) cs∧lim ty x) :
 ∀ (fs:List Field) (off:Nat) (ty:Ty) (cs:List Value) (xs:List (DataW H×List MemPlace)),matchF P (matchT P n) fs off ty=true→cs.length=off + ty.cells →
  (fs.mapM fun f=>DataW.trod enc P w base spare held fuel f.type ((cs.drop f.offset).take (P.cellsOf f.type)))=some xs → ∃ x:ty.den,RepL (E0 w) (encC ty x) (cs.drop off)∧lim ty x
 | [],off,ty,cs,xs,hm,hl,hx=>by
   cases ty<;>simp only [matchF] at hm<;>try (cases hm;done)
   refine ⟨(),?_,trivial⟩
   simp only [Ty.cells] at hl
   rw [List.drop_eq_nil_of_le (by omega)]
   exact RepL.nil _
 | f::fs,off,ty,cs,xs,hm,hl,hx=>by
   cases ty<;>simp only [matchF] at hm<;>try (cases hm;done)
   rename_i a b
   simp only [Bool.and_eq_true,beq_iff_eq] at hm
   obtain ⟨⟨⟨h1,h2⟩,h3⟩,h4⟩:=hm
   rw [List.mapM_cons] at hx
   simp only [Option.bind_eq_bind,Option.bind_eq_some_iff,Option.pure_def,Option.some.injEq] at hx
   obtain ⟨⟨d,ps⟩,hx1,xs',hx2,_⟩:=hx
   obtain ⟨x,k1,k2⟩:=ih f.type a _ d ps h2 hx1
   simp only [Ty.cells] at hl
   obtain ⟨y,k3,k4⟩:=trodF n fuel ih fs (off + a.cells) b cs xs' h4 (by omega) hx2
   refine ⟨(x,y),?_,k2,k4⟩
   simp only [encC]
   have e:cs.drop off=(cs.drop off).take a.cells++cs.drop (off + a.cells):=by
    rw [← List.drop_drop,List.take_append_drop]
   rw [e]
   rw [h1,h3] at k1
   exact k1.append k3
theorem trod_rep:∀ (fuel n:Nat) (t:TypeId) (ty:Ty) (cs:List Value) (d:DataW H) (ps:List MemPlace),matchT P n t ty=true→DataW.trod enc P w base spare held fuel t cs=some (d,ps) → ∃ x:ty.den,RepL (E0 w) (encC ty x) cs∧lim ty x
 | 0,n,t,ty,cs,d,ps,hm,h=>by simp [DataW.trod] at h
 | fuel + 1,0,t,ty,cs,d,ps,hm,h=>by simp [matchT] at hm
 | fuel + 1,n + 1,t,ty,cs,d,ps,hm,h=>by
   cases ty with
   | int k =>
     simp only [matchT] at hm
     split at hm<;>try (cases hm;done)
     rename_i k' hu
     have hk:k=k':=by simpa using hm
     subst hk
     simp only [DataW.trod,hu] at h
     split at h<;>try (cases h;done)
     all_goals (try (rename_i he;cases he;done))
     all_goals (try (rename_i he _;cases he;done))
     rename_i k1 k2 m he
     split at h
     ·rename_i hc
      cases he
      obtain ⟨rfl,hwf⟩:=hc
      refine ⟨m,?_,?_⟩
      ·simp only [encC];exact RepL.cons (by simp [Rep,Value.oneCell']) (RepL.nil _)
      ·simpa [Lit.wf,lim] using hwf
     ·cases h
   | bool =>
     simp only [matchT] at hm
     split at hm<;>try (cases hm;done)
     rename_i hu
     simp only [DataW.trod,hu] at h
     split at h<;>try (cases h;done)
     all_goals (try (rename_i he;cases he;done))
     all_goals (try (rename_i he _;cases he;done))
     rename_i b he
     exact ⟨b,by simp only [encC];exact RepL.cons (by simp [Rep,Value.oneCell']) (RepL.nil _),trivial⟩
   | slice e agg =>
     simp only [matchT] at hm
     split at hm<;>try (cases hm;done)
     rename_i e' hu
     simp only [Bool.and_eq_true,beq_iff_eq,decide_eq_true_eq] at hm
     obtain ⟨⟨⟨m1,m2⟩,m3⟩,m4⟩:=hm
     simp only [DataW.trod,hu] at h
     split at h<;>try (cases h;done)
     all_goals (try (rename_i he;cases he;done))
     all_goals (try (rename_i he _;cases he;done))
     ·refine ⟨[],?_,by simp [lim]⟩
      simp only [encC]
      refine RepL.cons ?_ (RepL.nil _)
      simp only [Rep]
      exact ⟨none,0,0,rfl,by simp,Nat.le_refl _,by simp [maxLen],by simp,by simp,by simp⟩
     ·rename_i e2 a len cap he
      cases he
      split at h
      ·rename_i hc
       obtain ⟨c1,c2,c3⟩:=hc
       simp only [Option.bind_eq_some_iff] at h
       obtain ⟨elems,h1,_⟩:=h
       have hlen:=mapM_some_length h1
       simp only [List.length_range] at hlen
       have hget:=mapM_some_get h1
       obtain ⟨r,r1,r2⟩:=choose_list (α:=Nat) (β:=e.den) (p:=fun _ i x => ∃ cs,w.cells? base (a.add (i * P.cellsOf e')) (P.cellsOf e')=some cs∧RepL (E0 w) (encC e x) cs∧lim e x) (List.range len) 0 (fun i i' hi=>by
        have hx:=hget i i' hi
        have hil:i < elems.length:=by
         rw [hlen]
         have:=(List.getElem?_eq_some_iff.1 hi).1
         simpa using this
        rw [List.getElem?_eq_getElem hil,Option.bind_eq_some_iff] at hx
        obtain ⟨cs,k1,k2⟩:=hx
        obtain ⟨x,k3,k4⟩:=trod_rep fuel n e' e cs elems[i].1 elems[i].2 m1 k2
        exact ⟨x,cs,k1,k3,k4⟩)
       simp only [List.length_range] at r1
       have hr:∀ i (hi:i < r.length),∃ cs,w.cells? base (a.add (i * P.cellsOf e')) (P.cellsOf e')=some cs∧RepL (E0 w) (encC e r[i]) cs∧lim e r[i]:=by
        intro i hi
        obtain ⟨b,q1,q2⟩:=r2 i i (by rw [List.getElem?_range (by omega)])
        rw [List.getElem?_eq_getElem hi] at q1
        injection q1 with q1;subst q1
        exact q2
       refine ⟨r,?_,by show r.length≤_;simp only [maxLen] at c3;omega,fun x hx=>?_⟩
       ·simp only [encC]
        refine RepL.cons ?_ (RepL.nil _)
        simp only [Rep]
        refine ⟨some a,len,cap,rfl,by rw [List.length_map];exact r1.symm,c2,c3,by simp,by simp,fun hne=>?_⟩
        have hpos:0 < r.length:=by
         rcases Nat.eq_zero_or_pos r.length with h0|h0
         ·exfalso;apply hne;rw [List.eq_nil_of_length_eq_zero h0];rfl
         ·exact h0
        have hsp:a.spot=none:=by
         obtain ⟨cs,q1,_⟩:=hr 0 hpos
         obtain ⟨_,q3,q4⟩:=World.cells?_some q1
         have:=q4 0 (by omega)
         rw [List.getElem?_eq_getElem (by omega)] at this
         have:=World.cell?_spot this
         obtain ⟨b,o,sp⟩:=a
         simpa [Addr.add] using this
        obtain ⟨b,o,sp⟩:=a
        simp only at hsp;subst hsp
        refine ⟨e.cells,b,o,rfl,RepEs.flat.2 ⟨fun v hv=>?_,?_⟩⟩
        ·obtain ⟨x,_,rfl⟩:=List.mem_map.1 hv
         rw [elV_cells m4,encC_len]
        ·rw [E0_bare]
         have hfl:∀ (l:List e.den) (k:Nat),(∀ i (hi:i < l.length),∃ cs,w.cells? base ((⟨b,o,none⟩:Addr).add ((k + i) * P.cellsOf e')) (P.cellsOf e')=some cs∧RepL (E0 w) (encC e l[i]) cs) →
          RepAt (E0 w) (flatV (List.map (fun x=>elV agg (encC e x)) l)) b (o + k * e.cells):=by
          intro l
          induction l with
          | nil=>intro k _;simp [flatV,RepAt]
          | cons x l ih =>
            intro k hk
            simp only [List.map_cons,flatV,List.flatMap_cons]
            rw [elV_cells m4,RepAt.append,encC_len]
            constructor
            ·obtain ⟨cs,q1,q2⟩:=hk 0 (by simp)
             obtain ⟨_,q3,q4⟩:=World.cells?_some q1
             refine RepAt.of q2 fun j u hj=>⟨?_,fun hm=>hm⟩
             have hjl:j < P.cellsOf e':=by rw [← q3];exact (List.getElem?_eq_some_iff.1 hj).1
             have:=q4 j hjl
             rw [hj,Addr.add_none,Addr.add_none,m2] at this
             exact this
            ·have:=ih (k + 1) fun i hi=>by
              have:=hk (i + 1) (by simpa using hi)
              rw [show k + (i + 1)=k + 1 + i by omega] at this
              simpa using this
             rw [show o + k * e.cells + e.cells=o + (k + 1) * e.cells by rw [Nat.add_mul];omega]
             exact this
         have:=hfl r 0 fun i hi=>by
          obtain ⟨cs,q1,q2,_⟩:=hr i hi
          rw [Nat.zero_add];exact ⟨cs,q1,q2⟩
         simpa using this
       ·obtain ⟨i,hi,rfl⟩:=List.getElem_of_mem hx
        obtain ⟨_,_,_,q⟩:=hr i hi
        exact q
      ·cases h
   | struct fs =>
     simp only [matchT] at hm
     split at hm<;>try (cases hm;done)
     rename_i fields hu
     simp only [Bool.and_eq_true,beq_iff_eq] at hm
     obtain ⟨m1,m2⟩:=hm
     simp only [DataW.trod,hu] at h
     split at h
     ·rename_i hc
      simp only [Option.map_eq_some_iff] at h
      obtain ⟨xs,h1,_⟩:=h
      obtain ⟨x,k1,k2⟩:=trodF n fuel (fun t ty cs d ps hm hh=>trod_rep fuel n t ty cs d ps hm hh) fields.toList 0 fs cs xs m1 (by omega) h1
      exact ⟨x,by simpa only [encC,List.drop_zero] using k1,k2⟩
     ·cases h
   | prod a b=>simp [matchT] at hm
   | unit=>simp [matchT] at hm
end
end Go.Ab
namespace Go.Ab
open Go Go.RowKit Go.ChangeShapes
theorem Rep_of_cells {P:Program} {W:World} {r:Go.Reach} {base:Nat} {t:TypeId} {v:Value} {vs:List V} (hv:Value.okWide P W r base t v) (h:RepL (E0 W) vs v.cells.toList):Rep (E0 W) (elV (aggOf P t) vs) v:=by
 unfold Value.okWide at hv
 have hs:(∃ fs,P.underlying t=some (.struct fs))∨(∃ n e,P.underlying t=some (.array n e))∨(aggOf P t=false∧Cell.okWide P W r base t v):=by
  unfold aggOf
  split at hv
  ·rename_i fs hu;exact .inl ⟨fs,hu⟩
  ·rename_i n e hu;exact .inr (.inl ⟨n,e,hu⟩)
  ·rename_i hu1 hu2
   refine .inr (.inr ⟨?_,hv⟩)
   split
   ·rename_i fs hu;exact absurd hu (hu1 fs)
   ·rename_i n e hu;exact absurd hu (hu2 n e)
   ·rfl
 rcases hs with ⟨fs,hu⟩|⟨n,e,hu⟩|⟨ha,hc⟩
 ·rw [hu] at hv
  simp only at hv
  obtain ⟨cs,rfl,_⟩:=hv
  have:aggOf P t=true:=by unfold aggOf;rw [hu]
  rw [this]
  simp only [elV,cond_true,Rep]
  exact ⟨cs.toList,by simp,by simpa [Value.cells] using h⟩
 ·rw [hu] at hv
  simp only at hv
  obtain ⟨cs,rfl,_⟩:=hv
  have:aggOf P t=true:=by unfold aggOf;rw [hu]
  rw [this]
  simp only [elV,cond_true,Rep]
  exact ⟨cs.toList,by simp,by simpa [Value.cells] using h⟩
 ·rw [ha]
  simp only [elV,cond_false]
  cases vs with
  | nil=>simp [Rep]
  | cons c cs =>
    simp only
    have hone:v.cells = #[v] ∨ ∃ xs,v=.agg xs:=by cases v<;>first|exact .inl rfl|exact .inr ⟨_,rfl⟩
    rcases hone with h1|⟨xs,rfl⟩
    ·rw [h1] at h
     exact (RepL.cons_iff.1 h).1
    ·exfalso
     cases hu:P.underlying t with
     | none=>simp [Cell.okWide,Cell.ok,hu] at hc
     | some ds=>cases ds<;>simp [Cell.okWide,Cell.ok,hu] at hc
theorem args_later {H:Type} {enc:TypeId×Value→H} {P:Program} {W W':World} (hl:laidOutB P=true) (hb:Below W.heap.size W W'):∀ (ts:List TypeId) (vs:List Value) (ds:List (DataW H)) (ps:List MemPlace),(ts.all fun t=>P.readableRec t && decide (t < P.types.size))=true →
 DataW.TrodAll enc P W 0 (fun _=>true) true ts vs ds ps→(∀ x∈ps,x.block < W.heap.size)→DataW.TrodAll enc P W' 0 (fun b=>decide (b < W.heap.size)) true ts vs ds ps
 | [],vs,ds,ps,hr,h,hlt=>by
   obtain ⟨rfl,rfl,rfl⟩:=trodAll_nil h;exact trodAll_mk0
 | t::ts,vs,ds,ps,hr,h,hlt=>by
   simp only [List.all_cons,Bool.and_eq_true,decide_eq_true_eq] at hr
   obtain ⟨v,vs',d,ds',p,q,rfl,rfl,rfl,h1,h2⟩:=trodAll_cons h
   refine ⟨p,q,Below.trod hl hr.1.1 hr.1.2 h1 hb (fun x hx=>hlt x (List.mem_append_left _ hx)),args_later hl hb ts vs' ds' q (by simpa using hr.2) h2 (fun x hx=>hlt x (List.mem_append_right _ hx)),rfl⟩
end Go.Ab
namespace Go.Ab
open Go Go.RowKit Go.ChangeShapes
theorem arg_in {P:Program} {H:Type} {W:World} {enc:TypeId×Value→H} {base b2:Nat} {sp:Nat→Bool} {t:TypeId} {v:Value} {d:DataW H} {ps:List MemPlace} (ty:Ty) {α:Type} (f:ty.den→α) (g:α→V) (p:α→Prop) (agg:Bool) (henc:∀ x,elV agg (encC ty x)=g (f x)) (hlim:∀ x,lim ty x→p (f x))
 (h:DataW.Trod enc P W base sp true t v d ps) (hv:Value.okWide P W .any b2 t v) (hm:matchT P 20 t ty=true) (ha:aggOf P t=agg):∃ a:α,Rep (E0 W) (g a) v∧p a:=by
 obtain ⟨fuel,h⟩:=h
 obtain ⟨x,h1,h2⟩:=trod_rep fuel 20 t ty _ _ _ hm h
 have:=Rep_of_cells hv h1
 rw [ha,henc] at this
 exact ⟨f x,this,hlim x h2⟩
end Go.Ab
namespace Go.Ab
open Go Go.RowKit Go.ChangeShapes
theorem E0_okG {G:Glob} {w:World} (hG:∀ g cs,G.lookup g=some cs→RepAt (E0 w) cs g 0):EOK G (E0 w).w (E0 w).M (E0 w).bare :=
 ⟨Below.refl _ _,fun _ _ _=>Iff.rfl,fun _ _ h=>h.elim,fun i v b hp=>by simp [E0,Env.bare] at hp,fun i v j u b hp=>by simp [E0,Env.bare] at hp,fun i h hh=>by simp [E0,Env.bare] at hh,fun g cs hg=>hG g cs hg⟩
theorem law_liftedG {G:Glob} {laid:List (String×DataW Unit)} {H:Type} {enc:TypeId×Value→H} {C:Checked} {os:Os} {f:FuncId} {fn:Func} {s:ChangeSpec} {conds:List PathCond} {fresh handsOn:Bool} {tb:TypeId} (own:ownKnob C.prog.godebug=none) (laidB:laidOutB C.prog=true) (started:os.Started) (noInit:C.prog.inits.idxOf? f=none) (hfn:C.prog.funcs[f]?=some fn)
 (hres:fn.resultTypes = #[tb]) (hb:C.prog.underlying tb=some .bool) (hvars:s.vars=[]) (hS:∀ ds:List (DataW H),ds.length=fn.params.toList.length→(s.fn H (ds++[])).results=[.lit (.bool true)]∧(s.fn H (ds++[])).args=ds∧(s.fn H (ds++[])).vars=[])
 (hread:(fn.params.toList.all fun t=>C.prog.readableRec t && decide (t < C.prog.types.size))=true)
 (hG:∀ W:World,laidMetH C.prog laid W → ∀ g cs,G.lookup g=some cs→RepAt (E0 W) cs g 0)
 (witness:∃ (w:World) (tape:Tape) (i:Input),w.os=os∧(w.forCall tape i).Shaped C.prog∧i.vars=[]∧Input.okWide C.prog (w.forCall tape i) .any w.heap.size f i ∧
   ((s.pre enc C.prog fn conds false (w.forCall tape i).memory i.args∧laidMetH C.prog laid (w.forCall tape i).memory)∧sizedMet enc C.prog fn (OpenSpec.ofChange s) false (w.forCall tape i).memory i.args)∧({}:Assume).holds C.prog (lone (Frame.enter C.prog f i.args .normal) [] (w.forCall tape i)))
 (contract:∀ (W:World) (base:Nat) (args:Array Value) (ds:List (DataW H)) (ps:List MemPlace),DataW.TrodAll enc C.prog W 0 (fun _=>true) true fn.params.toList args.toList ds ps →
   (∀ (j:Nat) t v,fn.params[j]?=some t→args[j]?=some v→Value.okWide C.prog W .any base t v) → ∃ vs:List V,RepL (E0 W) vs args.toList∧Spec C.prog G f vs (.bool true) []) :
 ReturnsInHanded {} C os f .any (fun w args=>(s.pre enc C.prog fn conds false w args∧laidMetH C.prog laid w)∧sizedMet enc C.prog fn (OpenSpec.ofChange s) false w args) (s.post enc C.prog fn false fresh handsOn false):=by
 refine returnsInHanded_of_change_and (X:=fun w _=>laidMetH C.prog laid w) (fun _ _ _ hh h=>h.of_heap hh) own started noInit hfn witness ?_
 intro W base args ds gs before hval hW _ _ hL _
 have hW':=hW
 obtain ⟨p,q,hA,hV,rfl,_,_⟩:=hW
 rw [hvars] at hV
 obtain ⟨rfl,rfl⟩:gs=[]∧q=[]:=by
  cases gs<;>cases q<;>simp [DataW.TrodVars] at hV
  exact ⟨rfl,rfl⟩
 obtain ⟨vs,hr,hs⟩:=contract W base args ds p hA hval
 have hlt:∀ x∈p,x.block < W.heap.size:=fun x hx=>hW'.lt x (List.mem_append_left _ hx)
 have hlen:ds.length=fn.params.toList.length:=by
  have:∀ (ts:List TypeId) (vs:List Value) (ds:List (DataW H)) (ps:List MemPlace),DataW.TrodAll enc C.prog W 0 (fun _=>true) true ts vs ds ps→ds.length=ts.length:=by
   intro ts
   induction ts with
   | nil=>intro vs ds ps h;obtain ⟨_,rfl,_⟩:=trodAll_nil h;rfl
   | cons t ts ih=>intro vs ds ps h;obtain ⟨v,vs',d,ds',p,q,rfl,rfl,rfl,h1,h2⟩:=trodAll_cons h;simp [ih _ _ _ h2]
  exact this _ _ _ _ hA
 obtain ⟨s1,s2,s3⟩:=hS ds hlen
 have hcalls:=hs (E0 W) args.toList (E0_okG (hG W hL)) hr
 rw [show args.toList.toArray=args by simp] at hcalls
 refine hcalls.mono ?_
 rintro e W' ⟨v,E',rfl,rfl,_,hok,_,hv⟩
 simp only [Rep] at hv
 obtain ⟨rfl,_⟩:=hv
 refine ⟨_,rfl,ds,[],p++[],[],p,[],hW',?_,?_,?_,hok.below.frame _,fun h=>by cases h⟩
 ·rw [s1,hres]
  exact trodAll_mk1 (shut_bool hb true)
 ·rw [s2]
  exact args_later laidB hok.below _ _ _ _ hread hA hlt
 ·rw [s3,hvars];rfl
end Go.Ab
namespace Go.Ab
open Go Go.RowKit Go.ChangeShapes Go.WideShapes Go.ChangeAt
theorem RepAt_of {E:Env} {b:Nat}:∀ {vs:List V} {o:Nat},(∀ i v,vs[i]?=some v → ∃ u,E.stab b (o + i) u∧Rep E v u)→RepAt E vs b o
 | [],o,h=>trivial
 | v::vs,o,h=>⟨by simpa using h 0 v rfl,RepAt_of fun i w hw=>by
    have:=h (i + 1) w (by simpa using hw)
    rwa [show o + (i + 1)=o + 1 + i by omega] at this⟩
theorem arr_cells {H:Type} {enc:TypeId×Value→H} {P:Program} {w:World} {base:Nat} {spare:Nat→Bool} {held:Bool} {fuel:Nat} {t e:TypeId} {n:Nat} {k:IntKind} {cs:List Value} {ns:List Int} {q:List MemPlace} (ht:P.underlying t=some (.array n e)) (he:P.underlying e=some (.int k)) (h1:P.cellsOf e=1)
 (h:DataW.trod enc P w base spare held fuel t cs=some (.agg (ns.map fun n=>.lit (.int k n)),q)):∀ (i:Nat) m,ns[i]?=some m→cs[i]?=some (.int k m):=by
 obtain ⟨xs,m,rfl,hx,hlen,hn,hel⟩:=DataW.trod_array ht h
 intro i c hc
 simp only [Prod.mk.injEq,DataW.agg.injEq] at hx
 have hi:i < ns.length:=(List.getElem?_eq_some_iff.1 hc).1
 have hl:xs.length=ns.length:=by have:=congrArg List.length hx.1;simpa using this.symm
 have h2:=hel i (by omega)
 rw [h1,Nat.mul_one] at h2
 have hxi:xs[i]?=some xs[i]:=List.getElem?_eq_getElem (by omega)
 rw [hxi] at h2
 obtain ⟨c',e1,e2,_⟩:=DataW.trod_int he h2
 have h3:(xs.map (·.1))[i]?=some (.lit (.int k c)):=by rw [← hx.1,List.getElem?_map,hc];rfl
 rw [List.getElem?_map,hxi,e2] at h3
 simp only [Option.map_some,Option.some.injEq,DataW.lit.injEq,Lit.int.injEq,true_and] at h3
 subst h3
 have h4:((cs.drop i).take 1)[0]?=some (.int k c'):=by rw [e1];rfl
 rw [List.getElem?_take_of_lt (by omega),List.getElem?_drop,Nat.add_zero] at h4
 exact h4
end Go.Ab
namespace Ch
open Go Go.Ab Go.Proofs.Tryz
abbrev tU:Ty:=.int .u32
abbrev tI:Ty:=.int .i64
abbrev tW:Ty:=.slice tU false
abbrev tConf:Ty:=.struct (.prod tU (.prod tI (.prod tI (.prod tI (.prod tI (.prod tI (.prod tI .unit)))))))
def confOf:tConf.den→Conf|(a,b,c,d,e,f,g,_)=>⟨a,b,c,d,e,f,g⟩
theorem lim_u {n:Int} (h:lim tU n):U n:=by
 obtain ⟨h1,h2⟩:=h
 have e1:IntKind.u32.min=0:=by decide
 have e2:IntKind.u32.max=4294967295:=by decide
 rw [e1] at h1;rw [e2] at h2
 exact ⟨h1,Int.lt_of_le_of_lt h2 (by decide)⟩
theorem lim_i {n:Int} (h:lim tI n):I n:=by
 obtain ⟨h1,h2⟩:=h
 have e1:IntKind.i64.min = -9223372036854775808:=by decide
 have e2:IntKind.i64.max=9223372036854775807:=by decide
 rw [e1] at h1;rw [e2] at h2
 exact ⟨h1,h2⟩
theorem lim_words {l:List Int} (h:lim tW l):LL U l:=⟨h.1,fun x hx=>lim_u (h.2 x hx)⟩
theorem lim_conf (x:tConf.den) (h:lim tConf x):(confOf x).ok:=by
 obtain ⟨a,b,c,d,e,f,g,_⟩:=x;obtain ⟨h1,h2,h3,h4,h5,h6,h7,_⟩:=h
 exact ⟨lim_u h1,lim_i h2,lim_i h3,lim_i h4,lim_i h5,lim_i h6,lim_i h7⟩
end Ch

