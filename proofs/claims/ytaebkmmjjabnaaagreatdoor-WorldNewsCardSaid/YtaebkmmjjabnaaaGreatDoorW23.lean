import Derived.Test.YtaebkmmjjabnaaaGreatDoorW21
import Derived.Test.YtaebkmmjjabnaaaGreatDoorW22
set_option maxRecDepth 100000
set_option maxHeartbeats 4000000
set_option linter.unusedSimpArgs false
set_option linter.unusedVariables false
namespace Ch
open Go Go.Ab Go.Proofs.Tryz
theorem advDo_5_3 (w:World) {N:Nat} (hw:w.fit N) (h5:64≤N) (hN:N≤400000000000) (hbr:0≤w.box.room∧w.box.room≤1099511627776) (a:Nat) (hpl:w.people.length≤1000) (hA:a < w.regs.length) (b:Nat) (bx:Int) (bl:List Int) (b1:decide ((b:Int) < 0)=false) (b2:decide ((b:Int)≥(w.regs.length:Int))=false) (be:firstM w (b:Int)=some bx) (bg:(w.regs.map wordsV)[b]?=some (V.sl ((bx::bl).map u32) .plain)) (c d:Int) (ws:List Int):Spec PP GG 68 [w.v,Op.v ⟨5,a,b,c,d,ws⟩] (.tup [(open5 w ⟨5,a,b,c,d,ws⟩).1.v,i64 (open5 w ⟨5,a,b,c,d,ws⟩).2]) []:=by
 have hq:=hw.regs
 have a1:decide ((a:Int) < 0)=false:=decide_eq_false (by omega)
 have a2:decide ((a:Int)≥(w.regs.length:Int))=false:=decide_eq_false (by omega)
 have gA:=getMap wordsV w.regs hA
 simp only [mv] at gA
 have hCl:=CloneR_spec w.regs (by omega)
 have hset:∀ l:List Int,(w.regs.map wordsV).set a (wordsV l)=(w.regs.set a l).map wordsV:=fun l=>by rw [List.map_set]
 have znil:((([]:List Int).length:Int)==0)=true:=rfl
 have zcons:∀ (x:Int) (l:List Int),(((x::l).length:Int)==0)=false:=fun x l=>by simp;omega
 have zhd:∀ (x:Int) (l:List Int),((x::l).map u32)[0]?=some (u32 x):=fun x l=>rfl
 have zcons2:∀ (l:List Int),(((l.length + 1:Nat):Int)==0)=false:=fun l=>by simp;omega
 rcases first_cases w c with ⟨c1,ce⟩|⟨c1,c2,ce⟩|⟨c,rfl,ch,c1,c2,ce,cg⟩|⟨c,cx,cl,rfl,ch,c1,c2,ce,cg⟩<;>rcases first_cases w d with ⟨d1,de⟩|⟨d1,d2,de⟩|⟨d,rfl,dh,d1,d2,de,dg⟩|⟨d,dx,dl,rfl,dh,d1,d2,de,dg⟩
 all_goals try
  (rw [show open5 w ⟨5,a,b,c,d,ws⟩=(w,1) by unfold open5;simp only [be,ce,de]]
   refine Qs func68 ?_
   intro w0 M0
   simp only [f68,lf,z,seval]
   apply once
   ·intro key
    (refine Qa 9 ?_)
    repeat' (first|(refine Qk ?_)|(refine QD 4 0 ?_)|(refine Qi 0 1 ?_ ?_)|(refine Qi 0 2 ?_ ?_)|(refine Qj 0 ?_)|(refine Qj 1 ?_)|(refine Qj 2 ?_)|(refine Qj 3 ?_)|(refine qc func112 ?_;simp only [f112,lf,z,seval])|(simp only [z,seval]))
    all_goals exact key
   ·(refine qc func113 ?_;simp only [f113,lf,z,seval])
    simp only [a1,a2,gA,z,seval]
    (refine qc func175 ?_;simp only [f175,lf,z,seval])
    (refine qc func212 ?_;simp only [f212,lf,z,seval])
    (refine qc func113 ?_;simp only [f113,lf,z,seval])
    (first|simp only [b1,b2,bg,z,seval]|simp only [b1,b2,z,seval]|simp only [b1,z,seval])
    try simp only [znil,zcons,zcons2,zhd,List.length_cons,List.map_cons,List.getElem?_cons_zero,z,seval]
    (refine qc func212 ?_;simp only [f212,lf,z,seval])
    (refine qc func113 ?_;simp only [f113,lf,z,seval])
    (first|simp only [c1,c2,cg,z,seval]|simp only [c1,c2,z,seval]|simp only [c1,z,seval])
    try simp only [znil,zcons,zcons2,zhd,List.length_cons,List.map_cons,List.getElem?_cons_zero,z,seval]
    (refine qc func212 ?_;simp only [f212,lf,z,seval])
    (refine qc func113 ?_;simp only [f113,lf,z,seval])
    (first|simp only [d1,d2,dg,z,seval]|simp only [d1,d2,z,seval]|simp only [d1,z,seval])
    try simp only [znil,zcons,zcons2,zhd,List.length_cons,List.map_cons,List.getElem?_cons_zero,z,seval]
    (refine Qf ?_;simp only [z,seval])
   done)
 have q1:=hw.rows
 have q2:=hw.plain
 have h4:=bOpen_spec w.box bx cx dx (by omega) (fun s hs=>by have:=q2 s hs;omega)
 cases hO:boxOpen w.box bx cx dx with
 | none =>
   rw [hO] at h4
   simp only [Option.getD_none,Option.isSome_none,List.map_nil] at h4
   rw [show open5 w ⟨5,a,b,c,d,ws⟩=(w,6) by unfold open5;simp only [be,ce,de,hO]]
   refine Qs func68 ?_
   intro w0 M0
   simp only [f68,lf,z,seval]
   apply once
   ·intro key
    (refine Qa 9 ?_)
    repeat' (first|(refine Qk ?_)|(refine QD 4 0 ?_)|(refine Qi 0 1 ?_ ?_)|(refine Qi 0 2 ?_ ?_)|(refine Qj 0 ?_)|(refine Qj 1 ?_)|(refine Qj 2 ?_)|(refine Qj 3 ?_)|(refine qc func112 ?_;simp only [f112,lf,z,seval])|(simp only [z,seval]))
    all_goals exact key
   ·(refine qc func113 ?_;simp only [f113,lf,z,seval])
    simp only [a1,a2,gA,z,seval]
    (refine qc func175 ?_;simp only [f175,lf,z,seval])
    (refine qc func212 ?_;simp only [f212,lf,z,seval])
    (refine qc func113 ?_;simp only [f113,lf,z,seval])
    (first|simp only [b1,b2,bg,z,seval]|simp only [b1,b2,z,seval]|simp only [b1,z,seval])
    try simp only [znil,zcons,zcons2,zhd,List.length_cons,List.map_cons,List.getElem?_cons_zero,z,seval]
    (refine qc func212 ?_;simp only [f212,lf,z,seval])
    (refine qc func113 ?_;simp only [f113,lf,z,seval])
    (first|simp only [c1,c2,cg,z,seval]|simp only [c1,c2,z,seval]|simp only [c1,z,seval])
    try simp only [znil,zcons,zcons2,zhd,List.length_cons,List.map_cons,List.getElem?_cons_zero,z,seval]
    (refine qc func212 ?_;simp only [f212,lf,z,seval])
    (refine qc func113 ?_;simp only [f113,lf,z,seval])
    (first|simp only [d1,d2,dg,z,seval]|simp only [d1,d2,z,seval]|simp only [d1,z,seval])
    try simp only [znil,zcons,zcons2,zhd,List.length_cons,List.map_cons,List.getElem?_cons_zero,z,seval]
    (refine CU h4 (h:=?_);simp only [z,seval])
    (refine Qf ?_;simp only [z,seval])
 | some l =>
   rw [hO] at h4
   simp only [Option.getD_some,Option.isSome_some] at h4
   rw [show open5 w ⟨5,a,b,c,d,ws⟩=(setReg w a l,0) by unfold open5;simp only [be,ce,de,hO]]
   have hset:=hset (l)
   simp only [mv,List.map_append,List.map_cons,List.map_nil] at hset
   refine Qs func68 ?_
   intro w0 M0
   simp only [f68,lf,z,seval]
   apply once
   ·intro key
    (refine Qa 9 ?_)
    repeat' (first|(refine Qk ?_)|(refine QD 4 0 ?_)|(refine Qi 0 1 ?_ ?_)|(refine Qi 0 2 ?_ ?_)|(refine Qj 0 ?_)|(refine Qj 1 ?_)|(refine Qj 2 ?_)|(refine Qj 3 ?_)|(refine qc func112 ?_;simp only [f112,lf,z,seval])|(simp only [z,seval]))
    all_goals exact key
   ·(refine qc func113 ?_;simp only [f113,lf,z,seval])
    simp only [a1,a2,gA,z,seval]
    (refine qc func175 ?_;simp only [f175,lf,z,seval])
    (refine qc func212 ?_;simp only [f212,lf,z,seval])
    (refine qc func113 ?_;simp only [f113,lf,z,seval])
    (first|simp only [b1,b2,bg,z,seval]|simp only [b1,b2,z,seval]|simp only [b1,z,seval])
    try simp only [znil,zcons,zcons2,zhd,List.length_cons,List.map_cons,List.getElem?_cons_zero,z,seval]
    (refine qc func212 ?_;simp only [f212,lf,z,seval])
    (refine qc func113 ?_;simp only [f113,lf,z,seval])
    (first|simp only [c1,c2,cg,z,seval]|simp only [c1,c2,z,seval]|simp only [c1,z,seval])
    try simp only [znil,zcons,zcons2,zhd,List.length_cons,List.map_cons,List.getElem?_cons_zero,z,seval]
    (refine qc func212 ?_;simp only [f212,lf,z,seval])
    (refine qc func113 ?_;simp only [f113,lf,z,seval])
    (first|simp only [d1,d2,dg,z,seval]|simp only [d1,d2,z,seval]|simp only [d1,z,seval])
    try simp only [znil,zcons,zcons2,zhd,List.length_cons,List.map_cons,List.getElem?_cons_zero,z,seval]
    (refine CU h4 (h:=?_);simp only [z,seval])
    (refine CH (hCl) (h:=?_);simp only [z,seval])
    (refine Qw 0 ?_;simp only [z,seval])
    simp only [hA,gA,if_true,z,seval]
    (refine ⟨by kernel_rfl,?_⟩)
    simp only [hset,z,seval]
    (refine Qf ?_;simp only [z,seval])
    simp only [setReg,Int.toNat_natCast]
    try rfl
theorem advDo_5 (w:World) {N:Nat} (hw:w.fit N) (h5:64≤N) (hN:N≤400000000000) (hbr:0≤w.box.room∧w.box.room≤1099511627776) (a:Nat) (hpl:w.people.length≤1000) (hA:a < w.regs.length) (b c d:Int) (ws:List Int):Spec PP GG 68 [w.v,Op.v ⟨5,a,b,c,d,ws⟩] (.tup [(open5 w ⟨5,a,b,c,d,ws⟩).1.v,i64 (open5 w ⟨5,a,b,c,d,ws⟩).2]) []:=by
 rcases first_cases w b with ⟨b1,be⟩|⟨b1,b2,be⟩|⟨b,rfl,bh,b1,b2,be,bg⟩|⟨b,bx,bl,rfl,bh,b1,b2,be,bg⟩
 ·exact advDo_5_0 w hw h5 hN hbr a hpl hA b b1 be c d ws
 ·exact advDo_5_1 w hw h5 hN hbr a hpl hA b b1 b2 be c d ws
 ·exact advDo_5_2 w hw h5 hN hbr a hpl hA b b1 b2 be bg c d ws
 ·exact advDo_5_3 w hw h5 hN hbr a hpl hA b bx bl b1 b2 be bg c d ws
theorem advDo_6 (w:World) {N:Nat} (hw:w.fit N) (h5:64≤N) (hN:N≤400000000000) (hbr:0≤w.box.room∧w.box.room≤1099511627776) (a:Nat) (hpl:w.people.length≤1000) (hA:a < w.regs.length) (b c d:Int) (ws:List Int):Spec PP GG 68 [w.v,Op.v ⟨6,a,b,c,d,ws⟩] (.tup [(corrupt6 w ⟨6,a,b,c,d,ws⟩).1.v,i64 (corrupt6 w ⟨6,a,b,c,d,ws⟩).2]) []:=by
 have hq:=hw.regs
 have a1:decide ((a:Int) < 0)=false:=decide_eq_false (by omega)
 have a2:decide ((a:Int)≥(w.regs.length:Int))=false:=decide_eq_false (by omega)
 have gA:=getMap wordsV w.regs hA
 simp only [mv] at gA
 have hCl:=CloneR_spec w.regs (by omega)
 have hset:∀ l:List Int,(w.regs.map wordsV).set a (wordsV l)=(w.regs.set a l).map wordsV:=fun l=>by rw [List.map_set]
 unfold corrupt6
 cases b1:decide (b < 1) with
 | true =>
   refine Qs func68 ?_
   intro w0 M0
   simp only [f68,lf,z,seval]
   apply once
   ·intro key
    (refine Qa 9 ?_)
    repeat' (first|(refine Qk ?_)|(refine QD 4 0 ?_)|(refine Qi 0 1 ?_ ?_)|(refine Qi 0 2 ?_ ?_)|(refine Qj 0 ?_)|(refine Qj 1 ?_)|(refine Qj 2 ?_)|(refine Qj 3 ?_)|(refine qc func112 ?_;simp only [f112,lf,z,seval])|(simp only [z,seval]))
    all_goals exact key
   ·(refine qc func113 ?_;simp only [f113,lf,z,seval])
    simp only [a1,a2,gA,z,seval]
    (refine qc func176 ?_;simp only [f176,lf,z,seval])
    (refine Qw 0 ?_;simp only [z,seval])
    simp only [b1,z,seval]
    (refine ⟨by kernel_rfl,?_⟩)
    try simp only [z,seval]
    (refine Qf ?_;simp only [z,seval])
    try rfl
 | false =>
 cases b2:decide (b≥(w.people.length:Int)) with
 | true =>
   refine Qs func68 ?_
   intro w0 M0
   simp only [f68,lf,z,seval]
   apply once
   ·intro key
    (refine Qa 9 ?_)
    repeat' (first|(refine Qk ?_)|(refine QD 4 0 ?_)|(refine Qi 0 1 ?_ ?_)|(refine Qi 0 2 ?_ ?_)|(refine Qj 0 ?_)|(refine Qj 1 ?_)|(refine Qj 2 ?_)|(refine Qj 3 ?_)|(refine qc func112 ?_;simp only [f112,lf,z,seval])|(simp only [z,seval]))
    all_goals exact key
   ·(refine qc func113 ?_;simp only [f113,lf,z,seval])
    simp only [a1,a2,gA,z,seval]
    (refine qc func176 ?_;simp only [f176,lf,z,seval])
    (refine Qw 0 ?_;simp only [z,seval])
    simp only [b1,b2,z,seval]
    (refine ⟨by kernel_rfl,?_⟩)
    try simp only [z,seval]
    (refine Qf ?_;simp only [z,seval])
    try rfl
 | false =>
 obtain ⟨b,rfl⟩:=Int.eq_ofNat_of_zero_le (show 0≤b by have:=of_decide_eq_false b1;omega)
 have hB:b < w.people.length:=by have:=of_decide_eq_false b2;omega
 have q1:=hw.people
 have hU:U (b:Int):=⟨by omega,by omega⟩
 have hwr:IntKind.u32.wrap (b:Int)=(b:Int):=by rw [IntKind.wrap_u32];omega
 have h1:=person_spec w hw (by omega) b hU
 have hp:=personW_ok hw (b:Int)
 have h2:=with_spec w hw (by omega) { personW w b with corrupt:=true } hp.1
 have hreg:(withW w { personW w (b:Int) with corrupt:=true }).regs=w.regs:=rfl
 simp only [mv] at h1 h2
 have hset:=hset ([(personW w (b:Int)).key])
 simp only [mv,List.map_append,List.map_cons,List.map_nil] at hset
 simp only [Bool.false_or,cond_false]
 generalize hP:personW w (b:Int)=P at *
 refine Qs func68 ?_
 intro w0 M0
 simp only [f68,lf,z,seval]
 apply once
 ·intro key
  (refine Qa 9 ?_)
  repeat' (first|(refine Qk ?_)|(refine QD 4 0 ?_)|(refine Qi 0 1 ?_ ?_)|(refine Qi 0 2 ?_ ?_)|(refine Qj 0 ?_)|(refine Qj 1 ?_)|(refine Qj 2 ?_)|(refine Qj 3 ?_)|(refine qc func112 ?_;simp only [f112,lf,z,seval])|(simp only [z,seval]))
  all_goals exact key
 ·(refine qc func113 ?_;simp only [f113,lf,z,seval])
  simp only [a1,a2,gA,z,seval]
  (refine qc func176 ?_;simp only [f176,lf,z,seval])
  (refine Qw 0 ?_;simp only [z,seval])
  simp only [b1,b2,z,seval]
  (refine ⟨by kernel_rfl,?_⟩)
  try simp only [z,seval]
  (refine Qw 1 ?_;simp only [z,seval])
  simp only [hwr,z,seval]
  (refine DU h1 (h:=?_);simp only [z,seval])
  (refine ⟨by kernel_rfl,?_⟩)
  try simp only [z,seval]
  (refine Qw 0 ?_;simp only [z,seval])
  (refine DU h2 (h:=?_);simp only [z,seval])
  (refine ⟨by kernel_rfl,?_⟩)
  try simp only [z,seval]
  (refine CH (hCl) (h:=?_);simp only [z,seval])
  (refine Qw 0 ?_;simp only [z,seval])
  simp only [hA,gA,if_true,z,seval]
  (refine ⟨by kernel_rfl,?_⟩)
  simp only [hset,z,seval]
  (refine Qf ?_;simp only [z,seval])
  simp only [setReg,hreg,Int.toNat_natCast]
  try rfl
theorem advDo_7 (w:World) {N:Nat} (hw:w.fit N) (h5:64≤N) (hN:N≤400000000000) (hbr:0≤w.box.room∧w.box.room≤1099511627776) (a:Nat) (hpl:w.people.length≤1000) (hA:a < w.regs.length) (b c d:Int) (ws:List Int):Spec PP GG 68 [w.v,Op.v ⟨7,a,b,c,d,ws⟩] (.tup [(leak7 w ⟨7,a,b,c,d,ws⟩).1.v,i64 (leak7 w ⟨7,a,b,c,d,ws⟩).2]) []:=by
 have hq:=hw.regs
 have a1:decide ((a:Int) < 0)=false:=decide_eq_false (by omega)
 have a2:decide ((a:Int)≥(w.regs.length:Int))=false:=decide_eq_false (by omega)
 have gA:=getMap wordsV w.regs hA
 simp only [mv] at gA
 have hCl:=CloneR_spec w.regs (by omega)
 have hset:∀ l:List Int,(w.regs.map wordsV).set a (wordsV l)=(w.regs.set a l).map wordsV:=fun l=>by rw [List.map_set]
 unfold leak7
 cases b1:decide (b < 0) with
 | true =>
   refine Qs func68 ?_
   intro w0 M0
   simp only [f68,lf,z,seval]
   apply once
   ·intro key
    (refine Qa 9 ?_)
    repeat' (first|(refine Qk ?_)|(refine QD 4 0 ?_)|(refine Qi 0 1 ?_ ?_)|(refine Qi 0 2 ?_ ?_)|(refine Qj 0 ?_)|(refine Qj 1 ?_)|(refine Qj 2 ?_)|(refine Qj 3 ?_)|(refine qc func112 ?_;simp only [f112,lf,z,seval])|(simp only [z,seval]))
    all_goals exact key
   ·(refine qc func113 ?_;simp only [f113,lf,z,seval])
    simp only [a1,a2,gA,z,seval]
    (refine qc func177 ?_;simp only [f177,lf,z,seval])
    (refine Qw 0 ?_;simp only [z,seval])
    simp only [b1,z,seval]
    (refine ⟨by kernel_rfl,?_⟩)
    try simp only [z,seval]
    (refine Qf ?_;simp only [z,seval])
    try rfl
 | false =>
 cases b2:decide (b≥(w.log.length:Int)) with
 | true =>
   refine Qs func68 ?_
   intro w0 M0
   simp only [f68,lf,z,seval]
   apply once
   ·intro key
    (refine Qa 9 ?_)
    repeat' (first|(refine Qk ?_)|(refine QD 4 0 ?_)|(refine Qi 0 1 ?_ ?_)|(refine Qi 0 2 ?_ ?_)|(refine Qj 0 ?_)|(refine Qj 1 ?_)|(refine Qj 2 ?_)|(refine Qj 3 ?_)|(refine qc func112 ?_;simp only [f112,lf,z,seval])|(simp only [z,seval]))
    all_goals exact key
   ·(refine qc func113 ?_;simp only [f113,lf,z,seval])
    simp only [a1,a2,gA,z,seval]
    (refine qc func177 ?_;simp only [f177,lf,z,seval])
    (refine Qw 0 ?_;simp only [z,seval])
    simp only [b1,b2,z,seval]
    (refine ⟨by kernel_rfl,?_⟩)
    try simp only [z,seval]
    (refine Qf ?_;simp only [z,seval])
    try rfl
 | false =>
 obtain ⟨b,rfl⟩:=Int.eq_ofNat_of_zero_le (show 0≤b by have:=of_decide_eq_false b1;omega)
 have hB:b < w.log.length:=by have:=of_decide_eq_false b2;omega
 have gB:=getMap Event.v w.log hB
 simp only [mv] at gB
 have hok:=hw.ok.2.2.2.2.2.1.2 _ (List.getElem_mem hB)
 simp only [Bool.false_or,cond_false,Int.toNat_natCast,List.getElem?_eq_getElem hB]
 generalize w.log[b]=ev at gB hok
 cases b3:(ev.kind==2) with
 | false =>
   refine Qs func68 ?_
   intro w0 M0
   simp only [f68,lf,z,seval]
   apply once
   ·intro key
    (refine Qa 9 ?_)
    repeat' (first|(refine Qk ?_)|(refine QD 4 0 ?_)|(refine Qi 0 1 ?_ ?_)|(refine Qi 0 2 ?_ ?_)|(refine Qj 0 ?_)|(refine Qj 1 ?_)|(refine Qj 2 ?_)|(refine Qj 3 ?_)|(refine qc func112 ?_;simp only [f112,lf,z,seval])|(simp only [z,seval]))
    all_goals exact key
   ·(refine qc func113 ?_;simp only [f113,lf,z,seval])
    simp only [a1,a2,gA,z,seval]
    (refine qc func177 ?_;simp only [f177,lf,z,seval])
    (refine Qw 0 ?_;simp only [z,seval])
    simp only [b1,b2,gB,b3,z,seval]
    (refine ⟨by kernel_rfl,?_⟩)
    try simp only [z,seval]
    (refine Qf ?_;simp only [z,seval])
    try rfl
 | true =>
   have q1:=hw.leaks
   have h1:=person_spec w hw (by omega) ev.b hok.2.2.2.2.1
   have h2:=ConcatLeak_2 w.leaks [⟨ev.k,(personW w ev.b).clock⟩] (by simp;omega)
   simp only [mv,List.map_append,List.map_cons,List.map_nil] at h1 h2
   have hset:=hset ([ev.k])
   simp only [mv,List.map_append,List.map_cons,List.map_nil] at hset
   refine Qs func68 ?_
   intro w0 M0
   simp only [f68,lf,z,seval]
   apply once
   ·intro key
    (refine Qa 9 ?_)
    repeat' (first|(refine Qk ?_)|(refine QD 4 0 ?_)|(refine Qi 0 1 ?_ ?_)|(refine Qi 0 2 ?_ ?_)|(refine Qj 0 ?_)|(refine Qj 1 ?_)|(refine Qj 2 ?_)|(refine Qj 3 ?_)|(refine qc func112 ?_;simp only [f112,lf,z,seval])|(simp only [z,seval]))
    all_goals exact key
   ·(refine qc func113 ?_;simp only [f113,lf,z,seval])
    simp only [a1,a2,gA,z,seval]
    (refine qc func177 ?_;simp only [f177,lf,z,seval])
    (refine Qw 0 ?_;simp only [z,seval])
    simp only [b1,b2,gB,b3,z,seval]
    (refine ⟨by kernel_rfl,?_⟩)
    try simp only [z,seval]
    (refine Qw 1 ?_;simp only [z,seval])
    simp only [gB,z,seval]
    (refine ⟨by kernel_rfl,?_⟩)
    try simp only [z,seval]
    (refine Qw 0 ?_;simp only [z,seval])
    (refine DU h1 (h:=?_);simp only [z,seval])
    (refine DU h2 (h:=?_);simp only [z,seval])
    (refine ⟨by kernel_rfl,?_⟩)
    try simp only [z,seval]
    (refine CH (hCl) (h:=?_);simp only [z,seval])
    (refine Qw 0 ?_;simp only [z,seval])
    simp only [hA,gA,if_true,z,seval]
    (refine ⟨by kernel_rfl,?_⟩)
    simp only [hset,z,seval]
    (refine Qf ?_;simp only [z,seval])
    simp only [setReg,Int.toNat_natCast,List.map_append,List.map_cons,List.map_nil]
    try rfl
theorem advDo_none (w:World) (hrl:w.regs.length≤1000000000000) (k a b c d:Int) (ws:List Int) (hk:isAdv ⟨k,a,b,c,d,ws⟩=true) (hA:regM w a=none):Spec PP GG 68 [w.v,Op.v ⟨k,a,b,c,d,ws⟩] (.tup [w.v,i64 1]) []:=by
 rcases reg_cases w a with ⟨a1,ae⟩|⟨a1,a2,ae⟩|⟨a,rfl,ah,a1,a2,ae,ag⟩
 ·rcases isAdv8 hk with rfl|rfl|rfl|rfl|rfl|rfl|rfl|rfl
  all_goals
   refine Qs func68 ?_
   intro w0 M0
   simp only [f68,lf,z,seval]
   apply once
   ·intro key
    (refine Qa 9 ?_)
    repeat' (first|(refine Qk ?_)|(refine QD 4 0 ?_)|(refine Qi 0 1 ?_ ?_)|(refine Qi 0 2 ?_ ?_)|(refine Qj 0 ?_)|(refine Qj 1 ?_)|(refine Qj 2 ?_)|(refine Qj 3 ?_)|(refine qc func112 ?_;simp only [f112,lf,z,seval])|(simp only [z,seval]))
    all_goals exact key
   ·(refine qc func113 ?_;simp only [f113,lf,z,seval])
    simp only [a1,z,seval]
    (refine Qf ?_;simp only [z,seval])
 ·rcases isAdv8 hk with rfl|rfl|rfl|rfl|rfl|rfl|rfl|rfl
  all_goals
   refine Qs func68 ?_
   intro w0 M0
   simp only [f68,lf,z,seval]
   apply once
   ·intro key
    (refine Qa 9 ?_)
    repeat' (first|(refine Qk ?_)|(refine QD 4 0 ?_)|(refine Qi 0 1 ?_ ?_)|(refine Qi 0 2 ?_ ?_)|(refine Qj 0 ?_)|(refine Qj 1 ?_)|(refine Qj 2 ?_)|(refine Qj 3 ?_)|(refine qc func112 ?_;simp only [f112,lf,z,seval])|(simp only [z,seval]))
    all_goals exact key
   ·(refine qc func113 ?_;simp only [f113,lf,z,seval])
    simp only [a1,a2,z,seval]
    (refine Qf ?_;simp only [z,seval])
 ·rw [hA] at ae;cases ae
theorem advDo_spec (w:World) {N:Nat} (hw:w.fit N) (h5:64≤N) (hN:N≤400000000000) (hbr:0≤w.box.room∧w.box.room≤1099511627776) (hpl:w.people.length≤1000) (o:Op) (h:isAdv o=true):Spec PP GG 68 [w.v,o.v] (.tup [(advM w o).1.v,i64 (advM w o).2]) []:=by
 obtain ⟨k,a,b,c,d,ws⟩:=o
 have hq:=hw.regs
 cases hA:regM w a with
 | none =>
   rw [show advM w ⟨k,a,b,c,d,ws⟩=(w,1) by simp only [advM,hA,Option.isSome_none,Bool.and_false,cond_false]]
   exact advDo_none w (by omega) k a b c d ws h hA
 | some la =>
   have hS:(regM w a).isSome=true:=by rw [hA];rfl
   obtain ⟨m1,m2,m3⟩:=regM_mem hA
   obtain ⟨a,rfl⟩:=Int.eq_ofNat_of_zero_le m1
   rw [Int.toNat_natCast] at m2
   rcases isAdv8 h with rfl|rfl|rfl|rfl|rfl|rfl|rfl|rfl
   ·rw [adv_0 hS];exact advDo_0 w hw h5 hN hbr a hpl m2 b c d ws
   ·rw [adv_1 hS];exact advDo_1 w hw h5 hN hbr a hpl m2 b c d ws
   ·rw [adv_2 hS];exact advDo_2 w hw h5 hN hbr a hpl m2 b c d ws
   ·rw [adv_3 hS];exact advDo_3 w hw h5 hN hbr a hpl m2 b c d ws
   ·rw [adv_4 hS];exact advDo_4 w hw h5 hN hbr a hpl m2 b c d ws
   ·rw [adv_5 hS];exact advDo_5 w hw h5 hN hbr a hpl m2 b c d ws
   ·rw [adv_6 hS];exact advDo_6 w hw h5 hN hbr a hpl m2 b c d ws
   ·rw [adv_7 hS];exact advDo_7 w hw h5 hN hbr a hpl m2 b c d ws
theorem step_adv {w:World} {o:Op} (h:isAdv o=true):stepM w o=advM w o:=by unfold stepM;rw [h];rfl
theorem step_none {w:World} {o:Op} (h:o.kind < 0∨14 < o.kind):stepM w o=(w,1):=by
 have e:isAdv o=false:=by
  unfold isAdv
  rw [Bool.and_eq_false_iff]
  rcases h with h|h
  ·exact .inl (decide_eq_false (by omega))
  ·exact .inr (decide_eq_false (by omega))
 have q:∀ n:Int,0≤n→n≤14→(o.kind==n)=false:=fun n h0 h1=>by
  rw [beq_eq_false_iff_ne];omega
 unfold stepM
 rw [e,q 8 (by omega) (by omega),q 9 (by omega) (by omega),q 10 (by omega) (by omega),q 11 (by omega) (by omega),q 12 (by omega) (by omega),q 13 (by omega) (by omega),q 14 (by omega) (by omega)]
 rfl
theorem kinds15 {k:Int} (h1:¬ (k < 0∨14 < k)) (h2:¬ k≤7):k=8∨k=9∨k=10∨k=11∨k=12∨k=13∨k=14:=by omega
theorem nameB_of {n:Int} (h1:decide (n≥0)=true) (h2:decide (n≤255)=true):nameB n=true:=by unfold nameB;rw [h1,h2];rfl
theorem take_w (w:World) (i:Int):netTake w.net i=bif inNet w i then (⟨w.net.room,w.net.grams.eraseIdx i.toNat,w.net.seen⟩,gramAt w i,0) else (w.net,⟨0,[]⟩,1):=rfl
theorem double_w (w:World) (i:Int):netDouble w.net i=bif inNet w i then (bif decide (w.net.room - (w.net.grams.length:Int) < 1) then (w.net,10) else (⟨w.net.room,w.net.grams++[gramAt w i],w.net.seen⟩,0)) else (w.net,1):=rfl
theorem capT_U {n:Int} (h:0≤n):U (capT n):=by unfold capT U;split<;>omega
theorem capT_wrap {n:Int} (h:0≤n):IntKind.u32.wrap (capT n)=capT n:=by
 have:=capT_U h
 rw [IntKind.wrap_u32]
 exact Int.emod_eq_of_lt this.1 (by have:=this.2;omega)
theorem nameU {n:Int} (h1:decide (n≥0)=true) (h2:decide (n≤255)=true):IntKind.u32.wrap n=n:=by
 have a:=of_decide_eq_true h1
 have b:=of_decide_eq_true h2
 rw [IntKind.wrap_u32]
 exact Int.emod_eq_of_lt a (by omega)
end Ch
