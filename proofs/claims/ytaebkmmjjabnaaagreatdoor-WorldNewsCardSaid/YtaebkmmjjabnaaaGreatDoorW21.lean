import Derived.Test.YtaebkmmjjabnaaaGreatDoorW20
set_option maxRecDepth 100000
set_option maxHeartbeats 4000000
set_option linter.unusedSimpArgs false
set_option linter.unusedVariables false
namespace Ch
open Go Go.Ab Go.Proofs.Tryz
theorem advDo_4_2 (w:World) {N:Nat} (hw:w.fit N) (h5:64≤N) (hN:N≤400000000000) (hbr:0≤w.box.room∧w.box.room≤1099511627776) (a:Nat) (hpl:w.people.length≤1000) (hA:a < w.regs.length) (b:Nat) (b1:decide ((b:Int) < 0)=false) (b2:decide ((b:Int)≥(w.regs.length:Int))=false) (be:firstM w (b:Int)=none) (bg:(w.regs.map wordsV)[b]?=some (V.sl (([]:List Int).map u32) .plain)) (c d:Int) (ws:List Int):Spec PP GG 68 [w.v,Op.v ⟨4,a,b,c,d,ws⟩] (.tup [(seal4 w ⟨4,a,b,c,d,ws⟩).1.v,i64 (seal4 w ⟨4,a,b,c,d,ws⟩).2]) []:=by
 have hq:=hw.regs
 have a1:decide ((a:Int) < 0)=false:=decide_eq_false (by omega)
 have a2:decide ((a:Int)≥(w.regs.length:Int))=false:=decide_eq_false (by omega)
 have gA:=getMap wordsV w.regs hA
 simp only [mv] at gA
 have hCl:=CloneR_spec w.regs (by omega)
 have hset:∀ l:List Int,(w.regs.map wordsV).set a (wordsV l)=(w.regs.set a l).map wordsV:=fun l=>by rw [List.map_set]
 have znil:((([]:List Int).length:Int)==0)=true:=rfl
 have zcons:∀ (x:Int) (l:List Int),(((x::l).length:Int)==0)=false:=fun x l=>by simp;omega
 have zhd:∀ (x:Int) (l:List Int),((x::l).map u32)[0]?=some (u32 x):=fun x l=>rfl
 have zcons2:∀ (l:List Int),(((l.length + 1:Nat):Int)==0)=false:=fun l=>by simp;omega
 rcases first_cases w c with ⟨c1,ce⟩|⟨c1,c2,ce⟩|⟨c,rfl,ch,c1,c2,ce,cg⟩|⟨c,cx,cl,rfl,ch,c1,c2,ce,cg⟩<;>rcases reg_cases w d with ⟨d1,de⟩|⟨d1,d2,de⟩|⟨d,rfl,dh,d1,d2,de,dg⟩
 all_goals try
  (rw [show seal4 w ⟨4,a,b,c,d,ws⟩=(w,1) by unfold seal4;simp only [be,ce,de]]
   refine Qs func68 ?_
   intro w0 M0
   simp only [f68,lf,z,seval]
   apply once
   ·intro key
    (refine Qa 9 ?_)
    repeat' (first|(refine Qk ?_)|(refine QD 4 0 ?_)|(refine Qi 0 1 ?_ ?_)|(refine Qi 0 2 ?_ ?_)|(refine Qj 0 ?_)|(refine Qj 1 ?_)|(refine Qj 2 ?_)|(refine Qj 3 ?_)|(refine qc func112 ?_;simp only [f112,lf,z,seval])|(simp only [z,seval]))
    all_goals exact key
   ·(refine qc func113 ?_;simp only [f113,lf,z,seval])
    simp only [a1,a2,gA,z,seval]
    (refine qc func174 ?_;simp only [f174,lf,z,seval])
    (refine qc func212 ?_;simp only [f212,lf,z,seval])
    (refine qc func113 ?_;simp only [f113,lf,z,seval])
    (first|simp only [b1,b2,bg,z,seval]|simp only [b1,b2,z,seval]|simp only [b1,z,seval])
    try simp only [znil,zcons,zcons2,zhd,List.length_cons,List.map_cons,List.getElem?_cons_zero,z,seval]
    (refine qc func212 ?_;simp only [f212,lf,z,seval])
    (refine qc func113 ?_;simp only [f113,lf,z,seval])
    (first|simp only [c1,c2,cg,z,seval]|simp only [c1,c2,z,seval]|simp only [c1,z,seval])
    try simp only [znil,zcons,zcons2,zhd,List.length_cons,List.map_cons,List.getElem?_cons_zero,z,seval]
    (refine qc func113 ?_;simp only [f113,lf,z,seval])
    (first|simp only [d1,d2,dg,z,seval]|simp only [d1,d2,z,seval]|simp only [d1,z,seval])
    (refine Qf ?_;simp only [z,seval])
   done)
theorem advDo_4_3 (w:World) {N:Nat} (hw:w.fit N) (h5:64≤N) (hN:N≤400000000000) (hbr:0≤w.box.room∧w.box.room≤1099511627776) (a:Nat) (hpl:w.people.length≤1000) (hA:a < w.regs.length) (b:Nat) (bx:Int) (bl:List Int) (b1:decide ((b:Int) < 0)=false) (b2:decide ((b:Int)≥(w.regs.length:Int))=false) (be:firstM w (b:Int)=some bx) (bg:(w.regs.map wordsV)[b]?=some (V.sl ((bx::bl).map u32) .plain)) (c d:Int) (ws:List Int):Spec PP GG 68 [w.v,Op.v ⟨4,a,b,c,d,ws⟩] (.tup [(seal4 w ⟨4,a,b,c,d,ws⟩).1.v,i64 (seal4 w ⟨4,a,b,c,d,ws⟩).2]) []:=by
 have hq:=hw.regs
 have a1:decide ((a:Int) < 0)=false:=decide_eq_false (by omega)
 have a2:decide ((a:Int)≥(w.regs.length:Int))=false:=decide_eq_false (by omega)
 have gA:=getMap wordsV w.regs hA
 simp only [mv] at gA
 have hCl:=CloneR_spec w.regs (by omega)
 have hset:∀ l:List Int,(w.regs.map wordsV).set a (wordsV l)=(w.regs.set a l).map wordsV:=fun l=>by rw [List.map_set]
 have znil:((([]:List Int).length:Int)==0)=true:=rfl
 have zcons:∀ (x:Int) (l:List Int),(((x::l).length:Int)==0)=false:=fun x l=>by simp;omega
 have zhd:∀ (x:Int) (l:List Int),((x::l).map u32)[0]?=some (u32 x):=fun x l=>rfl
 have zcons2:∀ (l:List Int),(((l.length + 1:Nat):Int)==0)=false:=fun l=>by simp;omega
 rcases first_cases w c with ⟨c1,ce⟩|⟨c1,c2,ce⟩|⟨c,rfl,ch,c1,c2,ce,cg⟩|⟨c,cx,cl,rfl,ch,c1,c2,ce,cg⟩<;>rcases reg_cases w d with ⟨d1,de⟩|⟨d1,d2,de⟩|⟨d,rfl,dh,d1,d2,de,dg⟩
 all_goals try
  (rw [show seal4 w ⟨4,a,b,c,d,ws⟩=(w,1) by unfold seal4;simp only [be,ce,de]]
   refine Qs func68 ?_
   intro w0 M0
   simp only [f68,lf,z,seval]
   apply once
   ·intro key
    (refine Qa 9 ?_)
    repeat' (first|(refine Qk ?_)|(refine QD 4 0 ?_)|(refine Qi 0 1 ?_ ?_)|(refine Qi 0 2 ?_ ?_)|(refine Qj 0 ?_)|(refine Qj 1 ?_)|(refine Qj 2 ?_)|(refine Qj 3 ?_)|(refine qc func112 ?_;simp only [f112,lf,z,seval])|(simp only [z,seval]))
    all_goals exact key
   ·(refine qc func113 ?_;simp only [f113,lf,z,seval])
    simp only [a1,a2,gA,z,seval]
    (refine qc func174 ?_;simp only [f174,lf,z,seval])
    (refine qc func212 ?_;simp only [f212,lf,z,seval])
    (refine qc func113 ?_;simp only [f113,lf,z,seval])
    (first|simp only [b1,b2,bg,z,seval]|simp only [b1,b2,z,seval]|simp only [b1,z,seval])
    try simp only [znil,zcons,zcons2,zhd,List.length_cons,List.map_cons,List.getElem?_cons_zero,z,seval]
    (refine qc func212 ?_;simp only [f212,lf,z,seval])
    (refine qc func113 ?_;simp only [f113,lf,z,seval])
    (first|simp only [c1,c2,cg,z,seval]|simp only [c1,c2,z,seval]|simp only [c1,z,seval])
    try simp only [znil,zcons,zcons2,zhd,List.length_cons,List.map_cons,List.getElem?_cons_zero,z,seval]
    (refine qc func113 ?_;simp only [f113,lf,z,seval])
    (first|simp only [d1,d2,dg,z,seval]|simp only [d1,d2,z,seval]|simp only [d1,z,seval])
    (refine Qf ?_;simp only [z,seval])
   done)
 have hz:=(regM_ok hw de).2
 have q1:=hw.rows
 have h4:=draw_spec w hw (by omega)
 have h6:=bSeal_spec w.box (drawW w).2 bx cx w.regs[d] hbr (by omega) (by omega)
 cases c3:((boxSeal w.box (drawW w).2 bx cx w.regs[d]).2==0) with
 | false =>
   rw [show seal4 w ⟨4,a,b,c,d,ws⟩=(w,(boxSeal w.box (drawW w).2 bx cx w.regs[d]).2) by unfold seal4;simp only [be,ce,de,c3,cond_false]]
   refine Qs func68 ?_
   intro w0 M0
   simp only [f68,lf,z,seval]
   apply once
   ·intro key
    (refine Qa 9 ?_)
    repeat' (first|(refine Qk ?_)|(refine QD 4 0 ?_)|(refine Qi 0 1 ?_ ?_)|(refine Qi 0 2 ?_ ?_)|(refine Qj 0 ?_)|(refine Qj 1 ?_)|(refine Qj 2 ?_)|(refine Qj 3 ?_)|(refine qc func112 ?_;simp only [f112,lf,z,seval])|(simp only [z,seval]))
    all_goals exact key
   ·(refine qc func113 ?_;simp only [f113,lf,z,seval])
    simp only [a1,a2,gA,z,seval]
    (refine qc func174 ?_;simp only [f174,lf,z,seval])
    (refine qc func212 ?_;simp only [f212,lf,z,seval])
    (refine qc func113 ?_;simp only [f113,lf,z,seval])
    (first|simp only [b1,b2,bg,z,seval]|simp only [b1,b2,z,seval]|simp only [b1,z,seval])
    try simp only [znil,zcons,zcons2,zhd,List.length_cons,List.map_cons,List.getElem?_cons_zero,z,seval]
    (refine qc func212 ?_;simp only [f212,lf,z,seval])
    (refine qc func113 ?_;simp only [f113,lf,z,seval])
    (first|simp only [c1,c2,cg,z,seval]|simp only [c1,c2,z,seval]|simp only [c1,z,seval])
    try simp only [znil,zcons,zcons2,zhd,List.length_cons,List.map_cons,List.getElem?_cons_zero,z,seval]
    (refine qc func113 ?_;simp only [f113,lf,z,seval])
    (first|simp only [d1,d2,dg,z,seval]|simp only [d1,d2,z,seval]|simp only [d1,z,seval])
    (refine CU h4 (h:=?_);simp only [z,seval])
    (refine CU h6 (h:=?_);simp only [z,seval])
    simp only [c3,z,seval]
    (refine Qf ?_;simp only [z,seval])
 | true =>
   rw [show seal4 w ⟨4,a,b,c,d,ws⟩=(setReg { (drawW w).1 with box:=(boxSeal w.box (drawW w).2 bx cx w.regs[d]).1 } a [(drawW w).2],0) by unfold seal4;simp only [be,ce,de,c3,cond_true]]
   have hset:=hset ([(drawW w).2])
   simp only [mv,List.map_append,List.map_cons,List.map_nil] at hset
   refine Qs func68 ?_
   intro w0 M0
   simp only [f68,lf,z,seval]
   apply once
   ·intro key
    (refine Qa 9 ?_)
    repeat' (first|(refine Qk ?_)|(refine QD 4 0 ?_)|(refine Qi 0 1 ?_ ?_)|(refine Qi 0 2 ?_ ?_)|(refine Qj 0 ?_)|(refine Qj 1 ?_)|(refine Qj 2 ?_)|(refine Qj 3 ?_)|(refine qc func112 ?_;simp only [f112,lf,z,seval])|(simp only [z,seval]))
    all_goals exact key
   ·(refine qc func113 ?_;simp only [f113,lf,z,seval])
    simp only [a1,a2,gA,z,seval]
    (refine qc func174 ?_;simp only [f174,lf,z,seval])
    (refine qc func212 ?_;simp only [f212,lf,z,seval])
    (refine qc func113 ?_;simp only [f113,lf,z,seval])
    (first|simp only [b1,b2,bg,z,seval]|simp only [b1,b2,z,seval]|simp only [b1,z,seval])
    try simp only [znil,zcons,zcons2,zhd,List.length_cons,List.map_cons,List.getElem?_cons_zero,z,seval]
    (refine qc func212 ?_;simp only [f212,lf,z,seval])
    (refine qc func113 ?_;simp only [f113,lf,z,seval])
    (first|simp only [c1,c2,cg,z,seval]|simp only [c1,c2,z,seval]|simp only [c1,z,seval])
    try simp only [znil,zcons,zcons2,zhd,List.length_cons,List.map_cons,List.getElem?_cons_zero,z,seval]
    (refine qc func113 ?_;simp only [f113,lf,z,seval])
    (first|simp only [d1,d2,dg,z,seval]|simp only [d1,d2,z,seval]|simp only [d1,z,seval])
    (refine CU h4 (h:=?_);simp only [z,seval])
    (refine CU h6 (h:=?_);simp only [z,seval])
    simp only [c3,z,seval]
    (refine CH (hCl) (h:=?_);simp only [z,seval])
    (refine Qw 0 ?_;simp only [z,seval])
    simp only [hA,gA,if_true,z,seval]
    (refine ⟨by kernel_rfl,?_⟩)
    simp only [hset,z,seval]
    (refine Qf ?_;simp only [z,seval])
    simp only [setReg,drawW,Int.toNat_natCast]
    try rfl
theorem advDo_4 (w:World) {N:Nat} (hw:w.fit N) (h5:64≤N) (hN:N≤400000000000) (hbr:0≤w.box.room∧w.box.room≤1099511627776) (a:Nat) (hpl:w.people.length≤1000) (hA:a < w.regs.length) (b c d:Int) (ws:List Int):Spec PP GG 68 [w.v,Op.v ⟨4,a,b,c,d,ws⟩] (.tup [(seal4 w ⟨4,a,b,c,d,ws⟩).1.v,i64 (seal4 w ⟨4,a,b,c,d,ws⟩).2]) []:=by
 rcases first_cases w b with ⟨b1,be⟩|⟨b1,b2,be⟩|⟨b,rfl,bh,b1,b2,be,bg⟩|⟨b,bx,bl,rfl,bh,b1,b2,be,bg⟩
 ·exact advDo_4_0 w hw h5 hN hbr a hpl hA b b1 be c d ws
 ·exact advDo_4_1 w hw h5 hN hbr a hpl hA b b1 b2 be c d ws
 ·exact advDo_4_2 w hw h5 hN hbr a hpl hA b b1 b2 be bg c d ws
 ·exact advDo_4_3 w hw h5 hN hbr a hpl hA b bx bl b1 b2 be bg c d ws
theorem advDo_5_0 (w:World) {N:Nat} (hw:w.fit N) (h5:64≤N) (hN:N≤400000000000) (hbr:0≤w.box.room∧w.box.room≤1099511627776) (a:Nat) (hpl:w.people.length≤1000) (hA:a < w.regs.length) (b:Int) (b1:decide (b < 0)=true) (be:firstM w b=none) (c d:Int) (ws:List Int):Spec PP GG 68 [w.v,Op.v ⟨5,a,b,c,d,ws⟩] (.tup [(open5 w ⟨5,a,b,c,d,ws⟩).1.v,i64 (open5 w ⟨5,a,b,c,d,ws⟩).2]) []:=by
 have hq:=hw.regs
 have a1:decide ((a:Int) < 0)=false:=decide_eq_false (by omega)
 have a2:decide ((a:Int)≥(w.regs.length:Int))=false:=decide_eq_false (by omega)
 have gA:=getMap wordsV w.regs hA
 simp only [mv] at gA
 have hCl:=CloneR_spec w.regs (by omega)
 have hset:∀ l:List Int,(w.regs.map wordsV).set a (wordsV l)=(w.regs.set a l).map wordsV:=fun l=>by rw [List.map_set]
 have znil:((([]:List Int).length:Int)==0)=true:=rfl
 have zcons:∀ (x:Int) (l:List Int),(((x::l).length:Int)==0)=false:=fun x l=>by simp;omega
 have zhd:∀ (x:Int) (l:List Int),((x::l).map u32)[0]?=some (u32 x):=fun x l=>rfl
 have zcons2:∀ (l:List Int),(((l.length + 1:Nat):Int)==0)=false:=fun l=>by simp;omega
 rcases first_cases w c with ⟨c1,ce⟩|⟨c1,c2,ce⟩|⟨c,rfl,ch,c1,c2,ce,cg⟩|⟨c,cx,cl,rfl,ch,c1,c2,ce,cg⟩<;>rcases first_cases w d with ⟨d1,de⟩|⟨d1,d2,de⟩|⟨d,rfl,dh,d1,d2,de,dg⟩|⟨d,dx,dl,rfl,dh,d1,d2,de,dg⟩
 all_goals try
  (rw [show open5 w ⟨5,a,b,c,d,ws⟩=(w,1) by unfold open5;simp only [be,ce,de]]
   refine Qs func68 ?_
   intro w0 M0
   simp only [f68,lf,z,seval]
   apply once
   ·intro key
    (refine Qa 9 ?_)
    repeat' (first|(refine Qk ?_)|(refine QD 4 0 ?_)|(refine Qi 0 1 ?_ ?_)|(refine Qi 0 2 ?_ ?_)|(refine Qj 0 ?_)|(refine Qj 1 ?_)|(refine Qj 2 ?_)|(refine Qj 3 ?_)|(refine qc func112 ?_;simp only [f112,lf,z,seval])|(simp only [z,seval]))
    all_goals exact key
   ·(refine qc func113 ?_;simp only [f113,lf,z,seval])
    simp only [a1,a2,gA,z,seval]
    (refine qc func175 ?_;simp only [f175,lf,z,seval])
    (refine qc func212 ?_;simp only [f212,lf,z,seval])
    (refine qc func113 ?_;simp only [f113,lf,z,seval])
    (first|simp only [b1,b2,bg,z,seval]|simp only [b1,b2,z,seval]|simp only [b1,z,seval])
    try simp only [znil,zcons,zcons2,zhd,List.length_cons,List.map_cons,List.getElem?_cons_zero,z,seval]
    (refine qc func212 ?_;simp only [f212,lf,z,seval])
    (refine qc func113 ?_;simp only [f113,lf,z,seval])
    (first|simp only [c1,c2,cg,z,seval]|simp only [c1,c2,z,seval]|simp only [c1,z,seval])
    try simp only [znil,zcons,zcons2,zhd,List.length_cons,List.map_cons,List.getElem?_cons_zero,z,seval]
    (refine qc func212 ?_;simp only [f212,lf,z,seval])
    (refine qc func113 ?_;simp only [f113,lf,z,seval])
    (first|simp only [d1,d2,dg,z,seval]|simp only [d1,d2,z,seval]|simp only [d1,z,seval])
    try simp only [znil,zcons,zcons2,zhd,List.length_cons,List.map_cons,List.getElem?_cons_zero,z,seval]
    (refine Qf ?_;simp only [z,seval])
   done)
end Ch
