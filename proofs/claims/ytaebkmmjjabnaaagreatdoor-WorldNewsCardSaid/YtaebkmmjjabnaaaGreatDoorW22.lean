import Derived.Test.YtaebkmmjjabnaaaGreatDoorW20
set_option maxRecDepth 100000
set_option maxHeartbeats 4000000
set_option linter.unusedSimpArgs false
set_option linter.unusedVariables false
namespace Ch
open Go Go.Ab Go.Proofs.Tryz
theorem advDo_5_1 (w:World) {N:Nat} (hw:w.fit N) (h5:64≤N) (hN:N≤400000000000) (hbr:0≤w.box.room∧w.box.room≤1099511627776) (a:Nat) (hpl:w.people.length≤1000) (hA:a < w.regs.length) (b:Int) (b1:decide (b < 0)=false) (b2:decide (b≥(w.regs.length:Int))=true) (be:firstM w b=none) (c d:Int) (ws:List Int):Spec PP GG 68 [w.v,Op.v ⟨5,a,b,c,d,ws⟩] (.tup [(open5 w ⟨5,a,b,c,d,ws⟩).1.v,i64 (open5 w ⟨5,a,b,c,d,ws⟩).2]) []:=by
 have hq:=hw.regs
 have a1:decide ((a:Int) < 0)=false:=decide_eq_false (by omega)
 have a2:decide ((a:Int)≥(w.regs.length:Int))=false:=decide_eq_false (by omega)
 have gA:=getMap wordsV w.regs hA
 simp only [mv] at gA
 have hCl:=CloneR_spec w.regs (by omega)
 have hset:∀ l:List Int,(w.regs.map wordsV).set a (wordsV l)=(w.regs.set a l).map wordsV:=fun l=>by rw [List.map_set]
 have znil:((([]:List Int).length:Int)==0)=true:=rfl
 have zcons:∀ (x:Int) (l:List Int),(((x::l).length:Int)==0)=false:=fun x l=>by simp;omega
 have zhd:∀ (x:Int) (l:List Int),((x::l).map u32)[0]?=some (u32 x):=fun x l=>rfl
 have zcons2:∀ (l:List Int),(((l.length + 1:Nat):Int)==0)=false:=fun l=>by simp;omega
 rcases first_cases w c with ⟨c1,ce⟩|⟨c1,c2,ce⟩|⟨c,rfl,ch,c1,c2,ce,cg⟩|⟨c,cx,cl,rfl,ch,c1,c2,ce,cg⟩<;>rcases first_cases w d with ⟨d1,de⟩|⟨d1,d2,de⟩|⟨d,rfl,dh,d1,d2,de,dg⟩|⟨d,dx,dl,rfl,dh,d1,d2,de,dg⟩
 all_goals try
  (rw [show open5 w ⟨5,a,b,c,d,ws⟩=(w,1) by unfold open5;simp only [be,ce,de]]
   refine Qs func68 ?_
   intro w0 M0
   simp only [f68,lf,z,seval]
   apply once
   ·intro key
    (refine Qa 9 ?_)
    repeat' (first|(refine Qk ?_)|(refine QD 4 0 ?_)|(refine Qi 0 1 ?_ ?_)|(refine Qi 0 2 ?_ ?_)|(refine Qj 0 ?_)|(refine Qj 1 ?_)|(refine Qj 2 ?_)|(refine Qj 3 ?_)|(refine qc func112 ?_;simp only [f112,lf,z,seval])|(simp only [z,seval]))
    all_goals exact key
   ·(refine qc func113 ?_;simp only [f113,lf,z,seval])
    simp only [a1,a2,gA,z,seval]
    (refine qc func175 ?_;simp only [f175,lf,z,seval])
    (refine qc func212 ?_;simp only [f212,lf,z,seval])
    (refine qc func113 ?_;simp only [f113,lf,z,seval])
    (first|simp only [b1,b2,bg,z,seval]|simp only [b1,b2,z,seval]|simp only [b1,z,seval])
    try simp only [znil,zcons,zcons2,zhd,List.length_cons,List.map_cons,List.getElem?_cons_zero,z,seval]
    (refine qc func212 ?_;simp only [f212,lf,z,seval])
    (refine qc func113 ?_;simp only [f113,lf,z,seval])
    (first|simp only [c1,c2,cg,z,seval]|simp only [c1,c2,z,seval]|simp only [c1,z,seval])
    try simp only [znil,zcons,zcons2,zhd,List.length_cons,List.map_cons,List.getElem?_cons_zero,z,seval]
    (refine qc func212 ?_;simp only [f212,lf,z,seval])
    (refine qc func113 ?_;simp only [f113,lf,z,seval])
    (first|simp only [d1,d2,dg,z,seval]|simp only [d1,d2,z,seval]|simp only [d1,z,seval])
    try simp only [znil,zcons,zcons2,zhd,List.length_cons,List.map_cons,List.getElem?_cons_zero,z,seval]
    (refine Qf ?_;simp only [z,seval])
   done)
theorem advDo_5_2 (w:World) {N:Nat} (hw:w.fit N) (h5:64≤N) (hN:N≤400000000000) (hbr:0≤w.box.room∧w.box.room≤1099511627776) (a:Nat) (hpl:w.people.length≤1000) (hA:a < w.regs.length) (b:Nat) (b1:decide ((b:Int) < 0)=false) (b2:decide ((b:Int)≥(w.regs.length:Int))=false) (be:firstM w (b:Int)=none) (bg:(w.regs.map wordsV)[b]?=some (V.sl (([]:List Int).map u32) .plain)) (c d:Int) (ws:List Int):Spec PP GG 68 [w.v,Op.v ⟨5,a,b,c,d,ws⟩] (.tup [(open5 w ⟨5,a,b,c,d,ws⟩).1.v,i64 (open5 w ⟨5,a,b,c,d,ws⟩).2]) []:=by
 have hq:=hw.regs
 have a1:decide ((a:Int) < 0)=false:=decide_eq_false (by omega)
 have a2:decide ((a:Int)≥(w.regs.length:Int))=false:=decide_eq_false (by omega)
 have gA:=getMap wordsV w.regs hA
 simp only [mv] at gA
 have hCl:=CloneR_spec w.regs (by omega)
 have hset:∀ l:List Int,(w.regs.map wordsV).set a (wordsV l)=(w.regs.set a l).map wordsV:=fun l=>by rw [List.map_set]
 have znil:((([]:List Int).length:Int)==0)=true:=rfl
 have zcons:∀ (x:Int) (l:List Int),(((x::l).length:Int)==0)=false:=fun x l=>by simp;omega
 have zhd:∀ (x:Int) (l:List Int),((x::l).map u32)[0]?=some (u32 x):=fun x l=>rfl
 have zcons2:∀ (l:List Int),(((l.length + 1:Nat):Int)==0)=false:=fun l=>by simp;omega
 rcases first_cases w c with ⟨c1,ce⟩|⟨c1,c2,ce⟩|⟨c,rfl,ch,c1,c2,ce,cg⟩|⟨c,cx,cl,rfl,ch,c1,c2,ce,cg⟩<;>rcases first_cases w d with ⟨d1,de⟩|⟨d1,d2,de⟩|⟨d,rfl,dh,d1,d2,de,dg⟩|⟨d,dx,dl,rfl,dh,d1,d2,de,dg⟩
 all_goals try
  (rw [show open5 w ⟨5,a,b,c,d,ws⟩=(w,1) by unfold open5;simp only [be,ce,de]]
   refine Qs func68 ?_
   intro w0 M0
   simp only [f68,lf,z,seval]
   apply once
   ·intro key
    (refine Qa 9 ?_)
    repeat' (first|(refine Qk ?_)|(refine QD 4 0 ?_)|(refine Qi 0 1 ?_ ?_)|(refine Qi 0 2 ?_ ?_)|(refine Qj 0 ?_)|(refine Qj 1 ?_)|(refine Qj 2 ?_)|(refine Qj 3 ?_)|(refine qc func112 ?_;simp only [f112,lf,z,seval])|(simp only [z,seval]))
    all_goals exact key
   ·(refine qc func113 ?_;simp only [f113,lf,z,seval])
    simp only [a1,a2,gA,z,seval]
    (refine qc func175 ?_;simp only [f175,lf,z,seval])
    (refine qc func212 ?_;simp only [f212,lf,z,seval])
    (refine qc func113 ?_;simp only [f113,lf,z,seval])
    (first|simp only [b1,b2,bg,z,seval]|simp only [b1,b2,z,seval]|simp only [b1,z,seval])
    try simp only [znil,zcons,zcons2,zhd,List.length_cons,List.map_cons,List.getElem?_cons_zero,z,seval]
    (refine qc func212 ?_;simp only [f212,lf,z,seval])
    (refine qc func113 ?_;simp only [f113,lf,z,seval])
    (first|simp only [c1,c2,cg,z,seval]|simp only [c1,c2,z,seval]|simp only [c1,z,seval])
    try simp only [znil,zcons,zcons2,zhd,List.length_cons,List.map_cons,List.getElem?_cons_zero,z,seval]
    (refine qc func212 ?_;simp only [f212,lf,z,seval])
    (refine qc func113 ?_;simp only [f113,lf,z,seval])
    (first|simp only [d1,d2,dg,z,seval]|simp only [d1,d2,z,seval]|simp only [d1,z,seval])
    try simp only [znil,zcons,zcons2,zhd,List.length_cons,List.map_cons,List.getElem?_cons_zero,z,seval]
    (refine Qf ?_;simp only [z,seval])
   done)
end Ch
