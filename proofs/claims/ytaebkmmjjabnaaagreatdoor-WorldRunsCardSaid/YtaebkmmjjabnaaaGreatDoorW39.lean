import Derived.Test.YtaebkmmjjabnaaaGreatDoorW37
set_option maxRecDepth 100000
set_option maxHeartbeats 4000000
set_option linter.unusedSimpArgs false
set_option linter.unusedVariables false
namespace Ch
open Go Go.Ab Go.Proofs.Tryz
theorem rDo_hi (w:World) {N:Nat} (hw:w.fit N) (h5:64≤N) (hN:N≤400000000000) (hrN:w.regs.length≤1000000) (hr:Right10 w.people=true) (hb7:Right07 w.box=true) (k a b c d:Int) (ws:List Int) (la:List Int) (hA:regM w a=some la) (hk:k=4∨k=5∨k=6∨k=7):Spec PP GG 70 [w.v,Op.v ⟨k,a,b,c,d,ws⟩] (.tup [(advM w ⟨k,a,b,c,d,ws⟩).1.v,i64 (advM w ⟨k,a,b,c,d,ws⟩).2]) []:=by
 have hR:=fun i n=>rreg_spec w i n (by omega)
 have h0:=hR a 0
 rw [regN_zero] at h0
 rw [hA] at h0
 have hS:(regM w a).isSome=true:=by rw [hA];rfl
 obtain ⟨m1,m2,m3⟩:=regM_mem hA
 obtain ⟨a,rfl⟩:=Int.eq_ofNat_of_zero_le m1
 have hset:=fun (v:World) (l:List Int) (h:v.regs.length≤1000000) (hl:l.length≤1099511627776)=>rset_spec v a l h hl
 rcases hk with rfl|rfl|rfl|rfl
 ·rw [adv_4 hS]
  have h1:=hR b 1
  have h2:=hR c 1
  have h3:=hR d 0
  rw [regN_zero] at h3
  rcases regN_first (w:=w) (i:=b) with ⟨e1,f1⟩|⟨x,bx,e1,f1,g1⟩
  ·rw [e1] at h1
   have e:seal4 w ⟨4,a,b,c,d,ws⟩=(w,1):=by unfold seal4;simp only [f1]
   rw [e]
   try simp only [Bool.true_or,Bool.or_true,Bool.or_false,Bool.false_or,cond_true,cond_false,Option.getD_some,Option.getD_none,Option.isSome_some,Option.isSome_none,List.map_nil,Int.toNat_natCast] at *
   refine Qs func70 ?_
   intro w0 M0
   simp only [f70,lf,z,seval]
   (refine CU h0 (h:=?_);simp only [z,seval])
   (refine CU h1 (h:=?_);simp only [z,seval])
   (refine CU h2 (h:=?_);simp only [z,seval])
   (refine CU h3 (h:=?_);simp only [z,seval])
   (refine Qf ?_;simp only [z,seval])
  rw [e1] at h1
  rcases regN_first (w:=w) (i:=c) with ⟨e2,f2⟩|⟨y,cy,e2,f2,g2⟩
  ·rw [e2] at h2
   have e:seal4 w ⟨4,a,b,c,d,ws⟩=(w,1):=by unfold seal4;simp only [f1,f2]
   rw [e]
   try simp only [Bool.true_or,Bool.or_true,Bool.or_false,Bool.false_or,cond_true,cond_false,Option.getD_some,Option.getD_none,Option.isSome_some,Option.isSome_none,List.map_nil,Int.toNat_natCast] at *
   refine Qs func70 ?_
   intro w0 M0
   simp only [f70,lf,z,seval]
   (refine CU h0 (h:=?_);simp only [z,seval])
   (refine CU h1 (h:=?_);simp only [z,seval])
   (refine CU h2 (h:=?_);simp only [z,seval])
   (refine CU h3 (h:=?_);simp only [z,seval])
   (refine Qf ?_;simp only [z,seval])
  rw [e2] at h2
  cases hD:regM w d with
  | none =>
    rw [hD] at h3
    have e:seal4 w ⟨4,a,b,c,d,ws⟩=(w,1):=by unfold seal4;simp only [f1,f2,hD]
    rw [e]
    try simp only [Bool.true_or,Bool.or_true,Bool.or_false,Bool.false_or,cond_true,cond_false,Option.getD_some,Option.getD_none,Option.isSome_some,Option.isSome_none,List.map_nil,Int.toNat_natCast] at *
    refine Qs func70 ?_
    intro w0 M0
    simp only [f70,lf,z,seval]
    (refine CU h0 (h:=?_);simp only [z,seval])
    (refine CU h1 (h:=?_);simp only [z,seval])
    (refine CU h2 (h:=?_);simp only [z,seval])
    (refine CU h3 (h:=?_);simp only [z,seval])
    (refine Qf ?_;simp only [z,seval])
  | some zz =>
    rw [hD] at h3
    have hz:=(regM_ok hw hD).2
    have q1:=hw.rows
    have h4:=rDraw_spec w hw (by omega)
    have h6:=rSeal07_spec w.box (drawW w).2 x y zz (by omega) (by omega)
    have e:seal4 w ⟨4,a,b,c,d,ws⟩=bif (boxSeal w.box (drawW w).2 x y zz).2==0 then (setReg { (drawW w).1 with box:=(boxSeal w.box (drawW w).2 x y zz).1 } a [(drawW w).2],0) else (w,(boxSeal w.box (drawW w).2 x y zz).2):=by unfold seal4;simp only [f1,f2,hD]
    rw [e]
    cases c1:((boxSeal w.box (drawW w).2 x y zz).2==0) with
    | false =>
      try simp only [Bool.true_or,Bool.or_true,Bool.or_false,Bool.false_or,cond_true,cond_false,Option.getD_some,Option.getD_none,Option.isSome_some,Option.isSome_none,List.map_nil,Int.toNat_natCast] at *
      refine Qs func70 ?_
      intro w0 M0
      simp only [f70,lf,z,seval]
      (refine CU h0 (h:=?_);simp only [z,seval])
      (refine CU h1 (h:=?_);simp only [z,seval])
      (refine CU h2 (h:=?_);simp only [z,seval])
      (refine CU h3 (h:=?_);simp only [z,seval])
      (refine CU h4 (h:=?_);simp only [z,seval])
      (refine Qw 1 ?_;simp only [z,seval])
      simp only [List.map_cons,List.getElem?_cons_zero,z,seval]
      (refine DU h6 (h:=?_);simp only [z,seval])
      (refine ⟨by kernel_rfl,?_⟩)
      simp only [c1,z,seval]
      (refine Qf ?_;simp only [z,seval])
    | true =>
      have h7:=hset { (drawW w).1 with box:=(boxSeal w.box (drawW w).2 x y zz).1 } [(drawW w).2] hrN (by simp)
      simp only [List.map_cons,List.map_nil,mv] at h7
      try simp only [Bool.true_or,Bool.or_true,Bool.or_false,Bool.false_or,cond_true,cond_false,Option.getD_some,Option.getD_none,Option.isSome_some,Option.isSome_none,List.map_nil,Int.toNat_natCast] at *
      refine Qs func70 ?_
      intro w0 M0
      simp only [f70,lf,z,seval]
      (refine CU h0 (h:=?_);simp only [z,seval])
      (refine CU h1 (h:=?_);simp only [z,seval])
      (refine CU h2 (h:=?_);simp only [z,seval])
      (refine CU h3 (h:=?_);simp only [z,seval])
      (refine CU h4 (h:=?_);simp only [z,seval])
      (refine Qw 1 ?_;simp only [z,seval])
      simp only [List.map_cons,List.getElem?_cons_zero,z,seval]
      (refine DU h6 (h:=?_);simp only [z,seval])
      (refine ⟨by kernel_rfl,?_⟩)
      simp only [c1,z,seval]
      (refine CU h7 (h:=?_);simp only [z,seval])
      (refine Qf ?_;simp only [z,seval])
 ·rw [adv_5 hS]
  have h1:=hR b 1
  have h2:=hR c 1
  have h3:=hR d 1
  rcases regN_first (w:=w) (i:=b) with ⟨e1,f1⟩|⟨x,bx,e1,f1,g1⟩
  ·rw [e1] at h1
   have e:open5 w ⟨5,a,b,c,d,ws⟩=(w,1):=by unfold open5;simp only [f1]
   rw [e]
   try simp only [Bool.true_or,Bool.or_true,Bool.or_false,Bool.false_or,cond_true,cond_false,Option.getD_some,Option.getD_none,Option.isSome_some,Option.isSome_none,List.map_nil,Int.toNat_natCast] at *
   refine Qs func70 ?_
   intro w0 M0
   simp only [f70,lf,z,seval]
   (refine CU h0 (h:=?_);simp only [z,seval])
   (refine CU h1 (h:=?_);simp only [z,seval])
   (refine CU h2 (h:=?_);simp only [z,seval])
   (refine CU h3 (h:=?_);simp only [z,seval])
   (refine Qf ?_;simp only [z,seval])
  rw [e1] at h1
  rcases regN_first (w:=w) (i:=c) with ⟨e2,f2⟩|⟨y,cy,e2,f2,g2⟩
  ·rw [e2] at h2
   have e:open5 w ⟨5,a,b,c,d,ws⟩=(w,1):=by unfold open5;simp only [f1,f2]
   rw [e]
   try simp only [Bool.true_or,Bool.or_true,Bool.or_false,Bool.false_or,cond_true,cond_false,Option.getD_some,Option.getD_none,Option.isSome_some,Option.isSome_none,List.map_nil,Int.toNat_natCast] at *
   refine Qs func70 ?_
   intro w0 M0
   simp only [f70,lf,z,seval]
   (refine CU h0 (h:=?_);simp only [z,seval])
   (refine CU h1 (h:=?_);simp only [z,seval])
   (refine CU h2 (h:=?_);simp only [z,seval])
   (refine CU h3 (h:=?_);simp only [z,seval])
   (refine Qf ?_;simp only [z,seval])
  rw [e2] at h2
  rcases regN_first (w:=w) (i:=d) with ⟨e3,f3⟩|⟨zz,dz,e3,f3,g3⟩
  ·rw [e3] at h3
   have e:open5 w ⟨5,a,b,c,d,ws⟩=(w,1):=by unfold open5;simp only [f1,f2,f3]
   rw [e]
   try simp only [Bool.true_or,Bool.or_true,Bool.or_false,Bool.false_or,cond_true,cond_false,Option.getD_some,Option.getD_none,Option.isSome_some,Option.isSome_none,List.map_nil,Int.toNat_natCast] at *
   refine Qs func70 ?_
   intro w0 M0
   simp only [f70,lf,z,seval]
   (refine CU h0 (h:=?_);simp only [z,seval])
   (refine CU h1 (h:=?_);simp only [z,seval])
   (refine CU h2 (h:=?_);simp only [z,seval])
   (refine CU h3 (h:=?_);simp only [z,seval])
   (refine Qf ?_;simp only [z,seval])
  rw [e3] at h3
  have q1:=hw.rows
  have q2:=hw.plain
  have h4:=rOpen07_spec w.box hb7 x y zz (by omega) (fun s hs=>by have:=q2 s hs;omega)
  cases hO:boxOpen w.box x y zz with
  | none =>
    rw [hO] at h4
    have e:open5 w ⟨5,a,b,c,d,ws⟩=(w,6):=by unfold open5;simp only [f1,f2,f3,hO]
    rw [e]
    try simp only [Bool.true_or,Bool.or_true,Bool.or_false,Bool.false_or,cond_true,cond_false,Option.getD_some,Option.getD_none,Option.isSome_some,Option.isSome_none,List.map_nil,Int.toNat_natCast] at *
    refine Qs func70 ?_
    intro w0 M0
    simp only [f70,lf,z,seval]
    (refine CU h0 (h:=?_);simp only [z,seval])
    (refine CU h1 (h:=?_);simp only [z,seval])
    (refine CU h2 (h:=?_);simp only [z,seval])
    (refine CU h3 (h:=?_);simp only [z,seval])
    (refine Qw 0 ?_;simp only [z,seval])
    simp only [List.map_cons,List.getElem?_cons_zero,z,seval]
    (refine DU h4 (h:=?_);simp only [z,seval])
    (refine ⟨by kernel_rfl,?_⟩)
    try simp only [z,seval]
    (refine Qf ?_;simp only [z,seval])
  | some l =>
    rw [hO] at h4
    have e:open5 w ⟨5,a,b,c,d,ws⟩=(setReg w a l,0):=by unfold open5;simp only [f1,f2,f3,hO]
    rw [e]
    have hl:l.length≤1099511627776:=by
     obtain ⟨s,hs,rfl,_⟩:=open_plain hO
     have:=q2 s hs
     omega
    have h7:=hset w l hrN hl
    try simp only [Bool.true_or,Bool.or_true,Bool.or_false,Bool.false_or,cond_true,cond_false,Option.getD_some,Option.getD_none,Option.isSome_some,Option.isSome_none,List.map_nil,Int.toNat_natCast] at *
    refine Qs func70 ?_
    intro w0 M0
    simp only [f70,lf,z,seval]
    (refine CU h0 (h:=?_);simp only [z,seval])
    (refine CU h1 (h:=?_);simp only [z,seval])
    (refine CU h2 (h:=?_);simp only [z,seval])
    (refine CU h3 (h:=?_);simp only [z,seval])
    (refine Qw 0 ?_;simp only [z,seval])
    simp only [List.map_cons,List.getElem?_cons_zero,z,seval]
    (refine DU h4 (h:=?_);simp only [z,seval])
    (refine ⟨by kernel_rfl,?_⟩)
    try simp only [z,seval]
    (refine CU h7 (h:=?_);simp only [z,seval])
    (refine Qf ?_;simp only [z,seval])
 ·rw [adv_6 hS,corrupt6]
  cases c1:decide (b < 1) with
  | true =>
    try simp only [Bool.true_or,Bool.or_true,Bool.or_false,Bool.false_or,cond_true,cond_false,Option.getD_some,Option.getD_none,Option.isSome_some,Option.isSome_none,List.map_nil,Int.toNat_natCast] at *
    refine Qs func70 ?_
    intro w0 M0
    simp only [f70,lf,z,seval]
    (refine CU h0 (h:=?_);simp only [z,seval])
    simp only [c1,z,seval]
    (refine Qf ?_;simp only [z,seval])
  | false =>
  cases c2:decide (b≥(w.people.length:Int)) with
  | true =>
    try simp only [Bool.true_or,Bool.or_true,Bool.or_false,Bool.false_or,cond_true,cond_false,Option.getD_some,Option.getD_none,Option.isSome_some,Option.isSome_none,List.map_nil,Int.toNat_natCast] at *
    refine Qs func70 ?_
    intro w0 M0
    simp only [f70,lf,z,seval]
    (refine CU h0 (h:=?_);simp only [z,seval])
    simp only [c1,c2,z,seval]
    (refine Qf ?_;simp only [z,seval])
  | false =>
    obtain ⟨b,rfl⟩:=Int.eq_ofNat_of_zero_le (show 0≤b by have:=of_decide_eq_false c1;omega)
    have hlt:b < w.people.length:=by have:=of_decide_eq_false c2;omega
    have g:=getMap Person.v w.people hlt
    simp only [mv] at g
    have hp:personW w (b:Int)=w.people[b]:=by unfold personW;rw [Int.toNat_natCast];exact get_in9 hlt
    simp only [Bool.false_or,cond_false,hp]
    have hU:=(hw.ok.2.2.2.2.1.2 _ (List.getElem_mem hlt)).1
    have h1:=rWith_spec w hw (by omega) hr { w.people[b] with corrupt:=true } hU
    have h7:=hset (withW w { w.people[b] with corrupt:=true }) [w.people[b].key] hrN (by simp)
    simp only [List.map_cons,List.map_nil,mv] at h1 h7
    try simp only [Bool.true_or,Bool.or_true,Bool.or_false,Bool.false_or,cond_true,cond_false,Option.getD_some,Option.getD_none,Option.isSome_some,Option.isSome_none,List.map_nil,Int.toNat_natCast] at *
    refine Qs func70 ?_
    intro w0 M0
    simp only [f70,lf,z,seval]
    (refine CU h0 (h:=?_);simp only [z,seval])
    simp only [c1,c2,g,z,seval]
    (refine Qw 0 ?_;simp only [z,seval])
    try simp only [g,z,seval]
    (refine DU h1 (h:=?_);simp only [z,seval])
    (refine DU h7 (h:=?_);simp only [z,seval])
    (refine ⟨by kernel_rfl,?_⟩)
    try simp only [z,seval]
    (refine Qf ?_;simp only [z,seval])
 ·rw [adv_7 hS,leak7]
  cases c1:decide (b < 0) with
  | true =>
    try simp only [Bool.true_or,Bool.or_true,Bool.or_false,Bool.false_or,cond_true,cond_false,Option.getD_some,Option.getD_none,Option.isSome_some,Option.isSome_none,List.map_nil,Int.toNat_natCast] at *
    refine Qs func70 ?_
    intro w0 M0
    simp only [f70,lf,z,seval]
    (refine CU h0 (h:=?_);simp only [z,seval])
    simp only [c1,z,seval]
    (refine Qf ?_;simp only [z,seval])
  | false =>
  cases c2:decide (b≥(w.log.length:Int)) with
  | true =>
    try simp only [Bool.true_or,Bool.or_true,Bool.or_false,Bool.false_or,cond_true,cond_false,Option.getD_some,Option.getD_none,Option.isSome_some,Option.isSome_none,List.map_nil,Int.toNat_natCast] at *
    refine Qs func70 ?_
    intro w0 M0
    simp only [f70,lf,z,seval]
    (refine CU h0 (h:=?_);simp only [z,seval])
    simp only [c1,c2,z,seval]
    (refine Qf ?_;simp only [z,seval])
  | false =>
    obtain ⟨b,rfl⟩:=Int.eq_ofNat_of_zero_le (show 0≤b by have:=of_decide_eq_false c1;omega)
    have hlt:b < w.log.length:=by have:=of_decide_eq_false c2;omega
    have g:=getMap Event.v w.log hlt
    simp only [mv] at g
    have hok:=hw.ok.2.2.2.2.2.1.2 _ (List.getElem_mem hlt)
    simp only [Bool.false_or,cond_false,Int.toNat_natCast,List.getElem?_eq_getElem hlt]
    generalize w.log[b]=ev at g hok
    cases c3:(ev.kind==2) with
    | false =>
      try simp only [Bool.true_or,Bool.or_true,Bool.or_false,Bool.false_or,cond_true,cond_false,Option.getD_some,Option.getD_none,Option.isSome_some,Option.isSome_none,List.map_nil,Int.toNat_natCast] at *
      refine Qs func70 ?_
      intro w0 M0
      simp only [f70,lf,z,seval]
      (refine CU h0 (h:=?_);simp only [z,seval])
      simp only [c1,c2,g,c3,z,seval]
      (refine Qf ?_;simp only [z,seval])
    | true =>
      have h1:=rPerson_spec w hw (by omega) hr ev.b hok.2.2.2.2.1
      have q1:=hw.leaks
      have h7:=hset { w with leaks:=w.leaks++[⟨ev.k,(personW w ev.b).clock⟩] } [ev.k] hrN (by simp)
      simp only [List.map_cons,List.map_nil,List.map_append,mv] at h7
      try simp only [Bool.true_or,Bool.or_true,Bool.or_false,Bool.false_or,cond_true,cond_false,Option.getD_some,Option.getD_none,Option.isSome_some,Option.isSome_none,List.map_nil,Int.toNat_natCast] at *
      refine Qs func70 ?_
      intro w0 M0
      simp only [f70,lf,z,seval]
      (refine CU h0 (h:=?_);simp only [z,seval])
      simp only [c1,c2,g,c3,z,seval]
      (refine Qw 1 ?_;simp only [z,seval])
      refine DOC_ok (okMap _ (fun a=>rfl) (by omega)) ?_
      simp only [z,seval]
      (refine DU h1 (h:=?_);simp only [z,seval])
      refine DOC_ok (by simp;omega) ?_
      simp only [z,seval]
      (refine ⟨by kernel_rfl,?_⟩)
      try simp only [z,seval]
      (refine CU h7 (h:=?_);simp only [z,seval])
      (refine Qf ?_;simp only [z,seval])
theorem rDo_spec (w:World) {N:Nat} (hw:w.fit N) (h5:64≤N) (hN:N≤400000000000) (hrN:w.regs.length≤1000000) (hr:Right10 w.people=true) (hb7:Right07 w.box=true) (o:Op) (ho:o.ok):Spec PP GG 70 [w.v,o.v] (.tup [(advM w o).1.v,i64 (advM w o).2]) []:=by
 have hR:=fun i n=>rreg_spec w i n (by omega)
 have h0:=hR o.a 0
 rw [regN_zero] at h0
 obtain ⟨k,a,b,c,d,ws⟩:=o
 simp only at h0
 cases ck1:decide (k < 0) with
 | true =>
   have e:advM w ⟨k,a,b,c,d,ws⟩=(w,1):=by simp only [advM,isAdv,show decide (k≥0)=false from decide_eq_false (by have:=of_decide_eq_true ck1;omega),Bool.false_and,cond_false]
   rw [e]
   try simp only [Bool.true_or,Bool.or_true,Bool.or_false,Bool.false_or,cond_true,cond_false,Option.getD_some,Option.getD_none,Option.isSome_some,Option.isSome_none,List.map_nil,Int.toNat_natCast] at *
   refine Qs func70 ?_
   intro w0 M0
   simp only [f70,lf,z,seval]
   (refine CU h0 (h:=?_);simp only [z,seval])
   simp only [ck1,z,seval]
   (refine Qf ?_;simp only [z,seval])
 | false =>
 cases ck2:decide (k > 7) with
 | true =>
   have e:advM w ⟨k,a,b,c,d,ws⟩=(w,1):=by simp only [advM,isAdv,show decide (k≤7)=false from decide_eq_false (by have:=of_decide_eq_true ck2;omega),Bool.and_false,Bool.false_and,cond_false]
   rw [e]
   try simp only [Bool.true_or,Bool.or_true,Bool.or_false,Bool.false_or,cond_true,cond_false,Option.getD_some,Option.getD_none,Option.isSome_some,Option.isSome_none,List.map_nil,Int.toNat_natCast] at *
   refine Qs func70 ?_
   intro w0 M0
   simp only [f70,lf,z,seval]
   (refine CU h0 (h:=?_);simp only [z,seval])
   simp only [ck1,ck2,z,seval]
   (refine Qf ?_;simp only [z,seval])
 | false =>
 cases hA:regM w a with
 | none =>
   have e:advM w ⟨k,a,b,c,d,ws⟩=(w,1):=by simp only [advM,hA,Option.isSome_none,Bool.and_false,cond_false]
   rw [e]
   rw [hA] at h0
   try simp only [Bool.true_or,Bool.or_true,Bool.or_false,Bool.false_or,cond_true,cond_false,Option.getD_some,Option.getD_none,Option.isSome_some,Option.isSome_none,List.map_nil,Int.toNat_natCast] at *
   refine Qs func70 ?_
   intro w0 M0
   simp only [f70,lf,z,seval]
   (refine CU h0 (h:=?_);simp only [z,seval])
   simp only [ck1,ck2,z,seval]
   (refine Qf ?_;simp only [z,seval])
 | some la =>
   rcases kinds8 (k:=k) (by rw [ck1,ck2];rfl) with h|h|h|h|h|h|h|h
   ·exact rDo_lo w hw h5 hN hrN hr hb7 k a b c d ws la hA (.inl h)
   ·exact rDo_lo w hw h5 hN hrN hr hb7 k a b c d ws la hA (.inr (.inl h))
   ·exact rDo_lo w hw h5 hN hrN hr hb7 k a b c d ws la hA (.inr (.inr (.inl h)))
   ·exact rDo_lo w hw h5 hN hrN hr hb7 k a b c d ws la hA (.inr (.inr (.inr h)))
   ·exact rDo_hi w hw h5 hN hrN hr hb7 k a b c d ws la hA (.inl h)
   ·exact rDo_hi w hw h5 hN hrN hr hb7 k a b c d ws la hA (.inr (.inl h))
   ·exact rDo_hi w hw h5 hN hrN hr hb7 k a b c d ws la hA (.inr (.inr (.inl h)))
   ·exact rDo_hi w hw h5 hN hrN hr hb7 k a b c d ws la hA (.inr (.inr (.inr h)))
end Ch
