import Derived.Test.YtaebkmmjjabnaaaGreatDoorW16
set_option maxRecDepth 100000
set_option maxHeartbeats 4000000
set_option linter.unusedSimpArgs false
set_option linter.unusedVariables false
namespace Ch
open Go Go.Ab Go.Proofs.Tryz
theorem wait_not {l:List Run} {proto role m:Int} {j:Nat} (h:isRun proto role 1 (runAt l j)=false):waitM proto role m (runAt l j)=false:=by rw [waitM,h];rfl
theorem oWaits_spec (l:List Run) (m:Int) (hl:l.length≤1000000000000):Spec PP GG 297 [runsV l,u32 m] (.tup [i64 ((l.findIdx? (waitM 2 1 m)).getD 0:Nat),.bool (l.findIdx? (waitM 2 1 m)).isSome]) []:=by
 refine Qs func297 ?_
 intro w0 M0
 simp only [f297,lf,z,seval]
 refine RUNs_rangeS (l.length + 1) (fun j (f:Nat)=>j≤f∧f≤l.length ∧ ∀ i,i < f→waitM 2 1 m (runAt l i)=false) (fun _ f=>[(6,i64 f)]) (fun _ _=>[]) 0 ?_ (by simp only [z,seval];exact wk) rfl ?_
 ·exact ⟨Nat.le_refl _,Nat.zero_le _,fun i hi=>absurd hi (Nat.not_lt_zero _)⟩
 rintro ⟨j,f,hj,h1,h2,h3⟩
 have hN:=pNext_spec l f 2 1 1 (by omega)
 simp only [z,seval]
 cases c:nextR l f (isRun 2 1 1) with
 | none =>
   rw [c] at hN
   have e:l.findIdx? (waitM 2 1 m)=none:=first_none (fun i hi=>by
    rcases Nat.lt_or_ge i f with h|h
    ·exact h3 i h
    ·exact wait_not (nextR_none c i h hi))
   rw [e]
   simp only [Option.isSome_none,Option.getD_none] at hN
   (refine CU hN (h:=?_);simp only [z,seval])
   (refine Qf ?_;simp only [z,seval])
   rfl
 | some i =>
   rw [c] at hN
   obtain ⟨n1,n2,n3,n4⟩:=nextR_some c
   have h4:∀ k,k < i→waitM 2 1 m (runAt l k)=false:=fun k hk=>by
    rcases Nat.lt_or_ge k f with h|h
    ·exact h3 k h
    ·exact wait_not (n4 k h hk)
   have hg:=runAt_get n1
   (refine CU hN (h:=?_);simp only [z,seval])
   simp only [Option.isSome_some,Option.getD_some,getMap Run.v l n1,z,seval]
   cases d:(l[i].m==m) with
   | true =>
     have e:l.findIdx? (waitM 2 1 m)=some i:=first_at n1 (by rw [waitM,n3,hg,d];rfl) h4
     rw [e]
     simp only [d,z,seval]
     (refine Qf ?_;simp only [z,seval])
   | false =>
     simp only [d,w64s (i:=i) (by omega),z,seval]
     have hlt:j < l.length + 1:=by omega
     (refine NX (i + 1) ?_ (by rfl) hlt ?_;simp only [z,seval];exact wk)
     refine ⟨by show j + 1≤i + 1;omega,n1,fun k hk=>?_⟩
     rcases Nat.lt_or_ge k i with h|h
     ·exact h4 k h
     ·obtain rfl:k=i:=by omega
      rw [waitM,hg,d,Bool.and_false]
theorem oEvent_spec (kind:Int) (p:Person) (r:Run):Spec PP GG 188 [i64 kind,p.v,r.v] (Event.v ⟨kind,2,1,p.name,r.peer,r.k,0,r.m,r.mine,p.clock⟩) []:=by
 refine Qs func188 ?_
 intro w0 M0
 simp only [f188,lf,z,seval]
 (refine Qf ?_;simp only [z,seval])
theorem StartO_spec (w:World) (a b:Int) {N:Nat} (hw:w.fit N) (h5:21≤N) (hN:N≤400000000000) (ha:U a) (hb:U b) (hr:Right10 w.people=true):Spec PP GG 118 [w.v,u32 a,u32 b] (.tup [(startO w a b).1.v,i64 (startO w a b).2]) []:=by
 have hPa:=person_spec w hw (by omega) a ha
 have hPr:=pPair_spec w.people a b ha hb (by have:=hw.people;omega)
 have hRm:=room_spec' w hw (by omega) 1 1
 have hD1:=draw_spec w hw (by omega)
 have hD2:=draw_spec (drawW w).1 (fit_draw hw (by omega)) (by omega)
 have hS:Spec PP GG 187 _ (.tup [(oS w a b).1.v,u32 (oS w a b).2.1,i64 (oS w a b).2.2]) []:=seal_spec (drawW (drawW w).1).1 (fit_draw (fit_draw hw (by omega)) (by omega)) (by omega) (personW w a).key 6 ⟨(drawW (drawW w).1).2,(drawW w).2,a,b,0,0,0⟩
 have hU:(personW w a).runs.length≤N:=personW_runs hw a
 have hAd:=pAdd_spec (personW w a).runs w.conf.runs (oRun w b) (by omega)
 have hW:Spec PP GG 180 [(oS w a b).1.v,Person.v ⟨(personW w a).name,(personW w a).key,(personW w a).clock,(personW w a).used,(personW w a).runs++[oRun w b],(personW w a).corrupt⟩] (withW (oS w a b).1 (oP w a b)).v []:=with_spec (oS w a b).1 (oS_fit hw h5 hN ha hb) (by omega) (oP w a b) (oP_ok hw hN hb).1
 have hL:Spec PP GG 184 _ (oY w a b).v []:=log_spec (withW (oS w a b).1 (oP w a b)) (oW_fit hw h5 hN ha hb) (by omega) (oEv w a b)
 have hSn:=send_spec (oY w a b) (oY_fit hw h5 hN ha hb) (by omega) b (oMsg w a b) (oMsg_ok hw hN ha hb)
 rw [← oZ] at hSn
 have hE:=oEvent_spec 1 ⟨(personW w a).name,(personW w a).key,(personW w a).clock,(personW w a).used,(personW w a).runs++[oRun w b],(personW w a).corrupt⟩ (oRun w b)
 have hnm:=fun h=>name_of hr ha h
 clear hw hr
 cases c1:pairM w.people a b with
 | false =>
   rw [c1] at hPr
   have e:startO w a b=(w,5):=by simp only [startO,c1,cond_false]
   rw [e]
   refine Qs func118 ?_
   intro w0 M0
   simp only [f118,lf,z,seval]
   (refine CU hPa (h:=?_);simp only [z,seval])
   (refine CU hPr (h:=?_);simp only [z,seval])
   (refine Qf ?_;simp only [z,seval])
 | true =>
 rw [c1] at hPr
 rw [hnm (pair_in c1).2.2.2.1] at hW hE
 cases c2:full w (personW w a) with
 | true =>
   have e:startO w a b=(w,10):=by simp only [startO,c1,c2,cond_true,cond_false,Bool.not_true,Bool.false_and]
   rw [e]
   simp only [full] at c2
   refine Qs func118 ?_
   intro w0 M0
   simp only [f118,lf,z,seval]
   (refine CU hPa (h:=?_);simp only [z,seval])
   (refine CU hPr (h:=?_);simp only [z,seval])
   simp only [c2,z,seval]
   (refine Qf ?_;simp only [z,seval])
 | false =>
 cases c3:roomW w 1 1 with
 | false =>
   rw [c3] at hRm
   have e:startO w a b=(w,10):=by simp only [startO,c1,c2,c3,cond_true,cond_false,Bool.not_false,Bool.true_and]
   rw [e]
   simp only [full] at c2
   refine Qs func118 ?_
   intro w0 M0
   simp only [f118,lf,z,seval]
   (refine CU hPa (h:=?_);simp only [z,seval])
   (refine CU hPr (h:=?_);simp only [z,seval])
   simp only [c2,z,seval]
   (refine CU hRm (h:=?_);simp only [z,seval])
   (refine Qf ?_;simp only [z,seval])
 | true =>
 rw [c3] at hRm
 rw [oZ_ok c3] at hSn
 have e0:startO w a b=(bif (oS w a b).2.2==0 then (oZ w a b,0) else (w,(oS w a b).2.2)):=by simp only [startO,c1,c2,c3,cond_true,Bool.not_false,Bool.true_and]
 rw [e0]
 clear e0
 simp only [full] at c2
 have hadd:runsAdd (personW w a).runs w.conf.runs (oRun w b)=((personW w a).runs++[oRun w b],0):=by
  rw [runsAdd,c2];rfl
 rw [hadd] at hAd
 refine Qs func118 ?_
 intro w0 M0
 simp only [f118,lf,z,seval]
 (refine CU hPa (h:=?_);simp only [z,seval])
 (refine CU hPr (h:=?_);simp only [z,seval])
 simp only [c2,hnm (pair_in c1).2.2.2.1,z,seval]
 (refine CU hRm (h:=?_);simp only [z,seval])
 (refine CU hD1 (h:=?_);simp only [z,seval])
 (refine CU hD2 (h:=?_);simp only [z,seval])
 (refine CU hS (h:=?_);simp only [z,seval])
 cases c4:((oS w a b).2.2==0) with
 | false =>
   simp only [c4,z,seval]
   (refine Qf ?_;simp only [z,seval])
 | true =>
 simp only [c4,z,seval]
 (refine CU hAd (h:=?_);simp only [z,seval])
 (refine Qw 1 ?_;simp only [z,seval])
 (refine DU hW (h:=?_);simp only [z,seval])
 (refine DU hE (h:=?_);simp only [z,seval])
 (refine DU hL (h:=?_);simp only [z,seval])
 (refine ⟨by kernel_rfl,?_⟩)
 (refine CU hSn (h:=?_);simp only [z,seval])
 (refine Qf ?_;simp only [z,seval])
theorem told9 {w:World} {key h:Int} (ho:(openW w key 9 h).2=true):(openW w key 9 h).1=⟨(openW w key 9 h).1.n,0,0,0,(openW w key 9 h).1.k,0,0⟩:=by
 revert ho
 unfold openW
 cases hb:boxOpen w.box key 9 h with
 | none=>intro ho;cases ho
 | some l =>
   simp only [partGet]
   cases (l.length==(partWs 9 zPart).length)
   ·intro ho;exact absurd ho (by simp [label?])
   ·intro _;rfl
theorem wait_run {l:List Run} {proto role m:Int} {i:Nat} (h:l.findIdx? (waitM proto role m)=some i):i < l.length∧(runAt l i).proto=proto∧(runAt l i).role=role∧(runAt l i).state=1∧(runAt l i).m=m:=by
 obtain ⟨h1,h2⟩:=find_runs h
 simp only [waitM,isRun,Bool.and_eq_true,beq_iff_eq] at h2
 exact ⟨h1,h2.1.1,h2.1.2.1,h2.1.2.2,h2.2⟩
theorem done_may {r:Run} {k:Int} (h1:r.proto=1∨r.proto=2) (h2:r.role=1∨r.role=2):May09 (doneR r k)=true:=by
 simp only [May09,doneR,Bool.and_eq_true,Bool.or_eq_true,beq_iff_eq]
 exact ⟨⟨h1,h2⟩,.inr trivial⟩
theorem ShareO_spec (w:World) (me:Int) (m:Msg) {N:Nat} (hw:w.fit N) (hN:N≤400000000000) (hme:U me) (hr:Right10 w.people=true):Spec PP GG 257 [w.v,u32 me,m.v] (.tup [(shareO w me m).1.v,i64 (shareO w me m).2]) []:=by
 have hP:=person_spec w hw (by omega) me hme
 have hU:(personW w me).runs.length≤N:=personW_runs hw me
 have hW:=oWaits_spec (personW w me).runs m.run (by omega)
 have hO:=open_spec w hw (by omega) (personW w me).key 9 m.box
 have hnm:=fun h=>name_of hr hme h
 cases c1:oI w me m with
 | none =>
   have e:shareO w me m=(w,9):=by simp only [shareO,c1]
   rw [e]
   rw [oI] at c1
   rw [c1] at hW
   simp only [Option.isSome_none,Option.getD_none] at hW
   clear hw hr
   refine Qs func257 ?_
   intro w0 M0
   simp only [f257,lf,z,seval]
   (refine CU hP (h:=?_);simp only [z,seval])
   (refine CU hW (h:=?_);simp only [z,seval])
   (refine Qf ?_;simp only [z,seval])
 | some i =>
   have e:shareO w me m=bif (oO w me m).2 && (oO w me m).1.n==(runAt (personW w me).runs i).mine then (oCom w me i (oO w me m).1.k,0) else (w,6):=by simp only [shareO,c1]
   rw [e]
   have c1':(personW w me).runs.findIdx? (waitM 2 1 m.run)=some i:=c1
   obtain ⟨hi,r1,r2,r3,r4⟩:=wait_run c1'
   have hg:=runAt_get hi
   have hin:=hnm (has_runs hi)
   rw [c1'] at hW
   simp only [Option.isSome_some,Option.getD_some] at hW
   rw [← oO] at hO
   have hS:=pSetR_spec (personW w me).runs i (doneR (runAt (personW w me).runs i) (oO w me m).1.k) hi (done_may (.inr r1) (.inl r2)) (by omega)
   have hwt:=with_spec w hw (by omega) (setRun (personW w me) i (doneR (runAt (personW w me).runs i) (oO w me m).1.k)) (personW_ok hw me).1
   have hfit:(withW w (setRun (personW w me) i (doneR (runAt (personW w me).runs i) (oO w me m).1.k))).fit N:=set_fit hw me i (doneR_ok (runAt_ok hw me i) (openW_ok hw _ _ _).2.2.2.2.1)
   have hL:Spec PP GG 184 _ (oCom w me i (oO w me m).1.k).v []:=log_spec _ hfit (by omega) ⟨4,2,1,me,(runAt (personW w me).runs i).peer,(oO w me m).1.k,0,(runAt (personW w me).runs i).m,(runAt (personW w me).runs i).mine,(personW w me).clock⟩
   have hE:=oEvent_spec 4 (setRun (personW w me) i (doneR (runAt (personW w me).runs i) (oO w me m).1.k)) (doneR (runAt (personW w me).runs i) (oO w me m).1.k)
   simp only [setRun,doneR,hin] at hS hwt hL hE
   have ht := @told9 w (personW w me).key m.box
   rw [← oO] at ht
   clear hw hr hfit
   simp only [hg] at *
   cases c2:(oO w me m).2 with
   | false =>
     rw [c2] at hO
     simp only [Bool.false_and,cond_false]
     refine Qs func257 ?_
     intro w0 M0
     simp only [f257,lf,z,seval]
     (refine CU hP (h:=?_);simp only [z,seval])
     (refine CU hW (h:=?_);simp only [z,seval])
     simp only [getMap Run.v (personW w me).runs hi,z,seval]
     (refine CU hO (h:=?_);simp only [z,seval])
     (refine Qf ?_;simp only [z,seval])
   | true =>
   rw [c2] at hO
   have ht:=ht c2
   generalize hq:oO w me m=q at *
   obtain ⟨⟨qn,qm,qa,qb,qk,qt,qh⟩,q2⟩:=q
   simp only [Part.mk.injEq] at ht
   obtain ⟨-,rfl,rfl,rfl,-,rfl,rfl⟩:=ht
   simp only [Bool.true_and]
   cases c3:(qn==(personW w me).runs[i].mine) with
   | false =>
     simp only [cond_false]
     refine Qs func257 ?_
     intro w0 M0
     simp only [f257,lf,z,seval]
     (refine CU hP (h:=?_);simp only [z,seval])
     (refine CU hW (h:=?_);simp only [z,seval])
     simp only [getMap Run.v (personW w me).runs hi,z,seval]
     (refine CU hO (h:=?_);simp only [z,seval])
     simp only [c3,z,seval]
     (refine Qf ?_;simp only [z,seval])
   | true =>
     simp only [cond_true]
     refine Qs func257 ?_
     intro w0 M0
     simp only [f257,lf,z,seval]
     (refine CU hP (h:=?_);simp only [z,seval])
     (refine CU hW (h:=?_);simp only [z,seval])
     simp only [getMap Run.v (personW w me).runs hi,z,seval]
     (refine CU hO (h:=?_);simp only [z,seval])
     simp only [c3,hin,z,seval]
     (refine CU hS (h:=?_);simp only [z,seval])
     (refine Qw 1 ?_;simp only [z,seval])
     (refine DU hwt (h:=?_);simp only [z,seval])
     (refine DU hE (h:=?_);simp only [z,seval])
     (refine DU hL (h:=?_);simp only [z,seval])
     (refine ⟨by kernel_rfl,?_⟩)
     (refine Qf ?_;simp only [z,seval])
theorem must_spec (so:Bool) (why:Int):Spec PP GG 289 [.bool so,i64 why] (i64 (bif so then 0 else why)) []:=by
 refine Qs func289 ?_
 intro w0 M0
 simp only [f289,lf,z,seval]
 cases so with
 | true =>
   simp only [z,seval]
   (refine Qf ?_;simp only [z,seval])
 | false =>
   simp only [z,seval]
   (refine Qf ?_;simp only [z,seval])
theorem bEvent_spec (kind:Int) (p:Person) (r:Run):Spec PP GG 293 [i64 kind,p.v,r.v] (Event.v ⟨kind,2,2,r.peer,p.name,r.k,0,r.m,r.mine,p.clock⟩) []:=by
 refine Qs func293 ?_
 intro w0 M0
 simp only [f293,lf,z,seval]
 (refine Qf ?_;simp only [z,seval])
theorem FirstB_spec (w:World) (me:Int) (m:Msg) {N:Nat} (hw:w.fit N) (h5:21≤N) (hN:N≤400000000000) (hme:U me) (hm:m.ok) (hr:Right10 w.people=true):Spec PP GG 255 [w.v,u32 me,m.v] (.tup [(firstB w me m).1.v,i64 (firstB w me m).2]) []:=by
 have hP:=person_spec w hw (by omega) me hme
 have hPr:=pPair_spec w.people m.a me hm.2.2.1 hme (by have:=hw.people;omega)
 have hMy:=uMay_spec (personW w me).used w.conf.used m.run (by have:=personW_used hw me;omega)
 have hNo:=uNote_spec (personW w me).used w.conf.used m.run (by have:=personW_used hw me;omega)
 have hRm:=room_spec' w hw (by omega) 1 1
 have hD:=draw_spec w hw (by omega)
 have hS:Spec PP GG 187 _ (.tup [(bS w me m).1.v,u32 (bS w me m).2.1,i64 (bS w me m).2.2]) []:=seal_spec (drawW w).1 (fit_draw hw (by omega)) (by omega) (personW w me).key 7 ⟨(drawW w).2,m.run,m.a,me,0,0,0⟩
 have hU:(personW w me).runs.length≤N:=personW_runs hw me
 have hAd:=pAdd_spec (personW w me).runs w.conf.runs (bRun w m) (by omega)
 have hW:Spec PP GG 180 [(bS w me m).1.v,Person.v ⟨(personW w me).name,(personW w me).key,(personW w me).clock,(personW w me).used++[m.run],(personW w me).runs++[bRun w m],(personW w me).corrupt⟩] (withW (bS w me m).1 (bP w me m)).v []:=with_spec (bS w me m).1 (bS_fit hw h5 hN hme hm) (by omega) (bP w me m) (bP_ok hw hN me hm).1
 have hL:Spec PP GG 184 _ (bY w me m).v []:=log_spec (withW (bS w me m).1 (bP w me m)) (bW_fit hw h5 hN hme hm) (by omega) (bEv w me m)
 have hSn:=send_spec (bY w me m) (bY_fit hw h5 hN hme hm) (by omega) 0 (bMsg w me m) (bMsg_ok hw hN hme hm)
 rw [← bZ] at hSn
 have hE:=bEvent_spec 3 ⟨(personW w me).name,(personW w me).key,(personW w me).clock,(personW w me).used++[m.run],(personW w me).runs++[bRun w m],(personW w me).corrupt⟩ (bRun w m)
 have hnm:=fun h=>name_of hr hme h
 have hM5:=fun b=>must_spec b 5
 have hM10:=fun b=>must_spec b 10
 clear hw hr hm
 cases c0:(m.b==me) with
 | false =>
   have e:firstB w me m=(w,5):=by simp only [firstB,c0,Bool.false_and,cond_false]
   rw [e]
   refine Qs func255 ?_
   intro w0 M0
   simp only [f255,lf,z,seval]
   (refine CU hP (h:=?_);simp only [z,seval])
   (refine qc func287 ?_;simp only [f287,lf,z,seval])
   (refine RUNs_unroll 4 ?_;simp only [z,seval])
   (refine qc func288 ?_;simp only [f288,lf,z,seval])
   simp only [c0,z,seval]
   (refine CU (hM5 false) (h:=?_);simp only [z,seval])
   (refine Qf ?_;simp only [z,seval])
 | true =>
 cases c1:pairM w.people m.a me with
 | false =>
   rw [c1] at hPr
   have e:firstB w me m=(w,5):=by simp only [firstB,c0,c1,Bool.true_and,cond_false]
   rw [e]
   refine Qs func255 ?_
   intro w0 M0
   simp only [f255,lf,z,seval]
   (refine CU hP (h:=?_);simp only [z,seval])
   (refine qc func287 ?_;simp only [f287,lf,z,seval])
   (refine RUNs_unroll 4 ?_;simp only [z,seval])
   (refine qc func288 ?_;simp only [f288,lf,z,seval])
   simp only [c0,z,seval]
   (refine CU hPr (h:=?_);simp only [z,seval])
   (refine CU (hM5 false) (h:=?_);simp only [z,seval])
   (refine Qf ?_;simp only [z,seval])
 | true =>
 rw [c1] at hPr
 rw [hnm (pair_in c1).2.2.2.2] at hW hE
 cases c2:(usedMay (personW w me).used w.conf.used m.run==0) with
 | false =>
   have e:firstB w me m=(w,usedMay (personW w me).used w.conf.used m.run):=by simp only [firstB,c0,c1,c2,Bool.true_and,cond_true,cond_false]
   rw [e]
   refine Qs func255 ?_
   intro w0 M0
   simp only [f255,lf,z,seval]
   (refine CU hP (h:=?_);simp only [z,seval])
   (refine qc func287 ?_;simp only [f287,lf,z,seval])
   (refine RUNs_unroll 4 ?_;simp only [z,seval])
   (refine qc func288 ?_;simp only [f288,lf,z,seval])
   simp only [c0,z,seval]
   (refine CU hPr (h:=?_);simp only [z,seval])
   (refine CU (hM5 true) (h:=?_);simp only [z,seval])
   (refine RUNs_unr ?_;simp only [z,seval])
   (refine qc func290 ?_;simp only [f290,lf,z,seval])
   (refine CU hMy (h:=?_);simp only [z,seval])
   simp only [c2,z,seval]
   (refine Qf ?_;simp only [z,seval])
 | true =>
 have c2':usedMay (personW w me).used w.conf.used m.run=0:=by simpa using c2
 have hno:usedNote (personW w me).used w.conf.used m.run=((personW w me).used++[m.run],0):=by rw [usedNote,c2];rfl
 rw [hno] at hNo
 cases c3:full w (personW w me) with
 | true =>
   have e:firstB w me m=(w,10):=by simp only [firstB,c0,c1,c2,c3,Bool.true_and,cond_true,cond_false,Bool.not_true,Bool.false_and]
   rw [e]
   have c3':decide (((personW w me).runs.length:Int) < w.conf.runs)=false:=by simp only [full,decide_eq_true_eq] at c3;exact decide_eq_false (by omega)
   refine Qs func255 ?_
   intro w0 M0
   simp only [f255,lf,z,seval]
   (refine CU hP (h:=?_);simp only [z,seval])
   (refine qc func287 ?_;simp only [f287,lf,z,seval])
   (refine RUNs_unroll 4 ?_;simp only [z,seval])
   (refine qc func288 ?_;simp only [f288,lf,z,seval])
   simp only [c0,z,seval]
   (refine CU hPr (h:=?_);simp only [z,seval])
   (refine CU (hM5 true) (h:=?_);simp only [z,seval])
   (refine RUNs_unr ?_;simp only [z,seval])
   (refine qc func290 ?_;simp only [f290,lf,z,seval])
   (refine CU hMy (h:=?_);simp only [z,seval])
   simp only [c2,z,seval]
   (refine RUNs_unr ?_;simp only [z,seval])
   (refine qc func292 ?_;simp only [f292,lf,z,seval])
   simp only [c3',z,seval]
   (refine CU (hM10 false) (h:=?_);simp only [z,seval])
   (refine Qf ?_;simp only [z,seval])
 | false =>
 have c3':decide (((personW w me).runs.length:Int) < w.conf.runs)=true:=by simp only [full,decide_eq_false_iff_not] at c3;exact decide_eq_true (by omega)
 cases c4:roomW w 1 1 with
 | false =>
   rw [c4] at hRm
   have e:firstB w me m=(w,10):=by simp only [firstB,c0,c1,c2,c3,c4,Bool.true_and,cond_true,cond_false,Bool.not_false]
   rw [e]
   refine Qs func255 ?_
   intro w0 M0
   simp only [f255,lf,z,seval]
   (refine CU hP (h:=?_);simp only [z,seval])
   (refine qc func287 ?_;simp only [f287,lf,z,seval])
   (refine RUNs_unroll 4 ?_;simp only [z,seval])
   (refine qc func288 ?_;simp only [f288,lf,z,seval])
   simp only [c0,z,seval]
   (refine CU hPr (h:=?_);simp only [z,seval])
   (refine CU (hM5 true) (h:=?_);simp only [z,seval])
   (refine RUNs_unr ?_;simp only [z,seval])
   (refine qc func290 ?_;simp only [f290,lf,z,seval])
   (refine CU hMy (h:=?_);simp only [z,seval])
   simp only [c2,z,seval]
   (refine RUNs_unr ?_;simp only [z,seval])
   (refine qc func292 ?_;simp only [f292,lf,z,seval])
   simp only [c3',z,seval]
   (refine CU hRm (h:=?_);simp only [z,seval])
   (refine CU (hM10 false) (h:=?_);simp only [z,seval])
   (refine Qf ?_;simp only [z,seval])
 | true =>
 rw [c4] at hRm
 rw [bZ_ok c4] at hSn
 have e0:firstB w me m=(bif (bS w me m).2.2==0 then (bZ w me m,0) else (w,(bS w me m).2.2)):=by simp only [firstB,c0,c1,c2,c3,c4,Bool.true_and,cond_true,Bool.not_false]
 rw [e0]
 clear e0
 have hadd:runsAdd (personW w me).runs w.conf.runs (bRun w m)=((personW w me).runs++[bRun w m],0):=by
  rw [full] at c3
  rw [runsAdd,c3];rfl
 rw [hadd] at hAd
 refine Qs func255 ?_
 intro w0 M0
 simp only [f255,lf,z,seval]
 (refine CU hP (h:=?_);simp only [z,seval])
 simp only [hnm (pair_in c1).2.2.2.2,z,seval]
 (refine qc func287 ?_;simp only [f287,lf,z,seval])
 (refine RUNs_unroll 4 ?_;simp only [z,seval])
 (refine qc func288 ?_;simp only [f288,lf,z,seval])
 simp only [c0,z,seval]
 (refine CU hPr (h:=?_);simp only [z,seval])
 (refine CU (hM5 true) (h:=?_);simp only [z,seval])
 (refine RUNs_unr ?_;simp only [z,seval])
 (refine qc func290 ?_;simp only [f290,lf,z,seval])
 (refine CU hMy (h:=?_);simp only [z,seval])
 simp only [c2,z,seval]
 (refine RUNs_unr ?_;simp only [z,seval])
 (refine qc func292 ?_;simp only [f292,lf,z,seval])
 simp only [c3',z,seval]
 (refine CU hRm (h:=?_);simp only [z,seval])
 (refine CU (hM10 true) (h:=?_);simp only [z,seval])
 (refine RUNs_unr ?_;simp only [z,seval])
 (refine CU hD (h:=?_);simp only [z,seval])
 (refine CU hS (h:=?_);simp only [z,seval])
 cases c5:((bS w me m).2.2==0) with
 | false =>
   simp only [c5,z,seval]
   (refine Qf ?_;simp only [z,seval])
 | true =>
 simp only [c5,z,seval]
 (refine CU hNo (h:=?_);simp only [z,seval])
 (refine CU hAd (h:=?_);simp only [z,seval])
 (refine Qw 1 ?_;simp only [z,seval])
 (refine DU hW (h:=?_);simp only [z,seval])
 (refine DU hE (h:=?_);simp only [z,seval])
 (refine DU hL (h:=?_);simp only [z,seval])
 (refine ⟨by kernel_rfl,?_⟩)
 (refine CU hSn (h:=?_);simp only [z,seval])
 (refine Qf ?_;simp only [z,seval])
theorem bWaits_spec (l:List Run) (m:Int) (hl:l.length≤1000000000000):Spec PP GG 294 [runsV l,u32 m] (.tup [i64 ((l.findIdx? (waitM 2 2 m)).getD 0:Nat),.bool (l.findIdx? (waitM 2 2 m)).isSome]) []:=by
 have hN:=fun f=>pNext_spec l f 2 2 1 (by omega)
 refine Qs func294 ?_
 intro w0 M0
 simp only [f294,lf,z,seval]
 (refine CU (hN 0) (h:=?_);simp only [z,seval])
 refine RUNs_rangeS (l.length + 1) (fun j (f:Nat)=>j≤f∧f≤l.length ∧ ∀ i,i < f→waitM 2 2 m (runAt l i)=false) (fun _ f=>[(6,i64 ((nextR l f (isRun 2 2 1)).getD 0:Nat)),(7,.bool (nextR l f (isRun 2 2 1)).isSome)]) (fun _ _=>[]) 0 ?_ (by simp only [z,seval];exact wk) rfl ?_
 ·exact ⟨Nat.le_refl _,Nat.zero_le _,fun i hi=>absurd hi (Nat.not_lt_zero _)⟩
 rintro ⟨j,f,hj,h1,h2,h3⟩
 have hN:=fun i=>hN i
 simp only [z,seval]
 cases c:nextR l f (isRun 2 2 1) with
 | none =>
   have e:l.findIdx? (waitM 2 2 m)=none:=first_none (fun i hi=>by
    rcases Nat.lt_or_ge i f with h|h
    ·exact h3 i h
    ·exact wait_not (nextR_none c i h hi))
   simp only [Option.isSome_none,Option.getD_none,z,seval]
   (refine Qf ?_;simp only [z,seval])
   rw [e];rfl
 | some i =>
   obtain ⟨n1,n2,n3,n4⟩:=nextR_some c
   have h4:∀ k,k < i→waitM 2 2 m (runAt l k)=false:=fun k hk=>by
    rcases Nat.lt_or_ge k f with h|h
    ·exact h3 k h
    ·exact wait_not (n4 k h hk)
   have hg:=runAt_get n1
   simp only [Option.isSome_some,Option.getD_some,getMap Run.v l n1,z,seval]
   cases d:(l[i].m==m) with
   | true =>
     have e:l.findIdx? (waitM 2 2 m)=some i:=first_at n1 (by rw [waitM,n3,hg,d];rfl) h4
     simp only [d,z,seval]
     (refine Qf ?_;simp only [z,seval])
     rw [e];rfl
   | false =>
     simp only [d,w64s (i:=i) (by omega),z,seval]
     (refine CU (hN (i + 1)) (h:=?_);simp only [z,seval])
     have hlt:j < l.length + 1:=by omega
     (refine NX (i + 1) ?_ (by rfl) hlt ?_;simp only [z,seval];exact wk)
     refine ⟨by show j + 1≤i + 1;omega,n1,fun k hk=>?_⟩
     rcases Nat.lt_or_ge k i with h|h
     ·exact h4 k h
     ·obtain rfl:k=i:=by omega
      rw [waitM,hg,d,Bool.and_false]
theorem told8 {w:World} {key h:Int} (ho:(openW w key 8 h).2=true):(openW w key 8 h).1=⟨(openW w key 8 h).1.n,0,0,0,(openW w key 8 h).1.k,0,0⟩:=by
 revert ho
 unfold openW
 cases hb:boxOpen w.box key 8 h with
 | none=>intro ho;cases ho
 | some l =>
   simp only [partGet]
   cases (l.length==(partWs 8 zPart).length)
   ·intro ho;exact absurd ho (by simp [label?])
   ·intro _;rfl
theorem ShareB_spec (w:World) (me:Int) (m:Msg) {N:Nat} (hw:w.fit N) (h5:21≤N) (hN:N≤400000000000) (hme:U me) (hm:m.ok) (hr:Right10 w.people=true):Spec PP GG 256 [w.v,u32 me,m.v] (.tup [(shareB w me m).1.v,i64 (shareB w me m).2]) []:=by
 have hP:=person_spec w hw (by omega) me hme
 have hU:(personW w me).runs.length≤N:=personW_runs hw me
 have hW:=bWaits_spec (personW w me).runs m.run (by omega)
 have hO:=open_spec w hw (by omega) (personW w me).key 8 m.more
 have hRm:=room_spec' w hw (by omega) 0 1
 have hM6:=fun b=>must_spec b 6
 have hM10:=fun b=>must_spec b 10
 have hnm:=fun h=>name_of hr hme h
 cases c1:bI w me m with
 | none =>
   have e:shareB w me m=(w,9):=by simp only [shareB,c1]
   rw [e]
   rw [bI] at c1
   rw [c1] at hW
   simp only [Option.isSome_none,Option.getD_none] at hW
   clear hw hr
   refine Qs func256 ?_
   intro w0 M0
   simp only [f256,lf,z,seval]
   (refine CU hP (h:=?_);simp only [z,seval])
   (refine CU hW (h:=?_);simp only [z,seval])
   (refine Qf ?_;simp only [z,seval])
 | some i =>
   have e:shareB w me m=bif (bO w me m).2 && (bO w me m).1.n==(runAt (personW w me).runs i).mine then (bif roomW w 0 1 then (bX w me m i (bO w me m).1.k,0) else (w,10)) else (w,6):=by simp only [shareB,c1]
   rw [e]
   have c1':(personW w me).runs.findIdx? (waitM 2 2 m.run)=some i:=c1
   obtain ⟨hi,r1,r2,r3,r4⟩:=wait_run c1'
   have hg:=runAt_get hi
   have hin:=hnm (has_runs hi)
   rw [c1'] at hW
   simp only [Option.isSome_some,Option.getD_some] at hW
   rw [← bO] at hO
   have hS:=pSetR_spec (personW w me).runs i (doneR (runAt (personW w me).runs i) (bO w me m).1.k) hi (done_may (.inr r1) (.inr r2)) (by omega)
   have hwt:=with_spec w hw (by omega) (setRun (personW w me) i (doneR (runAt (personW w me).runs i) (bO w me m).1.k)) (personW_ok hw me).1
   have hk:U (bO w me m).1.k:=(openW_ok hw _ _ _).2.2.2.2.1
   have hfit:(withW w (setRun (personW w me) i (doneR (runAt (personW w me).runs i) (bO w me m).1.k))).fit N:=set_fit hw me i (doneR_ok (runAt_ok hw me i) hk)
   have hL:Spec PP GG 184 _ (bCom w me i (bO w me m).1.k).v []:=log_spec _ hfit (by omega) ⟨4,2,2,(runAt (personW w me).runs i).peer,me,(bO w me m).1.k,0,(runAt (personW w me).runs i).m,(runAt (personW w me).runs i).mine,(personW w me).clock⟩
   have hE:=bEvent_spec 4 (setRun (personW w me) i (doneR (runAt (personW w me).runs i) (bO w me m).1.k)) (doneR (runAt (personW w me).runs i) (bO w me m).1.k)
   have hSn:=send_spec (bCom w me i (bO w me m).1.k) (bCom_fit hw hN hme i hk) (by omega) (runAt (personW w me).runs i).peer ⟨9,m.run,0,0,0,m.box,0⟩ (msg9_ok hm)
   rw [← bX] at hSn
   have hz:=fun h => @bX_ok w me m i (bO w me m).1.k (runAt (personW w me).runs i).peer h
   simp only [setRun,doneR,hin] at hS hwt hL hE
   have ht := @told8 w (personW w me).key m.more
   rw [← bO] at ht
   clear hw hr hfit hm hk
   simp only [hg] at *
   cases c2:(bO w me m).2 with
   | false =>
     rw [c2] at hO
     simp only [Bool.false_and,cond_false]
     refine Qs func256 ?_
     intro w0 M0
     simp only [f256,lf,z,seval]
     (refine CU hP (h:=?_);simp only [z,seval])
     (refine CU hW (h:=?_);simp only [z,seval])
     simp only [getMap Run.v (personW w me).runs hi,z,seval]
     (refine CU hO (h:=?_);simp only [z,seval])
     (refine qc func287 ?_;simp only [f287,lf,z,seval])
     (refine RUNs_unroll 3 ?_;simp only [z,seval])
     (refine qc func295 ?_;simp only [f295,lf,z,seval])
     (refine CU (hM6 false) (h:=?_);simp only [z,seval])
     (refine Qf ?_;simp only [z,seval])
   | true =>
   rw [c2] at hO
   have ht:=ht c2
   generalize hq:bO w me m=q at *
   obtain ⟨⟨qn,qm,qa,qb,qk,qt,qh⟩,q2⟩:=q
   simp only [Part.mk.injEq] at ht
   obtain ⟨-,rfl,rfl,rfl,-,rfl,rfl⟩:=ht
   simp only [Bool.true_and]
   cases c3:(qn==(personW w me).runs[i].mine) with
   | false =>
     simp only [cond_false]
     refine Qs func256 ?_
     intro w0 M0
     simp only [f256,lf,z,seval]
     (refine CU hP (h:=?_);simp only [z,seval])
     (refine CU hW (h:=?_);simp only [z,seval])
     simp only [getMap Run.v (personW w me).runs hi,z,seval]
     (refine CU hO (h:=?_);simp only [z,seval])
     (refine qc func287 ?_;simp only [f287,lf,z,seval])
     (refine RUNs_unroll 3 ?_;simp only [z,seval])
     (refine qc func295 ?_;simp only [f295,lf,z,seval])
     simp only [c3,z,seval]
     (refine CU (hM6 false) (h:=?_);simp only [z,seval])
     (refine Qf ?_;simp only [z,seval])
   | true =>
   cases c4:roomW w 0 1 with
   | false =>
     rw [c4] at hRm
     simp only [cond_true,cond_false]
     refine Qs func256 ?_
     intro w0 M0
     simp only [f256,lf,z,seval]
     (refine CU hP (h:=?_);simp only [z,seval])
     (refine CU hW (h:=?_);simp only [z,seval])
     simp only [getMap Run.v (personW w me).runs hi,z,seval]
     (refine CU hO (h:=?_);simp only [z,seval])
     (refine qc func287 ?_;simp only [f287,lf,z,seval])
     (refine RUNs_unroll 3 ?_;simp only [z,seval])
     (refine qc func295 ?_;simp only [f295,lf,z,seval])
     simp only [c3,z,seval]
     (refine CU (hM6 true) (h:=?_);simp only [z,seval])
     (refine RUNs_unr ?_;simp only [z,seval])
     (refine qc func296 ?_;simp only [f296,lf,z,seval])
     (refine CU hRm (h:=?_);simp only [z,seval])
     (refine CU (hM10 false) (h:=?_);simp only [z,seval])
     (refine Qf ?_;simp only [z,seval])
   | true =>
     rw [c4] at hRm
     rw [hz c4] at hSn
     simp only [cond_true]
     refine Qs func256 ?_
     intro w0 M0
     simp only [f256,lf,z,seval]
     (refine CU hP (h:=?_);simp only [z,seval])
     (refine CU hW (h:=?_);simp only [z,seval])
     simp only [getMap Run.v (personW w me).runs hi,z,seval]
     (refine CU hO (h:=?_);simp only [z,seval])
     (refine qc func287 ?_;simp only [f287,lf,z,seval])
     (refine RUNs_unroll 3 ?_;simp only [z,seval])
     (refine qc func295 ?_;simp only [f295,lf,z,seval])
     simp only [c3,z,seval]
     (refine CU (hM6 true) (h:=?_);simp only [z,seval])
     (refine RUNs_unr ?_;simp only [z,seval])
     (refine qc func296 ?_;simp only [f296,lf,z,seval])
     (refine CU hRm (h:=?_);simp only [z,seval])
     (refine CU (hM10 true) (h:=?_);simp only [z,seval])
     (refine RUNs_unr ?_;simp only [z,seval])
     simp only [hin,z,seval]
     (refine CU hS (h:=?_);simp only [z,seval])
     (refine Qw 2 ?_;simp only [z,seval])
     (refine DU hwt (h:=?_);simp only [z,seval])
     (refine DU hE (h:=?_);simp only [z,seval])
     (refine DU hL (h:=?_);simp only [z,seval])
     (refine ⟨by kernel_rfl,?_⟩)
     (refine CU hSn (h:=?_);simp only [z,seval])
     (refine Qf ?_;simp only [z,seval])
def fieldBad (l:List Int):Bool:=decide ((l.length:Int) < 2) || (decide (l.getD 0 0 < 1) || (decide (l.getD 0 0 > 255) || (decide (l.getD 1 0 > 16) || decide (l.getD 1 0 > (l.length:Int) - 2))))
def fieldsM:Nat→List Int→List Field×Int
 | k,l=>bif l.isEmpty then ([],0) else match k with
   | 0=>([],3)
   | k + 1=>bif fieldBad l then ([],2) else
     (bif (fieldsM k (l.drop (2 + (l.getD 1 0).toNat))).2==0 then (⟨l.getD 0 0,(l.drop 2).take (l.getD 1 0).toNat⟩::(fieldsM k (l.drop (2 + (l.getD 1 0).toNat))).1,0) else ([],(fieldsM k (l.drop (2 + (l.getD 1 0).toNat))).2))
def getF (l:List Int):List Field×Int:=bif decide ((l.length:Int) > 64) then ([],3) else fieldsM 8 l
def setTag (m:Msg) (t w:Int):Msg :=
 bif t==2 then { m with run:=w } else bif t==3 then { m with a:=w } else bif t==4 then { m with b:=w } else bif t==5 then { m with nonce:=w } else bif t==6 then { m with box:=w } else bif t==7 then { m with more:=w } else m
def kindM (k:Int):Msg:=⟨k,0,0,0,0,0,0⟩
def headOk (f:List Field):Bool:=match f with
 | []=>false
 | g::_=>g.tag==1 && (g.data.length==1 && (decide (g.data.getD 0 0≥1) && decide (g.data.getD 0 0≤9)))
def headK (f:List Field):Int:=match f with
 | []=>0
 | g::_=>g.data.getD 0 0
def msgSeq (m:Msg):List Int→List Field→Option Msg
 | [],[]=>some m
 | [],_::_=>none
 | t::ts,fs=>bif hasM m.kind t then (match fs with
   | []=>none
   | f::r=>bif f.tag==t && f.data.length==1 then msgSeq (setTag m t (f.data.getD 0 0)) ts r else none) else msgSeq m ts fs
def orBad:Option Msg→Msg×Int
 | none=>(zMsg,2)
 | some m=>(m,0)
def msgGet (l:List Int):Msg×Int:=bif (getF l).2==0 then (bif headOk (getF l).1 then orBad (msgSeq (kindM (headK (getF l).1)) tags (getF l).1.tail) else (zMsg,4)) else (zMsg,(getF l).2)
def flatOne (f:Field):List Int:=f.tag::(f.data.length:Int)::f.data
def flatAll (l:List Field):List Int:=l.flatMap flatOne
def fieldOk (f:Field):Prop:=1≤f.tag∧f.tag≤255∧f.data.length≤16
theorem fields_flat:∀ (k:Nat) (l:List Int) (f:List Field),(∀ x∈l,U x)→fieldsM k l=(f,0)→flatAll f=l∧(∀ x∈f,fieldOk x)∧f.length≤k:=by
 intro k
 induction k with
 | zero =>
   intro l f hu h
   unfold fieldsM at h
   cases l with
   | nil=>cases h;exact ⟨rfl,fun x hx=>(by cases hx),Nat.le_refl _⟩
   | cons a l=>cases h
 | succ k ih =>
   intro l f hu h
   unfold fieldsM at h
   cases l with
   | nil=>cases h;exact ⟨rfl,fun x hx=>(by cases hx),Nat.zero_le _⟩
   | cons a l =>
     simp only [List.isEmpty_cons,cond_false] at h
     cases hb:fieldBad (a::l) with
     | true=>rw [hb] at h;cases h
     | false =>
       rw [hb] at h
       simp only [cond_false] at h
       cases he:((fieldsM k ((a::l).drop (2 + ((a::l).getD 1 0).toNat))).2==0) with
       | false =>
         rw [he] at h
         simp only [cond_false,Prod.mk.injEq] at h
         rw [h.2] at he;cases he
       | true =>
         rw [he] at h
         simp only [cond_true,Prod.mk.injEq,and_true] at h
         simp only [fieldBad,Bool.or_eq_false_iff,decide_eq_false_iff_not] at hb
         obtain ⟨b1,b2,b3,b4,b5⟩:=hb
         cases l with
         | nil=>simp at b1
         | cons b l =>
           have hn:=hu b (by simp)
           simp only [List.getD_cons_zero,List.getD_cons_succ,List.length_cons] at b2 b3 b4 b5 h he
           obtain ⟨n,rfl⟩:=Int.eq_ofNat_of_zero_le hn.1
           simp only [Int.toNat_natCast] at h he
           have hd:(a::(n:Int)::l).drop (2 + n)=l.drop n:=by rw [Nat.add_comm];rfl
           rw [hd] at h he
           have hd2:(a::(n:Int)::l).drop 2=l:=rfl
           rw [hd2] at h
           obtain ⟨i1,i2,i3⟩:=ih (l.drop n) _ (fun x hx=>hu x (by have:=List.mem_of_mem_drop hx;simp [this])) (Prod.ext rfl (by simpa using he))
           have hl:(l.take n).length=n:=by rw [List.length_take];omega
           subst h
           refine ⟨?_,?_,?_⟩
           ·simp only [flatAll,List.flatMap_cons,flatOne,hl] at i1 ⊢
            rw [i1]
            simp only [List.cons_append,List.take_append_drop]
           ·intro x hx
            rcases List.mem_cons.1 hx with rfl|hx
            ·exact ⟨by simp only;omega,by simp only;omega,by simp only [hl];omega⟩
            ·exact i2 x hx
           ·exact Nat.succ_le_succ i3
def bodyF (m:Msg):List Field:=(tags.filter (hasM m.kind)).map fun t=>⟨t,[msgWord m t]⟩
theorem may_kd {m:Msg} (h:msgMay m=true):1≤m.kind∧m.kind≤9:=by
 simp only [msgMay,Bool.and_eq_true,decide_eq_true_eq] at h;exact ⟨h.1,h.2.1⟩
theorem kind9 {k:Int} (h:1≤k∧k≤9):k=1∨k=2∨k=3∨k=4∨k=5∨k=6∨k=7∨k=8∨k=9:=by omega
theorem msgWs_flat (m:Msg):msgWs m=flatAll (⟨1,[m.kind]⟩::bodyF m):=by
 simp only [msgWs,flatAll,bodyF,List.flatMap_cons,flatOne,List.flatMap_map,tags]
 simp only [List.flatMap_nil,List.filter_cons,List.filter_nil]
 cases hasM m.kind 2<;>cases hasM m.kind 3<;>cases hasM m.kind 4<;>cases hasM m.kind 5<;>cases hasM m.kind 6<;>cases hasM m.kind 7<;>rfl
theorem one_of {l:List Int} (h:(l.length==1)=true):l=[l.getD 0 0]:=by
 match l,h with
 | [x],_=>rfl
theorem setTag_kind (m:Msg) (t w:Int):(setTag m t w).kind=m.kind:=by
 unfold setTag
 cases (t==2)<;>cases (t==3)<;>cases (t==4)<;>cases (t==5)<;>cases (t==6)<;>cases (t==7)<;>rfl
def seqStep (m:Msg) (t:Int) (ts:List Int) (fs:List Field):Option Msg:=match fs with
 | []=>none
 | f::r=>bif f.tag==t && f.data.length==1 then msgSeq (setTag m t (f.data.getD 0 0)) ts r else none
theorem seq_yes {m:Msg} {t:Int} {ts:List Int} {fs:List Field} (h:hasM m.kind t=true):msgSeq m (t::ts) fs=seqStep m t ts fs:=by cases fs<;>(rw [msgSeq.eq_def];simp only [h,cond_true,seqStep])
theorem seq_no {m:Msg} {t:Int} {ts:List Int} {fs:List Field} (h:hasM m.kind t=false):msgSeq m (t::ts) fs=msgSeq m ts fs:=by cases fs<;>(rw [msgSeq.eq_def];simp only [h,cond_false])
theorem step_some {m m':Msg} {t:Int} {ts:List Int} {fs:List Field} (h:seqStep m t ts fs=some m'):∃ w r,fs=⟨t,[w]⟩::r∧msgSeq (setTag m t w) ts r=some m':=by
 cases fs with
 | nil=>cases h
 | cons f r =>
   simp only [seqStep] at h
   cases c:f.tag==t && f.data.length==1
   ·rw [c] at h;cases h
   ·rw [c] at h
    rw [Bool.and_eq_true] at c
    obtain ⟨tg,dt⟩:=f
    have e1:tg=t:=by simpa using c.1
    have e2:=one_of c.2
    simp only at e2
    refine ⟨dt.getD 0 0,r,?_,h⟩
    rw [e1,← e2]
theorem seq_nil {m m':Msg} {fs:List Field} (h:msgSeq m [] fs=some m'):fs=[]∧m'=m:=by
 cases fs with
 | nil=>rw [msgSeq] at h;exact ⟨rfl,(Option.some.inj h).symm⟩
 | cons f r=>rw [msgSeq] at h;cases h
theorem seq_some {k:Int} (hk:1≤k∧k≤9) {fs:List Field} {m:Msg} (h:msgSeq (kindM k) tags fs=some m):fs=bodyF m∧m.kind=k∧msgMay m=true:=by
 have key:∀ (m0:Msg) (t:Int) (ts:List Int) (fs:List Field),msgSeq m0 (t::ts) fs=some m→(hasM m0.kind t=true ∧ ∃ w r,fs=⟨t,[w]⟩::r∧msgSeq (setTag m0 t w) ts r=some m)∨(hasM m0.kind t=false∧msgSeq m0 ts fs=some m):=by
  intro m0 t ts fs h
  cases c:hasM m0.kind t
  ·rw [seq_no c] at h;exact .inr ⟨rfl,h⟩
  ·rw [seq_yes c] at h;exact .inl ⟨rfl,step_some h⟩
 rcases kind9 hk with rfl|rfl|rfl|rfl|rfl|rfl|rfl|rfl|rfl
 all_goals
  have q:=key _ _ _ _ h
  clear h
  rcases q with ⟨c2,w2,r2,rfl,h⟩|⟨c2,h⟩<;>first
   | (exfalso;revert c2;simp [kindM,hasM];done)
   | skip
  all_goals
   have q:=key _ _ _ _ h
   clear h
   rcases q with ⟨c3,w3,r3,rfl,h⟩|⟨c3,h⟩<;>first
    | (exfalso;revert c3;simp [kindM,hasM,setTag_kind];done)
    | skip
  all_goals
   have q:=key _ _ _ _ h
   clear h
   rcases q with ⟨c4,w4,r4,rfl,h⟩|⟨c4,h⟩<;>first
    | (exfalso;revert c4;simp [kindM,hasM,setTag_kind];done)
    | skip
  all_goals
   have q:=key _ _ _ _ h
   clear h
   rcases q with ⟨c5,w5,r5,rfl,h⟩|⟨c5,h⟩<;>first
    | (exfalso;revert c5;simp [kindM,hasM,setTag_kind];done)
    | skip
  all_goals
   have q:=key _ _ _ _ h
   clear h
   rcases q with ⟨c6,w6,r6,rfl,h⟩|⟨c6,h⟩<;>first
    | (exfalso;revert c6;simp [kindM,hasM,setTag_kind];done)
    | skip
  all_goals
   have q:=key _ _ _ _ h
   clear h
   rcases q with ⟨c7,w7,r7,rfl,h⟩|⟨c7,h⟩<;>first
    | (exfalso;revert c7;simp [kindM,hasM,setTag_kind];done)
    | skip
  all_goals
   obtain ⟨rfl,rfl⟩:=seq_nil h
   simp [bodyF,tags,hasM,msgWord,kindM,setTag,msgMay]
theorem headK_cons (t x:Int) (fs:List Field):headK (⟨t,[x]⟩::fs)=x:=rfl
theorem head_form {f:List Field} (h:headOk f=true):∃ fs,f=⟨1,[headK f]⟩::fs∧1≤headK f∧headK f≤9:=by
 cases f with
 | nil=>cases h
 | cons g r =>
   simp only [headOk,Bool.and_eq_true,decide_eq_true_eq,beq_iff_eq] at h
   obtain ⟨h1,h2,h3,h4⟩:=h
   obtain ⟨tg,dt⟩:=g
   have e2:=one_of (l:=dt) (by simpa using h2)
   simp only at h1 h3 h4
   subst h1
   exact ⟨r,by show _=(⟨1,[dt.getD 0 0]⟩:Field)::r;rw [← e2],h3,h4⟩
theorem msgGet_ok {l:List Int} {m:Msg} (hu:∀ x∈l,U x) (h:msgGet l=(m,0)):msgMay m=true∧l=msgWs m:=by
 rw [msgGet] at h
 cases c:((getF l).2==0)
 ·rw [c] at h
  simp only [cond_false,Prod.mk.injEq] at h
  rw [h.2] at c;cases c
 rw [c] at h
 simp only [cond_true] at h
 cases c2:headOk (getF l).1
 ·rw [c2] at h;cases h
 rw [c2] at h
 simp only [cond_true] at h
 obtain ⟨fs,e,h1,h2⟩:=head_form c2
 rw [e,List.tail_cons] at h
 simp only [headK_cons] at h h1 h2
 cases c3:msgSeq (kindM (headK (getF l).1)) tags fs with
 | none=>rw [c3] at h;cases h
 | some m' =>
   rw [c3] at h
   simp only [orBad,Prod.mk.injEq,and_true] at h
   subst h
   obtain ⟨s1,s2,s3⟩:=seq_some ⟨h1,h2⟩ c3
   have c':getF l=((getF l).1,0):=Prod.ext rfl (by simpa using c)
   unfold getF at c'
   cases c4:decide ((l.length:Int) > 64)
   ·rw [c4,cond_false] at c'
    obtain ⟨g1,g2,g3⟩:=fields_flat 8 l _ hu c'
    have:(fieldsM 8 l).1=(getF l).1:=by rw [getF,c4,cond_false]
    rw [this] at g1
    exact ⟨s3,by rw [msgWs_flat,← g1,e,s1,s2]⟩
   ·rw [c4,cond_true] at c'
    cases c'
def extF (out:List Field) (r:List Field×Int):List Field×Int:=bif r.2==0 then (out++r.1,0) else ([],r.2)
theorem fieldsM_nil (k:Nat):fieldsM k []=([],0):=by unfold fieldsM;rfl
theorem fieldsM_full {l:List Int} (h:l≠[]):fieldsM 0 l=([],3):=by
 unfold fieldsM
 cases l with
 | nil=>exact absurd rfl h
 | cons a l=>rfl
theorem fieldsM_bad {k:Nat} {l:List Int} (h:l≠[]) (hb:fieldBad l=true):fieldsM (k + 1) l=([],2):=by
 unfold fieldsM
 cases l with
 | nil=>exact absurd rfl h
 | cons a l=>simp only [List.isEmpty_cons,cond_false,hb,cond_true]
theorem fieldsM_good {k:Nat} {l:List Int} (h:l≠[]) (hb:fieldBad l=false):fieldsM (k + 1) l=extF [⟨l.getD 0 0,(l.drop 2).take (l.getD 1 0).toNat⟩] (fieldsM k (l.drop (2 + (l.getD 1 0).toNat))):=by
 conv=>lhs;unfold fieldsM
 cases l with
 | nil=>exact absurd rfl h
 | cons a l=>simp only [List.isEmpty_cons,cond_false,hb];rfl
theorem fieldsM_err (k:Nat) (l:List Int) (h:((fieldsM k l).2==0)=false):(fieldsM k l).1=[]:=by
 cases l with
 | nil=>rw [fieldsM_nil] at h;cases h
 | cons a l =>
   cases k with
   | zero=>rw [fieldsM_full (List.cons_ne_nil _ _)]
   | succ k =>
     cases c:fieldBad (a::l) with
     | true=>rw [fieldsM_bad (List.cons_ne_nil _ _) c]
     | false =>
       rw [fieldsM_good (List.cons_ne_nil _ _) c,extF] at h ⊢
       revert h
       cases (fieldsM k (List.drop (2 + ((a::l).getD 1 0).toNat) (a::l))).2==0
       ·intro _;rfl
       ·intro h;cases h
theorem extF_nil (k:Nat) (l:List Int):extF [] (fieldsM k l)=fieldsM k l:=by
 unfold extF
 cases c:((fieldsM k l).2==0)
 ·exact Prod.ext (fieldsM_err k l c).symm rfl
 ·exact Prod.ext (List.nil_append _) (by have:(fieldsM k l).2=0:=by simpa using c
                                         exact this.symm)
theorem extF_ext (a b:List Field) (r:List Field×Int):extF a (extF b r)=extF (a++b) r:=by
 unfold extF
 cases c:(r.2==0)
 ·simp only [cond_false,c]
 ·simp only [cond_true,beq_self_eq_true,List.append_assoc]
theorem slc_ok2 {α:Type} {f:α→V} {l:List α} {a b sz:Nat} (h:a≤b) (hb:b≤l.length) (hf:∀ a,lenE' sz (f a)=true):(slcB (l.map f).length (some a) (some b) none && (l.map f).all (lenE' sz))=true:=by
 simp [slcB,h,hb,hf]
theorem drop_0 {l:List Int} {i:Nat} (h:i < l.length):(l.drop i).getD 0 0=l[i]:=by rw [List.drop_eq_getElem_cons h];rfl
theorem drop_1 {l:List Int} {i:Nat} (h:i + 1 < l.length):(l.drop i).getD 1 0=l[i + 1]:=by rw [List.drop_eq_getElem_cons (by omega),List.drop_eq_getElem_cons h];rfl
namespace L17
def c0:Conf:=⟨5,2,9,4,4,9,2⟩
def w0:World:=newWorld c0 [11,12,13,14,15,16,17] 2 2
def wa:World:=(startO w0 1 2).1
def p0:Part:=⟨2147483662,0,0,0,70,0,0⟩
def wx:World:=(sealW wa (getP w0.people 1).key 9 p0).1
def m0:Msg:=⟨9,2147483661,0,0,0,2147483664,0⟩
def m1:Msg:=⟨9,5,0,0,0,2147483664,0⟩
def m2:Msg:=⟨9,2147483661,0,0,0,5,0⟩
def wb:World:=(shareO wx 1 m0).1
theorem w0_ok:w0.ok:=⟨by unfold Conf.ok;decide +kernel,⟨by decide +kernel,by decide +kernel⟩,⟨by decide +kernel,by decide +kernel⟩,⟨by decide +kernel,by decide +kernel,⟨by decide +kernel,fun l hl=>by cases hl⟩⟩,by decide +kernel,⟨by decide +kernel,fun l hl=>by cases hl⟩,⟨by decide +kernel,fun l hl=>by
 have:l=[]:=by
  have hl':l∈List.replicate 2 ([]:List Int):=hl
  exact (List.mem_replicate.1 hl').2
 subst this;exact ⟨by decide,fun x hx=>by cases hx⟩⟩,⟨by decide +kernel,fun l hl=>by cases hl⟩⟩
theorem w0_fit:w0.fit 21:=⟨w0_ok,by decide +kernel,by decide +kernel,by decide +kernel,by decide +kernel,by decide +kernel,by decide +kernel,by decide +kernel,by decide +kernel,by decide +kernel,by decide +kernel,by decide +kernel,by decide +kernel,by decide +kernel,by decide +kernel,by decide +kernel,by decide +kernel,by decide +kernel,by decide +kernel⟩
theorem U2:U 2:=by decide
theorem g0:startO w0 1 2=(wa,0):=by
 have:(startO w0 1 2).2=0:=by decide +kernel
 rw [← this];rfl
theorem g1:(startO w0 2 2).2=5:=by decide +kernel
theorem g2:sealW wa (getP w0.people 1).key 9 p0=(wx,2147483664,0):=by
 have:(sealW wa (getP w0.people 1).key 9 p0).2=(2147483664,0):=by decide +kernel
 rw [← this];rfl
theorem g3:shareO wx 1 m0=(wb,0):=by
 have:(shareO wx 1 m0).2=0:=by decide +kernel
 rw [← this];rfl
theorem g4:(shareO wx 1 m1).2=9:=by decide +kernel
theorem g5:(shareO wx 1 m2).2=6:=by decide +kernel
theorem g6:(shareO wb 1 m0).2=9:=by decide +kernel
theorem r0:Right10 w0.people=true:=by decide +kernel
theorem l1:1 < w0.people.length:=by decide +kernel
theorem k1:(getP w0.people 1).key=(w0.people[1]'l1).key:=by kernel_rfl
end L17
namespace L18
def m0:Msg:=⟨6,5,1,2,0,77,0⟩
def w0:World:=L17.w0
def wa:World:=(firstB w0 2 m0).1
def p0:Part:=⟨2147483661,0,0,0,70,0,0⟩
def wx:World:=(sealW wa (getP w0.people 2).key 8 p0).1
def m1:Msg:=⟨8,5,0,0,0,78,2147483663⟩
def m2:Msg:=⟨8,6,0,0,0,78,2147483663⟩
def m3:Msg:=⟨8,5,0,0,0,2147483663,78⟩
def wb:World:=(shareB wx 2 m1).1
theorem U2:U 2:=by decide
theorem w0_fit:w0.fit 21:=L17.w0_fit
theorem g0:firstB w0 2 m0=(wa,0):=by
 have:(firstB w0 2 m0).2=0:=by decide +kernel
 rw [← this];rfl
theorem g1:(firstB wa 2 m0).2=8:=by decide +kernel
theorem g2:(firstB w0 1 m0).2=5:=by decide +kernel
theorem g3:sealW wa (getP w0.people 2).key 8 p0=(wx,2147483663,0):=by
 have:(sealW wa (getP w0.people 2).key 8 p0).2=(2147483663,0):=by decide +kernel
 rw [← this];rfl
theorem g4:shareB wx 2 m1=(wb,0):=by
 have:(shareB wx 2 m1).2=0:=by decide +kernel
 rw [← this];rfl
theorem g5:(shareB wx 2 m2).2=9:=by decide +kernel
theorem g6:(shareB wx 2 m3).2=6:=by decide +kernel
theorem r0:Right10 w0.people=true:=by decide +kernel
theorem l2:2 < w0.people.length:=by decide +kernel
theorem k2:(getP w0.people 2).key=(w0.people[2]'l2).key:=by kernel_rfl
end L18
theorem get_in9 {l:List Person} {n:Nat} (h:n < l.length):getP l n=l[n]:=by simp only [getP,List.getElem?_eq_getElem h,Option.getD_some]
theorem shareO_err {w:World} {me:Int} {m:Msg} (h:(shareO w me m).2≠0):(shareO w me m).1=w:=by
 unfold shareO at h ⊢
 cases h1:oI w me m with
 | none=>rfl
 | some i =>
   rw [h1] at h
   cases h2:((oO w me m).2 && (oO w me m).1.n==(runAt (personW w me).runs i).mine)
   ·simp only [h2,cond_false]
   ·simp only [h2] at h;exact absurd rfl h
theorem shareO_ok {w:World} {me:Int} {m:Msg} (h:(shareO w me m).2=0):∃ i,oI w me m=some i∧(oO w me m).2=true∧(oO w me m).1.n=(runAt (personW w me).runs i).mine∧shareO w me m=(oCom w me i (oO w me m).1.k,0):=by
 unfold shareO at h ⊢
 cases h1:oI w me m with
 | none=>rw [h1] at h;cases h
 | some i =>
   rw [h1] at h
   cases h2:((oO w me m).2 && (oO w me m).1.n==(runAt (personW w me).runs i).mine)
   ·simp only [h2] at h;cases h
   ·simp only [h2,cond_true]
    rw [Bool.and_eq_true,beq_iff_eq] at h2
    exact ⟨i,rfl,h2.1,h2.2,rfl⟩
theorem shareB_err {w:World} {me:Int} {m:Msg} (h:(shareB w me m).2≠0):(shareB w me m).1=w:=by
 unfold shareB at h ⊢
 cases h1:bI w me m with
 | none=>rfl
 | some i =>
   rw [h1] at h
   cases h2:((bO w me m).2 && (bO w me m).1.n==(runAt (personW w me).runs i).mine)
   ·simp only [h2,cond_false]
   ·cases h3:roomW w 0 1
    ·simp only [h2,h3,cond_true,cond_false]
    ·simp only [h2,h3] at h;exact absurd rfl h
theorem sendW_full {w:World} {to:Int} {m:Msg} (hm:msgMay m=true) (hr:w.net.room - (w.net.grams.length:Int) < 1):sendW w to m=(w,10):=by
 have e:decide (w.net.room - (w.net.grams.length:Int) < 1)=true:=decide_eq_true hr
 simp only [sendW,msgPut,hm,netSend,e,cond_true,beq_self_eq_true]
 rfl
theorem right_room {b:Box} (h:Right07 b=true):(b.rows.length:Int)≤b.room:=by
 simp only [Right07,Bool.and_eq_true,decide_eq_true_eq] at h;exact h.1.2
theorem room_full {w:World} {f:Int} (hb:Right07 w.box=true) (h:roomW w 0 f=false):w.net.room - (w.net.grams.length:Int) < f:=by
 have h1:=right_room hb
 have e:decide (w.box.room - (w.box.rows.length:Int)≥0)=true:=decide_eq_true (by omega)
 rw [roomW,e,Bool.true_and] at h
 have:=of_decide_eq_false h
 omega
theorem aZ_err {w:World} {a b:Int} (hb:Right07 w.box=true) (h:roomW w 0 1=false):sendW (aY w a b) 0 (aMsg w a b)=(aY w a b,10) :=
 sendW_full (may1 _ _ _) (by have:=room_full hb h;rw [aY,net_put];exact this)
theorem aX_err {w:World} {me:Int} {g:Part} {i:Nat} {to:Int} (hb:Right07 w.box=true) (h:roomW w 0 1=false):sendW (aT w me g i) to ⟨3,0,0,0,0,g.h,0⟩=(aT w me g i,10) :=
 sendW_full (mayBox (by omega) _) (by have:=room_full hb h;rw [aT,net_put];exact this)
theorem back_run {w:World} {me:Int} {m:Msg} {i:Nat} (h:kI w me m=some i):i < (personW w me).runs.length∧(runAt (personW w me).runs i).proto=1∧(runAt (personW w me).runs i).role=2∧(runAt (personW w me).runs i).state=2∧(openW w (runAt (personW w me).runs i).k 5 m.box).2=true∧(openW w (runAt (personW w me).runs i).k 5 m.box).1.n=(runAt (personW w me).runs i).mine:=by
 obtain ⟨h1,h2⟩:=find_runs h
 simp only [kQ,isRun,Bool.and_eq_true,beq_iff_eq] at h2
 exact ⟨h1,h2.1.1,h2.1.2.1,h2.1.2.2,h2.2.1,h2.2.2⟩
theorem echo_run {w:World} {me:Int} {m:Msg} {i:Nat} (h:eI w me m=some i):i < (personW w me).runs.length∧(runAt (personW w me).runs i).proto=1∧(runAt (personW w me).runs i).role=1∧(runAt (personW w me).runs i).state=2∧(openW w (runAt (personW w me).runs i).k 4 m.box).2=true:=by
 obtain ⟨h1,h2⟩:=find_runs h
 simp only [eQ,isRun,Bool.and_eq_true,beq_iff_eq] at h2
 exact ⟨h1,h2.1.1,h2.1.2.1,h2.1.2.2,h2.2⟩
theorem grant_run {w:World} {me:Int} {m:Msg} {i:Nat} (h:aI w me m=some i):i < (personW w me).runs.length∧(runAt (personW w me).runs i).proto=1∧(runAt (personW w me).runs i).role=1∧(runAt (personW w me).runs i).state=1∧(runAt (personW w me).runs i).mine=(aG w me m).1.n∧(runAt (personW w me).runs i).peer=(aG w me m).1.b:=by
 obtain ⟨h1,h2⟩:=find_runs h
 simp only [aQ,isRun,Bool.and_eq_true,beq_iff_eq] at h2
 exact ⟨h1,h2.1.1,h2.1.2.1,h2.1.2.2,h2.2.1,h2.2.2⟩
theorem startN_err {w:World} {a b:Int} (h:(startN w a b).2≠0):(startN w a b).1=w:=by
 unfold startN at h ⊢
 cases h1:pairM w.people a b
 ·rfl
 ·cases h2:(!full w (personW w a) && roomW w 0 1)
  ·rfl
  ·simp only [h1,h2] at h;exact absurd rfl h
theorem startN_done {w:World} {a b:Int} (h:(startN w a b).2=0):pairM w.people a b=true∧full w (personW w a)=false∧startN w a b=(sendTo (aY w a b) 0 (aMsg w a b),0):=by
 unfold startN at h ⊢
 cases h1:pairM w.people a b
 ·simp only [h1] at h;cases h
 ·cases h2:(!full w (personW w a) && roomW w 0 1)
  ·simp only [h1,h2] at h;cases h
  ·rw [Bool.and_eq_true,Bool.not_eq_true'] at h2
   have hz:=(send_to (aZ_ok (a:=a) (b:=b) h2.2)).1
   refine ⟨rfl,h2.1,?_⟩
   simp only [cond_true,aZ,hz]
theorem grantN_err {w:World} {me:Int} {m:Msg} (h:(grantN w me m).2≠0):(grantN w me m).1=w:=by
 unfold grantN at h ⊢
 cases h1:(aG w me m).2
 ·rfl
 ·cases h2:aI w me m with
  | none=>rfl
  | some i =>
    simp only [h1,h2,cond_true] at h ⊢
    cases h3:freshM (personW w me).clock (aG w me m).1.t w.conf.window
    ·rfl
    ·cases h4:roomW w 0 1
     ·rfl
     ·simp only [h3,h4] at h;exact absurd rfl h
theorem grantN_done {w:World} {me:Int} {m:Msg} (h:(grantN w me m).2=0):∃ i,aI w me m=some i∧(aG w me m).2=true∧freshM (personW w me).clock (aG w me m).1.t w.conf.window=true∧grantN w me m=(sendTo (aT w me (aG w me m).1 i) (runAt (personW w me).runs i).peer ⟨3,0,0,0,0,(aG w me m).1.h,0⟩,0):=by
 unfold grantN at h ⊢
 cases h1:(aG w me m).2
 ·simp only [h1] at h;cases h
 ·cases h2:aI w me m with
  | none=>simp only [h1,h2] at h;cases h
  | some i =>
    simp only [h1,h2,cond_true] at h ⊢
    cases h3:freshM (personW w me).clock (aG w me m).1.t w.conf.window
    ·simp only [h3] at h;cases h
    ·cases h4:roomW w 0 1
     ·simp only [h3,h4] at h;cases h
     ·have hz:=(send_to (aX_ok (me:=me) (g:=(aG w me m).1) (i:=i) (to:=(runAt (personW w me).runs i).peer) h4)).1
      exact ⟨i,rfl,trivial,rfl,by simp only [cond_true,aX,hz]⟩
theorem echoN_err {w:World} {me:Int} {m:Msg} (h:(echoN w me m).2≠0):(echoN w me m).1=w:=by
 unfold echoN at h ⊢
 cases h2:eI w me m with
 | none=>rfl
 | some i =>
   simp only [h2] at h ⊢
   cases h3:freshM (personW w me).clock (runAt (personW w me).runs i).t w.conf.window
   ·rfl
   ·cases h4:roomW w 1 1
    ·rfl
    ·simp only [h3,h4,cond_true] at h ⊢
     cases h5:((eS w me (eN w me m i) i).2.2==0)
     ·rfl
     ·simp only [h5] at h;exact absurd rfl h
theorem echoN_done {w:World} {me:Int} {m:Msg} (h:(echoN w me m).2=0):∃ i,eI w me m=some i∧freshM (personW w me).clock (runAt (personW w me).runs i).t w.conf.window=true∧(eS w me (eN w me m i) i).2.2=0∧echoN w me m=(sendTo (eT w me (eN w me m i) i) (runAt (personW w me).runs i).peer ⟨5,0,0,0,0,(eS w me (eN w me m i) i).2.1,0⟩,0):=by
 unfold echoN at h ⊢
 cases h2:eI w me m with
 | none=>simp only [h2] at h;cases h
 | some i =>
   simp only [h2] at h ⊢
   cases h3:freshM (personW w me).clock (runAt (personW w me).runs i).t w.conf.window
   ·simp only [h3] at h;cases h
   ·cases h4:roomW w 1 1
    ·simp only [h3,h4] at h;cases h
    ·simp only [h3,h4,cond_true] at h ⊢
     cases h5:((eS w me (eN w me m i) i).2.2==0)
     ·simp only [h5,cond_false] at h
      rw [h] at h5;cases h5
     ·have hz:=(send_to (eX_ok (me:=me) (n:=eN w me m i) (i:=i) (to:=(runAt (personW w me).runs i).peer) h4)).1
      exact ⟨i,rfl,h3,by simpa using h5,by simp only [cond_true,eX,hz]⟩
theorem ticketB_err {w:World} {me:Int} {m:Msg} (h:(ticketB w me m).2≠0):(ticketB w me m).1=w:=by
 unfold ticketB at h ⊢
 cases h1:(tG w me m).2
 ·rfl
 cases h2:pairM w.people (tG w me m).1.a me
 ·rfl
 cases h3:freshM (personW w me).clock (tG w me m).1.t w.conf.window
 ·rfl
 cases h4:(usedMay (personW w me).used w.conf.used (tG w me m).1.k==0)
 ·rfl
 cases h5:(!full w (personW w me) && roomW w 1 1)
 ·rfl
 simp only [h1,h2,h3,h4,h5,cond_true] at h ⊢
 cases h6:((tS w (tG w me m).1).2.2==0)
 ·rfl
 ·simp only [h6] at h;exact absurd rfl h
theorem backB_err {w:World} {me:Int} {m:Msg} (h:(backB w me m).2≠0):(backB w me m).1=w:=by
 unfold backB at h ⊢
 cases h2:kI w me m with
 | none=>rfl
 | some i =>
   simp only [h2] at h ⊢
   cases h3:freshM (personW w me).clock (runAt (personW w me).runs i).t w.conf.window
   ·rfl
   ·simp only [h3] at h;exact absurd rfl h
theorem backB_done {w:World} {me:Int} {m:Msg} (h:(backB w me m).2=0):∃ i,kI w me m=some i∧freshM (personW w me).clock (runAt (personW w me).runs i).t w.conf.window=true∧backB w me m=(kT w me i,0):=by
 unfold backB at h ⊢
 cases h2:kI w me m with
 | none=>simp only [h2] at h;cases h
 | some i =>
   simp only [h2] at h ⊢
   cases h3:freshM (personW w me).clock (runAt (personW w me).runs i).t w.conf.window
   ·simp only [h3] at h;cases h
   ·exact ⟨i,rfl,h3,rfl⟩
theorem toldT {w:World} {key h:Int} (ho:(openW w key 3 h).2=true):(openW w key 3 h).1=⟨0,0,(openW w key 3 h).1.a,0,(openW w key 3 h).1.k,(openW w key 3 h).1.t,0⟩:=by
 revert ho
 unfold openW
 cases hb:boxOpen w.box key 3 h with
 | none=>intro ho;cases ho
 | some l =>
   simp only [partGet]
   cases (l.length==(partWs 3 zPart).length)
   ·intro ho;exact absurd ho (by simp [label?])
   ·intro _;rfl
def oPart (w:World) (a b:Int):Part:=⟨(drawW (drawW w).1).2,(drawW w).2,a,b,0,0,0⟩
def oRow (w:World) (a b:Int):Sld:=sealRow (drawW (drawW w).1).1 (personW w a).key 6 (oPart w a b)
def oX (w:World) (a b:Int):World:=⟨w.conf,⟨w.draws.list,w.draws.next + 1 + 1 + 1⟩,⟨w.box.room,w.box.rows++[oRow w a b]⟩,⟨w.net.room,w.net.grams++[⟨b,msgWs (oMsg w a b)⟩],w.net.seen++[msgWs (oMsg w a b)]⟩,w.people.set a.toNat (oP w a b),w.log++[oEv w a b],w.regs,w.leaks⟩
theorem startO_err {w:World} {a b:Int} (h:(startO w a b).2≠0):(startO w a b).1=w:=by
 unfold startO at h ⊢
 cases h1:pairM w.people a b
 ·rfl
 cases h2:(!full w (personW w a) && roomW w 1 1)
 ·rfl
 cases h3:((oS w a b).2.2==0)
 ·rfl
 ·rw [h1,h2,h3] at h;exact absurd rfl h
theorem startO_ok {w:World} {a b:Int} (hr:Right10 w.people=true) (ha:U a) (h:(startO w a b).2=0):startO w a b=(oX w a b,0)∧pairM w.people a b=true∧full w (personW w a)=false∧roomW w 1 1=true∧(sealW (drawW (drawW w).1).1 (personW w a).key 6 (oPart w a b)).2.2=0:=by
 unfold startO at h ⊢
 cases h1:pairM w.people a b
 ·rw [h1] at h;cases h
 cases h2:(!full w (personW w a) && roomW w 1 1)
 ·rw [h1,h2] at h;cases h
 cases h3:((oS w a b).2.2==0)
 ·rw [h1,h2,h3] at h
  simp only [cond_true,cond_false] at h
  rw [h] at h3;cases h3
 ·simp only [Bool.and_eq_true,Bool.not_eq_true'] at h2
  have h3':(sealW (drawW (drawW w).1).1 (personW w a).key 6 (oPart w a b)).2.2=0:=by (have h4:(oS w a b).2.2=0:=by simpa using h3);exact h4
  refine ⟨?_,rfl,h2.1,h2.2,h3'⟩
  simp only [cond_true]
  obtain ⟨hin,_⟩:=(pair_in h1).2.2.2
  have hnm:=name_of hr ha hin
  have hs:(oS w a b).1=sealTo (drawW (drawW w).1).1 (personW w a).key 6 (oPart w a b):=by
   have:=(seal_ok h3').1
   show (sealW (drawW (drawW w).1).1 (personW w a).key 6 (oPart w a b)).1=_
   rw [this]
  have hz:=send_to (oZ_ok (w:=w) (a:=a) (b:=b) h2.2)
  have hset:(setM w.people (oP w a b)).1=w.people.set a.toNat (oP w a b):=by
   have hn:(oP w a b).name=a:=hnm
   rw [setM,hn,decide_eq_true hin];rfl
  have:oZ w a b=oX w a b:=by
   rw [oZ,hz.1,sendTo,oY,putP,logW,withW,hs]
   show World.mk _ _ _ _ _ _ _ _=_
   simp only [sealTo,drawW,hset,oX,oRow]
  rw [this]
theorem seal_right {w:World} (h:Right07 w.box=true) (key label:Int) (p:Part):Right07 (sealW w key label p).1.box=true:=by
 unfold sealW
 cases ((partPut label p).2==0)
 ·exact h
 ·cases ((boxSeal w.box (drawW w).2 key label (partPut label p).1).2==0)
  ·exact h
  ·exact right_seal h _ _ _ _
end Ch
