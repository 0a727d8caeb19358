import Derived.Test.YtaebkmmjjabnaaaGreatDoorW37
set_option maxRecDepth 100000
set_option maxHeartbeats 4000000
set_option linter.unusedSimpArgs false
set_option linter.unusedVariables false
namespace Ch
open Go Go.Ab Go.Proofs.Tryz
theorem rFresh_spec (now t w:Int) (h1:U now) (h2:U t) (h3:U w):Spec PP GG 91 [u32 now,u32 t,u32 w] (.bool (freshM now t w)) []:=by
 obtain ⟨a1,a2⟩:=h1
 obtain ⟨b1,b2⟩:=h2
 obtain ⟨c1,c2⟩:=h3
 rw [← fresh05_eq]
 have k1:IntKind.i64.wrap now=now:=w64 (by omega) (by omega)
 have k2:IntKind.i64.wrap t=t:=w64 (by omega) (by omega)
 have k3:IntKind.i64.wrap w=w:=w64 (by omega) (by omega)
 have k4:IntKind.i64.wrap (now - t)=now - t:=w64 (by omega) (by omega)
 have k5:IntKind.i64.wrap (-(now - t)) = -(now - t):=w64 (by omega) (by omega)
 refine Qs func91 ?_
 intro w0 M0
 simp only [f91,lf,z,seval]
 repeat' ((try simp only [k1,k2,k3,k4,k5,z,seval]);(first|refine brk (fun h=>?_) (fun h=>?_)|fail)<;>simp only [h,k1,k2,k3,k4,k5,z,seval])
 all_goals (refine Qf ?_;simp only [z,seval])
 all_goals (first|(simp only [fresh05, *,cond_true,cond_false,Bool.true_and,Bool.and_true,Bool.false_and,Bool.and_false,Bool.true_or,Bool.or_true,Bool.false_or,Bool.or_false,Bool.not_true,Bool.not_false,beq_self_eq_true,Option.getD_some,Option.getD_none,Option.isSome_some,Option.isSome_none,List.map_nil];done)|(simp only [fresh05, *,cond_true,cond_false,Bool.true_and,Bool.and_true,Bool.false_and,Bool.and_false,Bool.true_or,Bool.or_true,Bool.false_or,Bool.or_false,Bool.not_true,Bool.not_false,beq_self_eq_true,Option.getD_some,Option.getD_none,Option.isSome_some,Option.isSome_none,List.map_nil];rfl)|(simp [fresh05, *];done)|(simp_all [fresh05];done))
theorem rStartN_spec (w:World) (a b:Int) {N:Nat} (hw:w.fit N) (h5:21≤N) (hN:N≤400000000000) (ha:U a) (hb:U b) (hr:Right10 w.people=true):Spec PP GG 73 [w.v,u32 a,u32 b] (.tup [(startN w a b).1.v,i64 (startN w a b).2]) []:=by
 have hPr:=rPair_spec w.people (by have:=hw.people;omega) hr a b ha hb
 have hPa:=rPerson_spec w hw (by omega) hr a ha
 have hRm:=rRoom_spec w 0 1 hw.broom hw.nroom (by have:=hw.rows;omega) (by have:=hw.grams;omega)
 have hD1:=rDraw_spec w hw (by omega)
 have hU:(personW w a).runs.length≤N:=personW_runs hw a
 have hW:Spec PP GG 72 [(drawW w).1.v,Person.v ⟨(personW w a).name,(personW w a).key,(personW w a).clock,(personW w a).used,(personW w a).runs++[aRun w b],(personW w a).corrupt⟩] (withW (drawW w).1 (aP w a b)).v []:=rWith_spec (drawW w).1 (fit_draw hw (by omega)) (by omega) hr (aP w a b) (aP_ok hw hN hb).1
 have hL:Spec PP GG 130 _ (aY w a b).v []:=rLog_spec (withW (drawW w).1 (aP w a b)) (aW_fit hw hN hb) (by omega) (aEv w a b)
 have hSn:Spec PP GG 131 _ (.tup [(aZ w a b).v,_]) []:=rSend_spec (aY w a b) (aY_fit hw hN ha hb) (by omega) 0 (aMsg w a b) (aMsg_ok hw ha hb)
 have e:(personW w a).runs.map Run.v++[Run.v ⟨1,1,b,(drawW w).2,0,0,0,0,1⟩]=((personW w a).runs++[aRun w b]).map Run.v:=by simp [aRun]
 simp only [mv] at e
 clear hw hr
 cases c1:pairM w.people a b with
 | false =>
   rw [c1] at hPr
   have e:startN w a b=(w,5):=by simp only [startN,c1,cond_false]
   rw [e]
   refine Qs func73 ?_
   intro w0 M0
   simp only [f73,lf,z,seval]
   (refine CU hPr (h:=?_);simp only [z,seval])
   (refine Qf ?_;simp only [z,seval])
 | true =>
 rw [c1] at hPr
 cases c2:full w (personW w a) with
 | true =>
   have e:startN w a b=(w,10):=by simp only [startN,c1,c2,cond_true,cond_false,Bool.not_true,Bool.false_and]
   rw [e]
   simp only [full] at c2
   refine Qs func73 ?_
   intro w0 M0
   simp only [f73,lf,z,seval]
   (refine CU hPr (h:=?_);simp only [z,seval])
   (refine CU hPa (h:=?_);simp only [z,seval])
   simp only [c2,z,seval]
   (refine Qf ?_;simp only [z,seval])
 | false =>
 cases c3:roomW w 0 1 with
 | false =>
   rw [c3] at hRm
   have e:startN w a b=(w,10):=by simp only [startN,c1,c2,c3,cond_true,cond_false,Bool.not_false,Bool.true_and]
   rw [e]
   simp only [full] at c2
   refine Qs func73 ?_
   intro w0 M0
   simp only [f73,lf,z,seval]
   (refine CU hPr (h:=?_);simp only [z,seval])
   (refine CU hPa (h:=?_);simp only [z,seval])
   simp only [c2,z,seval]
   (refine CU hRm (h:=?_);simp only [z,seval])
   (refine Qf ?_;simp only [z,seval])
 | true =>
 rw [c3] at hRm
 have e0:startN w a b=(aZ w a b,0):=by simp only [startN,c1,c2,c3,cond_true,Bool.not_false,Bool.true_and]
 rw [e0]
 clear e0
 simp only [full] at c2
 refine Qs func73 ?_
 intro w0 M0
 simp only [f73,lf,z,seval]
 (refine CU hPr (h:=?_);simp only [z,seval])
 (refine CU hPa (h:=?_);simp only [z,seval])
 simp only [c2,z,seval]
 (refine CU hRm (h:=?_);simp only [z,seval])
 (refine CU hD1 (h:=?_);simp only [z,seval])
 refine OPC_ok ?_ ?_
 ·exact okMap _ (fun a=>rfl) (by omega)
 simp only [z,seval]
 refine OPC_ok ?_ ?_
 ·simp;omega
 simp only [e,z,seval]
 (refine CU hW (h:=?_);simp only [z,seval])
 (refine CU hL (h:=?_);simp only [z,seval])
 (refine CU hSn (h:=?_);simp only [z,seval])
 (refine Qf ?_;simp only [z,seval])
theorem rGrantN_spec (w:World) (me:Int) (m:Msg) {N:Nat} (hw:w.fit N) (h5:21≤N) (hN:N≤400000000000) (hme:U me) (hr:Right10 w.people=true) (hb7:Right07 w.box=true):Spec PP GG 137 [w.v,u32 me,m.v] (.tup [(grantN w me m).1.v,i64 (grantN w me m).2]) []:=by
 have hP:=rPerson_spec w hw (by omega) hr me hme
 have hU:(personW w me).runs.length≤N:=personW_runs hw me
 have hO:=rOpen_spec w hw (by omega) hb7 (personW w me).key 2 m.box
 have hRm:=rRoom_spec w 0 1 hw.broom hw.nroom (by have:=hw.rows;omega) (by have:=hw.grams;omega)
 rw [← aG] at hO
 have hg:(aG w me m).1.ok:=openW_ok hw _ _ _
 have hFr:=rFresh_spec (personW w me).clock (aG w me m).1.t w.conf.window (personW_ok hw me).2.2.1 hg.2.2.2.2.2.1 hw.ok.1.1
 have hS:∀ i,(hi:i < (personW w me).runs.length)→Spec PP GG 199 [w.v,(personW w me).v,i64 i,Run.v ⟨(personW w me).runs[i].proto,(personW w me).runs[i].role,(personW w me).runs[i].peer,(personW w me).runs[i].mine,(personW w me).runs[i].their,(personW w me).runs[i].m,(aG w me m).1.k,(aG w me m).1.t,2⟩] (withW w (setRun (personW w me) i (tookR (runAt (personW w me).runs i) (aG w me m).1))).v []:=fun i hi=>by
  have:=rWith15_spec w hw (by omega) hr (personW w me) (personW_ok hw me).1 i hi (by omega) (tookR (runAt (personW w me).runs i) (aG w me m).1)
  rw [runAt_get hi] at this ⊢
  exact this
 have hL:∀ i,(hi:i < (personW w me).runs.length)→Spec PP GG 130 [(withW w (setRun (personW w me) i (tookR (runAt (personW w me).runs i) (aG w me m).1))).v,Event.v ⟨3,1,1,me,(personW w me).runs[i].peer,(aG w me m).1.k,(aG w me m).1.t,0,(personW w me).runs[i].mine,(personW w me).clock⟩] (aT w me (aG w me m).1 i).v []:=fun i hi=>by
  have hfit:(withW w (setRun (personW w me) i (tookR (runAt (personW w me).runs i) (aG w me m).1))).fit N:=set_fit hw me i (tookR_ok (runAt_ok hw me i) hg)
  have:=rLog_spec _ hfit (by omega) ⟨3,1,1,me,(runAt (personW w me).runs i).peer,(aG w me m).1.k,(aG w me m).1.t,0,(runAt (personW w me).runs i).mine,(personW w me).clock⟩
  rw [aT]
  rw [runAt_get hi] at this ⊢
  exact this
 have hSn:∀ i,(hi:i < (personW w me).runs.length)→Spec PP GG 131 [(aT w me (aG w me m).1 i).v,u32 (personW w me).runs[i].peer,Msg.v ⟨3,0,0,0,0,(aG w me m).1.h,0⟩] (.tup [(aX w me (aG w me m).1 i).v,i64 (sendW (aT w me (aG w me m).1 i) (runAt (personW w me).runs i).peer ⟨3,0,0,0,0,(aG w me m).1.h,0⟩).2]) []:=fun i hi=>by
  have:=rSend_spec (aT w me (aG w me m).1 i) (aT_fit hw hN hme hg i) (by omega) (runAt (personW w me).runs i).peer ⟨3,0,0,0,0,(aG w me m).1.h,0⟩ (boxMsg_ok (by decide) hg.2.2.2.2.2.2)
  rw [← aX] at this
  rw [runAt_get hi] at this ⊢
  exact this
 have hfa := @first_at (personW w me).runs (aQ (aG w me m).1)
 have hfn := @first_none (personW w me).runs (aQ (aG w me m).1)
 have hsh:grantN w me m=bif (aG w me m).2 then (match (personW w me).runs.findIdx? (aQ (aG w me m).1) with
  | none=>(w,(9:Int))
  | some i=>bif freshM (personW w me).clock (aG w me m).1.t w.conf.window then (bif roomW w 0 1 then (aX w me (aG w me m).1 i,(0:Int)) else (w,(10:Int))) else (w,(7:Int))) else (w,(6:Int)):=rfl
 clear hw hr hb7 hg
 generalize hq:aG w me m=q at *
 generalize hp:personW w me=p at *
 obtain ⟨⟨qn,qm,qa,qb,qk,qt,qh⟩,q2⟩:=q
 cases d1:q2 with
 | false =>
   rw [d1] at hO hsh
   refine Qs func137 ?_
   intro w0 M0
   simp only [f137,lf,z,seval]
   (refine CU hP (h:=?_);simp only [z,seval])
   (refine CU hO (h:=?_);simp only [z,seval])
   (refine Qf ?_;simp only [z,seval])
   simp only [hsh,cond_false,z,seval]
 | true =>
 rw [d1] at hO hsh
 simp only [cond_true] at hsh
 refine Qs func137 ?_
 intro w0 M0
 simp only [f137,lf,z,seval]
 (refine CU hP (h:=?_);simp only [z,seval])
 (refine CU hO (h:=?_);simp only [z,seval])
 refine RUNs_rangeS (p.runs.length) (fun i (_:Unit) => ∀ j,j < i→aQ ⟨qn,qm,qa,qb,qk,qt,qh⟩ (runAt p.runs j)=false) (fun i _=>[(11,i64 i)]) (fun i _=>[]) () ?_ (by simp only [z,seval];exact wk) rfl ?_
 ·intro j h;exact absurd h (Nat.not_lt_zero _)
 rintro ⟨i,_,hi,hw'⟩
 simp only [z,seval]
 first|refine brk (fun h=>?_) (fun h=>?_)|fail
 ·have hlt:i < p.runs.length:=by have:=of_decide_eq_true h;omega
  have hg:=runAt_get hlt
  have hS:=hS i hlt
  have hL:=hL i hlt
  have hSn:=hSn i hlt
  simp only [h,getMap Run.v p.runs hlt,z,seval]
  cases c:aQ ⟨qn,qm,qa,qb,qk,qt,qh⟩ p.runs[i] with
  | true =>
    have e:=hfa hlt (by rw [hg];exact c) hw'
    rw [e] at hsh
    simp only [hg] at hsh
    simp only [aQ,isRun,Bool.and_eq_true] at c
    simp only [c.1.1,c.1.2.1,c.1.2.2,c.2.1,c.2.2,z,seval]
    (refine CU hFr (h:=?_);simp only [z,seval])
    cases d2:freshM p.clock qt w.conf.window with
    | false =>
      rw [d2] at hsh
      simp only [d2,z,seval]
      (refine Qf ?_;simp only [z,seval])
      simp only [hsh,cond_false,z,seval]
    | true =>
      rw [d2] at hsh
      simp only [d2,z,seval]
      (refine CU hRm (h:=?_);simp only [z,seval])
      cases d3:roomW w 0 1 with
      | false =>
        rw [d3] at hsh
        simp only [d3,z,seval]
        (refine Qf ?_;simp only [z,seval])
        simp only [hsh,cond_true,cond_false,z,seval]
      | true =>
        rw [d3] at hsh
        simp only [d3,z,seval]
        (refine CU hS (h:=?_);simp only [z,seval])
        (refine CU hL (h:=?_);simp only [z,seval])
        (refine CU hSn (h:=?_);simp only [z,seval])
        (refine Qf ?_;simp only [z,seval])
        simp only [hsh,cond_true,z,seval]
  | false =>
    have hs:=findIdx_none_take hlt hw' c
    simp only [aQ,isRun] at c
    cases c1:(p.runs[i].proto==1)<;>cases c2:(p.runs[i].role==1)<;>cases c3:(p.runs[i].state==1)<;>cases c4:(p.runs[i].mine==qn)<;>cases c5:(p.runs[i].peer==qb)
    all_goals
     simp only [c1,c2,c3,c4,c5,z,seval]
     first
      | (exfalso;rw [c1,c2,c3,c4,c5] at c;exact absurd c (by decide))
      | (simp only [w64s (i:=i) (by omega),z,seval]
         refine NX () ?_ (by rfl) hlt hs
         first|exact wk|(simp only [z,seval];exact wk))
 ·have:i=p.runs.length:=by have:=of_decide_eq_false h;omega
  subst this
  simp only [h,z,seval]
  rw [hfn hw'] at hsh
  (refine Qf ?_;simp only [z,seval])
  simp only [hsh,z,seval]
theorem rBackB_spec (w:World) (me:Int) (m:Msg) {N:Nat} (hw:w.fit N) (hN:N≤400000000000) (hme:U me) (hr:Right10 w.people=true) (hb7:Right07 w.box=true):Spec PP GG 140 [w.v,u32 me,m.v] (.tup [(backB w me m).1.v,i64 (backB w me m).2]) []:=by
 have hP:=rPerson_spec w hw (by omega) hr me hme
 have hU:(personW w me).runs.length≤N:=personW_runs hw me
 have hO:=fun k=>rOpen_spec w hw (by omega) hb7 k 5 m.box
 have hFr:∀ i,(hi:i < (personW w me).runs.length)→_:=fun i hi=>rFresh_spec (personW w me).clock (personW w me).runs[i].t w.conf.window (personW_ok hw me).2.2.1 (by have:=(runAt_ok hw me i).2.2.2.2.2.2.2.1;rw [runAt_get hi] at this;exact this) hw.ok.1.1
 have hS:∀ i,(hi:i < (personW w me).runs.length)→Spec PP GG 199 [w.v,(personW w me).v,i64 i,Run.v ⟨(personW w me).runs[i].proto,(personW w me).runs[i].role,(personW w me).runs[i].peer,(personW w me).runs[i].mine,(personW w me).runs[i].their,(personW w me).runs[i].m,(personW w me).runs[i].k,(personW w me).runs[i].t,3⟩] (withW w (setRun (personW w me) i (endR' (runAt (personW w me).runs i)))).v []:=fun i hi=>by
  have:=rWith15_spec w hw (by omega) hr (personW w me) (personW_ok hw me).1 i hi (by omega) (endR' (runAt (personW w me).runs i))
  rw [runAt_get hi] at this ⊢
  exact this
 have hL:∀ i,(hi:i < (personW w me).runs.length)→Spec PP GG 130 [(withW w (setRun (personW w me) i (endR' (runAt (personW w me).runs i)))).v,Event.v ⟨4,1,2,(personW w me).runs[i].peer,me,(personW w me).runs[i].k,(personW w me).runs[i].t,0,(personW w me).runs[i].mine,(personW w me).clock⟩] (kT w me i).v []:=fun i hi=>by
  have hfit:(withW w (setRun (personW w me) i (endR' (runAt (personW w me).runs i)))).fit N:=set_fit hw me i (endR'_ok (runAt_ok hw me i))
  have:=rLog_spec _ hfit (by omega) ⟨4,1,2,(runAt (personW w me).runs i).peer,me,(runAt (personW w me).runs i).k,(runAt (personW w me).runs i).t,0,(runAt (personW w me).runs i).mine,(personW w me).clock⟩
  rw [kT]
  rw [runAt_get hi] at this ⊢
  exact this
 have hfa := @first_at (personW w me).runs (kQ w m)
 have hfn := @first_none (personW w me).runs (kQ w m)
 have hsh:backB w me m=match (personW w me).runs.findIdx? (kQ w m) with
  | none=>(w,(6:Int))
  | some i=>bif freshM (personW w me).clock (runAt (personW w me).runs i).t w.conf.window then (kT w me i,(0:Int)) else (w,(7:Int)):=rfl
 clear hw hr hb7
 generalize hp:personW w me=p at *
 refine Qs func140 ?_
 intro w0 M0
 simp only [f140,lf,z,seval]
 (refine CU hP (h:=?_);simp only [z,seval])
 refine RUNs_rangeS (p.runs.length) (fun i (_:Unit) => ∀ j,j < i→kQ w m (runAt p.runs j)=false) (fun i _=>[(9,i64 i)]) (fun i _=>[]) () ?_ (by simp only [z,seval];exact wk) rfl ?_
 ·intro j h;exact absurd h (Nat.not_lt_zero _)
 rintro ⟨i,_,hi,hw'⟩
 simp only [z,seval]
 first|refine brk (fun h=>?_) (fun h=>?_)|fail
 ·have hlt:i < p.runs.length:=by have:=of_decide_eq_true h;omega
  have hg:=runAt_get hlt
  have hS:=hS i hlt
  have hL:=hL i hlt
  have hFr:=hFr i hlt
  have hO:=hO p.runs[i].k
  simp only [h,getMap Run.v p.runs hlt,z,seval]
  (refine CU hO (h:=?_);simp only [z,seval])
  cases c:kQ w m p.runs[i] with
  | true =>
    have e:=hfa hlt (by rw [hg];exact c) hw'
    rw [e] at hsh
    simp only [hg] at hsh
    simp only [kQ,isRun,Bool.and_eq_true] at c
    simp only [c.1.1,c.1.2.1,c.1.2.2,c.2.1,c.2.2,z,seval]
    (refine CU hFr (h:=?_);simp only [z,seval])
    cases d2:freshM p.clock p.runs[i].t w.conf.window with
    | false =>
      rw [d2] at hsh
      simp only [d2,z,seval]
      (refine Qf ?_;simp only [z,seval])
      simp only [hsh,cond_false,z,seval]
    | true =>
      rw [d2] at hsh
      simp only [d2,z,seval]
      (refine CU hS (h:=?_);simp only [z,seval])
      (refine CU hL (h:=?_);simp only [z,seval])
      (refine Qf ?_;simp only [z,seval])
      simp only [hsh,cond_true,z,seval]
  | false =>
    have hs:=findIdx_none_take hlt hw' c
    simp only [kQ,isRun] at c
    cases c1:(p.runs[i].proto==1)<;>cases c2:(p.runs[i].role==2)<;>cases c3:(p.runs[i].state==2)<;>cases c4:(openW w p.runs[i].k 5 m.box).2<;>cases c5:((openW w p.runs[i].k 5 m.box).1.n==p.runs[i].mine)
    all_goals
     simp only [c1,c2,c3,c4,c5,z,seval]
     first
      | (exfalso;rw [c1,c2,c3,c4,c5] at c;exact absurd c (by decide))
      | (simp only [w64s (i:=i) (by omega),z,seval]
         refine NX () ?_ (by rfl) hlt hs
         first|exact wk|(simp only [z,seval];exact wk))
 ·have:i=p.runs.length:=by have:=of_decide_eq_false h;omega
  subst this
  simp only [h,z,seval]
  rw [hfn hw'] at hsh
  (refine Qf ?_;simp only [z,seval])
  simp only [hsh,z,seval]
theorem rEchoN_spec (w:World) (me:Int) (m:Msg) {N:Nat} (hw:w.fit N) (h5:21≤N) (hN:N≤400000000000) (hme:U me) (hr:Right10 w.people=true) (hb7:Right07 w.box=true):Spec PP GG 139 [w.v,u32 me,m.v] (.tup [(echoN w me m).1.v,i64 (echoN w me m).2]) []:=by
 have hP:=rPerson_spec w hw (by omega) hr me hme
 have hU:(personW w me).runs.length≤N:=personW_runs hw me
 have hO:=fun k=>rOpen_spec w hw (by omega) hb7 k 4 m.box
 have hRm:=rRoom_spec w 1 1 hw.broom hw.nroom (by have:=hw.rows;omega) (by have:=hw.grams;omega)
 have hFr:∀ i,(hi:i < (personW w me).runs.length)→_:=fun i hi=>rFresh_spec (personW w me).clock (personW w me).runs[i].t w.conf.window (personW_ok hw me).2.2.1 (by have:=(runAt_ok hw me i).2.2.2.2.2.2.2.1;rw [runAt_get hi] at this;exact this) hw.ok.1.1
 have hn:∀ i,U (eN w me m i):=fun i=>(openW_ok hw _ _ _).1
 have hSe:∀ i,(hi:i < (personW w me).runs.length)→Spec PP GG 132 [w.v,u32 (personW w me).runs[i].k,u32 5,Part.v ⟨eN w me m i,0,0,0,0,0,0⟩] (.tup [(eS w me (eN w me m i) i).1.v,u32 (eS w me (eN w me m i) i).2.1,i64 (eS w me (eN w me m i) i).2.2]) []:=fun i hi=>by
  have:=rSeal_spec w hw (by omega) (runAt (personW w me).runs i).k 5 ⟨eN w me m i,0,0,0,0,0,0⟩
  rw [eS]
  rw [runAt_get hi] at this ⊢
  exact this
 have hS:∀ i,(hi:i < (personW w me).runs.length)→Spec PP GG 199 [(eS w me (eN w me m i) i).1.v,(personW w me).v,i64 i,Run.v ⟨(personW w me).runs[i].proto,(personW w me).runs[i].role,(personW w me).runs[i].peer,(personW w me).runs[i].mine,eN w me m i,(personW w me).runs[i].m,(personW w me).runs[i].k,(personW w me).runs[i].t,3⟩] (withW (eS w me (eN w me m i) i).1 (setRun (personW w me) i (backR (runAt (personW w me).runs i) (eN w me m i)))).v []:=fun i hi=>by
  have:=rWith15_spec (eS w me (eN w me m i) i).1 (eS_fit hw h5 hN (hn i) i) (by omega) (by rw [eS,people_seal];exact hr) (personW w me) (personW_ok hw me).1 i hi (by omega) (backR (runAt (personW w me).runs i) (eN w me m i))
  rw [runAt_get hi] at this ⊢
  exact this
 have hL:∀ i,(hi:i < (personW w me).runs.length)→Spec PP GG 130 [(withW (eS w me (eN w me m i) i).1 (setRun (personW w me) i (backR (runAt (personW w me).runs i) (eN w me m i)))).v,Event.v ⟨4,1,1,me,(personW w me).runs[i].peer,(personW w me).runs[i].k,(personW w me).runs[i].t,0,eN w me m i,(personW w me).clock⟩] (eT w me (eN w me m i) i).v []:=fun i hi=>by
  have:=rLog_spec _ (eW_fit (me:=me) hw h5 hN (hn i) i) (by omega) ⟨4,1,1,me,(runAt (personW w me).runs i).peer,(runAt (personW w me).runs i).k,(runAt (personW w me).runs i).t,0,eN w me m i,(personW w me).clock⟩
  rw [eT]
  rw [runAt_get hi] at this ⊢
  exact this
 have hSn:∀ i,(hi:i < (personW w me).runs.length)→Spec PP GG 131 [(eT w me (eN w me m i) i).v,u32 (personW w me).runs[i].peer,Msg.v ⟨5,0,0,0,0,(eS w me (eN w me m i) i).2.1,0⟩] (.tup [(eX w me (eN w me m i) i).v,i64 (sendW (eT w me (eN w me m i) i) (runAt (personW w me).runs i).peer ⟨5,0,0,0,0,(eS w me (eN w me m i) i).2.1,0⟩).2]) []:=fun i hi=>by
  have:=rSend_spec (eT w me (eN w me m i) i) (eT_fit hw h5 hN hme (hn i) i) (by omega) (runAt (personW w me).runs i).peer ⟨5,0,0,0,0,(eS w me (eN w me m i) i).2.1,0⟩ (boxMsg_ok (by decide) (eS_U hw me _ i))
  rw [← eX] at this
  rw [runAt_get hi] at this ⊢
  exact this
 have hfa := @first_at (personW w me).runs (eQ w m)
 have hfn := @first_none (personW w me).runs (eQ w m)
 have hen:∀ i,(hi:i < (personW w me).runs.length)→(openW w (personW w me).runs[i].k 4 m.box).1.n=eN w me m i:=fun i hi=>by rw [eN,runAt_get hi]
 have ht:=fun k => @toldE w k m.box
 have hsh:echoN w me m=match (personW w me).runs.findIdx? (eQ w m) with
  | none=>(w,(6:Int))
  | some i=>bif freshM (personW w me).clock (runAt (personW w me).runs i).t w.conf.window then (bif roomW w 1 1 then
    (bif (eS w me (eN w me m i) i).2.2==0 then (eX w me (eN w me m i) i,(0:Int)) else (w,(eS w me (eN w me m i) i).2.2)) else (w,(10:Int))) else (w,(7:Int)):=rfl
 clear hw hr hb7
 generalize hp:personW w me=p at *
 refine Qs func139 ?_
 intro w0 M0
 simp only [f139,lf,z,seval]
 (refine CU hP (h:=?_);simp only [z,seval])
 refine RUNs_rangeS (p.runs.length) (fun i (_:Unit) => ∀ j,j < i→eQ w m (runAt p.runs j)=false) (fun i _=>[(9,i64 i)]) (fun i _=>[]) () ?_ (by simp only [z,seval];exact wk) rfl ?_
 ·intro j h;exact absurd h (Nat.not_lt_zero _)
 rintro ⟨i,_,hi,hw'⟩
 simp only [z,seval]
 first|refine brk (fun h=>?_) (fun h=>?_)|fail
 ·have hlt:i < p.runs.length:=by have:=of_decide_eq_true h;omega
  have hg:=runAt_get hlt
  have hS:=hS i hlt
  have hL:=hL i hlt
  have hSn:=hSn i hlt
  have hSe:=hSe i hlt
  have hFr:=hFr i hlt
  have hen:=hen i hlt
  have hO:=hO p.runs[i].k
  have ht:=ht p.runs[i].k
  simp only [h,getMap Run.v p.runs hlt,z,seval]
  cases c:eQ w m p.runs[i] with
  | true =>
    have e:=hfa hlt (by rw [hg];exact c) hw'
    rw [e] at hsh
    simp only [hg] at hsh
    simp only [eQ,isRun,Bool.and_eq_true] at c
    have ht:=ht c.2
    rw [hen] at ht
    rw [ht,c.2] at hO
    simp only [c.1.1,c.1.2.1,c.1.2.2,z,seval]
    (refine CU hO (h:=?_);simp only [z,seval])
    (refine CU hFr (h:=?_);simp only [z,seval])
    cases d2:freshM p.clock p.runs[i].t w.conf.window with
    | false =>
      rw [d2] at hsh
      simp only [d2,z,seval]
      (refine Qf ?_;simp only [z,seval])
      simp only [hsh,cond_false,z,seval]
    | true =>
    rw [d2] at hsh
    simp only [d2,z,seval]
    (refine CU hRm (h:=?_);simp only [z,seval])
    cases d3:roomW w 1 1 with
    | false =>
      rw [d3] at hsh
      simp only [d3,z,seval]
      (refine Qf ?_;simp only [z,seval])
      simp only [hsh,cond_true,cond_false,z,seval]
    | true =>
    rw [d3] at hsh
    simp only [d3,z,seval]
    (refine CU hSe (h:=?_);simp only [z,seval])
    cases d4:((eS w me (eN w me m i) i).2.2==0) with
    | false =>
      rw [d4] at hsh
      simp only [d4,z,seval]
      (refine Qf ?_;simp only [z,seval])
      simp only [hsh,cond_true,cond_false,z,seval]
    | true =>
      rw [d4] at hsh
      simp only [d4,z,seval]
      (refine CU hS (h:=?_);simp only [z,seval])
      (refine CU hL (h:=?_);simp only [z,seval])
      (refine CU hSn (h:=?_);simp only [z,seval])
      (refine Qf ?_;simp only [z,seval])
      simp only [hsh,cond_true,z,seval]
  | false =>
    have hs:=findIdx_none_take hlt hw' c
    simp only [eQ,isRun] at c
    cases c1:(p.runs[i].proto==1)<;>cases c2:(p.runs[i].role==1)<;>cases c3:(p.runs[i].state==2)
    all_goals
     simp only [c1,c2,c3,z,seval]
     first
      | (simp only [w64s (i:=i) (by omega),z,seval]
         refine NX () ?_ (by rfl) hlt hs
         first|exact wk|(simp only [z,seval];exact wk))
      | (rw [c1,c2,c3] at c
         simp only [Bool.and_true,Bool.true_and] at c
         rw [c] at hO
         (refine CU hO (h:=?_);simp only [z,seval])
         simp only [w64s (i:=i) (by omega),z,seval]
         refine NX () ?_ (by rfl) hlt hs
         first|exact wk|(simp only [z,seval];exact wk))
 ·have:i=p.runs.length:=by have:=of_decide_eq_false h;omega
  subst this
  simp only [h,z,seval]
  rw [hfn hw'] at hsh
  (refine Qf ?_;simp only [z,seval])
  simp only [hsh,z,seval]
theorem rTicketB_spec (w:World) (me:Int) (m:Msg) {N:Nat} (hw:w.fit N) (h5:21≤N) (hN:N≤400000000000) (hme:U me) (hr:Right10 w.people=true) (hb7:Right07 w.box=true):Spec PP GG 138 [w.v,u32 me,m.v] (.tup [(ticketB w me m).1.v,i64 (ticketB w me m).2]) []:=by
 have hP:=rPerson_spec w hw (by omega) hr me hme
 have hO:=rOpen_spec w hw (by omega) hb7 (personW w me).key 3 m.box
 rw [← tG] at hO
 have hg:(tG w me m).1.ok:=openW_ok hw _ _ _
 have hPr:=rPair_spec w.people (by have:=hw.people;omega) hr (tG w me m).1.a me hg.2.2.1 hme
 have hFr:=rFresh_spec (personW w me).clock (tG w me m).1.t w.conf.window (personW_ok hw me).2.2.1 hg.2.2.2.2.2.1 hw.ok.1.1
 have hMy:=rMay08_spec (personW w me).used w.conf.used (tG w me m).1.k (by have:=personW_used hw me;omega)
 have hRm:=rRoom_spec w 1 1 hw.broom hw.nroom (by have:=hw.rows;omega) (by have:=hw.grams;omega)
 have hD:=rDraw_spec w hw (by omega)
 have hS:Spec PP GG 132 _ (.tup [(tS w (tG w me m).1).1.v,u32 (tS w (tG w me m).1).2.1,i64 (tS w (tG w me m).1).2.2]) []:=rSeal_spec (drawW w).1 (fit_draw hw (by omega)) (by omega) (tG w me m).1.k 4 ⟨(drawW w).2,0,0,0,0,0,0⟩
 have hU:(personW w me).runs.length≤N:=personW_runs hw me
 have hV:(personW w me).used.length≤N:=personW_used hw me
 have hW:Spec PP GG 72 [(tS w (tG w me m).1).1.v,Person.v ⟨(personW w me).name,(personW w me).key,(personW w me).clock,(personW w me).used++[(tG w me m).1.k],(personW w me).runs++[tkRun w (tG w me m).1],(personW w me).corrupt⟩] (withW (tS w (tG w me m).1).1 (tP w me (tG w me m).1)).v []:=rWith_spec (tS w (tG w me m).1).1 (tS_fit hw h5 hN hg) (by omega) (by rw [tS,people_seal];exact hr) (tP w me (tG w me m).1) (tP_ok hw hN me hg).1
 have hL:Spec PP GG 130 _ (tY w me (tG w me m).1).v []:=rLog_spec (withW (tS w (tG w me m).1).1 (tP w me (tG w me m).1)) (tW_fit hw h5 hN me hg) (by omega) (tEv w me (tG w me m).1)
 have hSn:Spec PP GG 131 _ (.tup [(tZ w me (tG w me m).1).v,_]) []:=rSend_spec (tY w me (tG w me m).1) (tY_fit hw h5 hN hme hg) (by omega) (tG w me m).1.a ⟨4,0,0,0,0,(tS w (tG w me m).1).2.1,0⟩ (boxMsg_ok (by decide) (tS_U hw hN _))
 have e1:(personW w me).used.map u32++[u32 (tG w me m).1.k]=((personW w me).used++[(tG w me m).1.k]).map u32:=by simp
 have e2:(personW w me).runs.map Run.v++[Run.v ⟨1,2,(tG w me m).1.a,(drawW w).2,0,0,(tG w me m).1.k,(tG w me m).1.t,2⟩]=((personW w me).runs++[tkRun w (tG w me m).1]).map Run.v:=by simp [tkRun]
 simp only [mv] at e2
 have ht := @toldT w (personW w me).key m.box
 rw [← tG] at ht
 clear hw hr hb7 hg
 cases c0:(tG w me m).2 with
 | false =>
   have e:ticketB w me m=(w,6):=by simp only [ticketB,c0,cond_false]
   rw [e]
   rw [c0] at hO
   refine Qs func138 ?_
   intro w0 M0
   simp only [f138,lf,z,seval]
   (refine CU hP (h:=?_);simp only [z,seval])
   (refine CU hO (h:=?_);simp only [z,seval])
   (refine Qf ?_;simp only [z,seval])
 | true =>
 rw [c0] at hO
 have ht:=ht c0
 cases c1:pairM w.people (tG w me m).1.a me with
 | false =>
   rw [c1] at hPr
   have e:ticketB w me m=(w,5):=by simp only [ticketB,c0,c1,cond_true,cond_false]
   rw [e]
   refine Qs func138 ?_
   intro w0 M0
   simp only [f138,lf,z,seval]
   (refine CU hP (h:=?_);simp only [z,seval])
   (refine CU hO (h:=?_);simp only [z,seval])
   (refine CU hPr (h:=?_);simp only [z,seval])
   (refine Qf ?_;simp only [z,seval])
 | true =>
 rw [c1] at hPr
 cases c2:freshM (personW w me).clock (tG w me m).1.t w.conf.window with
 | false =>
   rw [c2] at hFr
   have e:ticketB w me m=(w,7):=by simp only [ticketB,c0,c1,c2,cond_true,cond_false]
   rw [e]
   refine Qs func138 ?_
   intro w0 M0
   simp only [f138,lf,z,seval]
   (refine CU hP (h:=?_);simp only [z,seval])
   (refine CU hO (h:=?_);simp only [z,seval])
   (refine CU hPr (h:=?_);simp only [z,seval])
   (refine CU hFr (h:=?_);simp only [z,seval])
   (refine Qf ?_;simp only [z,seval])
 | true =>
 rw [c2] at hFr
 cases c3:(usedMay (personW w me).used w.conf.used (tG w me m).1.k==0) with
 | false =>
   have e:ticketB w me m=(w,usedMay (personW w me).used w.conf.used (tG w me m).1.k):=by simp only [ticketB,c0,c1,c2,c3,cond_true,cond_false]
   rw [e]
   refine Qs func138 ?_
   intro w0 M0
   simp only [f138,lf,z,seval]
   (refine CU hP (h:=?_);simp only [z,seval])
   (refine CU hO (h:=?_);simp only [z,seval])
   (refine CU hPr (h:=?_);simp only [z,seval])
   (refine CU hFr (h:=?_);simp only [z,seval])
   (refine CU hMy (h:=?_);simp only [z,seval])
   simp only [c3,z,seval]
   (refine Qf ?_;simp only [z,seval])
 | true =>
 cases c4:full w (personW w me) with
 | true =>
   have e:ticketB w me m=(w,10):=by simp only [ticketB,c0,c1,c2,c3,c4,cond_true,cond_false,Bool.not_true,Bool.false_and]
   rw [e]
   simp only [full] at c4
   refine Qs func138 ?_
   intro w0 M0
   simp only [f138,lf,z,seval]
   (refine CU hP (h:=?_);simp only [z,seval])
   (refine CU hO (h:=?_);simp only [z,seval])
   (refine CU hPr (h:=?_);simp only [z,seval])
   (refine CU hFr (h:=?_);simp only [z,seval])
   (refine CU hMy (h:=?_);simp only [z,seval])
   simp only [c3,c4,z,seval]
   (refine Qf ?_;simp only [z,seval])
 | false =>
 cases c5:roomW w 1 1 with
 | false =>
   rw [c5] at hRm
   have e:ticketB w me m=(w,10):=by simp only [ticketB,c0,c1,c2,c3,c4,c5,Bool.true_and,cond_true,cond_false,Bool.not_false]
   rw [e]
   simp only [full] at c4
   refine Qs func138 ?_
   intro w0 M0
   simp only [f138,lf,z,seval]
   (refine CU hP (h:=?_);simp only [z,seval])
   (refine CU hO (h:=?_);simp only [z,seval])
   (refine CU hPr (h:=?_);simp only [z,seval])
   (refine CU hFr (h:=?_);simp only [z,seval])
   (refine CU hMy (h:=?_);simp only [z,seval])
   simp only [c3,c4,z,seval]
   (refine CU hRm (h:=?_);simp only [z,seval])
   (refine Qf ?_;simp only [z,seval])
 | true =>
 rw [c5] at hRm
 have e0:ticketB w me m=(bif (tS w (tG w me m).1).2.2==0 then (tZ w me (tG w me m).1,0) else (w,(tS w (tG w me m).1).2.2)):=by simp only [ticketB,c0,c1,c2,c3,c4,c5,Bool.true_and,cond_true,Bool.not_false]
 rw [e0]
 clear e0
 simp only [full] at c4
 refine Qs func138 ?_
 intro w0 M0
 simp only [f138,lf,z,seval]
 (refine CU hP (h:=?_);simp only [z,seval])
 (refine CU hO (h:=?_);simp only [z,seval])
 (refine CU hPr (h:=?_);simp only [z,seval])
 (refine CU hFr (h:=?_);simp only [z,seval])
 (refine CU hMy (h:=?_);simp only [z,seval])
 simp only [c3,c4,z,seval]
 (refine CU hRm (h:=?_);simp only [z,seval])
 (refine CU hD (h:=?_);simp only [z,seval])
 (refine CU hS (h:=?_);simp only [z,seval])
 cases c6:((tS w (tG w me m).1).2.2==0) with
 | false =>
   simp only [c6,z,seval]
   (refine Qf ?_;simp only [z,seval])
 | true =>
 simp only [c6,z,seval]
 first
  | (refine OPC_ok ?_ ?_
     ·exact okMap _ (fun a=>rfl) (by omega)
     simp only [z,seval]
     refine OPC_ok ?_ ?_
     ·simp;omega
     simp only [e1,z,seval])
  | ((refine Qw 4 ?_;simp only [z,seval])
     refine DOC_ok ?_ ?_
     ·exact okMap _ (fun a=>rfl) (by omega)
     simp only [z,seval]
     refine DOC_ok ?_ ?_
     ·simp;omega
     simp only [z,seval]
     (refine ⟨by kernel_rfl,?_⟩)
     simp only [e1,z,seval])
 first
  | (refine OPC_ok ?_ ?_
     ·exact okMap _ (fun a=>rfl) (by omega)
     simp only [z,seval]
     refine OPC_ok ?_ ?_
     ·simp;omega
     simp only [e2,z,seval])
  | ((refine Qw 4 ?_;simp only [z,seval])
     refine DOC_ok ?_ ?_
     ·exact okMap _ (fun a=>rfl) (by omega)
     simp only [z,seval]
     refine DOC_ok ?_ ?_
     ·simp;omega
     simp only [z,seval]
     (refine ⟨by kernel_rfl,?_⟩)
     simp only [e2,z,seval])
 (refine CU hW (h:=?_);simp only [z,seval])
 (refine CU hL (h:=?_);simp only [z,seval])
 (refine CU hSn (h:=?_);simp only [z,seval])
 (refine Qf ?_;simp only [z,seval])
theorem rShare_spec (w:World) (m:Msg) {N:Nat} (hw:w.fit N) (h5:21≤N) (hN:N≤400000000000) (hm:m.ok) (hr:Right10 w.people=true) (hb7:Right07 w.box=true):Spec PP GG 136 [w.v,m.v] (.tup [(shareM w m).1.v,i64 (shareM w m).2]) []:=by
 have hP0:=rPerson_spec w hw (by omega) hr 0 (by decide)
 have hPa:=rPerson_spec w hw (by omega) hr m.a hm.2.2.1
 have hPb:=rPerson_spec w hw (by omega) hr m.b hm.2.2.2.1
 have hPr:=rPair_spec w.people (by have:=hw.people;omega) hr m.a m.b hm.2.2.1 hm.2.2.2.1
 have hU:(personW w 0).used.length≤N:=getP_used hw _
 have hMy:=rMay08_spec (personW w 0).used w.conf.used m.run (by omega)
 have hOa:=rOpen_spec w hw (by omega) hb7 (personW w m.a).key 6 m.box
 have hOb:=rOpen_spec w hw (by omega) hb7 (personW w m.b).key 7 m.more
 have hRm:=rRoom_spec w 2 1 hw.broom hw.nroom (by have:=hw.rows;omega) (by have:=hw.grams;omega)
 have hDr:=rDraw_spec w hw (by omega)
 have hS1:=rSeal_spec (drawW w).1 (fit_draw hw (by omega)) (by omega) (personW w m.b).key 8 ⟨(sB w m).1,0,0,0,(drawW w).2,0,0⟩
 have hS2:=rSeal_spec (s1 w m).1 (s1_fit hw h5 hN m) (by omega) (personW w m.a).key 9 ⟨(sA w m).1,0,0,0,(drawW w).2,0,0⟩
 have hW:=rWith_spec (s2 w m).1 (s2_fit hw h5 hN m) (by omega) (by rw [s2_people];exact hr) (sP w m) (sP_ok hw hN hm).1
 have hL:=rLog_spec (withW (s2 w m).1 (sP w m)) (sW_fit hw h5 hN hm) (by omega) (sEv w m)
 have hSn:=rSend_spec (sY w m) (sY_fit hw h5 hN hm) (by omega) m.b ⟨8,m.run,0,0,0,(s2 w m).2.1,(s1 w m).2.1⟩ (sM_ok hw h5 hN hm)
 rw [← s1] at hS1
 rw [← s2] at hS2
 rw [← sY] at hL
 rw [← sZ] at hSn
 have dA:(sA w m).1=(openW w (personW w m.a).key 6 m.box).1.n:=rfl
 have dB:(sB w m).1=(openW w (personW w m.b).key 7 m.more).1.n:=rfl
 have dA2:(sA w m).2=((openW w (personW w m.a).key 6 m.box).2 && ((openW w (personW w m.a).key 6 m.box).1.m==m.run && ((openW w (personW w m.a).key 6 m.box).1.a==m.a && (openW w (personW w m.a).key 6 m.box).1.b==m.b))):=rfl
 have dB2:(sB w m).2=((openW w (personW w m.b).key 7 m.more).2 && ((openW w (personW w m.b).key 7 m.more).1.m==m.run && ((openW w (personW w m.b).key 7 m.more).1.a==m.a && (openW w (personW w m.b).key 7 m.more).1.b==m.b))):=rfl
 rw [dB] at hS1
 rw [dA] at hS2
 have hW2:Spec PP GG 72 [(s2 w m).1.v,Person.v ⟨(personW w 0).name,(personW w 0).key,(personW w 0).clock,(personW w 0).used++[m.run],(personW w 0).runs,(personW w 0).corrupt⟩] (withW (s2 w m).1 (sP w m)).v []:=hW
 have e:(personW w 0).used.map u32++[u32 m.run]=((personW w 0).used++[m.run]).map u32:=by simp
 generalize hA:openW w (personW w m.a).key 6 m.box=A at *
 generalize hB:openW w (personW w m.b).key 7 m.more=B at *
 obtain ⟨⟨an,am,aa,ab',ak,at',ah⟩,aok⟩:=A
 obtain ⟨⟨bn,bm,ba,bb,bk,bt,bh⟩,bok⟩:=B
 simp only at dA dB dA2 dB2 hS1 hS2 hOa hOb
 clear hw hr hb7 hm
 cases c1:pairM w.people m.a m.b with
 | false =>
   rw [c1] at hPr
   have e:shareM w m=(w,5):=by simp only [shareM,c1,cond_false]
   rw [e]
   refine Qs func136 ?_
   intro w0 M0
   simp only [f136,lf,z,seval]
   (refine CU hPr (h:=?_);simp only [z,seval])
   (refine Qf ?_;simp only [z,seval])
 | true =>
 rw [c1] at hPr
 cases c2:(sA w m).2 with
 | false =>
   have e:shareM w m=(w,6):=by simp only [shareM,c1,c2,Bool.false_and,cond_true,cond_false]
   rw [e]
   rw [c2] at dA2
   refine Qs func136 ?_
   intro w0 M0
   simp only [f136,lf,z,seval]
   (refine CU hPr (h:=?_);simp only [z,seval])
   (refine CU hPa (h:=?_);simp only [z,seval])
   (refine CU hPb (h:=?_);simp only [z,seval])
   (refine CU hP0 (h:=?_);simp only [z,seval])
   (refine CU hOa (h:=?_);simp only [z,seval])
   cases aok<;>cases x1:(am==m.run)<;>cases x2:(aa==m.a)<;>cases x3:(ab'==m.b)
   all_goals first
    | (exfalso;simp [x1,x2,x3] at dA2;done)
    | (simp only [x1,x2,x3,z,seval];(refine Qf ?_;simp only [z,seval]);done)
 | true =>
 rw [c2] at dA2
 have dA3:=dA2.symm
 simp only [Bool.and_eq_true] at dA3
 obtain ⟨a1,a2,a3,a4⟩:=dA3
 subst a1
 cases c3:(sB w m).2 with
 | false =>
   have e:shareM w m=(w,6):=by simp only [shareM,c1,c2,c3,Bool.true_and,cond_true,cond_false]
   rw [e]
   rw [c3] at dB2
   refine Qs func136 ?_
   intro w0 M0
   simp only [f136,lf,z,seval]
   (refine CU hPr (h:=?_);simp only [z,seval])
   (refine CU hPa (h:=?_);simp only [z,seval])
   (refine CU hPb (h:=?_);simp only [z,seval])
   (refine CU hP0 (h:=?_);simp only [z,seval])
   (refine CU hOa (h:=?_);simp only [z,seval])
   simp only [a2,a3,a4,z,seval]
   (refine CU hOb (h:=?_);simp only [z,seval])
   cases bok<;>cases x1:(bm==m.run)<;>cases x2:(ba==m.a)<;>cases x3:(bb==m.b)
   all_goals first
    | (exfalso;simp [x1,x2,x3] at dB2;done)
    | (simp only [x1,x2,x3,z,seval];(refine Qf ?_;simp only [z,seval]);done)
 | true =>
 rw [c3] at dB2
 have dB3:=dB2.symm
 simp only [Bool.and_eq_true] at dB3
 obtain ⟨b1,b2,b3,b4⟩:=dB3
 subst b1
 cases c4:(usedMay (personW w 0).used w.conf.used m.run==0) with
 | false =>
   have e:shareM w m=(w,usedMay (personW w 0).used w.conf.used m.run):=by simp only [shareM,c1,c2,c3,c4,Bool.true_and,cond_true,cond_false]
   rw [e]
   refine Qs func136 ?_
   intro w0 M0
   simp only [f136,lf,z,seval]
   (refine CU hPr (h:=?_);simp only [z,seval])
   (refine CU hPa (h:=?_);simp only [z,seval])
   (refine CU hPb (h:=?_);simp only [z,seval])
   (refine CU hP0 (h:=?_);simp only [z,seval])
   (refine CU hOa (h:=?_);simp only [z,seval])
   simp only [a2,a3,a4,z,seval]
   (refine CU hOb (h:=?_);simp only [z,seval])
   simp only [b2,b3,b4,z,seval]
   (refine CU hMy (h:=?_);simp only [z,seval])
   simp only [c4,z,seval]
   (refine Qf ?_;simp only [z,seval])
 | true =>
 have e0:shareM w m=(bif roomW w 2 1 then
  (bif (s1 w m).2.2==0 then (bif (s2 w m).2.2==0 then (bif (sZ w m).2==0 then ((sZ w m).1,0) else (w,(sZ w m).2)) else (w,(s2 w m).2.2)) else (w,(s1 w m).2.2)) else (w,10)):=by simp only [shareM,c1,c2,c3,c4,Bool.true_and,cond_true]
 rw [e0]
 clear e0
 refine Qs func136 ?_
 intro w0 M0
 simp only [f136,lf,z,seval]
 (refine CU hPr (h:=?_);simp only [z,seval])
 (refine CU hPa (h:=?_);simp only [z,seval])
 (refine CU hPb (h:=?_);simp only [z,seval])
 (refine CU hP0 (h:=?_);simp only [z,seval])
 (refine CU hOa (h:=?_);simp only [z,seval])
 simp only [a2,a3,a4,z,seval]
 (refine CU hOb (h:=?_);simp only [z,seval])
 simp only [b2,b3,b4,z,seval]
 (refine CU hMy (h:=?_);simp only [z,seval])
 simp only [c4,z,seval]
 (refine CU hRm (h:=?_);simp only [z,seval])
 cases c5:roomW w 2 1 with
 | false =>
   simp only [c5,z,seval]
   (refine Qf ?_;simp only [z,seval])
 | true =>
 simp only [c5,z,seval]
 (refine CU hDr (h:=?_);simp only [z,seval])
 (refine CU hS1 (h:=?_);simp only [z,seval])
 cases c6:((s1 w m).2.2==0) with
 | false =>
   simp only [c6,z,seval]
   (refine Qf ?_;simp only [z,seval])
 | true =>
 simp only [c6,z,seval]
 (refine CU hS2 (h:=?_);simp only [z,seval])
 cases c7:((s2 w m).2.2==0) with
 | false =>
   simp only [c7,z,seval]
   (refine Qf ?_;simp only [z,seval])
 | true =>
 simp only [c7,z,seval]
 (refine Qw 4 ?_;simp only [z,seval])
 refine DOC_ok ?_ ?_
 ·exact okMap _ (fun a=>rfl) (by omega)
 simp only [z,seval]
 refine DOC_ok ?_ ?_
 ·simp;omega
 simp only [z,seval]
 (refine ⟨by kernel_rfl,?_⟩)
 simp only [e,z,seval]
 (refine RUNs_freeze 9 1 ?_ (by rfl) ?_ ?_;rotate_left 1;(simp only [z,seval];exact rfl);simp only [z,seval])
 (refine Qw 0 ?_;simp only [z,seval])
 (refine DU hW2 (h:=?_);simp only [z,seval])
 (refine DU hL (h:=?_);simp only [z,seval])
 (refine ⟨by kernel_rfl,?_⟩)
 (refine CU hSn (h:=?_);simp only [z,seval])
 cases c8:((sZ w m).2==0) with
 | false =>
   simp only [c8,z,seval]
   (refine Qf ?_;simp only [z,seval])
 | true =>
   simp only [c8,z,seval]
   (refine Qf ?_;simp only [z,seval])
end Ch
