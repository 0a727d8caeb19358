import Derived.Test.YtaebkmmjjabnaaaGreatDoorW23
import Derived.Test.YtaebkmmjjabnaaaGreatDoorW24
set_option maxRecDepth 100000
set_option maxHeartbeats 4000000
set_option linter.unusedSimpArgs false
set_option linter.unusedVariables false
namespace Ch
open Go Go.Ab Go.Proofs.Tryz
theorem nEvent_spec (kind:Int) (p:Person) (r:Run) (n:Int):Spec PP GG 185 [i64 kind,p.v,r.v,u32 n] (Event.v ⟨kind,1,1,p.name,r.peer,r.k,r.t,0,n,p.clock⟩) []:=by
 refine Qs func185 ?_
 intro w0 M0
 simp only [f185,lf,z,seval]
 (refine Qf ?_;simp only [z,seval])
theorem nChanged_spec (w:World) (p:Person) (i:Nat) (r:Run) {N:Nat} (hw:w.fit N) (hN:N≤500000000000) (hp:U p.name) (hi:i < p.runs.length) (hl:p.runs.length≤1000000000000) (hr:May09 r=true):Spec PP GG 280 [w.v,p.v,i64 i,r.v] (withW w (setRun p i r)).v []:=by
 have hS:=pSetR_spec p.runs i r hi hr (by omega)
 have hwt:=with_spec w hw (by omega) (setRun p i r) hp
 simp only [setRun] at hwt
 clear hw
 refine Qs func280 ?_
 intro w0 M0
 simp only [f280,lf,z,seval]
 (refine CU hS (h:=?_);simp only [z,seval])
 (refine CU hwt (h:=?_);simp only [z,seval])
 (refine Qf ?_;simp only [z,seval])
 simp only [setRun]
theorem StartN_spec (w:World) (a b:Int) {N:Nat} (hw:w.fit N) (h5:21≤N) (hN:N≤400000000000) (ha:U a) (hb:U b) (hr:Right10 w.people=true) (hb7:Right07 w.box=true):Spec PP GG 117 [w.v,u32 a,u32 b] (.tup [(startN w a b).1.v,i64 (startN w a b).2]) []:=by
 have hPr:=pPair_spec w.people a b ha hb (by have:=hw.people;omega)
 have hD:=draw_spec w hw (by omega)
 have hPa:=person_spec w hw (by omega) a ha
 have hU:(personW w a).runs.length≤N:=personW_runs hw a
 have hAd:=pAdd_spec (personW w a).runs w.conf.runs (aRun w b) (by omega)
 have hW:Spec PP GG 180 [(drawW w).1.v,Person.v ⟨(personW w a).name,(personW w a).key,(personW w a).clock,(personW w a).used,(personW w a).runs++[aRun w b],(personW w a).corrupt⟩] (withW (drawW w).1 (aP w a b)).v []:=with_spec (drawW w).1 (fit_draw hw (by omega)) (by omega) (aP w a b) (aP_ok hw hN hb).1
 have hL:Spec PP GG 184 _ (aY w a b).v []:=log_spec (withW (drawW w).1 (aP w a b)) (aW_fit hw hN hb) (by omega) (aEv w a b)
 have hSn:=send_spec (aY w a b) (aY_fit hw hN ha hb) (by omega) 0 (aMsg w a b) (aMsg_ok hw ha hb)
 have hE:=nEvent_spec 1 ⟨(personW w a).name,(personW w a).key,(personW w a).clock,(personW w a).used,(personW w a).runs++[aRun w b],(personW w a).corrupt⟩ (aRun w b) (drawW w).2
 have hnm:=fun h=>name_of hr ha h
 have hze := @aZ_err w a b hb7
 clear hw hr hb7
 cases c1:pairM w.people a b with
 | false =>
   rw [c1] at hPr
   have e:startN w a b=(w,5):=by simp only [startN,c1,cond_false]
   rw [e]
   refine Qs func117 ?_
   intro w0 M0
   simp only [f117,lf,z,seval]
   (refine CU hPr (h:=?_);simp only [z,seval])
   (refine Qf ?_;simp only [z,seval])
 | true =>
 rw [c1] at hPr
 have hin:=hnm (pair_in c1).2.2.2.1
 rw [hin] at hW hE
 cases c2:full w (personW w a) with
 | true =>
   have e:startN w a b=(w,10):=by simp only [startN,c1,c2,cond_true,cond_false,Bool.not_true,Bool.false_and]
   rw [e]
   have hadd:runsAdd (personW w a).runs w.conf.runs (aRun w b)=((personW w a).runs,10):=by
    rw [full] at c2
    rw [runsAdd,c2];rfl
   rw [hadd] at hAd
   refine Qs func117 ?_
   intro w0 M0
   simp only [f117,lf,z,seval]
   (refine CU hPr (h:=?_);simp only [z,seval])
   (refine CU hD (h:=?_);simp only [z,seval])
   (refine CU hPa (h:=?_);simp only [z,seval])
   (refine CU hAd (h:=?_);simp only [z,seval])
   (refine Qf ?_;simp only [z,seval])
 | false =>
 have hadd:runsAdd (personW w a).runs w.conf.runs (aRun w b)=((personW w a).runs++[aRun w b],0):=by
  rw [full] at c2
  rw [runsAdd,c2];rfl
 rw [hadd] at hAd
 cases c3:roomW w 0 1 with
 | false =>
   rw [hze c3] at hSn
   have e:startN w a b=(w,10):=by simp only [startN,c1,c2,c3,cond_true,cond_false,Bool.not_false,Bool.true_and]
   rw [e]
   refine Qs func117 ?_
   intro w0 M0
   simp only [f117,lf,z,seval]
   (refine CU hPr (h:=?_);simp only [z,seval])
   (refine CU hD (h:=?_);simp only [z,seval])
   (refine CU hPa (h:=?_);simp only [z,seval])
   simp only [hin,z,seval]
   (refine CU hAd (h:=?_);simp only [z,seval])
   (refine Qw 1 ?_;simp only [z,seval])
   (refine DU hW (h:=?_);simp only [z,seval])
   (refine DU hE (h:=?_);simp only [z,seval])
   (refine DU hL (h:=?_);simp only [z,seval])
   (refine ⟨by kernel_rfl,?_⟩)
   (refine CU hSn (h:=?_);simp only [z,seval])
   (refine Qf ?_;simp only [z,seval])
 | true =>
   rw [← aZ,aZ_ok c3] at hSn
   have e:startN w a b=(aZ w a b,0):=by simp only [startN,c1,c2,c3,cond_true,Bool.not_false,Bool.true_and]
   rw [e]
   refine Qs func117 ?_
   intro w0 M0
   simp only [f117,lf,z,seval]
   (refine CU hPr (h:=?_);simp only [z,seval])
   (refine CU hD (h:=?_);simp only [z,seval])
   (refine CU hPa (h:=?_);simp only [z,seval])
   simp only [hin,z,seval]
   (refine CU hAd (h:=?_);simp only [z,seval])
   (refine Qw 1 ?_;simp only [z,seval])
   (refine DU hW (h:=?_);simp only [z,seval])
   (refine DU hE (h:=?_);simp only [z,seval])
   (refine DU hL (h:=?_);simp only [z,seval])
   (refine ⟨by kernel_rfl,?_⟩)
   (refine CU hSn (h:=?_);simp only [z,seval])
   (refine Qf ?_;simp only [z,seval])
theorem GrantN_spec (w:World) (me:Int) (m:Msg) {N:Nat} (hw:w.fit N) (h5:21≤N) (hN:N≤400000000000) (hme:U me) (hr:Right10 w.people=true) (hb7:Right07 w.box=true):Spec PP GG 251 [w.v,u32 me,m.v] (.tup [(grantN w me m).1.v,i64 (grantN w me m).2]) []:=by
 have hP:=person_spec w hw (by omega) me hme
 have hU:(personW w me).runs.length≤N:=personW_runs hw me
 have hO:=open_spec w hw (by omega) (personW w me).key 2 m.box
 rw [← aG] at hO
 have hg:(aG w me m).1.ok:=openW_ok hw _ _ _
 have hFr:=fresh_spec (personW w me).clock (aG w me m).1.t w.conf.window (personW_ok hw me).2.2.1 hg.2.2.2.2.2.1 hw.ok.1.1
 have hNx:=fun f=>pNext_spec (personW w me).runs f 1 1 1 (by omega)
 have hnm:=fun h=>name_of hr hme h
 have hS:=fun i hi hm9=>nChanged_spec w (personW w me) i (tookR (runAt (personW w me).runs i) (aG w me m).1) hw (by omega) (personW_ok hw me).1 hi (by omega) hm9
 have hL:∀ i,Spec PP GG 184 _ (aT w me (aG w me m).1 i).v []:=fun i=>log_spec (withW w (setRun (personW w me) i (tookR (runAt (personW w me).runs i) (aG w me m).1))) (set_fit hw me i (tookR_ok (runAt_ok hw me i) hg)) (by omega) ⟨3,1,1,me,(runAt (personW w me).runs i).peer,(aG w me m).1.k,(aG w me m).1.t,0,(runAt (personW w me).runs i).mine,(personW w me).clock⟩
 have hE:=fun i=>nEvent_spec 3 (personW w me) (tookR (runAt (personW w me).runs i) (aG w me m).1) (runAt (personW w me).runs i).mine
 have hSn:=fun i=>send_spec (aT w me (aG w me m).1 i) (aT_fit hw hN hme hg i) (by omega) (runAt (personW w me).runs i).peer ⟨3,0,0,0,0,(aG w me m).1.h,0⟩ (boxMsg_ok (by decide) hg.2.2.2.2.2.2)
 have hzo:=fun i to h => @aX_ok w me (aG w me m).1 i to h
 have hze:=fun i to h => @aX_err w me (aG w me m).1 i to hb7 h
 have hfa := @first_at (personW w me).runs (aQ (aG w me m).1)
 have hfn := @first_none (personW w me).runs (aQ (aG w me m).1)
 have hsh:grantN w me m=bif (aG w me m).2 then (match (personW w me).runs.findIdx? (aQ (aG w me m).1) with
  | none=>(w,(9:Int))
  | some i=>bif freshM (personW w me).clock (aG w me m).1.t w.conf.window then (bif roomW w 0 1 then (aX w me (aG w me m).1 i,(0:Int)) else (w,(10:Int))) else (w,(7:Int))) else (w,(6:Int)):=rfl
 clear hw hr hb7 hg
 generalize hq:aG w me m=q at *
 generalize hp:personW w me=p at *
 cases d1:q.2 with
 | false =>
   rw [d1] at hO hsh
   refine Qs func251 ?_
   intro w0 M0
   simp only [f251,lf,z,seval]
   (refine CU hP (h:=?_);simp only [z,seval])
   (refine CU hO (h:=?_);simp only [z,seval])
   (refine Qf ?_;simp only [z,seval])
   simp only [hsh,cond_false,z,seval]
 | true =>
 rw [d1] at hO hsh
 simp only [cond_true] at hsh
 have haq:∀ r,isRun 1 1 1 r=false→aQ q.1 r=false:=fun r h=>by rw [aQ,h];rfl
 have hrun:∀ i,i < p.runs.length→isRun 1 1 1 (runAt p.runs i)=true→May09 (tookR (runAt p.runs i) q.1)=true:=fun i _ h=>by
  simp only [isRun,Bool.and_eq_true,beq_iff_eq] at h
  rw [tookR,h.1,h.2.1];rfl
 refine Qs func251 ?_
 intro w0 M0
 simp only [f251,lf,z,seval]
 (refine CU hP (h:=?_);simp only [z,seval])
 (refine CU hO (h:=?_);simp only [z,seval])
 (refine qc func279 ?_;simp only [f279,lf,z,seval])
 (refine RUNs_rangeFunc f301 func301 rfl (by kernel_rfl) rfl rfl ?_;intro D l;simp only [f301,lf,z,seval])
 refine RUNs_rangeS (p.runs.length + 1) (fun j (f:Nat)=>j≤f∧f≤p.runs.length ∧ ∀ i,i < f→aQ q.1 (runAt p.runs i)=false) (fun _ f=>[(4,i64 f)]) (fun _ _=>[]) 0 ?_ (by simp only [z,seval];exact wk) rfl ?_
 ·exact ⟨Nat.le_refl _,Nat.zero_le _,fun i hi=>absurd hi (Nat.not_lt_zero _)⟩
 rintro ⟨j,f,hj,h1,h2,h3⟩
 have hN:=hNx f
 simp only [z,seval]
 cases c:nextR p.runs f (isRun 1 1 1) with
 | none =>
   rw [c] at hN
   have e:p.runs.findIdx? (aQ q.1)=none:=hfn (fun i hi=>by
    rcases Nat.lt_or_ge i f with h|h
    ·exact h3 i h
    ·exact haq _ (nextR_none c i h hi))
   rw [e] at hsh
   simp only [Option.isSome_none,Option.getD_none] at hN
   (refine CU hN (h:=?_);simp only [z,seval])
   (refine RUNs_erf 9 rfl (by simp) ?_;simp only [z,seval])
   (refine RUNs_mk 8 rfl ?_;simp only [z,seval])
   (refine Qf ?_;simp only [z,seval])
   simp only [hsh,z,seval]
 | some i =>
   rw [c] at hN
   obtain ⟨n1,n2,n3,n4⟩:=nextR_some c
   have h4:∀ k,k < i→aQ q.1 (runAt p.runs k)=false:=fun k hk=>by
    rcases Nat.lt_or_ge k f with h|h
    ·exact h3 k h
    ·exact haq _ (n4 k h hk)
   have hg:=runAt_get n1
   simp only [Option.isSome_some,Option.getD_some] at hN
   (refine CU hN (h:=?_);simp only [z,seval])
   (refine CALLS_yield 9 rfl rfl ?_;simp only [z,seval];refine RUNs_beg 9 rfl ?_;simp only [z,seval])
   simp only [getMap Run.v p.runs n1,z,seval]
   have hlt:j < p.runs.length + 1:=by omega
   cases d:aQ q.1 p.runs[i] with
   | true =>
     have e:=hfa n1 (by rw [hg];exact d) h4
     rw [e] at hsh
     simp only [hg] at hsh
     have hS:=hS i n1 (hrun i n1 n3)
     have hL:=hL i
     have hE:=hE i
     have hSn:=hSn i
     have hzo:=hzo i p.runs[i].peer
     have hze:=hze i p.runs[i].peer
     simp only [aQ,Bool.and_eq_true] at d
     simp only [d.2.1,d.2.2,z,seval]
     (first|refine RUNs_rnd 9 rfl ?_|refine RUNs_rndj 9 rfl ?_;simp only [z,seval])
     (refine RUNs_erf 9 rfl (by simp) ?_;simp only [z,seval])
     have n0:decide ((i:Int) < 0)=false:=decide_eq_false (by omega)
     simp only [n0,z,seval]
     (refine CU hFr (h:=?_);simp only [z,seval])
     cases d2:freshM p.clock q.1.t w.conf.window with
     | false =>
       rw [d2] at hsh
       simp only [d2,z,seval]
       (refine RUNs_mk 8 rfl ?_;simp only [z,seval])
       (refine Qf ?_;simp only [z,seval])
       simp only [hsh,cond_false,z,seval]
     | true =>
     rw [d2] at hsh
     have hnm:=hnm (has_runs (w:=w) (me:=me) (i:=i) (by rw [hp];exact n1))
     simp only [hg,tookR] at hS hE
     simp only [hnm] at hS hE
     simp only [hg] at hSn hzo hze hL
     simp only [d2,getMap Run.v p.runs n1,z,seval]
     (refine Qw 0 ?_;simp only [z,seval])
     (refine ⟨by kernel_rfl,?_⟩)
     (refine Qw 1 ?_;simp only [z,seval])
     (refine DU hS (h:=?_);simp only [z,seval])
     (refine DU hE (h:=?_);simp only [z,seval])
     (refine DU hL (h:=?_);simp only [z,seval])
     (refine ⟨by kernel_rfl,?_⟩)
     cases d3:roomW w 0 1 with
     | false =>
       rw [d3] at hsh
       rw [hze d3] at hSn
       (refine CU hSn (h:=?_);simp only [z,seval])
       (refine RUNs_mk 8 rfl ?_;simp only [z,seval])
       (refine Qf ?_;simp only [z,seval])
       simp only [hsh,cond_true,cond_false,z,seval]
     | true =>
       rw [d3] at hsh
       rw [hzo d3] at hSn
       (refine CU hSn (h:=?_);simp only [z,seval])
       (refine RUNs_mk 8 rfl ?_;simp only [z,seval])
       (refine Qf ?_;simp only [z,seval])
       simp only [hsh,cond_true,aX,hg,hp,z,seval]
   | false =>
     have hs:∀ k,k < i + 1→aQ q.1 (runAt p.runs k)=false:=fun k hk=>by
      rcases Nat.lt_or_ge k i with h|h
      ·exact h4 k h
      ·obtain rfl:k=i:=by omega
       rw [hg];exact d
     rw [hg] at n3
     simp only [aQ,n3,Bool.true_and] at d
     cases d1:(p.runs[i].mine==q.1.n) with
     | false =>
       simp only [d1,z,seval]
       (first|refine RUNs_rnd 9 rfl ?_|refine RUNs_rndj 9 rfl ?_;simp only [z,seval])
       simp only [w64s (i:=i) (by omega),z,seval]
       (refine NX (i + 1) ?_ (by rfl) hlt ?_;simp only [z,seval];exact wk)
       exact ⟨by show j + 1≤i + 1;omega,n1,hs⟩
     | true =>
       rw [d1,Bool.true_and] at d
       simp only [d1,d,z,seval]
       (first|refine RUNs_rnd 9 rfl ?_|refine RUNs_rndj 9 rfl ?_;simp only [z,seval])
       simp only [w64s (i:=i) (by omega),z,seval]
       (refine NX (i + 1) ?_ (by rfl) hlt ?_;simp only [z,seval];exact wk)
       exact ⟨by show j + 1≤i + 1;omega,n1,hs⟩
def commitM (w:World) (me n:Int) (i:Nat):World×Int:=bif roomW w 1 1 then (bif (eS w me n i).2.2==0 then (eX w me n i,0) else (w,(eS w me n i).2.2)) else (w,10)
theorem nCommit_spec (w:World) (me n:Int) (i:Nat) {N:Nat} (hw:w.fit N) (h5:21≤N) (hN:N≤400000000000) (hme:U me) (hn:U n) (hr:Right10 w.people=true) (hi:i < (personW w me).runs.length) (h:isRun 1 1 2 (runAt (personW w me).runs i)=true):Spec PP GG 284 [w.v,(personW w me).v,i64 i,u32 n] (.tup [(commitM w me n i).1.v,i64 (commitM w me n i).2]) []:=by
 have hU:(personW w me).runs.length≤N:=personW_runs hw me
 have hRm:=room_spec' w hw (by omega) 1 1
 have hm9:May09 (backR (runAt (personW w me).runs i) n)=true:=by
  simp only [isRun,Bool.and_eq_true,beq_iff_eq] at h
  rw [backR,h.1,h.2.1];rfl
 have hSe:Spec PP GG 187 [w.v,u32 (runAt (personW w me).runs i).k,u32 5,Part.v ⟨n,0,0,0,0,0,0⟩] (.tup [(eS w me n i).1.v,u32 (eS w me n i).2.1,i64 (eS w me n i).2.2]) []:=seal_spec w hw (by omega) (runAt (personW w me).runs i).k 5 ⟨n,0,0,0,0,0,0⟩
 have hS:=nChanged_spec (eS w me n i).1 (personW w me) i (backR (runAt (personW w me).runs i) n) (eS_fit hw h5 hN hn i) (by omega) (personW_ok hw me).1 hi (by omega) hm9
 have hL:Spec PP GG 184 _ (eT w me n i).v []:=log_spec _ (eW_fit (me:=me) hw h5 hN hn i) (by omega) ⟨4,1,1,me,(runAt (personW w me).runs i).peer,(runAt (personW w me).runs i).k,(runAt (personW w me).runs i).t,0,n,(personW w me).clock⟩
 have hE:=nEvent_spec 4 (personW w me) (backR (runAt (personW w me).runs i) n) n
 have hSn:=send_spec (eT w me n i) (eT_fit hw h5 hN hme hn i) (by omega) (runAt (personW w me).runs i).peer ⟨5,0,0,0,0,(eS w me n i).2.1,0⟩ (boxMsg_ok (by decide) (eS_U hw me _ i))
 have hz:=fun h => @eX_ok w me n i (runAt (personW w me).runs i).peer h
 have hnm:=name_of hr hme (has_runs hi)
 have hsh:commitM w me n i=bif roomW w 1 1 then (bif (eS w me n i).2.2==0 then ((sendW (eT w me n i) (runAt (personW w me).runs i).peer ⟨5,0,0,0,0,(eS w me n i).2.1,0⟩).1,(0:Int)) else (w,(eS w me n i).2.2)) else (w,(10:Int)):=rfl
 have hg:=runAt_get hi
 simp only [hg,backR] at hSe hS hL hE hSn hz hsh
 simp only [hnm] at hE
 clear hw hr h hm9 hg hnm
 generalize personW w me=p at *
 cases c1:roomW w 1 1 with
 | false =>
   rw [c1] at hRm hsh
   refine Qs func284 ?_
   intro w0 M0
   simp only [f284,lf,z,seval]
   (refine CU hRm (h:=?_);simp only [z,seval])
   (refine Qf ?_;simp only [z,seval])
   simp only [hsh,cond_false,z,seval]
 | true =>
 rw [c1] at hRm hsh
 rw [hz c1] at hSn
 refine Qs func284 ?_
 intro w0 M0
 simp only [f284,lf,z,seval]
 (refine CU hRm (h:=?_);simp only [z,seval])
 simp only [getMap Run.v p.runs hi,z,seval]
 (refine CU hSe (h:=?_);simp only [z,seval])
 cases c2:((eS w me n i).2.2==0) with
 | false =>
   rw [c2] at hsh
   simp only [c2,z,seval]
   (refine Qf ?_;simp only [z,seval])
   simp only [hsh,cond_true,cond_false,z,seval]
 | true =>
   rw [c2] at hsh
   simp only [c2,z,seval]
   (refine Qw 0 ?_;simp only [z,seval])
   (refine DU hS (h:=?_);simp only [z,seval])
   (refine DU hE (h:=?_);simp only [z,seval])
   (refine DU hL (h:=?_);simp only [z,seval])
   (refine ⟨by kernel_rfl,?_⟩)
   (refine CU hSn (h:=?_);simp only [z,seval])
   (refine Qf ?_;simp only [z,seval])
   simp only [hsh,cond_true,z,seval]
theorem EchoN_spec (w:World) (me:Int) (m:Msg) {N:Nat} (hw:w.fit N) (h5:21≤N) (hN:N≤400000000000) (hme:U me) (hr:Right10 w.people=true):Spec PP GG 253 [w.v,u32 me,m.v] (.tup [(echoN w me m).1.v,i64 (echoN w me m).2]) []:=by
 have hP:=person_spec w hw (by omega) me hme
 have hU:(personW w me).runs.length≤N:=personW_runs hw me
 have hO:=fun k=>open_spec w hw (by omega) k 4 m.box
 have hFr:∀ i,(hi:i < (personW w me).runs.length)→_:=fun i hi=>fresh_spec (personW w me).clock (personW w me).runs[i].t w.conf.window (personW_ok hw me).2.2.1 (by have:=(runAt_ok hw me i).2.2.2.2.2.2.2.1;rw [runAt_get hi] at this;exact this) hw.ok.1.1
 have hNx:=fun f=>pNext_spec (personW w me).runs f 1 1 2 (by omega)
 have hC:=fun i hi h=>nCommit_spec w me (eN w me m i) i hw h5 hN hme (openW_ok hw _ _ _).1 hr hi h
 have hfa := @first_at (personW w me).runs (eQ w m)
 have hfn := @first_none (personW w me).runs (eQ w m)
 have hen:∀ i,(hi:i < (personW w me).runs.length)→eN w me m i=(openW w (personW w me).runs[i].k 4 m.box).1.n:=fun i hi=>by rw [eN,runAt_get hi]
 have hsh:echoN w me m=match (personW w me).runs.findIdx? (eQ w m) with
  | none=>(w,(6:Int))
  | some i=>bif freshM (personW w me).clock (runAt (personW w me).runs i).t w.conf.window then commitM w me (eN w me m i) i else (w,(7:Int)):=rfl
 have heq:∀ r,isRun 1 1 2 r=false→eQ w m r=false:=fun r h=>by rw [eQ,h];rfl
 clear hw hr
 generalize personW w me=p at *
 refine Qs func253 ?_
 intro w0 M0
 simp only [f253,lf,z,seval]
 (refine CU hP (h:=?_);simp only [z,seval])
 (refine qc func279 ?_;simp only [f279,lf,z,seval])
 (refine RUNs_rangeFunc f301 func301 rfl (by kernel_rfl) rfl rfl ?_;intro D l;simp only [f301,lf,z,seval])
 refine RUNs_rangeS (p.runs.length + 1) (fun j (f:Nat)=>j≤f∧f≤p.runs.length ∧ ∀ i,i < f→eQ w m (runAt p.runs i)=false) (fun _ f=>[(4,i64 f)]) (fun _ _=>[]) 0 ?_ (by simp only [z,seval];exact wk) rfl ?_
 ·exact ⟨Nat.le_refl _,Nat.zero_le _,fun i hi=>absurd hi (Nat.not_lt_zero _)⟩
 rintro ⟨j,f,hj,h1,h2,h3⟩
 have hN:=hNx f
 simp only [z,seval]
 cases c:nextR p.runs f (isRun 1 1 2) with
 | none =>
   rw [c] at hN
   have e:p.runs.findIdx? (eQ w m)=none:=hfn (fun i hi=>by
    rcases Nat.lt_or_ge i f with h|h
    ·exact h3 i h
    ·exact heq _ (nextR_none c i h hi))
   rw [e] at hsh
   simp only [Option.isSome_none,Option.getD_none] at hN
   (refine CU hN (h:=?_);simp only [z,seval])
   (refine RUNs_erf 8 rfl (by simp) ?_;simp only [z,seval])
   (refine RUNs_mk 7 rfl ?_;simp only [z,seval])
   (refine Qf ?_;simp only [z,seval])
   simp only [hsh,z,seval]
 | some i =>
   rw [c] at hN
   obtain ⟨n1,n2,n3,n4⟩:=nextR_some c
   have h4:∀ k,k < i→eQ w m (runAt p.runs k)=false:=fun k hk=>by
    rcases Nat.lt_or_ge k f with h|h
    ·exact h3 k h
    ·exact heq _ (n4 k h hk)
   have hg:=runAt_get n1
   have hO:=hO p.runs[i].k
   have hFr:=hFr i n1
   simp only [Option.isSome_some,Option.getD_some] at hN
   (refine CU hN (h:=?_);simp only [z,seval])
   (refine CALLS_yield 8 rfl rfl ?_;simp only [z,seval];refine RUNs_beg 8 rfl ?_;simp only [z,seval])
   simp only [getMap Run.v p.runs n1,z,seval]
   have hlt:j < p.runs.length + 1:=by omega
   (refine CU hO (h:=?_);simp only [z,seval])
   cases d:(openW w p.runs[i].k 4 m.box).2 with
   | true =>
     have e:=hfa n1 (by rw [eQ,n3,hg,d];rfl) h4
     rw [e] at hsh
     simp only [hg,hen i n1] at hsh
     have hC:=hC i n1 n3
     rw [hen i n1] at hC
     simp only [d,z,seval]
     (refine CU hFr (h:=?_);simp only [z,seval])
     cases d2:freshM p.clock p.runs[i].t w.conf.window with
     | false =>
       rw [d2] at hsh
       simp only [d2,z,seval]
       (first|refine RUNs_rnd 8 rfl ?_|refine RUNs_rndj 8 rfl ?_;simp only [z,seval])
       (refine RUNs_erf 8 rfl (by simp) ?_;simp only [z,seval])
       (refine RUNs_mk 7 rfl ?_;simp only [z,seval])
       (refine Qf ?_;simp only [z,seval])
       simp only [hsh,cond_false,z,seval]
     | true =>
       rw [d2] at hsh
       simp only [d2,z,seval]
       (refine CU hC (h:=?_);simp only [z,seval])
       (first|refine RUNs_rnd 8 rfl ?_|refine RUNs_rndj 8 rfl ?_;simp only [z,seval])
       (refine RUNs_erf 8 rfl (by simp) ?_;simp only [z,seval])
       (refine RUNs_mk 7 rfl ?_;simp only [z,seval])
       (refine Qf ?_;simp only [z,seval])
       simp only [hsh,cond_true,z,seval]
   | false =>
     have hs:∀ k,k < i + 1→eQ w m (runAt p.runs k)=false:=fun k hk=>by
      rcases Nat.lt_or_ge k i with h|h
      ·exact h4 k h
      ·obtain rfl:k=i:=by omega
       rw [eQ,hg,d,Bool.and_false]
     simp only [d,z,seval]
     (first|refine RUNs_rnd 8 rfl ?_|refine RUNs_rndj 8 rfl ?_;simp only [z,seval])
     simp only [w64s (i:=i) (by omega),z,seval]
     (refine NX (i + 1) ?_ (by rfl) hlt ?_;simp only [z,seval];exact wk)
     exact ⟨by show j + 1≤i + 1;omega,n1,hs⟩
theorem told_zero {w:World} {key label h:Int} (hl:label=6∨label=7) (ho:(openW w key label h).2=true):(openW w key label h).1.k=0∧(openW w key label h).1.t=0∧(openW w key label h).1.h=0:=by
 revert ho
 unfold openW
 cases hb:boxOpen w.box key label h with
 | none=>intro ho;cases ho
 | some l =>
   simp only [partGet]
   rcases hl with rfl|rfl
   all_goals
    cases (l.length==(partWs _ zPart).length)
    ·intro ho;exact absurd ho (by simp [label?])
    ·intro _;exact ⟨rfl,rfl,rfl⟩
theorem told_spec (w:World) {N:Nat} (hw:w.fit N) (hN:N≤500000000000) (m:Msg) (key label hh:Int) (hl:label=6∨label=7):Spec PP GG 299 [w.v,m.v,u32 key,u32 label,u32 hh] (.tup [u32 (toldM w m key label hh).1,.bool (toldM w m key label hh).2]) []:=by
 have hO:=open_spec w hw hN key label hh
 have hz := @told_zero w key label hh hl
 cases ho:(openW w key label hh).2 with
 | false =>
   rw [ho] at hO
   have e:(toldM w m key label hh).2=false:=by simp only [toldM,ho,Bool.false_and]
   rw [e]
   refine Qs func299 ?_
   intro w0 M0
   simp only [f299,lf,z,seval]
   (refine CU hO (h:=?_);simp only [z,seval])
   (refine Qw 0 ?_;simp only [z,seval])
   (refine ⟨by kernel_rfl,?_⟩)
   (refine Qf ?_;simp only [z,seval])
   rfl
 | true =>
   rw [ho] at hO
   obtain ⟨z1,z2,z3⟩:=hz ho
   have e:(toldM w m key label hh).2=((openW w key label hh).1.m==m.run && ((openW w key label hh).1.a==m.a && (openW w key label hh).1.b==m.b)):=by simp only [toldM,ho,Bool.true_and]
   rw [e]
   have e1:(toldM w m key label hh).1=(openW w key label hh).1.n:=rfl
   rw [e1]
   simp only [Part.v,z1,z2,z3] at hO
   refine Qs func299 ?_
   intro w0 M0
   simp only [f299,lf,z,seval]
   (refine CU hO (h:=?_);simp only [z,seval])
   (refine Qw 0 ?_;simp only [z,seval])
   (refine ⟨by kernel_rfl,?_⟩)
   (refine Qf ?_;simp only [z,seval])
theorem Share_spec (w:World) (m:Msg) {N:Nat} (hw:w.fit N) (h5:21≤N) (hN:N≤400000000000) (hm:m.ok):Spec PP GG 250 [w.v,m.v] (.tup [(shareM w m).1.v,i64 (shareM w m).2]) []:=by
 have hP0:=person_spec w hw (by omega) 0 (by decide)
 have hPa:=person_spec w hw (by omega) m.a hm.2.2.1
 have hPb:=person_spec w hw (by omega) m.b hm.2.2.2.1
 have hPr:=pPair_spec w.people m.a m.b hm.2.2.1 hm.2.2.2.1 (by have:=hw.people;omega)
 have hU:(personW w 0).used.length≤N:=getP_used hw _
 have hNo:=uNote_spec (personW w 0).used w.conf.used m.run (by omega)
 have hTa:=told_spec w hw (by omega) m (personW w m.a).key 6 m.box (.inl rfl)
 have hTb:=told_spec w hw (by omega) m (personW w m.b).key 7 m.more (.inr rfl)
 have hRm:=room_spec' w hw (by omega) 2 1
 have hDr:=draw_spec w hw (by omega)
 have hS1:=seal_spec (drawW w).1 (fit_draw hw (by omega)) (by omega) (personW w m.b).key 8 ⟨(sB w m).1,0,0,0,(drawW w).2,0,0⟩
 have hS2:=seal_spec (s1 w m).1 (s1_fit hw h5 hN m) (by omega) (personW w m.a).key 9 ⟨(sA w m).1,0,0,0,(drawW w).2,0,0⟩
 have hW:=with_spec (s2 w m).1 (s2_fit hw h5 hN m) (by omega) (sP w m) (sP_ok hw hN hm).1
 have hL:=log_spec (withW (s2 w m).1 (sP w m)) (sW_fit hw h5 hN hm) (by omega) (sEv w m)
 have hSn:=send_spec (sY w m) (sY_fit hw h5 hN hm) (by omega) m.b ⟨8,m.run,0,0,0,(s2 w m).2.1,(s1 w m).2.1⟩ (sM_ok hw h5 hN hm)
 rw [← s1] at hS1
 rw [← s2] at hS2
 rw [← sY] at hL
 rw [← sZ] at hSn
 rw [← sA] at hTa
 rw [← sB] at hTb
 clear hw hm
 cases c1:pairM w.people m.a m.b with
 | false =>
   rw [c1] at hPr
   have e:shareM w m=(w,5):=by simp only [shareM,c1,cond_false]
   rw [e]
   refine Qs func250 ?_
   intro w0 M0
   simp only [f250,lf,z,seval]
   (refine Qw 1 ?_;simp only [z,seval])
   (refine DU hPa (h:=?_);simp only [z,seval])
   (refine DU hPb (h:=?_);simp only [z,seval])
   (refine DU hP0 (h:=?_);simp only [z,seval])
   (refine ⟨by kernel_rfl,?_⟩)
   (refine RUNs_unroll 5 ?_;simp only [z,seval])
   (refine qc func274 ?_;simp only [f274,lf,z,seval])
   (refine Qw 0 ?_;simp only [z,seval])
   (refine DU hPr (h:=?_);simp only [z,seval])
   (refine ⟨by kernel_rfl,?_⟩)
   (refine Qf ?_;simp only [z,seval])
 | true =>
 rw [c1] at hPr
 cases c2:(sA w m).2 with
 | false =>
   rw [c2] at hTa
   have e:shareM w m=(w,6):=by simp only [shareM,c1,c2,Bool.false_and,cond_true,cond_false]
   rw [e]
   refine Qs func250 ?_
   intro w0 M0
   simp only [f250,lf,z,seval]
   (refine Qw 1 ?_;simp only [z,seval])
   (refine DU hPa (h:=?_);simp only [z,seval])
   (refine DU hPb (h:=?_);simp only [z,seval])
   (refine DU hP0 (h:=?_);simp only [z,seval])
   (refine ⟨by kernel_rfl,?_⟩)
   (refine RUNs_unroll 5 ?_;simp only [z,seval])
   (refine qc func274 ?_;simp only [f274,lf,z,seval])
   (refine Qw 0 ?_;simp only [z,seval])
   (refine DU hPr (h:=?_);simp only [z,seval])
   (refine ⟨by kernel_rfl,?_⟩)
   first|(refine CU hTa (h:=?_);simp only [z,seval])|((refine Qw 0 ?_;simp only [z,seval]);(refine DU hTa (h:=?_);simp only [z,seval]);(refine ⟨by kernel_rfl,?_⟩))|((refine Qw 1 ?_;simp only [z,seval]);(refine DU hTa (h:=?_);simp only [z,seval]);(refine ⟨by kernel_rfl,?_⟩))|((refine Qw 2 ?_;simp only [z,seval]);(refine DU hTa (h:=?_);simp only [z,seval]);(refine ⟨by kernel_rfl,?_⟩))
   first|(refine CU hTb (h:=?_);simp only [z,seval])|((refine Qw 0 ?_;simp only [z,seval]);(refine DU hTb (h:=?_);simp only [z,seval]);(refine ⟨by kernel_rfl,?_⟩))|((refine Qw 1 ?_;simp only [z,seval]);(refine DU hTb (h:=?_);simp only [z,seval]);(refine ⟨by kernel_rfl,?_⟩))|((refine Qw 2 ?_;simp only [z,seval]);(refine DU hTb (h:=?_);simp only [z,seval]);(refine ⟨by kernel_rfl,?_⟩))
   (refine Qf ?_;simp only [z,seval])
 | true =>
 rw [c2] at hTa
 cases c3:(sB w m).2 with
 | false =>
   rw [c3] at hTb
   have e:shareM w m=(w,6):=by simp only [shareM,c1,c2,c3,Bool.true_and,cond_true,cond_false]
   rw [e]
   refine Qs func250 ?_
   intro w0 M0
   simp only [f250,lf,z,seval]
   (refine Qw 1 ?_;simp only [z,seval])
   (refine DU hPa (h:=?_);simp only [z,seval])
   (refine DU hPb (h:=?_);simp only [z,seval])
   (refine DU hP0 (h:=?_);simp only [z,seval])
   (refine ⟨by kernel_rfl,?_⟩)
   (refine RUNs_unroll 5 ?_;simp only [z,seval])
   (refine qc func274 ?_;simp only [f274,lf,z,seval])
   (refine Qw 0 ?_;simp only [z,seval])
   (refine DU hPr (h:=?_);simp only [z,seval])
   (refine ⟨by kernel_rfl,?_⟩)
   first|(refine CU hTa (h:=?_);simp only [z,seval])|((refine Qw 0 ?_;simp only [z,seval]);(refine DU hTa (h:=?_);simp only [z,seval]);(refine ⟨by kernel_rfl,?_⟩))|((refine Qw 1 ?_;simp only [z,seval]);(refine DU hTa (h:=?_);simp only [z,seval]);(refine ⟨by kernel_rfl,?_⟩))|((refine Qw 2 ?_;simp only [z,seval]);(refine DU hTa (h:=?_);simp only [z,seval]);(refine ⟨by kernel_rfl,?_⟩))
   first|(refine CU hTb (h:=?_);simp only [z,seval])|((refine Qw 0 ?_;simp only [z,seval]);(refine DU hTb (h:=?_);simp only [z,seval]);(refine ⟨by kernel_rfl,?_⟩))|((refine Qw 1 ?_;simp only [z,seval]);(refine DU hTb (h:=?_);simp only [z,seval]);(refine ⟨by kernel_rfl,?_⟩))|((refine Qw 2 ?_;simp only [z,seval]);(refine DU hTb (h:=?_);simp only [z,seval]);(refine ⟨by kernel_rfl,?_⟩))
   (refine Qf ?_;simp only [z,seval])
 | true =>
 rw [c3] at hTb
 cases c4:(usedMay (personW w 0).used w.conf.used m.run==0) with
 | false =>
   have eN:usedNote (personW w 0).used w.conf.used m.run=((personW w 0).used,usedMay (personW w 0).used w.conf.used m.run):=by simp only [usedNote,c4,cond_false]
   rw [eN] at hNo
   have e:shareM w m=(w,usedMay (personW w 0).used w.conf.used m.run):=by simp only [shareM,c1,c2,c3,c4,Bool.true_and,cond_true,cond_false]
   rw [e]
   refine Qs func250 ?_
   intro w0 M0
   simp only [f250,lf,z,seval]
   (refine Qw 1 ?_;simp only [z,seval])
   (refine DU hPa (h:=?_);simp only [z,seval])
   (refine DU hPb (h:=?_);simp only [z,seval])
   (refine DU hP0 (h:=?_);simp only [z,seval])
   (refine ⟨by kernel_rfl,?_⟩)
   (refine RUNs_unroll 5 ?_;simp only [z,seval])
   (refine qc func274 ?_;simp only [f274,lf,z,seval])
   (refine Qw 0 ?_;simp only [z,seval])
   (refine DU hPr (h:=?_);simp only [z,seval])
   (refine ⟨by kernel_rfl,?_⟩)
   first|(refine CU hTa (h:=?_);simp only [z,seval])|((refine Qw 0 ?_;simp only [z,seval]);(refine DU hTa (h:=?_);simp only [z,seval]);(refine ⟨by kernel_rfl,?_⟩))|((refine Qw 1 ?_;simp only [z,seval]);(refine DU hTa (h:=?_);simp only [z,seval]);(refine ⟨by kernel_rfl,?_⟩))|((refine Qw 2 ?_;simp only [z,seval]);(refine DU hTa (h:=?_);simp only [z,seval]);(refine ⟨by kernel_rfl,?_⟩))
   first|(refine CU hTb (h:=?_);simp only [z,seval])|((refine Qw 0 ?_;simp only [z,seval]);(refine DU hTb (h:=?_);simp only [z,seval]);(refine ⟨by kernel_rfl,?_⟩))|((refine Qw 1 ?_;simp only [z,seval]);(refine DU hTb (h:=?_);simp only [z,seval]);(refine ⟨by kernel_rfl,?_⟩))|((refine Qw 2 ?_;simp only [z,seval]);(refine DU hTb (h:=?_);simp only [z,seval]);(refine ⟨by kernel_rfl,?_⟩))
   (refine RUNs_unr ?_;simp only [z,seval])
   (refine qc func275 ?_;simp only [f275,lf,z,seval])
   first|(refine CU hNo (h:=?_);simp only [z,seval])|((refine Qw 0 ?_;simp only [z,seval]);(refine DU hNo (h:=?_);simp only [z,seval]);(refine ⟨by kernel_rfl,?_⟩))|((refine Qw 1 ?_;simp only [z,seval]);(refine DU hNo (h:=?_);simp only [z,seval]);(refine ⟨by kernel_rfl,?_⟩))|((refine Qw 2 ?_;simp only [z,seval]);(refine DU hNo (h:=?_);simp only [z,seval]);(refine ⟨by kernel_rfl,?_⟩))
   simp only [c4,z,seval]
   (refine Qf ?_;simp only [z,seval])
 | true =>
 have eN:usedNote (personW w 0).used w.conf.used m.run=((personW w 0).used++[m.run],0):=by simp only [usedNote,c4,cond_true]
 rw [eN] at hNo
 have e0:shareM w m=(bif roomW w 2 1 then
  (bif (s1 w m).2.2==0 then (bif (s2 w m).2.2==0 then (bif (sZ w m).2==0 then ((sZ w m).1,0) else (w,(sZ w m).2)) else (w,(s2 w m).2.2)) else (w,(s1 w m).2.2)) else (w,10)):=by simp only [shareM,c1,c2,c3,c4,Bool.true_and,cond_true]
 rw [e0]
 clear e0
 refine Qs func250 ?_
 intro w0 M0
 simp only [f250,lf,z,seval]
 (refine Qw 1 ?_;simp only [z,seval])
 (refine DU hPa (h:=?_);simp only [z,seval])
 (refine DU hPb (h:=?_);simp only [z,seval])
 (refine DU hP0 (h:=?_);simp only [z,seval])
 (refine ⟨by kernel_rfl,?_⟩)
 (refine RUNs_unroll 5 ?_;simp only [z,seval])
 (refine qc func274 ?_;simp only [f274,lf,z,seval])
 (refine Qw 0 ?_;simp only [z,seval])
 (refine DU hPr (h:=?_);simp only [z,seval])
 (refine ⟨by kernel_rfl,?_⟩)
 first|(refine CU hTa (h:=?_);simp only [z,seval])|((refine Qw 0 ?_;simp only [z,seval]);(refine DU hTa (h:=?_);simp only [z,seval]);(refine ⟨by kernel_rfl,?_⟩))|((refine Qw 1 ?_;simp only [z,seval]);(refine DU hTa (h:=?_);simp only [z,seval]);(refine ⟨by kernel_rfl,?_⟩))|((refine Qw 2 ?_;simp only [z,seval]);(refine DU hTa (h:=?_);simp only [z,seval]);(refine ⟨by kernel_rfl,?_⟩))
 first|(refine CU hTb (h:=?_);simp only [z,seval])|((refine Qw 0 ?_;simp only [z,seval]);(refine DU hTb (h:=?_);simp only [z,seval]);(refine ⟨by kernel_rfl,?_⟩))|((refine Qw 1 ?_;simp only [z,seval]);(refine DU hTb (h:=?_);simp only [z,seval]);(refine ⟨by kernel_rfl,?_⟩))|((refine Qw 2 ?_;simp only [z,seval]);(refine DU hTb (h:=?_);simp only [z,seval]);(refine ⟨by kernel_rfl,?_⟩))
 (refine RUNs_unr ?_;simp only [z,seval])
 (refine qc func275 ?_;simp only [f275,lf,z,seval])
 first|(refine CU hNo (h:=?_);simp only [z,seval])|((refine Qw 0 ?_;simp only [z,seval]);(refine DU hNo (h:=?_);simp only [z,seval]);(refine ⟨by kernel_rfl,?_⟩))|((refine Qw 1 ?_;simp only [z,seval]);(refine DU hNo (h:=?_);simp only [z,seval]);(refine ⟨by kernel_rfl,?_⟩))|((refine Qw 2 ?_;simp only [z,seval]);(refine DU hNo (h:=?_);simp only [z,seval]);(refine ⟨by kernel_rfl,?_⟩))
 first|(refine CU hRm (h:=?_);simp only [z,seval])|((refine Qw 0 ?_;simp only [z,seval]);(refine DU hRm (h:=?_);simp only [z,seval]);(refine ⟨by kernel_rfl,?_⟩))|((refine Qw 1 ?_;simp only [z,seval]);(refine DU hRm (h:=?_);simp only [z,seval]);(refine ⟨by kernel_rfl,?_⟩))|((refine Qw 2 ?_;simp only [z,seval]);(refine DU hRm (h:=?_);simp only [z,seval]);(refine ⟨by kernel_rfl,?_⟩))
 cases c5:roomW w 2 1 with
 | false =>
   simp only [c5,z,seval]
   (refine Qf ?_;simp only [z,seval])
 | true =>
 simp only [c5,z,seval]
 (refine RUNs_unr ?_;simp only [z,seval])
 (refine qc func276 ?_;simp only [f276,lf,z,seval])
 first|(refine CU hDr (h:=?_);simp only [z,seval])|((refine Qw 0 ?_;simp only [z,seval]);(refine DU hDr (h:=?_);simp only [z,seval]);(refine ⟨by kernel_rfl,?_⟩))|((refine Qw 1 ?_;simp only [z,seval]);(refine DU hDr (h:=?_);simp only [z,seval]);(refine ⟨by kernel_rfl,?_⟩))|((refine Qw 2 ?_;simp only [z,seval]);(refine DU hDr (h:=?_);simp only [z,seval]);(refine ⟨by kernel_rfl,?_⟩))
 first|(refine CU hS1 (h:=?_);simp only [z,seval])|((refine Qw 0 ?_;simp only [z,seval]);(refine DU hS1 (h:=?_);simp only [z,seval]);(refine ⟨by kernel_rfl,?_⟩))|((refine Qw 1 ?_;simp only [z,seval]);(refine DU hS1 (h:=?_);simp only [z,seval]);(refine ⟨by kernel_rfl,?_⟩))|((refine Qw 2 ?_;simp only [z,seval]);(refine DU hS1 (h:=?_);simp only [z,seval]);(refine ⟨by kernel_rfl,?_⟩))
 cases c6:((s1 w m).2.2==0) with
 | false =>
   simp only [c6,z,seval]
   (refine Qf ?_;simp only [z,seval])
 | true =>
 simp only [c6,z,seval]
 first|(refine CU hS2 (h:=?_);simp only [z,seval])|((refine Qw 0 ?_;simp only [z,seval]);(refine DU hS2 (h:=?_);simp only [z,seval]);(refine ⟨by kernel_rfl,?_⟩))|((refine Qw 1 ?_;simp only [z,seval]);(refine DU hS2 (h:=?_);simp only [z,seval]);(refine ⟨by kernel_rfl,?_⟩))|((refine Qw 2 ?_;simp only [z,seval]);(refine DU hS2 (h:=?_);simp only [z,seval]);(refine ⟨by kernel_rfl,?_⟩))
 cases c7:((s2 w m).2.2==0) with
 | false =>
   simp only [c7,z,seval]
   (refine Qf ?_;simp only [z,seval])
 | true =>
 simp only [c7,z,seval]
 (refine RUNs_unr ?_;simp only [z,seval])
 (refine qc func277 ?_;simp only [f277,lf,z,seval])
 (refine Qw 1 ?_;simp only [z,seval])
 (refine DU hW (h:=?_);simp only [z,seval])
 (refine DU hL (h:=?_);simp only [z,seval])
 (refine ⟨by kernel_rfl,?_⟩)
 (refine Qw 1 ?_;simp only [z,seval])
 (refine DU hSn (h:=?_);simp only [z,seval])
 (refine ⟨by kernel_rfl,?_⟩)
 cases c8:((sZ w m).2==0) with
 | false =>
   simp only [c8,z,seval]
   (refine Qf ?_;simp only [z,seval])
 | true =>
   simp only [c8,z,seval]
   (refine RUNs_unr ?_;simp only [z,seval])
   (refine Qf ?_;simp only [z,seval])
theorem server_spec (n:Nat) (hn:callB PP n=true) (w:World) (to:Int) (m:Msg) (v:World) (e:Int) (h:Spec PP GG n [w.v,m.v] (.tup [v.v,i64 e]) []):Spec PP GG 335 [.fn (.func n) [] [],w.v,u32 to,m.v] (.tup [v.v,i64 e]) []:=by
 refine Qs func335 ?_
 intro w0 M0
 simp only [f335,lf,z,seval]
 (refine CU h (hn:=hn) (h:=?_);simp only [z,seval])
 (refine Qf ?_;simp only [z,seval])
theorem principal_spec (n:Nat) (hn:callB PP n=true) (w:World) (to:Int) (m:Msg) (v:World) (e:Int) (h:Spec PP GG n [w.v,u32 to,m.v] (.tup [v.v,i64 e]) []):Spec PP GG 336 [.fn (.func n) [] [],w.v,u32 to,m.v] (.tup [v.v,i64 e]) []:=by
 refine Qs func336 ?_
 intro w0 M0
 simp only [f336,lf,z,seval]
 (refine CU h (hn:=hn) (h:=?_);simp only [z,seval])
 (refine Qf ?_;simp only [z,seval])
theorem Deliver_spec (w:World) (to:Int) (l:List Int) {N:Nat} (hw:w.fit N) (h5:21≤N) (hN:N≤400000000000) (ht:U to) (hu:∀ x∈l,U x) (hl:l.length≤1099511627776) (hr:Right10 w.people=true) (hb7:Right07 w.box=true):Spec PP GG 190 [w.v,u32 to,wordsV l] (.tup [(deliverM w to l).1.v,i64 (deliverM w to l).2]) []:=by
 obtain ⟨tn,rfl⟩:=Int.eq_ofNat_of_zero_le ht.1
 have h1:=Get_spec w.people tn (by have:=ht.2;omega) (by have:=hw.people;omega)
 have h2:=mGet_spec l hu hl
 unfold deliverM
 rw [Int.toNat_natCast]
 cases c1:decide (tn < w.people.length) with
 | false =>
   rw [c1] at h1
   refine Qs func190 ?_
   intro w0 M0
   simp only [f190,lf,z,seval]
   (refine CU h1 (h:=?_);simp only [z,seval])
   (refine Qf ?_;simp only [z,seval])
 | true =>
 rw [c1] at h1
 have hin:=of_decide_eq_true c1
 cases c2:((msgGet l).2==0) with
 | false =>
   refine Qs func190 ?_
   intro w0 M0
   simp only [f190,lf,z,seval]
   (refine CU h1 (h:=?_);simp only [z,seval])
   (refine CU h2 (h:=?_);simp only [z,seval])
   simp only [c2,z,seval]
   (refine Qf ?_;simp only [z,seval])
 | true =>
 have c2':(msgGet l).2=0:=by simpa using c2
 have hm:=msgGet_U hu c2'
 have hk:=kind9 (may_kd (msgGet_ok hu (Prod.ext rfl c2':msgGet l=((msgGet l).1,0))).1)
 rw [c2'] at h2
 generalize (msgGet l).1=m at hm hk h2
 have t1:=server_spec _ (by kernel_rfl) w tn m _ _ (Grant_spec w m hw h5 hN hm)
 have t7:=server_spec _ (by kernel_rfl) w tn m _ _ (Share_spec w m hw h5 hN hm)
 have t2:=principal_spec _ (by kernel_rfl) w tn m _ _ (GrantN_spec w tn m hw h5 hN ht hr hb7)
 have t3:=principal_spec _ (by kernel_rfl) w tn m _ _ (TicketB_spec w tn m hw h5 hN ht hr hin)
 have t4:=principal_spec _ (by kernel_rfl) w tn m _ _ (EchoN_spec w tn m hw h5 hN ht hr)
 have t5:=principal_spec _ (by kernel_rfl) w tn m _ _ (BackB_spec w tn m hw hN ht hr)
 have t6:=principal_spec _ (by kernel_rfl) w tn m _ _ (FirstB_spec w tn m hw h5 hN ht hm hr)
 have t8:=principal_spec _ (by kernel_rfl) w tn m _ _ (ShareB_spec w tn m hw h5 hN ht hm hr)
 have t9:=principal_spec _ (by kernel_rfl) w tn m _ _ (ShareO_spec w tn m hw hN ht hr)
 obtain ⟨k,run,a,b,nonce,box,more⟩:=m
 simp only at hk
 simp only [cond_true,takeM]
 clear hw hu hr hb7 hm
 cases c0:((tn:Int)==0) with
 | true =>
   rcases hk with rfl|rfl|rfl|rfl|rfl|rfl|rfl|rfl|rfl
   all_goals
    refine Qs func190 ?_
    intro w0 M0
    simp only [f190,lf,z,seval]
    (refine CU h1 (h:=?_);simp only [z,seval])
    (refine CU h2 (h:=?_);simp only [z,seval])
    (refine Qa 10 ?_)
    repeat' (first|(refine Qk ?_)|(refine QD 4 0 ?_)|(refine Qi 0 2 ?_ ?_)|(refine Qi 1 2 ?_ ?_)|(refine Qi 1 3 ?_ ?_)|(refine Qi 0 3 ?_ ?_)|(refine Qj 0 ?_)|(refine Qj 1 ?_)|(refine Qj 2 ?_)|(refine Qj 3 ?_)|(refine qc func227 ?_;simp only [f227,lf,z,seval])|(refine OPV_ifcF (by kernel_rfl) (by kernel_rfl) (by rfl) ?_)|(simp only [c0,z,seval]))
    all_goals
     try simp only [Int.reduceBEq,cond_true,cond_false,z,seval]
     first|((refine INVS_spec2 (n:=335) (args':=?_) (r:=?_) (by kernel_rfl) (by kernel_rfl) ?_ ?_ ?_;rotate_left 2;(simp only [z,seval];exact rfl);exact (t1);simp only [z,seval]);(refine Qf ?_;simp only [z,seval]);done)|((refine INVS_spec2 (n:=335) (args':=?_) (r:=?_) (by kernel_rfl) (by kernel_rfl) ?_ ?_ ?_;rotate_left 2;(simp only [z,seval];exact rfl);exact (t7);simp only [z,seval]);(refine Qf ?_;simp only [z,seval]);done)|((refine Qf ?_;simp only [z,seval]);done)
 | false =>
   rcases hk with rfl|rfl|rfl|rfl|rfl|rfl|rfl|rfl|rfl
   all_goals
    refine Qs func190 ?_
    intro w0 M0
    simp only [f190,lf,z,seval]
    (refine CU h1 (h:=?_);simp only [z,seval])
    (refine CU h2 (h:=?_);simp only [z,seval])
    (refine Qa 10 ?_)
    repeat' (first|(refine Qk ?_)|(refine QD 4 0 ?_)|(refine Qi 0 2 ?_ ?_)|(refine Qi 1 2 ?_ ?_)|(refine Qi 1 3 ?_ ?_)|(refine Qi 0 3 ?_ ?_)|(refine Qj 0 ?_)|(refine Qj 1 ?_)|(refine Qj 2 ?_)|(refine Qj 3 ?_)|(refine qc func227 ?_;simp only [f227,lf,z,seval])|(refine OPV_ifcF (by kernel_rfl) (by kernel_rfl) (by rfl) ?_)|(simp only [c0,z,seval]))
    all_goals
     try simp only [Int.reduceBEq,cond_true,cond_false,z,seval]
     first|((refine INVS_spec2 (n:=336) (args':=?_) (r:=?_) (by kernel_rfl) (by kernel_rfl) ?_ ?_ ?_;rotate_left 2;(simp only [z,seval];exact rfl);exact (t2);simp only [z,seval]);(refine Qf ?_;simp only [z,seval]);done)|((refine INVS_spec2 (n:=336) (args':=?_) (r:=?_) (by kernel_rfl) (by kernel_rfl) ?_ ?_ ?_;rotate_left 2;(simp only [z,seval];exact rfl);exact (t3);simp only [z,seval]);(refine Qf ?_;simp only [z,seval]);done)|((refine INVS_spec2 (n:=336) (args':=?_) (r:=?_) (by kernel_rfl) (by kernel_rfl) ?_ ?_ ?_;rotate_left 2;(simp only [z,seval];exact rfl);exact (t4);simp only [z,seval]);(refine Qf ?_;simp only [z,seval]);done)|((refine INVS_spec2 (n:=336) (args':=?_) (r:=?_) (by kernel_rfl) (by kernel_rfl) ?_ ?_ ?_;rotate_left 2;(simp only [z,seval];exact rfl);exact (t5);simp only [z,seval]);(refine Qf ?_;simp only [z,seval]);done)|((refine INVS_spec2 (n:=336) (args':=?_) (r:=?_) (by kernel_rfl) (by kernel_rfl) ?_ ?_ ?_;rotate_left 2;(simp only [z,seval];exact rfl);exact (t6);simp only [z,seval]);(refine Qf ?_;simp only [z,seval]);done)|((refine INVS_spec2 (n:=336) (args':=?_) (r:=?_) (by kernel_rfl) (by kernel_rfl) ?_ ?_ ?_;rotate_left 2;(simp only [z,seval];exact rfl);exact (t8);simp only [z,seval]);(refine Qf ?_;simp only [z,seval]);done)|((refine INVS_spec2 (n:=336) (args':=?_) (r:=?_) (by kernel_rfl) (by kernel_rfl) ?_ ?_ ?_;rotate_left 2;(simp only [z,seval];exact rfl);exact (t9);simp only [z,seval]);(refine Qf ?_;simp only [z,seval]);done)|((refine Qf ?_;simp only [z,seval]);done)
theorem Step_8 (w:World) {N:Nat} (hw:w.fit N) (h5:64≤N) (hN:N≤400000000000) (hr:Right10 w.people=true) (hb7:Right07 w.box=true) (hnet:0≤w.net.room∧w.net.room≤1099511627776) (hpl:w.people.length≤255) (a b c d:Int) (ws:List Int):Spec PP GG 25 [w.v,Op.v ⟨8,a,b,c,d,ws⟩] (.tup [(tick8 w ⟨8,a,b,c,d,ws⟩).1.v,i64 (tick8 w ⟨8,a,b,c,d,ws⟩).2]) []:=by
 have hIs:=advIs_spec ⟨8,a,b,c,d,ws⟩
 rw [show isAdv ⟨8,a,b,c,d,ws⟩=false from rfl] at hIs
 have hgr:=hw.grams
 have hpp:=hw.people
 have hwn:∀ n:Int,0≤IntKind.u32.wrap n∧IntKind.u32.wrap n < 4294967296:=fun n=>by rw [IntKind.wrap_u32];omega
 have hG:=fun (n:Nat) (h:n < 4294967296)=>Get_spec w.people n h (by omega)
 by_cases hbad:(nameB a && decide (a < (w.people.length:Int)))=false
 ·have e5:tick8 w ⟨8,a,b,c,d,ws⟩=(w,5):=by
   unfold tick8
   rw [show (decide (a < 0) || decide (a≥(w.people.length:Int)))=true from ?_];rfl
   rw [Bool.or_eq_true,decide_eq_true_eq,decide_eq_true_eq]
   simp only [nameB,Bool.and_eq_false_iff,decide_eq_false_iff_not] at hbad
   omega
  rw [e5]
  obtain ⟨n,hn⟩:=Int.eq_ofNat_of_zero_le (hwn a).1
  have h1:=hG n (by have:=(hwn a).2;omega)
  have hbad2:nameB a=false∨decide (n < w.people.length)=false:=by
   cases hb:nameB a with
   | false=>exact .inl rfl
   | true =>
     rw [hb,Bool.true_and] at hbad
     refine .inr (decide_eq_false ?_)
     have h3:=nameB_U hb
     have:IntKind.u32.wrap a=a:=by rw [IntKind.wrap_u32];exact Int.emod_eq_of_lt h3.1 (by have:=h3.2;omega)
     have:=of_decide_eq_false hbad
     omega
  have hor:∀ q:Bool,nameB a=q→(q=false∨decide (n < w.people.length)=false):=fun q h=>h ▸ hbad2
  cases a1:decide (a≥0) with
  | false =>
    refine Qs func25 ?_
    intro w0 M0
    simp only [f25,lf,z,seval]
    (refine CU hIs (h:=?_);simp only [z,seval])
    apply once
    ·intro key
     (refine Qa 9 ?_)
     repeat' (first|(refine Qk ?_)|(refine QD 4 0 ?_)|(refine Qi 0 1 ?_ ?_)|(refine Qi 0 2 ?_ ?_)|(refine Qj 0 ?_)|(refine Qj 1 ?_)|(refine Qj 2 ?_)|(refine Qj 3 ?_)|(refine qc func69 ?_;simp only [f69,lf,z,seval])|(refine qc func116 ?_;simp only [f116,lf,z,seval])|(simp only [z,seval]))
     all_goals exact key
    ·(refine qc func115 ?_;simp only [f115,lf,z,seval])
     (refine qc func178 ?_;simp only [f178,lf,z,seval])
     simp only [a1,hn,z,seval]
     (refine CU h1 (h:=?_);simp only [z,seval])
     try simp only [z,seval]
     (refine Qf ?_;simp only [z,seval])
  | true =>
  cases a2:decide (a≤255) with
  | false =>
    refine Qs func25 ?_
    intro w0 M0
    simp only [f25,lf,z,seval]
    (refine CU hIs (h:=?_);simp only [z,seval])
    apply once
    ·intro key
     (refine Qa 9 ?_)
     repeat' (first|(refine Qk ?_)|(refine QD 4 0 ?_)|(refine Qi 0 1 ?_ ?_)|(refine Qi 0 2 ?_ ?_)|(refine Qj 0 ?_)|(refine Qj 1 ?_)|(refine Qj 2 ?_)|(refine Qj 3 ?_)|(refine qc func69 ?_;simp only [f69,lf,z,seval])|(refine qc func116 ?_;simp only [f116,lf,z,seval])|(simp only [z,seval]))
     all_goals exact key
    ·(refine qc func115 ?_;simp only [f115,lf,z,seval])
     (refine qc func178 ?_;simp only [f178,lf,z,seval])
     simp only [a1,a2,hn,z,seval]
     (refine CU h1 (h:=?_);simp only [z,seval])
     try simp only [z,seval]
     (refine Qf ?_;simp only [z,seval])
  | true =>
    have hn2:decide (n < w.people.length)=false:=by rcases hor true (nameB_of a1 a2) with h|h;cases h;exact h
    rw [hn2] at h1
    refine Qs func25 ?_
    intro w0 M0
    simp only [f25,lf,z,seval]
    (refine CU hIs (h:=?_);simp only [z,seval])
    apply once
    ·intro key
     (refine Qa 9 ?_)
     repeat' (first|(refine Qk ?_)|(refine QD 4 0 ?_)|(refine Qi 0 1 ?_ ?_)|(refine Qi 0 2 ?_ ?_)|(refine Qj 0 ?_)|(refine Qj 1 ?_)|(refine Qj 2 ?_)|(refine Qj 3 ?_)|(refine qc func69 ?_;simp only [f69,lf,z,seval])|(refine qc func116 ?_;simp only [f116,lf,z,seval])|(simp only [z,seval]))
     all_goals exact key
    ·(refine qc func115 ?_;simp only [f115,lf,z,seval])
     (refine qc func178 ?_;simp only [f178,lf,z,seval])
     simp only [a1,a2,hn,z,seval]
     (refine CU h1 (h:=?_);simp only [z,seval])
     try simp only [z,seval]
     (refine Qf ?_;simp only [z,seval])
 ·have hgood:nameB a=true∧a < (w.people.length:Int):=by
   rw [Bool.not_eq_false,Bool.and_eq_true,decide_eq_true_eq] at hbad;exact hbad
  obtain ⟨a,rfl⟩:=Int.eq_ofNat_of_zero_le (nameB_U hgood.1).1
  have hlt:a < w.people.length:=by have:=hgood.2;omega
  have a1:decide ((a:Int)≥0)=true:=decide_eq_true (by omega)
  have a2:decide ((a:Int)≤255)=true:=decide_eq_true (by omega)
  have wa:=nameU a1 a2
  have h1:=hG a (by omega)
  rw [decide_eq_true hlt] at h1
  have hp:personW w (a:Int)=getP w.people a:=by unfold personW;rw [Int.toNat_natCast]
  unfold tick8
  rw [show (decide ((a:Int) < 0) || decide ((a:Int)≥(w.people.length:Int)))=false by rw [Bool.or_eq_false_iff];exact ⟨decide_eq_false (by omega),decide_eq_false (by omega)⟩]
  simp only [cond_false,hp]
  have hPo:=personW_ok hw (a:Int)
  rw [hp] at hPo
  generalize getP w.people a=P at *
  simp only [mv] at h1
  cases c3:decide (b < 0) with
  | true =>
    refine Qs func25 ?_
    intro w0 M0
    simp only [f25,lf,z,seval]
    (refine CU hIs (h:=?_);simp only [z,seval])
    apply once
    ·intro key
     (refine Qa 9 ?_)
     repeat' (first|(refine Qk ?_)|(refine QD 4 0 ?_)|(refine Qi 0 1 ?_ ?_)|(refine Qi 0 2 ?_ ?_)|(refine Qj 0 ?_)|(refine Qj 1 ?_)|(refine Qj 2 ?_)|(refine Qj 3 ?_)|(refine qc func69 ?_;simp only [f69,lf,z,seval])|(refine qc func116 ?_;simp only [f116,lf,z,seval])|(simp only [z,seval]))
     all_goals exact key
    ·(refine qc func115 ?_;simp only [f115,lf,z,seval])
     (refine qc func178 ?_;simp only [f178,lf,z,seval])
     simp only [a1,a2,wa,z,seval]
     (refine CU h1 (h:=?_);simp only [z,seval])
     try simp only [c3,z,seval]
     (refine Qf ?_;simp only [z,seval])
  | false =>
    have hb0:0≤b:=by have:=of_decide_eq_false c3;omega
    have h2:=ctick_spec P.clock (capT b) hPo.2.2.1 (capT_U hb0)
    have h3:=with_spec w hw (by omega) { P with clock:=tickM P.clock (capT b) } hPo.1
    have hcap:(if (1073741824:Int) < b then 1073741824 else b)=capT b:=rfl
    have hcw:=capT_wrap hb0
    simp only [mv] at h3
    refine Qs func25 ?_
    intro w0 M0
    simp only [f25,lf,z,seval]
    (refine CU hIs (h:=?_);simp only [z,seval])
    apply once
    ·intro key
     (refine Qa 9 ?_)
     repeat' (first|(refine Qk ?_)|(refine QD 4 0 ?_)|(refine Qi 0 1 ?_ ?_)|(refine Qi 0 2 ?_ ?_)|(refine Qj 0 ?_)|(refine Qj 1 ?_)|(refine Qj 2 ?_)|(refine Qj 3 ?_)|(refine qc func69 ?_;simp only [f69,lf,z,seval])|(refine qc func116 ?_;simp only [f116,lf,z,seval])|(simp only [z,seval]))
     all_goals exact key
    ·(refine qc func115 ?_;simp only [f115,lf,z,seval])
     (refine qc func178 ?_;simp only [f178,lf,z,seval])
     simp only [a1,a2,wa,z,seval]
     (refine CU h1 (h:=?_);simp only [z,seval])
     try simp only [c3,z,seval]
     refine RUNs_min (by rfl) (by rfl) (by rfl) ?_
     simp only [hcap,hcw,z,seval]
     (refine CU h2 (h:=?_);simp only [z,seval])
     (refine CU h3 (h:=?_);simp only [z,seval])
     (refine Qf ?_;simp only [z,seval])
theorem Step_9 (w:World) {N:Nat} (hw:w.fit N) (h5:64≤N) (hN:N≤400000000000) (hr:Right10 w.people=true) (hb7:Right07 w.box=true) (hnet:0≤w.net.room∧w.net.room≤1099511627776) (hpl:w.people.length≤255) (a b c d:Int) (ws:List Int):Spec PP GG 25 [w.v,Op.v ⟨9,a,b,c,d,ws⟩] (.tup [(begin9 w ⟨9,a,b,c,d,ws⟩).1.v,i64 (begin9 w ⟨9,a,b,c,d,ws⟩).2]) []:=by
 have hIs:=advIs_spec ⟨9,a,b,c,d,ws⟩
 rw [show isAdv ⟨9,a,b,c,d,ws⟩=false from rfl] at hIs
 have hgr:=hw.grams
 have hpp:=hw.people
 cases a1:decide (a≥0)<;>cases a2:decide (a≤255)<;>cases b1:decide (b≥0)<;>cases b2:decide (b≤255)
 all_goals try
  (rw [show begin9 w ⟨9,a,b,c,d,ws⟩=(w,5) by simp only [begin9,nameB,a1,a2,b1,b2];rfl]
   refine Qs func25 ?_
   intro w0 M0
   simp only [f25,lf,z,seval]
   (refine CU hIs (h:=?_);simp only [z,seval])
   apply once
   ·intro key
    (refine Qa 9 ?_)
    repeat' (first|(refine Qk ?_)|(refine QD 4 0 ?_)|(refine Qi 0 1 ?_ ?_)|(refine Qi 0 2 ?_ ?_)|(refine Qj 0 ?_)|(refine Qj 1 ?_)|(refine Qj 2 ?_)|(refine Qj 3 ?_)|(refine qc func69 ?_;simp only [f69,lf,z,seval])|(refine qc func116 ?_;simp only [f116,lf,z,seval])|(simp only [z,seval]))
    all_goals exact key
   ·(refine qc func181 ?_;simp only [f181,lf,z,seval])
    (refine qc func178 ?_;simp only [f178,lf,z,seval])
    simp only [a1,a2,z,seval]
    (refine qc func178 ?_;simp only [f178,lf,z,seval])
    simp only [b1,b2,z,seval]
    (refine Qf ?_;simp only [z,seval])
   done)
 rw [show begin9 w ⟨9,a,b,c,d,ws⟩=startN w a b by simp only [begin9,nameB_of a1 a2,nameB_of b1 b2];rfl]
 have h1:=StartN_spec w a b hw (by omega) hN (nameB_U (nameB_of a1 a2)) (nameB_U (nameB_of b1 b2)) hr hb7
 have wa:=nameU a1 a2
 have wb:=nameU b1 b2
 refine Qs func25 ?_
 intro w0 M0
 simp only [f25,lf,z,seval]
 (refine CU hIs (h:=?_);simp only [z,seval])
 apply once
 ·intro key
  (refine Qa 9 ?_)
  repeat' (first|(refine Qk ?_)|(refine QD 4 0 ?_)|(refine Qi 0 1 ?_ ?_)|(refine Qi 0 2 ?_ ?_)|(refine Qj 0 ?_)|(refine Qj 1 ?_)|(refine Qj 2 ?_)|(refine Qj 3 ?_)|(refine qc func69 ?_;simp only [f69,lf,z,seval])|(refine qc func116 ?_;simp only [f116,lf,z,seval])|(simp only [z,seval]))
  all_goals exact key
 ·(refine qc func181 ?_;simp only [f181,lf,z,seval])
  (refine qc func178 ?_;simp only [f178,lf,z,seval])
  simp only [a1,a2,wa,z,seval]
  (refine qc func178 ?_;simp only [f178,lf,z,seval])
  simp only [b1,b2,wb,z,seval]
  (refine CU h1 (h:=?_);simp only [z,seval])
  (refine Qf ?_;simp only [z,seval])
theorem Step_10 (w:World) {N:Nat} (hw:w.fit N) (h5:64≤N) (hN:N≤400000000000) (hr:Right10 w.people=true) (hb7:Right07 w.box=true) (hnet:0≤w.net.room∧w.net.room≤1099511627776) (hpl:w.people.length≤255) (a b c d:Int) (ws:List Int):Spec PP GG 25 [w.v,Op.v ⟨10,a,b,c,d,ws⟩] (.tup [(begin9 w ⟨10,a,b,c,d,ws⟩).1.v,i64 (begin9 w ⟨10,a,b,c,d,ws⟩).2]) []:=by
 have hIs:=advIs_spec ⟨10,a,b,c,d,ws⟩
 rw [show isAdv ⟨10,a,b,c,d,ws⟩=false from rfl] at hIs
 have hgr:=hw.grams
 have hpp:=hw.people
 cases a1:decide (a≥0)<;>cases a2:decide (a≤255)<;>cases b1:decide (b≥0)<;>cases b2:decide (b≤255)
 all_goals try
  (rw [show begin9 w ⟨10,a,b,c,d,ws⟩=(w,5) by simp only [begin9,nameB,a1,a2,b1,b2];rfl]
   refine Qs func25 ?_
   intro w0 M0
   simp only [f25,lf,z,seval]
   (refine CU hIs (h:=?_);simp only [z,seval])
   apply once
   ·intro key
    (refine Qa 9 ?_)
    repeat' (first|(refine Qk ?_)|(refine QD 4 0 ?_)|(refine Qi 0 1 ?_ ?_)|(refine Qi 0 2 ?_ ?_)|(refine Qj 0 ?_)|(refine Qj 1 ?_)|(refine Qj 2 ?_)|(refine Qj 3 ?_)|(refine qc func69 ?_;simp only [f69,lf,z,seval])|(refine qc func116 ?_;simp only [f116,lf,z,seval])|(simp only [z,seval]))
    all_goals exact key
   ·(refine qc func181 ?_;simp only [f181,lf,z,seval])
    (refine qc func178 ?_;simp only [f178,lf,z,seval])
    simp only [a1,a2,z,seval]
    (refine qc func178 ?_;simp only [f178,lf,z,seval])
    simp only [b1,b2,z,seval]
    (refine Qf ?_;simp only [z,seval])
   done)
 rw [show begin9 w ⟨10,a,b,c,d,ws⟩=startO w a b by simp only [begin9,nameB_of a1 a2,nameB_of b1 b2];rfl]
 have h1:=StartO_spec w a b hw (by omega) hN (nameB_U (nameB_of a1 a2)) (nameB_U (nameB_of b1 b2)) hr
 have wa:=nameU a1 a2
 have wb:=nameU b1 b2
 refine Qs func25 ?_
 intro w0 M0
 simp only [f25,lf,z,seval]
 (refine CU hIs (h:=?_);simp only [z,seval])
 apply once
 ·intro key
  (refine Qa 9 ?_)
  repeat' (first|(refine Qk ?_)|(refine QD 4 0 ?_)|(refine Qi 0 1 ?_ ?_)|(refine Qi 0 2 ?_ ?_)|(refine Qj 0 ?_)|(refine Qj 1 ?_)|(refine Qj 2 ?_)|(refine Qj 3 ?_)|(refine qc func69 ?_;simp only [f69,lf,z,seval])|(refine qc func116 ?_;simp only [f116,lf,z,seval])|(simp only [z,seval]))
  all_goals exact key
 ·(refine qc func181 ?_;simp only [f181,lf,z,seval])
  (refine qc func178 ?_;simp only [f178,lf,z,seval])
  simp only [a1,a2,wa,z,seval]
  (refine qc func178 ?_;simp only [f178,lf,z,seval])
  simp only [b1,b2,wb,z,seval]
  (refine CU h1 (h:=?_);simp only [z,seval])
  (refine Qf ?_;simp only [z,seval])
theorem Step_11 (w:World) {N:Nat} (hw:w.fit N) (h5:64≤N) (hN:N≤400000000000) (hr:Right10 w.people=true) (hb7:Right07 w.box=true) (hnet:0≤w.net.room∧w.net.room≤1099511627776) (hpl:w.people.length≤255) (a b c d:Int) (ws:List Int):Spec PP GG 25 [w.v,Op.v ⟨11,a,b,c,d,ws⟩] (.tup [(deliver11 w ⟨11,a,b,c,d,ws⟩).1.v,i64 (deliver11 w ⟨11,a,b,c,d,ws⟩).2]) []:=by
 have hIs:=advIs_spec ⟨11,a,b,c,d,ws⟩
 rw [show isAdv ⟨11,a,b,c,d,ws⟩=false from rfl] at hIs
 have hgr:=hw.grams
 have hpp:=hw.people
 have hTk:=nTake_spec w.net a (by omega)
 rw [take_w] at hTk
 unfold deliver11
 cases ci:inNet w a with
 | false =>
   rw [ci] at hTk
   simp only [cond_false] at hTk ⊢
   refine Qs func25 ?_
   intro w0 M0
   simp only [f25,lf,z,seval]
   (refine CU hIs (h:=?_);simp only [z,seval])
   apply once
   ·intro key
    (refine Qa 9 ?_)
    repeat' (first|(refine Qk ?_)|(refine QD 4 0 ?_)|(refine Qi 0 1 ?_ ?_)|(refine Qi 0 2 ?_ ?_)|(refine Qj 0 ?_)|(refine Qj 1 ?_)|(refine Qj 2 ?_)|(refine Qj 3 ?_)|(refine qc func69 ?_;simp only [f69,lf,z,seval])|(refine qc func116 ?_;simp only [f116,lf,z,seval])|(simp only [z,seval]))
    all_goals exact key
   ·(refine qc func119 ?_;simp only [f119,lf,z,seval])
    (refine CU hTk (h:=?_);simp only [z,seval])
    (refine Qf ?_;simp only [z,seval])
 | true =>
   rw [ci] at hTk
   simp only [cond_true] at hTk ⊢
   have hg:=gramAt_ok hw a
   have h1:=Deliver_spec (gone w a) (gramAt w a).to (gramAt w a).words (gone_fit hw a) (by omega) hN hg.1.1 hg.1.2.2 (by have:=hg.2;omega) hr hb7
   refine Qs func25 ?_
   intro w0 M0
   simp only [f25,lf,z,seval]
   (refine CU hIs (h:=?_);simp only [z,seval])
   apply once
   ·intro key
    (refine Qa 9 ?_)
    repeat' (first|(refine Qk ?_)|(refine QD 4 0 ?_)|(refine Qi 0 1 ?_ ?_)|(refine Qi 0 2 ?_ ?_)|(refine Qj 0 ?_)|(refine Qj 1 ?_)|(refine Qj 2 ?_)|(refine Qj 3 ?_)|(refine qc func69 ?_;simp only [f69,lf,z,seval])|(refine qc func116 ?_;simp only [f116,lf,z,seval])|(simp only [z,seval]))
    all_goals exact key
   ·(refine qc func119 ?_;simp only [f119,lf,z,seval])
    (refine CU hTk (h:=?_);simp only [z,seval])
    (refine CU h1 (h:=?_);simp only [z,seval])
    (refine Qf ?_;simp only [z,seval])
theorem Step_12 (w:World) {N:Nat} (hw:w.fit N) (h5:64≤N) (hN:N≤400000000000) (hr:Right10 w.people=true) (hb7:Right07 w.box=true) (hnet:0≤w.net.room∧w.net.room≤1099511627776) (hpl:w.people.length≤255) (a b c d:Int) (ws:List Int):Spec PP GG 25 [w.v,Op.v ⟨12,a,b,c,d,ws⟩] (.tup [(drop12 w ⟨12,a,b,c,d,ws⟩).1.v,i64 (drop12 w ⟨12,a,b,c,d,ws⟩).2]) []:=by
 have hIs:=advIs_spec ⟨12,a,b,c,d,ws⟩
 rw [show isAdv ⟨12,a,b,c,d,ws⟩=false from rfl] at hIs
 have hgr:=hw.grams
 have hpp:=hw.people
 have hTk:=nTake_spec w.net a (by omega)
 rw [take_w] at hTk
 unfold drop12
 cases ci:inNet w a with
 | false =>
   rw [ci] at hTk
   simp only [cond_false] at hTk ⊢
   refine Qs func25 ?_
   intro w0 M0
   simp only [f25,lf,z,seval]
   (refine CU hIs (h:=?_);simp only [z,seval])
   apply once
   ·intro key
    (refine Qa 9 ?_)
    repeat' (first|(refine Qk ?_)|(refine QD 4 0 ?_)|(refine Qi 0 1 ?_ ?_)|(refine Qi 0 2 ?_ ?_)|(refine Qj 0 ?_)|(refine Qj 1 ?_)|(refine Qj 2 ?_)|(refine Qj 3 ?_)|(refine qc func69 ?_;simp only [f69,lf,z,seval])|(refine qc func116 ?_;simp only [f116,lf,z,seval])|(simp only [z,seval]))
    all_goals exact key
   ·(refine qc func120 ?_;simp only [f120,lf,z,seval])
    (refine CU hTk (h:=?_);simp only [z,seval])
    (refine Qf ?_;simp only [z,seval])
 | true =>
   rw [ci] at hTk
   simp only [cond_true] at hTk ⊢
   refine Qs func25 ?_
   intro w0 M0
   simp only [f25,lf,z,seval]
   (refine CU hIs (h:=?_);simp only [z,seval])
   apply once
   ·intro key
    (refine Qa 9 ?_)
    repeat' (first|(refine Qk ?_)|(refine QD 4 0 ?_)|(refine Qi 0 1 ?_ ?_)|(refine Qi 0 2 ?_ ?_)|(refine Qj 0 ?_)|(refine Qj 1 ?_)|(refine Qj 2 ?_)|(refine Qj 3 ?_)|(refine qc func69 ?_;simp only [f69,lf,z,seval])|(refine qc func116 ?_;simp only [f116,lf,z,seval])|(simp only [z,seval]))
    all_goals exact key
   ·(refine qc func120 ?_;simp only [f120,lf,z,seval])
    (refine CU hTk (h:=?_);simp only [z,seval])
    (refine Qf ?_;simp only [z,seval])
    try rfl
end Ch
