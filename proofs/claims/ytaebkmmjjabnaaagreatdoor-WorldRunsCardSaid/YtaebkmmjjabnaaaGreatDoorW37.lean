import Derived.Test.YtaebkmmjjabnaaaGreatDoorW36
set_option maxRecDepth 100000
set_option maxHeartbeats 4000000
set_option linter.unusedSimpArgs false
set_option linter.unusedVariables false
namespace Ch
open Go Go.Ab Go.Proofs.Tryz
theorem rFirstB_spec (w:World) (me:Int) (m:Msg) {N:Nat} (hw:w.fit N) (h5:21≤N) (hN:N≤400000000000) (hme:U me) (hm:m.ok) (hr:Right10 w.people=true):Spec PP GG 141 [w.v,u32 me,m.v] (.tup [(firstB w me m).1.v,i64 (firstB w me m).2]) []:=by
 have hP:=rPerson_spec w hw (by omega) hr me hme
 have hPr:=rPair_spec w.people (by have:=hw.people;omega) hr m.a me hm.2.2.1 hme
 have hMy:=rMay08_spec (personW w me).used w.conf.used m.run (by have:=personW_used hw me;omega)
 have hRm:=rRoom_spec w 1 1 hw.broom hw.nroom (by have:=hw.rows;omega) (by have:=hw.grams;omega)
 have hD:=rDraw_spec w hw (by omega)
 have hS:Spec PP GG 132 _ (.tup [(bS w me m).1.v,u32 (bS w me m).2.1,i64 (bS w me m).2.2]) []:=rSeal_spec (drawW w).1 (fit_draw hw (by omega)) (by omega) (personW w me).key 7 ⟨(drawW w).2,m.run,m.a,me,0,0,0⟩
 have hU:(personW w me).runs.length≤N:=personW_runs hw me
 have hV:(personW w me).used.length≤N:=personW_used hw me
 have hW:Spec PP GG 72 [(bS w me m).1.v,Person.v ⟨(personW w me).name,(personW w me).key,(personW w me).clock,(personW w me).used++[m.run],(personW w me).runs++[bRun w m],(personW w me).corrupt⟩] (withW (bS w me m).1 (bP w me m)).v []:=rWith_spec (bS w me m).1 (bS_fit hw h5 hN hme hm) (by omega) (by rw [bS,people_seal];exact hr) (bP w me m) (bP_ok hw hN me hm).1
 have hL:Spec PP GG 130 _ (bY w me m).v []:=rLog_spec (withW (bS w me m).1 (bP w me m)) (bW_fit hw h5 hN hme hm) (by omega) (bEv w me m)
 have hSn:Spec PP GG 131 _ (.tup [(bZ w me m).v,_]) []:=rSend_spec (bY w me m) (bY_fit hw h5 hN hme hm) (by omega) 0 (bMsg w me m) (bMsg_ok hw hN hme hm)
 have e1:(personW w me).used.map u32++[u32 m.run]=((personW w me).used++[m.run]).map u32:=by simp
 have e2:(personW w me).runs.map Run.v++[Run.v ⟨2,2,m.a,(drawW w).2,0,m.run,0,0,1⟩]=((personW w me).runs++[bRun w m]).map Run.v:=by simp [bRun]
 simp only [mv] at e2
 clear hw hr hm
 cases c0:(m.b==me) with
 | false =>
   have e:firstB w me m=(w,5):=by simp only [firstB,c0,Bool.false_and,cond_false]
   rw [e]
   refine Qs func141 ?_
   intro w0 M0
   simp only [f141,lf,z,seval]
   (refine CU hP (h:=?_);simp only [z,seval])
   simp only [c0,z,seval]
   (refine Qf ?_;simp only [z,seval])
 | true =>
 cases c1:pairM w.people m.a me with
 | false =>
   rw [c1] at hPr
   have e:firstB w me m=(w,5):=by simp only [firstB,c0,c1,Bool.true_and,cond_false]
   rw [e]
   refine Qs func141 ?_
   intro w0 M0
   simp only [f141,lf,z,seval]
   (refine CU hP (h:=?_);simp only [z,seval])
   simp only [c0,z,seval]
   (refine CU hPr (h:=?_);simp only [z,seval])
   (refine Qf ?_;simp only [z,seval])
 | true =>
 rw [c1] at hPr
 cases c2:(usedMay (personW w me).used w.conf.used m.run==0) with
 | false =>
   have e:firstB w me m=(w,usedMay (personW w me).used w.conf.used m.run):=by simp only [firstB,c0,c1,c2,Bool.true_and,cond_true,cond_false]
   rw [e]
   refine Qs func141 ?_
   intro w0 M0
   simp only [f141,lf,z,seval]
   (refine CU hP (h:=?_);simp only [z,seval])
   simp only [c0,z,seval]
   (refine CU hPr (h:=?_);simp only [z,seval])
   (refine CU hMy (h:=?_);simp only [z,seval])
   simp only [c2,z,seval]
   (refine Qf ?_;simp only [z,seval])
 | true =>
 cases c3:full w (personW w me) with
 | true =>
   have e:firstB w me m=(w,10):=by simp only [firstB,c0,c1,c2,c3,Bool.true_and,cond_true,cond_false,Bool.not_true,Bool.false_and]
   rw [e]
   simp only [full] at c3
   refine Qs func141 ?_
   intro w0 M0
   simp only [f141,lf,z,seval]
   (refine CU hP (h:=?_);simp only [z,seval])
   simp only [c0,z,seval]
   (refine CU hPr (h:=?_);simp only [z,seval])
   (refine CU hMy (h:=?_);simp only [z,seval])
   simp only [c2,c3,z,seval]
   (refine Qf ?_;simp only [z,seval])
 | false =>
 cases c4:roomW w 1 1 with
 | false =>
   rw [c4] at hRm
   have e:firstB w me m=(w,10):=by simp only [firstB,c0,c1,c2,c3,c4,Bool.true_and,cond_true,cond_false,Bool.not_false]
   rw [e]
   simp only [full] at c3
   refine Qs func141 ?_
   intro w0 M0
   simp only [f141,lf,z,seval]
   (refine CU hP (h:=?_);simp only [z,seval])
   simp only [c0,z,seval]
   (refine CU hPr (h:=?_);simp only [z,seval])
   (refine CU hMy (h:=?_);simp only [z,seval])
   simp only [c2,c3,z,seval]
   (refine CU hRm (h:=?_);simp only [z,seval])
   (refine Qf ?_;simp only [z,seval])
 | true =>
 rw [c4] at hRm
 have e0:firstB w me m=(bif (bS w me m).2.2==0 then (bZ w me m,0) else (w,(bS w me m).2.2)):=by simp only [firstB,c0,c1,c2,c3,c4,Bool.true_and,cond_true,Bool.not_false]
 rw [e0]
 clear e0
 simp only [full] at c3
 refine Qs func141 ?_
 intro w0 M0
 simp only [f141,lf,z,seval]
 (refine CU hP (h:=?_);simp only [z,seval])
 simp only [c0,z,seval]
 (refine CU hPr (h:=?_);simp only [z,seval])
 (refine CU hMy (h:=?_);simp only [z,seval])
 simp only [c2,c3,z,seval]
 (refine CU hRm (h:=?_);simp only [z,seval])
 (refine CU hD (h:=?_);simp only [z,seval])
 (refine CU hS (h:=?_);simp only [z,seval])
 cases c5:((bS w me m).2.2==0) with
 | false =>
   simp only [c5,z,seval]
   (refine Qf ?_;simp only [z,seval])
 | true =>
 simp only [c5,z,seval]
 first
  | (refine OPC_ok ?_ ?_
     ·exact okMap _ (fun a=>rfl) (by omega)
     simp only [z,seval]
     refine OPC_ok ?_ ?_
     ·simp;omega
     simp only [e1,z,seval])
  | ((refine Qw 4 ?_;simp only [z,seval])
     refine DOC_ok ?_ ?_
     ·exact okMap _ (fun a=>rfl) (by omega)
     simp only [z,seval]
     refine DOC_ok ?_ ?_
     ·simp;omega
     simp only [z,seval]
     (refine ⟨by kernel_rfl,?_⟩)
     simp only [e1,z,seval])
 first
  | (refine OPC_ok ?_ ?_
     ·exact okMap _ (fun a=>rfl) (by omega)
     simp only [z,seval]
     refine OPC_ok ?_ ?_
     ·simp;omega
     simp only [e2,z,seval])
  | ((refine Qw 4 ?_;simp only [z,seval])
     refine DOC_ok ?_ ?_
     ·exact okMap _ (fun a=>rfl) (by omega)
     simp only [z,seval]
     refine DOC_ok ?_ ?_
     ·simp;omega
     simp only [z,seval]
     (refine ⟨by kernel_rfl,?_⟩)
     simp only [e2,z,seval])
 (refine CU hW (h:=?_);simp only [z,seval])
 (refine CU hL (h:=?_);simp only [z,seval])
 (refine CU hSn (h:=?_);simp only [z,seval])
 (refine Qf ?_;simp only [z,seval])
theorem rShareB_spec (w:World) (me:Int) (m:Msg) {N:Nat} (hw:w.fit N) (h5:21≤N) (hN:N≤400000000000) (hme:U me) (hm:m.ok) (hr:Right10 w.people=true) (hb7:Right07 w.box=true):Spec PP GG 142 [w.v,u32 me,m.v] (.tup [(shareB w me m).1.v,i64 (shareB w me m).2]) []:=by
 have hP:=rPerson_spec w hw (by omega) hr me hme
 have hU:(personW w me).runs.length≤N:=personW_runs hw me
 have hO:=rOpen_spec w hw (by omega) hb7 (personW w me).key 8 m.more
 have hRm:=rRoom_spec w 0 1 hw.broom hw.nroom (by have:=hw.rows;omega) (by have:=hw.grams;omega)
 rw [← bO] at hO
 have hk:U (bO w me m).1.k:=(openW_ok hw _ _ _).2.2.2.2.1
 have hS:∀ i,(hi:i < (personW w me).runs.length)→Spec PP GG 199 [w.v,(personW w me).v,i64 i,Run.v ⟨(personW w me).runs[i].proto,(personW w me).runs[i].role,(personW w me).runs[i].peer,(personW w me).runs[i].mine,(personW w me).runs[i].their,(personW w me).runs[i].m,(bO w me m).1.k,(personW w me).runs[i].t,3⟩] (withW w (setRun (personW w me) i (doneR (runAt (personW w me).runs i) (bO w me m).1.k))).v []:=fun i hi=>by
  have:=rWith15_spec w hw (by omega) hr (personW w me) (personW_ok hw me).1 i hi (by omega) (doneR (runAt (personW w me).runs i) (bO w me m).1.k)
  rw [runAt_get hi] at this ⊢
  exact this
 have hL:∀ i,(hi:i < (personW w me).runs.length)→Spec PP GG 130 [(withW w (setRun (personW w me) i (doneR (runAt (personW w me).runs i) (bO w me m).1.k))).v,Event.v ⟨4,2,2,(personW w me).runs[i].peer,me,(bO w me m).1.k,0,(personW w me).runs[i].m,(personW w me).runs[i].mine,(personW w me).clock⟩] (bCom w me i (bO w me m).1.k).v []:=fun i hi=>by
  have hfit:(withW w (setRun (personW w me) i (doneR (runAt (personW w me).runs i) (bO w me m).1.k))).fit N:=set_fit hw me i (doneR_ok (runAt_ok hw me i) hk)
  have:=rLog_spec _ hfit (by omega) ⟨4,2,2,(runAt (personW w me).runs i).peer,me,(bO w me m).1.k,0,(runAt (personW w me).runs i).m,(runAt (personW w me).runs i).mine,(personW w me).clock⟩
  rw [bCom]
  rw [runAt_get hi] at this ⊢
  exact this
 have hSn:∀ i,(hi:i < (personW w me).runs.length)→Spec PP GG 131 [(bCom w me i (bO w me m).1.k).v,u32 (personW w me).runs[i].peer,Msg.v ⟨9,m.run,0,0,0,m.box,0⟩] (.tup [(bX w me m i (bO w me m).1.k).v,i64 (sendW (bCom w me i (bO w me m).1.k) (runAt (personW w me).runs i).peer ⟨9,m.run,0,0,0,m.box,0⟩).2]) []:=fun i hi=>by
  have:=rSend_spec (bCom w me i (bO w me m).1.k) (bCom_fit hw hN hme i hk) (by omega) (runAt (personW w me).runs i).peer ⟨9,m.run,0,0,0,m.box,0⟩ (msg9_ok hm)
  rw [← bX] at this
  rw [runAt_get hi] at this ⊢
  exact this
 have hfa := @first_at (personW w me).runs (waitM 2 2 m.run)
 have hfn := @first_none (personW w me).runs (waitM 2 2 m.run)
 have hsh:shareB w me m=match (personW w me).runs.findIdx? (waitM 2 2 m.run) with
  | none=>(w,9)
  | some i=>bif (bO w me m).2 && (bO w me m).1.n==(runAt (personW w me).runs i).mine then (bif roomW w 0 1 then (bX w me m i (bO w me m).1.k,0) else (w,10)) else (w,6):=rfl
 clear hw hr hb7 hm hk
 generalize hq:bO w me m=q at *
 generalize hp:personW w me=p at *
 obtain ⟨⟨qn,qm,qa,qb,qk,qt,qh⟩,q2⟩:=q
 refine Qs func142 ?_
 intro w0 M0
 simp only [f142,lf,z,seval]
 (refine CU hP (h:=?_);simp only [z,seval])
 refine RUNs_rangeS (p.runs.length) (fun i (_:Unit) => ∀ j,j < i→waitM 2 2 m.run (runAt p.runs j)=false) (fun i _=>[(9,i64 i)]) (fun i _=>[]) () ?_ (by simp only [z,seval];exact wk) rfl ?_
 ·intro j h;exact absurd h (Nat.not_lt_zero _)
 rintro ⟨i,_,hi,hw'⟩
 simp only [z,seval]
 first|refine brk (fun h=>?_) (fun h=>?_)|fail
 ·have hlt:i < p.runs.length:=by have:=of_decide_eq_true h;omega
  have hg:=runAt_get hlt
  have hS:=hS i hlt
  have hL:=hL i hlt
  have hSn:=hSn i hlt
  simp only [h,getMap Run.v p.runs hlt,z,seval]
  cases c:waitM 2 2 m.run p.runs[i] with
  | true =>
    have e:=hfa hlt (by rw [hg];exact c) hw'
    rw [e] at hsh
    simp only [hg] at hsh
    simp only [waitM,isRun,Bool.and_eq_true] at c
    simp only [c.1.1,c.1.2.1,c.1.2.2,c.2,z,seval]
    (refine CU hO (h:=?_);simp only [z,seval])
    cases d1:q2 with
    | false =>
      rw [d1] at hsh
      simp only [d1,z,seval]
      (refine Qf ?_;simp only [z,seval])
      simp only [hsh,Bool.false_and,cond_false,z,seval]
    | true =>
    rw [d1] at hsh
    simp only [d1,z,seval]
    cases d2:(qn==p.runs[i].mine) with
    | false =>
      rw [d2] at hsh
      simp only [d2,z,seval]
      (refine Qf ?_;simp only [z,seval])
      simp only [hsh,Bool.true_and,cond_false,z,seval]
    | true =>
      rw [d2] at hsh
      simp only [d2,z,seval]
      (refine CU hRm (h:=?_);simp only [z,seval])
      cases d3:roomW w 0 1 with
      | false =>
        rw [d3] at hsh
        simp only [d3,z,seval]
        (refine Qf ?_;simp only [z,seval])
        simp only [hsh,Bool.true_and,cond_true,cond_false,z,seval]
      | true =>
        rw [d3] at hsh
        simp only [d3,z,seval]
        (refine CU hS (h:=?_);simp only [z,seval])
        (refine CU hL (h:=?_);simp only [z,seval])
        (refine CU hSn (h:=?_);simp only [z,seval])
        (refine Qf ?_;simp only [z,seval])
        simp only [hsh,Bool.true_and,cond_true,z,seval]
  | false =>
    have hs:=findIdx_none_take hlt hw' c
    simp only [waitM,isRun] at c
    cases c1:(p.runs[i].proto==2)<;>cases c2:(p.runs[i].role==2)<;>cases c3:(p.runs[i].state==1)<;>cases c4:(p.runs[i].m==m.run)
    all_goals
     simp only [c1,c2,c3,c4,z,seval]
     first
      | (exfalso;rw [c1,c2,c3,c4] at c;exact absurd c (by decide))
      | (simp only [w64s (i:=i) (by omega),z,seval]
         refine NX () ?_ (by rfl) hlt hs
         first|exact wk|(simp only [z,seval];exact wk))
 ·have:i=p.runs.length:=by have:=of_decide_eq_false h;omega
  subst this
  simp only [h,z,seval]
  rw [hfn hw'] at hsh
  (refine Qf ?_;simp only [z,seval])
  simp only [hsh,z,seval]
def msgFold (m:Msg):List Field→Option Msg
 | []=>some m
 | f::r=>bif f.data.length==1 && hasM m.kind f.tag then msgFold (setTag m f.tag (f.data.getD 0 0)) r else none
def msgGetR (l:List Int):Msg×Int:=bif (getF l).2==0 then (bif headOk (getF l).1 then (match msgFold (kindM (headK (getF l).1)) (getF l).1.tail with
 | none=>(zMsg,2)
 | some m=>bif decide ((msgPut m).1=l) then (m,0) else (zMsg,2)) else (zMsg,4)) else (zMsg,(getF l).2)
theorem flat_fields:∀ (f:List Field) (k:Nat),(∀ x∈f,fieldOk x)→f.length≤k→fieldsM k (flatAll f)=(f,0):=by
 intro f
 induction f with
 | nil=>intro k _ _;unfold fieldsM;rfl
 | cons g f ih =>
   intro k hf hk
   cases k with
   | zero=>simp at hk
   | succ k =>
     obtain ⟨g1,g2,g3⟩:=hf g (by simp)
     have e:flatAll (g::f)=g.tag::(g.data.length:Int)::(g.data++flatAll f):=by simp [flatAll,flatOne]
     unfold fieldsM
     rw [e]
     have hb:fieldBad (g.tag::(g.data.length:Int)::(g.data++flatAll f))=false:=by
      simp only [fieldBad,Bool.or_eq_false_iff,decide_eq_false_iff_not,List.getD_cons_zero,List.getD_cons_succ,List.length_cons,List.length_append]
      exact ⟨by omega,by omega,by omega,by omega,by omega⟩
     have hd:(g.tag::(g.data.length:Int)::(g.data++flatAll f)).drop (2 + g.data.length)=flatAll f:=by
      rw [Nat.add_comm];show (g.data++flatAll f).drop g.data.length=_;rw [List.drop_left]
     have hd2:(g.tag::(g.data.length:Int)::(g.data++flatAll f)).drop 2=g.data++flatAll f:=rfl
     simp only [List.isEmpty_cons,cond_false,hb,List.getD_cons_zero,List.getD_cons_succ,Int.toNat_natCast]
     rw [hd,hd2,ih k (fun x hx=>hf x (by simp [hx])) (by simp at hk;omega),List.take_left]
     rfl
theorem seq_of {m:Msg} (h:msgMay m=true):msgSeq (kindM m.kind) tags (bodyF m)=some m:=by
 have hk:=kind9 (may_kd h)
 obtain ⟨k,run,a,b,nonce,box,more⟩:=m
 simp only at hk
 rcases hk with rfl|rfl|rfl|rfl|rfl|rfl|rfl|rfl|rfl
 all_goals
  simp [msgMay,tags,hasM,msgWord] at h
  simp [msgSeq,bodyF,tags,hasM,msgWord,kindM,setTag,h]
theorem fold_of {m:Msg} (h:msgMay m=true):msgFold (kindM m.kind) (bodyF m)=some m:=by
 have hk:=kind9 (may_kd h)
 obtain ⟨k,run,a,b,nonce,box,more⟩:=m
 simp only at hk
 rcases hk with rfl|rfl|rfl|rfl|rfl|rfl|rfl|rfl|rfl
 all_goals
  simp [msgMay,tags,hasM,msgWord] at h
  simp [msgFold,bodyF,tags,hasM,msgWord,kindM,setTag,h]
theorem fold_kind:∀ (fs:List Field) (m m':Msg),msgFold m fs=some m'→m'.kind=m.kind
 | [],m,m',h=>by simp only [msgFold,Option.some.injEq] at h;rw [h]
 | f::r,m,m',h=>by
   rw [msgFold] at h
   cases c:f.data.length==1 && hasM m.kind f.tag
   ·rw [c] at h;cases h
   ·rw [c] at h
    have:=fold_kind r _ m' h
    rw [this,setTag_kind]
theorem field_one {t w:Int} (h:1≤t∧t≤255):fieldOk ⟨t,[w]⟩:=⟨h.1,h.2,by simp⟩
theorem tags_ok {t:Int} (h:t∈tags):1≤t∧t≤255:=by
 simp only [tags,List.mem_cons,List.not_mem_nil,or_false] at h;omega
theorem bodyF_ok (m:Msg):(∀ x∈((⟨1,[m.kind]⟩:Field)::bodyF m),fieldOk x)∧(bodyF m).length≤6:=by
 constructor
 ·intro x hx
  rcases List.mem_cons.1 hx with rfl|hx
  ·exact field_one (by omega)
  ·simp only [bodyF,List.mem_map,List.mem_filter] at hx
   obtain ⟨t,⟨ht,_⟩,rfl⟩:=hx
   exact field_one (tags_ok ht)
 ·simp only [bodyF,List.length_map]
  exact Nat.le_trans (List.length_filter_le _ _) (by decide)
theorem getF_msg (m:Msg):getF (msgWs m)=(⟨1,[m.kind]⟩::bodyF m,0):=by
 have h:=bodyF_ok m
 have h2:=msgWs_len m
 rw [getF,decide_eq_false (by omega),cond_false,msgWs_flat]
 exact flat_fields _ 8 h.1 (by simp only [List.length_cons];omega)
theorem msgGet_eq {l:List Int} (hu:∀ x∈l,U x):msgGetR l=msgGet l:=by
 have key := @msgGet_ok l
 rw [msgGetR]
 rw [msgGet] at key ⊢
 cases c:((getF l).2==0)
 ·rfl
 rw [c] at key
 simp only [cond_true] at key ⊢
 cases c2:headOk (getF l).1
 ·rfl
 rw [c2] at key
 simp only [cond_true] at key ⊢
 obtain ⟨fs,e,h1,h2⟩:=head_form c2
 cases c3:msgSeq (kindM (headK (getF l).1)) tags (getF l).1.tail with
 | some m =>
   rw [c3] at key
   obtain ⟨k1,k2⟩:=key hu rfl
   rw [e,List.tail_cons] at c3
   simp only [headK_cons] at c3 h1 h2
   obtain ⟨s1,s2,s3⟩:=seq_some ⟨h1,h2⟩ c3
   have hf:=fold_of k1
   rw [← s1,s2] at hf
   rw [e,List.tail_cons]
   simp only [headK_cons,hf]
   have hp:(msgPut m).1=l:=by rw [msgPut,k1];exact k2.symm
   rw [decide_eq_true hp];rfl
 | none =>
   cases c4:msgFold (kindM (headK (getF l).1)) (getF l).1.tail with
   | none=>rfl
   | some m =>
     simp only
     cases c5:decide ((msgPut m).1=l)
     ·rfl
     ·exfalso
      have hp:=of_decide_eq_true c5
      have hk:m.kind=headK (getF l).1:=fold_kind _ _ _ c4
      have hm:msgMay m=true:=by
       cases hm:msgMay m
       ·rw [msgPut,hm] at hp
        simp only [cond_false] at hp
        subst hp
        have:headOk (getF []).1=false:=rfl
        rw [this] at c2;cases c2
       ·rfl
      rw [msgPut,hm] at hp
      simp only [cond_true] at hp
      subst hp
      rw [getF_msg] at c3
      simp only [headK_cons,List.tail_cons,seq_of hm] at c3
      cases c3
theorem drop_ne {l:List Int} {i:Nat} (h:i < l.length):l.drop i≠[]:=by
 rw [List.drop_eq_getElem_cons h];exact List.cons_ne_nil _ _
theorem rGet02_spec (l:List Int) (hu:∀ x∈l,U x) (hl:l.length≤1099511627776):Spec PP GG 195 [wordsV l] (.tup [fieldsV (getF l).1,i64 (getF l).2]) []:=by
 refine Qs func195 ?_
 intro w0 M0
 simp only [f195,lf,z,seval]
 cases c0:decide ((l.length:Int) > 64) with
 | true =>
   simp only [c0,z,seval]
   (refine Qf ?_;simp only [z,seval])
   simp only [getF,c0,cond_true,List.map_nil]
 | false =>
 have hg:getF l=fieldsM 8 l:=by simp only [getF,c0,cond_false]
 rw [hg]
 have h64:l.length≤64:=by have:=of_decide_eq_false c0;omega
 simp only [c0,z,seval]
 (refine RUNs_row0 4 2 (h:=?_);simp only [z,seval])
 refine RUNs_rangeS (9) (fun i (s:Nat×List Field)=>s.1≤l.length∧s.2.length=i∧i≤8∧fieldsM 8 l=extF s.2 (fieldsM (8 - i) (l.drop s.1))) (fun i s=>[(4,.row 0 i),(5,i64 s.1)]) (fun i s=>[(0,.row 2 (s.2.map Field.v) i false)]) (0,[]) ?_ (by simp only [z,seval];exact wk) rfl ?_
 ·refine ⟨Nat.zero_le _,rfl,Nat.zero_le _,?_⟩
  exact (extF_nil 8 l).symm
 rintro ⟨i,⟨at_,out⟩,hi9,hi,ho,hi8,hm⟩
 simp only at hi ho hi8 hm
 simp only [z,seval]
 first|refine brk (fun h=>?_) (fun h=>?_)|fail
 ·have hlt:at_ < l.length:=by have:=of_decide_eq_true h;omega
  have hne:=drop_ne hlt
  simp only [h,ho,z,seval]
  cases c1:((i:Int)==8) with
  | true =>
    obtain rfl:i=8:=by have:(i:Int)=8:=by simpa using c1
                       omega
    simp only [c1,z,seval]
    (refine Qf ?_;simp only [z,seval])
    rw [hm,fieldsM_full hne];rfl
  | false =>
  have hi7:i < 8:=by have:(i:Int)≠8:=by simpa using c1
                     omega
  obtain ⟨k,hk⟩:∃ k,8 - i=k + 1:=⟨7 - i,by omega⟩
  have hk2:8 - (i + 1)=k:=by omega
  rw [hk] at hm
  simp only [c1,w64s (i:=at_) (by omega),z,seval]
  cases c2:decide (((at_ + 1:Nat):Int)≥l.length) with
  | true =>
    simp only [c2,z,seval]
    (refine Qf ?_;simp only [z,seval])
    rw [hm,fieldsM_bad hne (by have:=of_decide_eq_true c2;simp only [fieldBad,List.length_drop];rw [decide_eq_true (by omega)];rfl)];rfl
  | false =>
  have hlt1:at_ + 1 < l.length:=by have:=of_decide_eq_false c2;omega
  have g0:=drop_0 hlt
  have g1:=drop_1 hlt1
  have u0:=hu _ (List.getElem_mem hlt)
  have u1:=hu _ (List.getElem_mem hlt1)
  generalize hx:l[at_]=x at g0 u0
  generalize hy:l[at_ + 1]=y at g1 u1
  have hgx:(l.map u32)[at_]?=some (u32 x):=by rw [getMap u32 l hlt,hx]
  have hgy:(l.map u32)[at_ + 1]?=some (u32 y):=by rw [getMap u32 l hlt1,hy]
  have hw1:IntKind.i64.wrap ((at_:Int) + 1)=((at_ + 1:Nat):Int):=w64s (by omega)
  simp only [c2,hgx,hgy,hw1,z,seval]
  have hbad:(x=0∨x > 255∨y > 16∨(at_:Int) + 2 + y > l.length)→fieldBad (l.drop at_)=true:=by
   intro hb
   have:=u0.1
   simp only [fieldBad,g0,g1,List.length_drop,Bool.or_eq_true,decide_eq_true_eq]
   omega
  refine brk (fun c3=>?_) (fun c3=>?_)
  rotate_left 1
  ·simp only [c3,z,seval]
   (refine Qf ?_;simp only [z,seval])
   rw [hm,fieldsM_bad hne (hbad (.inl (by simpa using c3)))];rfl
  simp only [c3,hgx,hgy,hw1,z,seval]
  refine brk (fun c4=>?_) (fun c4=>?_)
  rotate_left 1
  ·simp only [c4,z,seval]
   (refine Qf ?_;simp only [z,seval])
   rw [hm,fieldsM_bad hne (hbad (.inr (.inl (of_decide_eq_true c4))))];rfl
  simp only [c4,hgx,hgy,hw1,z,seval]
  refine brk (fun c5=>?_) (fun c5=>?_)
  rotate_left 1
  ·simp only [c5,z,seval]
   (refine Qf ?_;simp only [z,seval])
   rw [hm,fieldsM_bad hne (hbad (.inr (.inr (.inl (of_decide_eq_true c5)))))];rfl
  have hy16:=of_decide_eq_false c5
  obtain ⟨n,rfl⟩:=Int.eq_ofNat_of_zero_le u1.1
  have hw2:IntKind.i64.wrap ((at_:Int) + 2)=((at_ + 2:Nat):Int):=by rw [w64 (by omega) (by omega)];omega
  have hw3:IntKind.i64.wrap (n:Int)=(n:Int):=w64 (by omega) (by omega)
  have hw4:IntKind.i64.wrap (((at_ + 2:Nat):Int) + (n:Int))=((at_ + 2 + n:Nat):Int):=by rw [w64 (by omega) (by omega)];omega
  simp only [c5,hgx,hgy,hw1,hw2,hw3,hw4,z,seval]
  cases c6:decide (((at_ + 2 + n:Nat):Int) > l.length) with
  | true =>
    simp only [c6,z,seval]
    (refine Qf ?_;simp only [z,seval])
    rw [hm,fieldsM_bad hne (hbad (.inr (.inr (.inr (by have:=of_decide_eq_true c6;omega)))))];rfl
  | false =>
  have hle:at_ + 2 + n≤l.length:=by have:=of_decide_eq_false c6;omega
  simp only [c6,hgx,hgy,hw1,hw2,hw3,hw4,z,seval]
  (refine Qw 4 ?_;simp only [z,seval])
  simp only [hgx,hgy,hw1,hw2,hw3,hw4,z,seval]
  refine DOC_ok (by first|exact slc_ok2 (by omega) hle (fun a=>rfl)|(rw [← List.length_map (f:=u32)];exact slc_ok2 (by omega) hle (fun a=>rfl))) ?_
  have hsub:(l.take (at_ + 2 + n)).drop (at_ + 2)=((l.drop at_).drop 2).take n:=by rw [List.drop_take,Nat.add_sub_cancel_left,List.drop_drop]
  simp only [hsub,hgx,hgy,hw1,hw2,hw3,hw4,z,seval]
  have hlen:(((l.drop at_).drop 2).take n).length=n:=by rw [List.length_take,List.length_drop,List.length_drop];omega
  refine DOC_ok ?_ ?_
  ·exact okMap _ (fun a=>rfl) (by omega)
  simp only [z,seval]
  refine DOC_ok ?_ ?_
  ·simp;omega
  simp only [z,seval]
  (refine ⟨by kernel_rfl,?_⟩)
  simp only [hw2,hw4,z,seval]
  have hb:fieldBad (l.drop at_)=false:=by
   have:=u0.1
   simp only [fieldBad,g0,g1,List.length_drop,Bool.or_eq_false_iff,decide_eq_false_iff_not]
   have e3:¬ x=0:=by simpa using c3
   have e4:=of_decide_eq_false c4
   omega
  have e:out.map Field.v++[Field.v ⟨x,((l.drop at_).drop 2).take n⟩]=(out++[(⟨x,((l.drop at_).drop 2).take n⟩:Field)]).map Field.v:=by simp
  simp only [mv] at e
  simp only [e,z,seval]
  have hlt9:i < 9:=by omega
  (refine NX (at_ + 2 + n,out++[⟨x,((l.drop at_).drop 2).take n⟩]) ?_ (by rfl) hlt9 ?_;simp only [z,seval];exact wk)
  refine ⟨hle,by simp only [List.length_append,List.length_singleton,ho],by show i + 1≤8;omega,?_⟩
  show fieldsM 8 l=extF (out++[⟨x,((l.drop at_).drop 2).take n⟩]) (fieldsM (8 - (i + 1)) (l.drop (at_ + 2 + n)))
  rw [hm,fieldsM_good hne hb,g0,g1,Int.toNat_natCast,extF_ext,hk2]
  simp only [List.drop_drop,Nat.add_assoc]
 ·have:at_=l.length:=by have:=of_decide_eq_false h;omega
  subst this
  simp only [h,z,seval]
  (refine Qf ?_;simp only [z,seval])
  rw [hm,List.drop_length,fieldsM_nil,extF]
  simp
theorem rSame01_ne (a b:List Int) (ha:a.length≤1099511627776) (hb:b.length≤1099511627776):Spec PP GG 79 [wordsV a,wordsV b] (.bool (decide (a=b))) []:=by
 refine Qs func79 ?_
 intro w0 M0
 simp only [f79,lf,z,seval]
 cases c:((a.length:Int)==b.length) with
 | false =>
   simp only [c,z,seval]
   (refine Qf ?_;simp only [z,seval])
   have:¬ a=b:=by rintro rfl;simp at c
   rw [decide_eq_false this]
 | true =>
 have hab:a.length=b.length:=by have:(a.length:Int)=b.length:=by simpa using c
                                omega
 simp only [c,z,seval]
 refine RUNs_rangeS (a.length) (fun i (_:Unit)=>a.take i=b.take i) (fun i _=>[(5,i64 i)]) (fun i _=>[]) () ?_ (by simp only [z,seval];exact wk) rfl ?_
 ·simp
 rintro ⟨i,_,hi,hw⟩
 simp only [z,seval]
 first|refine brk (fun h=>?_) (fun h=>?_)|fail
 ·have hlt:i < a.length:=by have:=of_decide_eq_true h;omega
  have hlt2:i < b.length:=by omega
  simp only [h,z,seval]
  (refine Qw 0 ?_;simp only [z,seval])
  simp only [getMap u32 a hlt,getMap u32 b hlt2,z,seval]
  (refine ⟨by kernel_rfl,?_⟩)
  cases d:(a[i]==b[i]) with
  | true =>
    simp only [d,w64s (i:=i) (by omega),z,seval]
    (refine NX () ?_ (by rfl) hlt ?_;simp only [z,seval];exact wk)
    rw [List.take_succ_eq_append_getElem hlt,List.take_succ_eq_append_getElem hlt2,hw]
    have:a[i]=b[i]:=by simpa using d
    rw [this]
  | false =>
    simp only [d,z,seval]
    (refine Qf ?_;simp only [z,seval])
    have:¬ a=b:=by
     rintro rfl
     simp at d
    rw [decide_eq_false this]
 ·have:i=a.length:=by have:=of_decide_eq_false h;omega
  subst this
  simp only [h,z,seval]
  (refine Qf ?_;simp only [z,seval])
  rw [List.take_length,hab,List.take_length] at hw
  rw [decide_eq_true hw]
theorem msgPut_len' (m:Msg):(msgPut m).1.length≤1099511627776:=by have:=msgPut_len m;omega
theorem fold_step {m:Msg} {f:Field} {r:List Field} (h:(f.data.length==1 && hasM m.kind f.tag)=true):msgFold m (f::r)=msgFold (setTag m f.tag (f.data.getD 0 0)) r:=by rw [msgFold,h];rfl
theorem fold_stop {m:Msg} {f:Field} {r:List Field} (h:(f.data.length==1 && hasM m.kind f.tag)=false):msgFold m (f::r)=none:=by rw [msgFold,h];rfl
def endR (l:List Int):Option Msg→Msg×Int
 | none=>(zMsg,2)
 | some m=>bif decide ((msgPut m).1=l) then (m,0) else (zMsg,2)
theorem setTag_ok {m:Msg} (h:m.ok) {w:Int} (hw:U w) (t:Int):(setTag m t w).ok:=by
 obtain ⟨h1,h2,h3,h4,h5,h6,h7⟩:=h
 unfold setTag
 cases (t==2)<;>cases (t==3)<;>cases (t==4)<;>cases (t==5)<;>cases (t==6)<;>cases (t==7)<;>exact ⟨by assumption,by assumption,by assumption,by assumption,by assumption,by assumption,by assumption⟩
theorem has_tag {k t:Int} (h:hasM k t=true):t=2∨t=3∨t=4∨t=5∨t=6∨t=7:=by
 revert h
 unfold hasM
 cases (k==1)<;>cases (k==2 || (k==3 || (k==4 || k==5)))<;>cases (k==6)<;>cases (k==7)<;>cases (k==8)<;>cases (k==9)<;>simp<;>omega
theorem rGet03_spec (l:List Int) (hu:∀ x∈l,U x) (hl:l.length≤1099511627776):Spec PP GG 134 [wordsV l] (.tup [(msgGet l).1.v,i64 (msgGet l).2]) []:=by
 have h1:=rGet02_spec l hu hl
 rw [← msgGet_eq hu,msgGetR]
 cases c1:((getF l).2==0) with
 | false =>
   refine Qs func134 ?_
   intro w0 M0
   simp only [f134,lf,z,seval]
   (refine CU h1 (h:=?_);simp only [z,seval])
   simp only [c1,z,seval]
   (refine Qf ?_;simp only [z,seval])
   rfl
 | true =>
 have hz:(getF l).2=0:=by simpa using c1
 rw [hz] at h1
 have hfl:(∀ x∈(getF l).1,∀ y∈x.data,U y)∧(getF l).1.length≤8:=by
  unfold getF at hz ⊢
  cases c3:decide ((l.length:Int) > 64)
  ·rw [c3,cond_false] at hz
   rw [cond_false]
   obtain ⟨f1,f2,f3⟩:=fields_flat 8 l (fieldsM 8 l).1 hu (Prod.ext rfl hz)
   exact ⟨fun x hx y hy=>hu y (by rw [← f1];simp only [flatAll,List.mem_flatMap];exact ⟨x,hx,by simp [flatOne,hy]⟩),f3⟩
  ·rw [c3] at hz;cases hz
 generalize hf:(getF l).1=f at h1 hfl
 cases c2:headOk f with
 | false =>
   refine Qs func134 ?_
   intro w0 M0
   simp only [f134,lf,z,seval]
   (refine CU h1 (h:=?_);simp only [z,seval])
   cases f with
   | nil =>
     simp only [List.map_nil,z,seval]
     (refine Qf ?_;simp only [z,seval])
     rfl
   | cons g fs =>
     have h0:0 < (g::fs).length:=by simp
     have hg:((g::fs).map Field.v)[0]?=some (Field.v g):=rfl
     simp only [mv] at hg
     have hlen:(((fs.length + 1:Nat):Int)==0)=false:=by simp;omega
     simp only [hlen,hg,z,seval]
     cases d1:(g.tag==1) with
     | false =>
       simp only [d1,z,seval]
       (refine Qf ?_;simp only [z,seval])
       rfl
     | true =>
     simp only [d1,hg,z,seval]
     cases d2:((g.data.length:Int)==1) with
     | false =>
       simp only [d2,z,seval]
       (refine Qf ?_;simp only [z,seval])
       rfl
     | true =>
     have d2':(g.data.length==1)=true:=by simp at d2 ⊢;omega
     have e0:=one_of d2'
     have hk:(g.data.map u32)[0]?=some (u32 (g.data.getD 0 0)):=by rw [e0];rfl
     simp only [d2,hg,hk,z,seval]
     simp only [headOk,d1,d2',Bool.true_and,Bool.and_eq_false_iff,decide_eq_false_iff_not] at c2
     refine brk (fun d3=>?_) (fun d3=>?_)
     ·simp only [d3,hg,hk,z,seval]
      have d4:decide (g.data.getD 0 0 > 9)=true:=by have:=of_decide_eq_false d3;exact decide_eq_true (by omega)
      simp only [d4,z,seval]
      (refine Qf ?_;simp only [z,seval])
      rfl
     ·simp only [d3,z,seval]
      (refine Qf ?_;simp only [z,seval])
      rfl
 | true =>
   obtain ⟨fs,e,k1,k2⟩:=head_form c2
   generalize hk:headK f=k at e k1 k2
   subst e
   clear c2
   have e1:decide (k < 1)=false:=decide_eq_false (by omega)
   have e2:decide (k > 9)=false:=decide_eq_false (by omega)
   have hlen:(((fs.length + 1:Nat):Int)==0)=false:=by simp;omega
   have hg:((⟨1,[k]⟩::fs:List Field).map Field.v)[0]?=some (Field.v ⟨1,[k]⟩):=rfl
   simp only [mv] at hg
   simp only [headK_cons,List.tail_cons,cond_true]
   have kU:U k:=hfl.1 _ (List.mem_cons_self) k (by simp)
   have hd:∀ x∈fs,∀ y∈x.data,U y:=fun x hx=>hfl.1 x (List.mem_cons_of_mem _ hx)
   have h8:fs.length≤8:=by have:=hfl.2;simp only [List.length_cons] at this;omega
   suffices key:Spec PP GG 134 [wordsV l] (.tup [(endR l (msgFold (kindM k) fs)).1.v,i64 (endR l (msgFold (kindM k) fs)).2]) [] by
    cases hq:msgFold (kindM k) fs<;>rw [hq] at key<;>exact key
   clear hfl hf hz c1 hk
   refine Qs func134 ?_
   intro w0 M0
   simp only [f134,lf,z,seval]
   (refine CU h1 (h:=?_);simp only [z,seval])
   simp only [hlen,hg,e1,e2,List.map_cons,List.map_nil,z,seval]
   refine RUNs_rangeS (fs.length) (fun j (m:Msg)=>msgFold (kindM k) fs=msgFold m (fs.drop j)∧m.kind=k∧m.ok) (fun j _=>[(7,i64 ((j + 1:Nat):Int))]) (fun _ m=>[(1,.var [u32 m.kind,u32 m.run,u32 m.a,u32 m.b,u32 m.nonce,u32 m.box,u32 m.more])]) (kindM k) ?_ (by simp only [z,seval];exact wk) rfl ?_
   ·exact ⟨rfl,rfl,kU,U0,U0,U0,U0,U0,U0⟩
   rintro ⟨j,m,hj,hm,hmk,hmo⟩
   simp only [z,seval]
   cases c:decide (((j + 1:Nat):Int) < ((fs.length + 1:Nat):Int)) with
   | true =>
     have hlt:j < fs.length:=by have:=of_decide_eq_true c;omega
     have u0:=hd _ (List.getElem_mem hlt)
     have hdr:fs.drop j=fs[j]::fs.drop (j + 1):=List.drop_eq_getElem_cons hlt
     rw [hdr] at hm
     have hgj:=getMap Field.v fs hlt
     generalize fs[j]=g at hm hgj u0
     simp only [mv] at hgj
     have hH:=rHas_spec m.kind g.tag
     simp only [c,z,seval]
     (refine Qw 0 ?_;simp only [z,seval])
     simp only [hgj,z,seval]
     cases d1:((g.data.length:Int)==1) with
     | false =>
       have d1':(g.data.length==1)=false:=by simp at d1 ⊢;omega
       simp only [d1,z,seval]
       (refine ⟨by kernel_rfl,?_⟩)
       (refine Qf ?_;simp only [z,seval])
       simp only [hm,fold_stop (by rw [d1'];rfl),endR,zMsg,z,seval]
     | true =>
     have d1':(g.data.length==1)=true:=by simp at d1 ⊢;omega
     have hk0:(g.data.map u32)[0]?=some (u32 (g.data.getD 0 0)):=by rw [one_of d1'];rfl
     have u00:U (g.data.getD 0 0):=u0 _ (by have:=one_of d1';rw [this];simp)
     simp only [d1,hgj,z,seval]
     (refine DU hH (h:=?_);simp only [z,seval])
     (refine ⟨by kernel_rfl,?_⟩)
     cases d2:hasM m.kind g.tag with
     | false =>
       simp only [d2,z,seval]
       (refine Qf ?_;simp only [z,seval])
       simp only [hm,fold_stop (by rw [d2,Bool.and_false]),endR,zMsg,z,seval]
     | true =>
     rw [fold_step (by rw [d1',d2];rfl)] at hm
     have hmo':=setTag_ok hmo u00 g.tag
     have hmk':=setTag_kind m g.tag (g.data.getD 0 0)
     simp only [d2,hgj,hk0,z,seval]
     have ht:=has_tag d2
     generalize g.data.getD 0 0=wd at *
     generalize g.tag=tg at *
     rcases ht with rfl|rfl|rfl|rfl|rfl|rfl
     all_goals
      simp only [w64s (i:=j + 1) (by omega),z,seval]
      refine NX (setTag m _ wd) ?_ (by rfl) hlt ⟨hm,hmk'.trans hmk,hmo'⟩
      simp only [setTag,Int.reduceBEq,cond_true,cond_false,z,seval]
      exact wk
   | false =>
     have:j=fs.length:=by have:=of_decide_eq_false c;omega
     subst this
     rw [List.drop_length,msgFold] at hm
     have hP:=rPut_spec m hmo
     have hS:=rSame01_ne (msgPut m).1 l (msgPut_len' m) hl
     simp only [c,z,seval]
     (refine CU hP (h:=?_);simp only [z,seval])
     (refine CU hS (h:=?_);simp only [z,seval])
     cases d:decide ((msgPut m).1=l) with
     | false =>
       simp only [d,z,seval]
       (refine Qf ?_;simp only [z,seval])
       simp only [hm,endR,d,cond_false,zMsg,z,seval]
     | true =>
       simp only [d,z,seval]
       (refine Qf ?_;simp only [z,seval])
       simp only [hm,endR,d,cond_true,z,seval]
theorem toldE {w:World} {key h:Int} (ho:(openW w key 4 h).2=true):(openW w key 4 h).1=⟨(openW w key 4 h).1.n,0,0,0,0,0,0⟩:=by
 revert ho
 unfold openW
 cases hb:boxOpen w.box key 4 h with
 | none=>intro ho;cases ho
 | some l =>
   simp only [partGet]
   cases (l.length==(partWs 4 zPart).length)
   ·intro ho;exact absurd ho (by simp [label?])
   ·intro _;rfl
def fresh05 (now t w:Int):Bool:=bif decide (now≥1073741824) || decide (t≥1073741824) then false else bif decide (now - t < 0) then decide (-(now - t)≤w) else decide (now - t≤w)
theorem fresh05_eq (now t w:Int):fresh05 now t w=freshM now t w:=by
 unfold fresh05 freshM
 by_cases h1:now≥1073741824
 ·simp [h1,show ¬ now < 1073741824 by omega]
 ·by_cases h2:t≥1073741824
  ·simp [h2,show ¬ t < 1073741824 by omega]
  ·rw [decide_eq_false h1,decide_eq_false h2,decide_eq_true (show now < 1073741824 by omega),decide_eq_true (show t < 1073741824 by omega)]
   simp only [Bool.or_false,cond_false,Bool.true_and]
   by_cases h3:now - t < 0
   ·rw [decide_eq_true h3]
    rw [Bool.eq_iff_iff]
    simp only [cond_true,decide_eq_true_eq,Bool.and_eq_true]
    constructor
    ·intro h4;constructor<;>omega
    ·intro h4;omega
   ·rw [decide_eq_false h3]
    rw [Bool.eq_iff_iff]
    simp only [cond_false,decide_eq_true_eq,Bool.and_eq_true]
    constructor
    ·intro h4;constructor<;>omega
    ·intro h4;omega
theorem rtick_spec (now b:Int) (h1:U now) (h2:U b):Spec PP GG 71 [u32 now,u32 b] (u32 (tickM now b)) []:=by
 obtain ⟨a1,a2⟩:=h1
 obtain ⟨b1,b2⟩:=h2
 refine Qs func71 ?_
 intro w0 M0
 simp only [f71,lf,z,seval]
 simp only [wu64 (n:=now) (by omega) (by omega),wu64 (n:=b) (by omega) (by omega),wu64 (n:=now + b) (by omega) (by omega),z,seval]
 first|refine brk (fun h=>?_) (fun h=>?_)|fail
 ·simp only [h,z,seval]
  have h:=of_decide_eq_true h
  (refine Qf ?_;simp only [z,seval])
  simp only [tickM,if_neg (show ¬ now + b < 1073741824 by omega)]
 ·simp only [h,z,seval]
  have h:=of_decide_eq_false h
  have e:tickM now b=now + b:=by simp only [tickM];split<;>omega
  have hw:IntKind.u32.wrap (now + b)=now + b:=by rw [IntKind.wrap_u32];omega
  simp only [hw,z,seval]
  (refine Qf ?_;simp only [z,seval])
  simp only [e]
theorem rCut_spec (l:List Int) (a b:Int) (hl:l.length≤1099511627776):Spec PP GG 125 [wordsV l,i64 a,i64 b] (.tup [wordsV ((cutM l a b).getD []),.bool (cutM l a b).isSome]) []:=by
 have hgt:decide (a > b)=decide (b < a):=rfl
 cases c1:decide (a < 0) with
 | true =>
   have e:cutM l a b=none:=by unfold cutM;rw [c1];rfl
   rw [e]
   refine Qs func125 ?_
   intro w0 M0
   simp only [f125,lf,z,seval]
   simp only [c1,z,seval]
   (refine Qf ?_;simp only [z,seval])
   rfl
 | false =>
 cases c2:decide (b < a) with
 | true =>
   have e:cutM l a b=none:=by unfold cutM;rw [c1,c2];rfl
   rw [e]
   refine Qs func125 ?_
   intro w0 M0
   simp only [f125,lf,z,seval]
   simp only [c1,hgt,c2,z,seval]
   (refine Qf ?_;simp only [z,seval])
   rfl
 | false =>
 cases c3:decide (b > (l.length:Int)) with
 | true =>
   have e:cutM l a b=none:=by unfold cutM;rw [c1,c2,c3];rfl
   rw [e]
   refine Qs func125 ?_
   intro w0 M0
   simp only [f125,lf,z,seval]
   simp only [c1,hgt,c2,c3,z,seval]
   (refine Qf ?_;simp only [z,seval])
   rfl
 | false =>
   have d1:=of_decide_eq_false c1
   have d2:=of_decide_eq_false c2
   have d3:=of_decide_eq_false c3
   obtain ⟨a,rfl⟩:=Int.eq_ofNat_of_zero_le (show 0≤a by omega)
   obtain ⟨b,rfl⟩:=Int.eq_ofNat_of_zero_le (show 0≤b by omega)
   have e:cutM l a b=some ((l.take b).drop a):=by unfold cutM;rw [c1,c2,c3];rfl
   rw [e]
   obtain ⟨n,rfl⟩:∃ n,b=a + n:=⟨b - a,by omega⟩
   have hb:a + n≤l.length:=by omega
   clear e d1 d2 d3
   refine Qs func125 ?_
   intro w0 M0
   simp only [f125,lf,z,seval]
   simp only [c1,hgt,c2,c3,z,seval]
   (refine RUNs_row0 8 1 (h:=?_);simp only [z,seval])
   refine RUNs_rangeS (n) (fun _ (_:Unit)=>True) (fun i _=>[(8,.row 0 i),(9,i64 ((a + i:Nat):Int))]) (fun i _=>[(0,.row 1 (((l.drop a).take i).map u32) i false)]) () ?_ (by simp only [z,seval];exact wk) rfl ?_
   ·trivial
   rintro ⟨i,_,hi,_⟩
   simp only [z,seval]
   first|refine brk (fun h=>?_) (fun h=>?_)|fail
   ·have hlt:i < n:=by have:=of_decide_eq_true h;omega
    have hli:a + i < l.length:=by omega
    have g:=getMap u32 l hli
    have hli2:i < (l.drop a).length:=by rw [List.length_drop];omega
    have e:((l.drop a).take i).map u32++[u32 l[a + i]]=((l.drop a).take (i + 1)).map u32:=by
     rw [List.take_succ_eq_append_getElem hli2,List.map_append,List.getElem_drop];rfl
    have w1:IntKind.i64.wrap (((a + i:Nat):Int) + 1)=((a + (i + 1):Nat):Int):=by rw [w64 (by omega) (by omega)];omega
    simp only [h,g,z,seval]
    refine OPC_ok ?_ ?_
    ·simp [List.length_drop,List.length_take];omega
    simp only [e,w1,z,seval]
    (refine NX () ?_ (by rfl) hlt ?_;simp only [z,seval];exact wk)
    trivial
   ·have:i=n:=by have:=of_decide_eq_false h;omega
    subst this
    simp only [h,z,seval]
    (refine Qf ?_;simp only [z,seval])
    rw [List.drop_take,Nat.add_sub_cancel_left]
    rfl
theorem erase_ne {α:Type} {l:List α} {i k:Nat} (hk:k < l.length) (h:k≠i):(l.take (k + 1)).eraseIdx i=(l.take k).eraseIdx i++[l[k]]:=by
 have e:l.take (k + 1)=l.take k++[l[k]]:=List.take_succ_eq_append_getElem hk
 have hl:(l.take k).length=k:=by rw [List.length_take];omega
 rw [e]
 rcases Nat.lt_or_ge i k with h1|h1
 ·rw [List.eraseIdx_append_of_lt_length (by omega)]
 ·rw [List.eraseIdx_of_length_le (by rw [List.length_append,hl,List.length_singleton];omega),List.eraseIdx_of_length_le (by omega)]
theorem erase_eq {α:Type} {l:List α} {k:Nat} (hk:k < l.length):(l.take (k + 1)).eraseIdx k=(l.take k).eraseIdx k:=by
 have e:l.take (k + 1)=l.take k++[l[k]]:=List.take_succ_eq_append_getElem hk
 have hl:(l.take k).length=k:=by rw [List.length_take];omega
 rw [e,List.eraseIdx_append_of_length_le (l:=l.take k) (k:=k) (by omega),hl,Nat.sub_self,List.eraseIdx_of_length_le (l:=l.take k) (by omega)]
 simp
theorem erase_len {α:Type} (l:List α) (i k:Nat):((l.take k).eraseIdx i).length≤l.length:=by
 have:=List.length_eraseIdx_le (l.take k) i
 have:=List.length_take_le k l
 have:=List.length_take_le' k l
 omega
theorem room_le {n:Net}:decide ((n.grams.length:Int)≥n.room)=decide (n.room - (n.grams.length:Int) < 1):=by
 rw [decide_eq_decide];omega
theorem rTakeN_spec (n:Net) (i:Int) (hl:n.grams.length≤1000000000000):Spec PP GG 75 [n.v,i64 i] (.tup [(netTake n i).1.v,(netTake n i).2.1.v,i64 (netTake n i).2.2]) []:=by
 cases c1:decide (i < 0) with
 | true =>
   rw [take_no (.inl c1)]
   refine Qs func75 ?_
   intro w0 M0
   simp only [f75,lf,z,seval]
   simp only [c1,z,seval]
   (refine Qf ?_;simp only [z,seval])
   try rfl
 | false =>
 cases c2:decide (i≥(n.grams.length:Int)) with
 | true =>
   rw [take_no (.inr c2)]
   refine Qs func75 ?_
   intro w0 M0
   simp only [f75,lf,z,seval]
   simp only [c1,c2,z,seval]
   (refine Qf ?_;simp only [z,seval])
   try rfl
 | false =>
   obtain ⟨i,rfl⟩:=Int.eq_ofNat_of_zero_le (show 0≤i by have:=of_decide_eq_false c1;omega)
   have hlt:i < n.grams.length:=by have:=of_decide_eq_false c2;omega
   have gi:=getMap Gram.v n.grams hlt
   simp only [mv] at gi
   rw [take_at hlt]
   refine Qs func75 ?_
   intro w0 M0
   simp only [f75,lf,z,seval]
   simp only [c1,c2,z,seval]
   (refine RUNs_row0 7 2 (h:=?_);simp only [z,seval])
   refine RUNs_rangeS (n.grams.length) (fun k (s:List Gram)=>s=(n.grams.take k).eraseIdx i) (fun k s=>[(7,.row 3 s.length),(8,i64 k)]) (fun k s=>[(3,.row 2 (s.map Gram.v) s.length false)]) [] ?_ (by simp only [z,seval];exact wk) rfl ?_
   ·rfl
   rintro ⟨k,s,hk,hs⟩
   try simp only at hs
   simp only [z,seval]
   first|refine brk (fun h=>?_) (fun h=>?_)|fail
   ·have hkl:k < n.grams.length:=by have:=of_decide_eq_true h;omega
    have gk:=getMap Gram.v n.grams hkl
    simp only [mv] at gk
    have w1:=w64s (i:=k) (by omega)
    simp only [h,z,seval]
    by_cases hki:k=i
    ·subst hki
     simp only [beq_self_eq_true,w1,z,seval]
     (refine NX s ?_ (by rfl) hkl ?_;simp only [z,seval];exact wk)
     exact hs.trans (erase_eq hkl).symm
    ·have hb:((k:Int)==(i:Int))=false:=by simp only [beq_eq_false_iff_ne,ne_eq];omega
     have hsl:s.length≤n.grams.length:=by rw [hs];exact erase_len _ _ _
     have e:s.map Gram.v++[Gram.v n.grams[k]]=(s++[n.grams[k]]).map Gram.v:=by simp
     have el:(s++[n.grams[k]]).length=s.length + 1:=by simp
     simp only [mv] at e
     simp only [hb,gk,z,seval]
     refine OPC_ok ?_ ?_
     ·simp;omega
     simp only [e,w1,z,seval]
     (refine NX (s++[n.grams[k]]) ?_ (by rfl) hkl ?_;simp only [el,z,seval];exact wk)
     show s++[n.grams[k]]=(n.grams.take (k + 1)).eraseIdx i
     rw [erase_ne hkl hki,← hs]
   ·obtain rfl:k=n.grams.length:=by have:=of_decide_eq_false h;omega
    rw [List.take_length] at hs
    subst hs
    simp only [h,gi,z,seval]
    (refine Qw 0 ?_;simp only [z,seval])
    (refine ⟨by kernel_rfl,?_⟩)
    (refine Qf ?_;simp only [z,seval])
theorem rDoubleN_spec (n:Net) (i:Int) (hr:0≤n.room∧n.room≤1099511627776) (hl:n.grams.length≤1000000000000):Spec PP GG 77 [n.v,i64 i] (.tup [(netDouble n i).1.v,i64 (netDouble n i).2]) []:=by
 cases c1:decide (i < 0) with
 | true =>
   rw [double_no (.inl c1)]
   refine Qs func77 ?_
   intro w0 M0
   simp only [f77,lf,z,seval]
   simp only [c1,z,seval]
   (refine Qf ?_;simp only [z,seval])
   try rfl
 | false =>
 cases c2:decide (i≥(n.grams.length:Int)) with
 | true =>
   rw [double_no (.inr c2)]
   refine Qs func77 ?_
   intro w0 M0
   simp only [f77,lf,z,seval]
   simp only [c1,c2,z,seval]
   (refine Qf ?_;simp only [z,seval])
   try rfl
 | false =>
   obtain ⟨i,rfl⟩:=Int.eq_ofNat_of_zero_le (show 0≤i by have:=of_decide_eq_false c1;omega)
   have hlt:i < n.grams.length:=by have:=of_decide_eq_false c2;omega
   have gi:=getMap Gram.v n.grams hlt
   simp only [mv] at gi
   have hro := @room_le n
   rw [double_at hlt]
   cases c3:decide (n.room - (n.grams.length:Int) < 1) with
   | true =>
     refine Qs func77 ?_
     intro w0 M0
     simp only [f77,lf,z,seval]
     simp only [c1,c2,hro,c3,z,seval]
     (refine Qf ?_;simp only [z,seval])
   | false =>
     have e:n.grams.map Gram.v++[Gram.v n.grams[i]]=(n.grams++[n.grams[i]]).map Gram.v:=by simp
     simp only [mv] at e
     refine Qs func77 ?_
     intro w0 M0
     simp only [f77,lf,z,seval]
     simp only [c1,c2,hro,c3,z,seval]
     (refine Qw 1 ?_;simp only [z,seval])
     refine DOC_ok (okMap _ (fun a=>rfl) (by omega)) ?_
     simp only [gi,z,seval]
     refine DOC_ok (by simp;omega) ?_
     simp only [e,z,seval]
     (refine ⟨by kernel_rfl,?_⟩)
     (refine Qf ?_;simp only [z,seval])
def regN (w:World) (i:Int) (n:Nat):Option (List Int):=match regM w i with
 | none=>none
 | some l=>bif decide (l.length < n) then none else some l
theorem regN_first {w:World} {i:Int}:regN w i 1=none∧firstM w i=none ∨ ∃ x l,regN w i 1=some (x::l)∧firstM w i=some x∧regM w i=some (x::l):=by
 unfold regN firstM
 cases regM w i with
 | none=>exact .inl ⟨rfl,rfl⟩
 | some l=>cases l with
   | nil=>exact .inl ⟨rfl,rfl⟩
   | cons x l=>exact .inr ⟨x,l,by simp,rfl,rfl⟩
theorem regN_zero {w:World} {i:Int}:regN w i 0=regM w i:=by
 unfold regN
 cases regM w i<;>rfl
theorem rreg_spec (w:World) (i:Int) (n:Nat) (hr:w.regs.length≤1099511627776):Spec PP GG 123 [w.v,i64 i,i64 n] (.tup [wordsV ((regN w i n).getD []),.bool (regN w i n).isSome]) []:=by
 cases c1:decide (i < 0) with
 | true =>
   have e:regN w i n=none:=by simp only [regN,regM_none (w:=w) (i:=i) (by rw [c1];rfl)]
   rw [e]
   refine Qs func123 ?_
   intro w0 M0
   simp only [f123,lf,z,seval]
   simp only [c1,z,seval]
   (refine Qf ?_;simp only [z,seval])
   rfl
 | false =>
 cases c2:decide (i≥(w.regs.length:Int)) with
 | true =>
   have e:regN w i n=none:=by simp only [regN,regM_none (w:=w) (i:=i) (by rw [c1,c2];rfl)]
   rw [e]
   refine Qs func123 ?_
   intro w0 M0
   simp only [f123,lf,z,seval]
   simp only [c1,c2,z,seval]
   (refine Qf ?_;simp only [z,seval])
   rfl
 | false =>
   obtain ⟨i,rfl⟩:=Int.eq_ofNat_of_zero_le (show 0≤i by have:=of_decide_eq_false c1;omega)
   have hlt:i < w.regs.length:=by have:=of_decide_eq_false c2;omega
   have hm:=regM_at hlt
   have g:=getMap wordsV w.regs hlt
   simp only [mv] at g
   have hD:decide ((w.regs[i].length:Int) < (n:Int))=decide (w.regs[i].length < n):=by simp
   cases c3:decide (w.regs[i].length < n) with
   | true =>
     have e:regN w i n=none:=by simp only [regN,hm,c3,cond_true]
     rw [e]
     refine Qs func123 ?_
     intro w0 M0
     simp only [f123,lf,z,seval]
     simp only [c1,c2,g,hD,c3,z,seval]
     (refine Qf ?_;simp only [z,seval])
     rfl
   | false =>
     have e:regN w i n=some w.regs[i]:=by simp only [regN,hm,c3,cond_false]
     rw [e]
     refine Qs func123 ?_
     intro w0 M0
     simp only [f123,lf,z,seval]
     simp only [c1,c2,g,hD,c3,z,seval]
     (refine Qf ?_;simp only [z,seval])
     rfl
def setC (w:World) (v:V):V:=.agg [u32 w.conf.window,i64 w.conf.people,i64 w.conf.box,i64 w.conf.used,i64 w.conf.runs,i64 w.conf.net,i64 w.conf.regs,wordsV w.draws.list,i64 w.draws.next,
 i64 w.box.room,sldsV w.box.rows,i64 w.net.room,gramsV w.net.grams,rowsV w.net.seen,peopleV w.people,eventsV w.log,v,leaksV w.leaks]
theorem rset_H (w:World) (i:Nat) (l:List Int) (hr:w.regs.length≤1000000) (hl:l.length≤1099511627776):Spec PP GG 124 [w.v,i64 i,wordsV l] (setC w (.row 2 w.regs.length)) [.dead,.dead,.row 1 ((w.regs.set i l).map wordsV) w.regs.length false]:=by
 unfold setC
 refine Qs func124 ?_
 intro w0 M0
 simp only [f124,lf,z,seval]
 (refine RUNs_row0 7 1 (h:=?_);simp only [z,seval])
 refine RUNs_rangeS (w.regs.length) (fun k (s:List (List Int))=>s=(w.regs.take k).set i l) (fun k s=>[(7,.row 2 k),(8,i64 k)]) (fun k s=>[(2,.row 1 (s.map wordsV) k false)]) [] ?_ (by simp only [z,seval];exact wk) rfl ?_
 ·rfl
 rintro ⟨k,s,hk,hs⟩
 try simp only at hs
 simp only [z,seval]
 first|refine brk (fun h=>?_) (fun h=>?_)|fail
 ·have hkl:k < w.regs.length:=by have:=of_decide_eq_true h;omega
  have gk:=getMap wordsV w.regs hkl
  simp only [mv] at gk
  have w1:=w64s (i:=k) (by omega)
  have hsl:s.length=k:=by rw [hs,List.length_set,List.length_take];omega
  have et:w.regs.take (k + 1)=w.regs.take k++[w.regs[k]]:=List.take_succ_eq_append_getElem hkl
  have hlt:(w.regs.take k).length=k:=by rw [List.length_take];omega
  simp only [h,z,seval]
  by_cases hki:k=i
  ·subst hki
   have e:s.map wordsV++[wordsV l]=(s++[l]).map wordsV:=by simp
   simp only [mv] at e
   simp only [beq_self_eq_true,z,seval]
   refine OPC_ok (okMap _ (fun a=>rfl) hl) ?_
   simp only [z,seval]
   refine OPC_ok ?_ ?_
   ·simp;omega
   simp only [e,w1,z,seval]
   (refine NX (s++[l]) ?_ (by rfl) hkl ?_;simp only [z,seval];exact wk)
   show s++[l]=(w.regs.take (k + 1)).set k l
   rw [et,List.set_append_right _ _ (by omega),hlt,Nat.sub_self,hs,List.set_eq_of_length_le (by omega)]
   rfl
  ·have hb:((k:Int)==(i:Int))=false:=by simp only [beq_eq_false_iff_ne,ne_eq];omega
   have e:s.map wordsV++[wordsV w.regs[k]]=(s++[w.regs[k]]).map wordsV:=by simp
   simp only [mv] at e
   simp only [hb,gk,z,seval]
   refine OPC_ok ?_ ?_
   ·simp;omega
   simp only [e,w1,z,seval]
   (refine NX (s++[w.regs[k]]) ?_ (by rfl) hkl ?_;simp only [z,seval];exact wk)
   show s++[w.regs[k]]=(w.regs.take (k + 1)).set i l
   rw [et,hs]
   rcases Nat.lt_or_ge i k with h2|h2
   ·rw [List.set_append_left _ _ (by omega)]
   ·rw [List.set_eq_of_length_le (by omega),List.set_eq_of_length_le (by rw [List.length_append,hlt,List.length_singleton];omega)]
 ·obtain rfl:k=w.regs.length:=by have:=of_decide_eq_false h;omega
  rw [List.take_length] at hs
  subst hs
  simp only [h,z,seval]
  (refine FINS_keep [2] (by simp only [List.filter_cons,List.filter_nil,List.contains_cons,List.contains_nil,beq_self_eq_true,Bool.or_false,Bool.false_or,Bool.or_true,Bool.true_or,Bool.not_true,Bool.not_false,Bool.false_eq_true,if_false,if_true,z,seval,z,seval]) ?_;simp only [List.filter_cons,List.filter_nil,List.contains_cons,List.contains_nil,beq_self_eq_true,Bool.or_false,Bool.false_or,Bool.or_true,Bool.true_or,Bool.not_true,Bool.not_false,Bool.false_eq_true,if_false,if_true,z,seval,z,seval];exact wk)
theorem rset_spec (w:World) (i:Nat) (l:List Int) (hr:w.regs.length≤1000000) (hl:l.length≤1099511627776):Spec PP GG 124 [w.v,i64 i,wordsV l] (setReg w i l).v []:=by
 refine (rset_H w i l hr hl).fz ?_
 simp only [setC,setReg,Int.toNat_natCast,z,seval]
theorem kinds8 {k:Int} (h:(decide (k < 0) || decide (k > 7))=false):k=0∨k=1∨k=2∨k=3∨k=4∨k=5∨k=6∨k=7:=by
 rw [Bool.or_eq_false_iff] at h
 have h1:=of_decide_eq_false h.1
 have h2:=of_decide_eq_false h.2
 omega
theorem rDo_lo (w:World) {N:Nat} (hw:w.fit N) (h5:64≤N) (hN:N≤400000000000) (hrN:w.regs.length≤1000000) (hr:Right10 w.people=true) (hb7:Right07 w.box=true) (k a b c d:Int) (ws:List Int) (la:List Int) (hA:regM w a=some la) (hk:k=0∨k=1∨k=2∨k=3):Spec PP GG 70 [w.v,Op.v ⟨k,a,b,c,d,ws⟩] (.tup [(advM w ⟨k,a,b,c,d,ws⟩).1.v,i64 (advM w ⟨k,a,b,c,d,ws⟩).2]) []:=by
 have hR:=fun i n=>rreg_spec w i n (by omega)
 have h0:=hR a 0
 rw [regN_zero] at h0
 rw [hA] at h0
 have hS:(regM w a).isSome=true:=by rw [hA];rfl
 obtain ⟨m1,m2,m3⟩:=regM_mem hA
 obtain ⟨a,rfl⟩:=Int.eq_ofNat_of_zero_le m1
 have hset:=fun (v:World) (l:List Int) (h:v.regs.length≤1000000) (hl:l.length≤1099511627776)=>rset_spec v a l h hl
 rcases hk with rfl|rfl|rfl|rfl
 ·rw [adv_0 hS,lit0]
  cases c1:decide ((ws.length:Int) > 64) with
  | true =>
    try simp only [Bool.true_or,Bool.or_true,Bool.or_false,Bool.false_or,cond_true,cond_false,Option.getD_some,Option.getD_none,Option.isSome_some,Option.isSome_none,List.map_nil,Int.toNat_natCast] at *
    refine Qs func70 ?_
    intro w0 M0
    simp only [f70,lf,z,seval]
    (refine CU h0 (h:=?_);simp only [z,seval])
    simp only [c1,z,seval]
    (refine Qf ?_;simp only [z,seval])
  | false =>
    have h1:=hset w ws hrN (by have:=of_decide_eq_false c1;omega)
    try simp only [Bool.true_or,Bool.or_true,Bool.or_false,Bool.false_or,cond_true,cond_false,Option.getD_some,Option.getD_none,Option.isSome_some,Option.isSome_none,List.map_nil,Int.toNat_natCast] at *
    refine Qs func70 ?_
    intro w0 M0
    simp only [f70,lf,z,seval]
    (refine CU h0 (h:=?_);simp only [z,seval])
    simp only [c1,z,seval]
    (refine CU h1 (h:=?_);simp only [z,seval])
    (refine Qf ?_;simp only [z,seval])
 ·rw [adv_1 hS,seen1]
  cases c1:decide (b < 0) with
  | true =>
    try simp only [Bool.true_or,Bool.or_true,Bool.or_false,Bool.false_or,cond_true,cond_false,Option.getD_some,Option.getD_none,Option.isSome_some,Option.isSome_none,List.map_nil,Int.toNat_natCast] at *
    refine Qs func70 ?_
    intro w0 M0
    simp only [f70,lf,z,seval]
    (refine CU h0 (h:=?_);simp only [z,seval])
    simp only [c1,z,seval]
    (refine Qf ?_;simp only [z,seval])
  | false =>
  cases c2:decide (b≥(w.net.seen.length:Int)) with
  | true =>
    try simp only [Bool.true_or,Bool.or_true,Bool.or_false,Bool.false_or,cond_true,cond_false,Option.getD_some,Option.getD_none,Option.isSome_some,Option.isSome_none,List.map_nil,Int.toNat_natCast] at *
    refine Qs func70 ?_
    intro w0 M0
    simp only [f70,lf,z,seval]
    (refine CU h0 (h:=?_);simp only [z,seval])
    simp only [c1,c2,z,seval]
    (refine Qf ?_;simp only [z,seval])
  | false =>
    obtain ⟨b,rfl⟩:=Int.eq_ofNat_of_zero_le (show 0≤b by have:=of_decide_eq_false c1;omega)
    have hlt:b < w.net.seen.length:=by have:=of_decide_eq_false c2;omega
    have g:=getMap wordsV w.net.seen hlt
    simp only [mv] at g
    have hsl:=hw.seens _ (List.getElem_mem hlt)
    have h1:=rCut_spec w.net.seen[b] c d (by omega)
    simp only [Int.toNat_natCast,List.getElem?_eq_getElem hlt,Option.getD_some,Bool.false_or,cond_false]
    cases hc:cutM w.net.seen[b] c d with
    | none =>
      rw [hc] at h1
      try simp only [Bool.true_or,Bool.or_true,Bool.or_false,Bool.false_or,cond_true,cond_false,Option.getD_some,Option.getD_none,Option.isSome_some,Option.isSome_none,List.map_nil,Int.toNat_natCast] at *
      refine Qs func70 ?_
      intro w0 M0
      simp only [f70,lf,z,seval]
      (refine CU h0 (h:=?_);simp only [z,seval])
      simp only [c1,c2,g,z,seval]
      (refine Qw 0 ?_;simp only [z,seval])
      simp only [g,z,seval]
      (refine DU h1 (h:=?_);simp only [z,seval])
      (refine ⟨by kernel_rfl,?_⟩)
      (refine Qf ?_;simp only [z,seval])
    | some l =>
      rw [hc] at h1
      have hl:l.length≤N:=by obtain ⟨_,_,_,rfl⟩:=cutM_some hc;simp only [List.length_drop,List.length_take];omega
      have h2:=hset w l hrN (by omega)
      try simp only [Bool.true_or,Bool.or_true,Bool.or_false,Bool.false_or,cond_true,cond_false,Option.getD_some,Option.getD_none,Option.isSome_some,Option.isSome_none,List.map_nil,Int.toNat_natCast] at *
      refine Qs func70 ?_
      intro w0 M0
      simp only [f70,lf,z,seval]
      (refine CU h0 (h:=?_);simp only [z,seval])
      simp only [c1,c2,g,z,seval]
      (refine Qw 0 ?_;simp only [z,seval])
      simp only [g,z,seval]
      (refine DU h1 (h:=?_);simp only [z,seval])
      (refine ⟨by kernel_rfl,?_⟩)
      (refine CU h2 (h:=?_);simp only [z,seval])
      (refine Qf ?_;simp only [z,seval])
 ·rw [adv_2 hS,cut2]
  have h1:=hR b 0
  rw [regN_zero] at h1
  simp only
  cases hB:regM w b with
  | none =>
    rw [hB] at h1
    have h2:=rCut_spec [] c d (by simp)
    try simp only [Bool.true_or,Bool.or_true,Bool.or_false,Bool.false_or,cond_true,cond_false,Option.getD_some,Option.getD_none,Option.isSome_some,Option.isSome_none,List.map_nil,Int.toNat_natCast] at *
    refine Qs func70 ?_
    intro w0 M0
    simp only [f70,lf,z,seval]
    (refine CU h0 (h:=?_);simp only [z,seval])
    (refine CU h1 (h:=?_);simp only [z,seval])
    (refine CU h2 (h:=?_);simp only [z,seval])
    (refine Qf ?_;simp only [z,seval])
  | some s =>
    rw [hB] at h1
    have hsl:=(regM_ok hw hB).2
    have h2:=rCut_spec s c d (by omega)
    simp only
    cases hc:cutM s c d with
    | none =>
      rw [hc] at h2
      try simp only [Bool.true_or,Bool.or_true,Bool.or_false,Bool.false_or,cond_true,cond_false,Option.getD_some,Option.getD_none,Option.isSome_some,Option.isSome_none,List.map_nil,Int.toNat_natCast] at *
      refine Qs func70 ?_
      intro w0 M0
      simp only [f70,lf,z,seval]
      (refine CU h0 (h:=?_);simp only [z,seval])
      (refine CU h1 (h:=?_);simp only [z,seval])
      (refine CU h2 (h:=?_);simp only [z,seval])
      (refine Qf ?_;simp only [z,seval])
    | some l =>
      rw [hc] at h2
      have hl:l.length≤N:=by obtain ⟨_,_,_,rfl⟩:=cutM_some hc;simp only [List.length_drop,List.length_take];omega
      have h3:=hset w l hrN (by omega)
      try simp only [Bool.true_or,Bool.or_true,Bool.or_false,Bool.false_or,cond_true,cond_false,Option.getD_some,Option.getD_none,Option.isSome_some,Option.isSome_none,List.map_nil,Int.toNat_natCast] at *
      refine Qs func70 ?_
      intro w0 M0
      simp only [f70,lf,z,seval]
      (refine CU h0 (h:=?_);simp only [z,seval])
      (refine CU h1 (h:=?_);simp only [z,seval])
      (refine CU h2 (h:=?_);simp only [z,seval])
      (refine CU h3 (h:=?_);simp only [z,seval])
      (refine Qf ?_;simp only [z,seval])
 ·rw [adv_3 hS,cat3]
  have h1:=hR b 0
  rw [regN_zero] at h1
  have h2:=hR c 0
  rw [regN_zero] at h2
  simp only
  cases hB:regM w b with
  | none =>
    rw [hB] at h1
    try simp only [Bool.true_or,Bool.or_true,Bool.or_false,Bool.false_or,cond_true,cond_false,Option.getD_some,Option.getD_none,Option.isSome_some,Option.isSome_none,List.map_nil,Int.toNat_natCast] at *
    refine Qs func70 ?_
    intro w0 M0
    simp only [f70,lf,z,seval]
    (refine CU h0 (h:=?_);simp only [z,seval])
    (refine CU h1 (h:=?_);simp only [z,seval])
    (refine CU h2 (h:=?_);simp only [z,seval])
    (refine Qf ?_;simp only [z,seval])
  | some x =>
  rw [hB] at h1
  cases hC:regM w c with
  | none =>
    rw [hC] at h2
    try simp only [Bool.true_or,Bool.or_true,Bool.or_false,Bool.false_or,cond_true,cond_false,Option.getD_some,Option.getD_none,Option.isSome_some,Option.isSome_none,List.map_nil,Int.toNat_natCast] at *
    refine Qs func70 ?_
    intro w0 M0
    simp only [f70,lf,z,seval]
    (refine CU h0 (h:=?_);simp only [z,seval])
    (refine CU h1 (h:=?_);simp only [z,seval])
    (refine CU h2 (h:=?_);simp only [z,seval])
    (refine Qf ?_;simp only [z,seval])
  | some y =>
    rw [hC] at h2
    have hx:=(regM_ok hw hB).2
    have hy:=(regM_ok hw hC).2
    have hwr:IntKind.i64.wrap ((x.length:Int) + (y.length:Int))=(x.length:Int) + (y.length:Int):=w64 (by omega) (by omega)
    simp only
    cases c1:decide ((x.length:Int) + (y.length:Int) > 64) with
    | true =>
      try simp only [Bool.true_or,Bool.or_true,Bool.or_false,Bool.false_or,cond_true,cond_false,Option.getD_some,Option.getD_none,Option.isSome_some,Option.isSome_none,List.map_nil,Int.toNat_natCast] at *
      refine Qs func70 ?_
      intro w0 M0
      simp only [f70,lf,z,seval]
      (refine CU h0 (h:=?_);simp only [z,seval])
      (refine CU h1 (h:=?_);simp only [z,seval])
      (refine CU h2 (h:=?_);simp only [z,seval])
      simp only [hwr,c1,z,seval]
      (refine Qf ?_;simp only [z,seval])
    | false =>
      have h3:=hset w (x++y) hrN (by rw [List.length_append];omega)
      simp only [List.map_append,mv] at h3
      try simp only [Bool.true_or,Bool.or_true,Bool.or_false,Bool.false_or,cond_true,cond_false,Option.getD_some,Option.getD_none,Option.isSome_some,Option.isSome_none,List.map_nil,Int.toNat_natCast] at *
      refine Qs func70 ?_
      intro w0 M0
      simp only [f70,lf,z,seval]
      (refine CU h0 (h:=?_);simp only [z,seval])
      (refine CU h1 (h:=?_);simp only [z,seval])
      (refine CU h2 (h:=?_);simp only [z,seval])
      simp only [hwr,c1,z,seval]
      (refine RUNs_anyP 8 1 3 (by rfl) (by kernel_rfl) (by kernel_rfl) ?_;simp only [List.take_succ_cons,List.take_zero,z,seval])
      refine DOC_ok (okMap _ (fun a=>rfl) (by omega)) ?_
      simp only [z,seval]
      refine DOC_ok (by simp only [Bool.and_eq_true,List.all_eq_true,decide_eq_true_eq];exact ⟨fun e he=>(by obtain ⟨q,_,rfl⟩:=List.mem_map.1 he;rfl),(by first|omega|(simp only [List.length_map];omega))⟩) ?_
      simp only [z,seval]
      (refine ⟨by kernel_rfl,?_⟩)
      (refine Qj 8 ?_;simp only [z,seval])
      (refine CU h3 (h:=?_);simp only [z,seval])
      (refine QD 9 0 ?_;simp only [z,seval])
      (refine ⟨by kernel_rfl,?_⟩)
      simp only [z,seval]
      (refine Qf ?_;simp only [z,seval])
theorem nameB_1 {n:Int} (h1:decide (n≥0)=false):nameB n=false:=by unfold nameB;rw [h1];rfl
theorem nameB_2 {n:Int} (h2:decide (n≤255)=false):nameB n=false:=by unfold nameB;rw [h2,Bool.and_false]
end Ch
