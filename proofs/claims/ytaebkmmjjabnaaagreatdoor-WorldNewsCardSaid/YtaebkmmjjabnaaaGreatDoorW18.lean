import Derived.Test.YtaebkmmjjabnaaaGreatDoorW17
set_option maxRecDepth 100000
set_option maxHeartbeats 4000000
set_option linter.unusedSimpArgs false
set_option linter.unusedVariables false
namespace Ch
open Go Go.Ab Go.Proofs.Tryz
def dAt (w:World) (k:Int):Int:=drawAt w.draws.list (w.draws.next + k).toNat
def sld (w:World) (k key label:Int) (p:Part):Sld:=⟨dAt w k,key,label,partWs label p⟩
def baseT (w:World) (k:Int) (sl:List Sld):World:=⟨w.conf,⟨w.draws.list,w.draws.next + k⟩,⟨w.box.room,w.box.rows++sl⟩,w.net,w.people,w.log,w.regs,w.leaks⟩
def mkT (w:World) (k:Int) (sl:List Sld) (gs:List Gram) (n:Nat) (p:Person) (e:Event):World :=
 ⟨w.conf,⟨w.draws.list,w.draws.next + k⟩,⟨w.box.room,w.box.rows++sl⟩,⟨w.net.room,w.net.grams++gs,w.net.seen++gs.map Gram.words⟩,w.people.set n p,w.log++[e],w.regs,w.leaks⟩
theorem base_0 (w:World):baseT w 0 []=w:=by
 obtain ⟨c,⟨l,n⟩,⟨r,b⟩,nt,p,lg,rg,lk⟩:=w
 simp only [baseT,Int.add_zero,List.append_nil]
theorem base_draw (w:World) (k:Int) (sl:List Sld):drawW (baseT w k sl)=(baseT w (k + 1) sl,dAt w k):=by
 simp only [drawW,baseT,dAt,Int.add_assoc]
theorem d_0 (w:World):drawW w=(baseT w 1 [],dAt w 0):=by
 conv=>lhs;rw [← base_0 w]
 exact base_draw w 0 []
theorem base_seal {w:World} {k key label:Int} {sl:List Sld} {p:Part} (h:(sealW (baseT w k sl) key label p).2.2=0):sealW (baseT w k sl) key label p=(baseT w (k + 1) (sl++[sld w k key label p]),dAt w k,0):=by
 rw [(seal_ok h).1,base_draw]
 simp only [sealTo,base_draw,sealRow]
 simp only [baseT,sld,List.append_assoc]
theorem set_T {l:List Person} {p:Person} {n:Nat} (hn:p.name.toNat=n) (hin:n < l.length):(setM l p).1=l.set n p:=by
 rw [setM,hn,decide_eq_true hin];rfl
theorem put_T {w:World} {k:Int} {sl:List Sld} {p:Person} {n:Nat} (hn:p.name.toNat=n) (hin:n < w.people.length) (e:Event):putP (baseT w k sl) p e=mkT w k sl [] n p e:=by
 have:=set_T hn hin
 simp only [putP,logW,withW,baseT,mkT,this,List.map_nil,List.append_nil]
theorem send_T {w:World} {k:Int} {sl:List Sld} {p:Person} {n:Nat} (hn:p.name.toNat=n) (hin:n < w.people.length) (e:Event) (to:Int) (m:Msg):sendTo (putP (baseT w k sl) p e) to m=mkT w k sl [⟨to,msgWs m⟩] n p e:=by
 have:=set_T hn hin
 simp only [sendTo,putP,logW,withW,baseT,mkT,this,List.map_cons,List.map_nil]
theorem nm_T {w:World} (h:Right10 w.people=true) {a:Int} (ha:U a) (hl:a.toNat < w.people.length):(personW w a).name.toNat=a.toNat:=by rw [name_of h ha hl]
theorem startN_T {w:World} {a b:Int} (hr:Right10 w.people=true) (ha:U a) (h:(startN w a b).2=0):pairM w.people a b=true∧full w (personW w a)=false ∧
 startN w a b=(mkT w 1 [] [⟨0,msgWs ⟨1,0,a,b,dAt w 0,0,0⟩⟩] a.toNat (pushRun (personW w a) ⟨1,1,b,dAt w 0,0,0,0,0,1⟩) ⟨1,1,1,a,b,0,0,0,dAt w 0,(personW w a).clock⟩,0):=by
 obtain ⟨h1,h2,h3⟩:=startN_done h
 refine ⟨h1,h2,?_⟩
 rw [h3]
 have hin:=(pair_in h1).2.2.2.1
 simp only [aY,aMsg,aP,aRun,aEv,d_0 w]
 rw [send_T (n:=a.toNat) (by exact nm_T hr ha hin) hin]
theorem startO_T {w:World} {a b:Int} (hr:Right10 w.people=true) (ha:U a) (h:(startO w a b).2=0):pairM w.people a b=true∧full w (personW w a)=false∧(sealW (baseT w 2 []) (personW w a).key 6 ⟨dAt w 1,dAt w 0,a,b,0,0,0⟩).2.2=0 ∧
 startO w a b=(mkT w 3 [sld w 2 (personW w a).key 6 ⟨dAt w 1,dAt w 0,a,b,0,0,0⟩] [⟨b,msgWs ⟨6,dAt w 0,a,b,0,dAt w 2,0⟩⟩] a.toNat (pushRun (personW w a) ⟨2,1,b,dAt w 1,0,dAt w 0,0,0,1⟩) ⟨1,2,1,a,b,0,0,dAt w 0,dAt w 1,(personW w a).clock⟩,0):=by
 obtain ⟨h1,h2,h3,h4,h5⟩:=startO_ok hr ha h
 have hin:=(pair_in h2).2.2.2.1
 have e1:startO w a b=(oZ w a b,0):=by
  have h6:(oS w a b).2.2=0:=h5
  rw [startO,h2,h3,h4,h6];rfl
 rw [oPart] at h5
 simp only [d_0 w,base_draw] at h5
 refine ⟨h2,h3,h5,?_⟩
 rw [e1,oZ,(send_to (oZ_ok h4)).1]
 simp only [oY,oMsg,oP,oRun,oEv,oS,d_0 w,base_draw]
 have h7:=base_seal h5
 simp only [Int.reduceAdd,List.nil_append] at h5 h7 ⊢
 rw [h7]
 simp only
 rw [send_T (n:=a.toNat) (by exact nm_T hr ha hin) hin]
theorem grantN_T {w:World} {me:Int} {m:Msg} (hr:Right10 w.people=true) (hme:U me) (h:(grantN w me m).2=0):∃ i,aI w me m=some i∧(aG w me m).2=true∧freshM (personW w me).clock (aG w me m).1.t w.conf.window=true∧me.toNat < w.people.length ∧
 grantN w me m=(mkT w 0 [] [⟨(runAt (personW w me).runs i).peer,msgWs ⟨3,0,0,0,0,(aG w me m).1.h,0⟩⟩] me.toNat (setRun (personW w me) i (tookR (runAt (personW w me).runs i) (aG w me m).1)) ⟨3,1,1,me,(runAt (personW w me).runs i).peer,(aG w me m).1.k,(aG w me m).1.t,0,(runAt (personW w me).runs i).mine,(personW w me).clock⟩,0):=by
 obtain ⟨i,h1,h2,h3,h4⟩:=grantN_done h
 have hin:=has_runs (grant_run h1).1
 refine ⟨i,h1,h2,h3,hin,?_⟩
 rw [h4,aT]
 have e:=send_T (w:=w) (k:=0) (sl:=[]) (p:=setRun (personW w me) i (tookR (runAt (personW w me).runs i) (aG w me m).1)) (n:=me.toNat) (by exact nm_T hr hme hin) hin
 rw [base_0] at e
 rw [e]
theorem echoN_T {w:World} {me:Int} {m:Msg} (hr:Right10 w.people=true) (hme:U me) (h:(echoN w me m).2=0):∃ i,eI w me m=some i∧freshM (personW w me).clock (runAt (personW w me).runs i).t w.conf.window=true∧me.toNat < w.people.length∧(sealW (baseT w 0 []) (runAt (personW w me).runs i).k 5 ⟨eN w me m i,0,0,0,0,0,0⟩).2.2=0 ∧
 echoN w me m=(mkT w 1 [sld w 0 (runAt (personW w me).runs i).k 5 ⟨eN w me m i,0,0,0,0,0,0⟩] [⟨(runAt (personW w me).runs i).peer,msgWs ⟨5,0,0,0,0,dAt w 0,0⟩⟩] me.toNat (setRun (personW w me) i (backR (runAt (personW w me).runs i) (eN w me m i))) ⟨4,1,1,me,(runAt (personW w me).runs i).peer,(runAt (personW w me).runs i).k,(runAt (personW w me).runs i).t,0,eN w me m i,(personW w me).clock⟩,0):=by
 obtain ⟨i,h1,h2,h3,h4⟩:=echoN_done h
 have hin:=has_runs (echo_run h1).1
 have h3':(sealW (baseT w 0 []) (runAt (personW w me).runs i).k 5 ⟨eN w me m i,0,0,0,0,0,0⟩).2.2=0:=by rw [base_0];exact h3
 have h5:=base_seal h3'
 simp only [base_0,Int.reduceAdd,List.nil_append] at h5
 refine ⟨i,h1,h2,hin,h3',?_⟩
 rw [h4,eT,eS,h5]
 simp only
 rw [send_T (n:=me.toNat) (by exact nm_T hr hme hin) hin]
theorem ticketB_done {w:World} {me:Int} {m:Msg} (h:(ticketB w me m).2=0):(tG w me m).2=true∧pairM w.people (tG w me m).1.a me=true∧freshM (personW w me).clock (tG w me m).1.t w.conf.window=true∧usedMay (personW w me).used w.conf.used (tG w me m).1.k=0∧full w (personW w me)=false∧(tS w (tG w me m).1).2.2=0∧ticketB w me m=(sendTo (tY w me (tG w me m).1) (tG w me m).1.a ⟨4,0,0,0,0,(tS w (tG w me m).1).2.1,0⟩,0):=by
 unfold ticketB at h ⊢
 cases h1:(tG w me m).2
 ·simp only [h1] at h;cases h
 cases h2:pairM w.people (tG w me m).1.a me
 ·simp only [h1,h2] at h;cases h
 cases h3:freshM (personW w me).clock (tG w me m).1.t w.conf.window
 ·simp only [h1,h2,h3] at h;cases h
 cases h4:(usedMay (personW w me).used w.conf.used (tG w me m).1.k==0)
 ·simp only [h1,h2,h3,h4,cond_true,cond_false] at h
  rw [h] at h4;cases h4
 cases h5:(!full w (personW w me) && roomW w 1 1)
 ·simp only [h1,h2,h3,h4,h5] at h;cases h
 cases h6:((tS w (tG w me m).1).2.2==0)
 ·simp only [h1,h2,h3,h4,h5,h6,cond_true,cond_false] at h
  rw [h] at h6;cases h6
 ·rw [Bool.and_eq_true,Bool.not_eq_true'] at h5
  have hz:=(send_to (tZ_ok (me:=me) (g:=(tG w me m).1) (to:=(tG w me m).1.a) h5.2)).1
  exact ⟨rfl,rfl,rfl,by simpa using h4,h5.1,by simpa using h6,by simp only [cond_true,tZ,hz]⟩
theorem ticketB_T {w:World} {me:Int} {m:Msg} (hr:Right10 w.people=true) (hme:U me) (h:(ticketB w me m).2=0):(tG w me m).2=true∧pairM w.people (tG w me m).1.a me=true∧freshM (personW w me).clock (tG w me m).1.t w.conf.window=true∧usedMay (personW w me).used w.conf.used (tG w me m).1.k=0∧full w (personW w me)=false∧(sealW (baseT w 1 []) (tG w me m).1.k 4 ⟨dAt w 0,0,0,0,0,0,0⟩).2.2=0 ∧
 ticketB w me m=(mkT w 2 [sld w 1 (tG w me m).1.k 4 ⟨dAt w 0,0,0,0,0,0,0⟩] [⟨(tG w me m).1.a,msgWs ⟨4,0,0,0,0,dAt w 1,0⟩⟩] me.toNat (pushRun { personW w me with used:=(personW w me).used++[(tG w me m).1.k] } ⟨1,2,(tG w me m).1.a,dAt w 0,0,0,(tG w me m).1.k,(tG w me m).1.t,2⟩) ⟨3,1,2,(tG w me m).1.a,me,(tG w me m).1.k,(tG w me m).1.t,0,dAt w 0,(personW w me).clock⟩,0):=by
 obtain ⟨h1,h2,h3,h4,h5,h6,h7⟩:=ticketB_done h
 have hin:=(pair_in h2).2.2.2.2
 simp only [tS,d_0 w] at h6
 have h8:=base_seal h6
 refine ⟨h1,h2,h3,h4,h5,h6,?_⟩
 rw [h7]
 simp only [tY,tP,tkRun,tEv,tS,d_0 w]
 simp only [Int.reduceAdd,List.nil_append] at h8 ⊢
 rw [h8]
 simp only
 rw [send_T (n:=me.toNat) (by exact nm_T hr hme hin) hin]
theorem backB_T {w:World} {me:Int} {m:Msg} (hr:Right10 w.people=true) (hme:U me) (h:(backB w me m).2=0):∃ i,kI w me m=some i∧freshM (personW w me).clock (runAt (personW w me).runs i).t w.conf.window=true∧me.toNat < w.people.length ∧
 backB w me m=(mkT w 0 [] [] me.toNat (setRun (personW w me) i (endR' (runAt (personW w me).runs i))) ⟨4,1,2,(runAt (personW w me).runs i).peer,me,(runAt (personW w me).runs i).k,(runAt (personW w me).runs i).t,0,(runAt (personW w me).runs i).mine,(personW w me).clock⟩,0):=by
 obtain ⟨i,h1,h2,h4⟩:=backB_done h
 have hin:=has_runs (back_run h1).1
 refine ⟨i,h1,h2,hin,?_⟩
 rw [h4,kT]
 have e:=put_T (w:=w) (k:=0) (sl:=[]) (p:=setRun (personW w me) i (endR' (runAt (personW w me).runs i))) (n:=me.toNat) (by exact nm_T hr hme hin) hin
 rw [base_0] at e
 rw [e]
theorem shareO_T {w:World} {me:Int} {m:Msg} (hr:Right10 w.people=true) (hme:U me) (h:(shareO w me m).2=0):∃ i,oI w me m=some i∧(oO w me m).2=true∧(oO w me m).1.n=(runAt (personW w me).runs i).mine∧me.toNat < w.people.length ∧
 shareO w me m=(mkT w 0 [] [] me.toNat (setRun (personW w me) i (doneR (runAt (personW w me).runs i) (oO w me m).1.k)) ⟨4,2,1,me,(runAt (personW w me).runs i).peer,(oO w me m).1.k,0,(runAt (personW w me).runs i).m,(runAt (personW w me).runs i).mine,(personW w me).clock⟩,0):=by
 obtain ⟨i,h1,h2,h3,h4⟩:=shareO_ok h
 have hin:=has_runs (wait_run (show (personW w me).runs.findIdx? (waitM 2 1 m.run)=some i from h1)).1
 refine ⟨i,h1,h2,h3,hin,?_⟩
 rw [h4,oCom]
 have e:=put_T (w:=w) (k:=0) (sl:=[]) (p:=setRun (personW w me) i (doneR (runAt (personW w me).runs i) (oO w me m).1.k)) (n:=me.toNat) (by exact nm_T hr hme hin) hin
 rw [base_0] at e
 rw [e]
theorem firstB_err {w:World} {me:Int} {m:Msg} (h:(firstB w me m).2≠0):(firstB w me m).1=w:=by
 unfold firstB at h ⊢
 cases h1:(m.b==me && pairM w.people m.a me)
 ·rfl
 cases h2:(usedMay (personW w me).used w.conf.used m.run==0)
 ·rfl
 cases h3:(!full w (personW w me) && roomW w 1 1)
 ·rfl
 cases h4:((bS w me m).2.2==0)
 ·rfl
 ·simp only [h1,h2,h3,h4] at h;exact absurd rfl h
theorem firstB_done {w:World} {me:Int} {m:Msg} (h:(firstB w me m).2=0):m.b=me∧pairM w.people m.a me=true∧usedMay (personW w me).used w.conf.used m.run=0∧full w (personW w me)=false∧(bS w me m).2.2=0∧firstB w me m=(sendTo (bY w me m) 0 (bMsg w me m),0):=by
 unfold firstB at h ⊢
 cases h1:(m.b==me && pairM w.people m.a me)
 ·simp only [h1] at h;cases h
 cases h2:(usedMay (personW w me).used w.conf.used m.run==0)
 ·simp only [h1,h2,cond_true,cond_false] at h
  rw [h] at h2;cases h2
 cases h3:(!full w (personW w me) && roomW w 1 1)
 ·simp only [h1,h2,h3] at h;cases h
 cases h4:((bS w me m).2.2==0)
 ·simp only [h1,h2,h3,h4,cond_true,cond_false] at h
  rw [h] at h4;cases h4
 ·rw [Bool.and_eq_true,beq_iff_eq] at h1
  rw [Bool.and_eq_true,Bool.not_eq_true'] at h3
  have hz:=(send_to (bZ_ok (me:=me) (m:=m) h3.2)).1
  exact ⟨h1.1,h1.2,by simpa using h2,h3.1,by simpa using h4,by simp only [cond_true,bZ,hz]⟩
theorem firstB_T {w:World} {me:Int} {m:Msg} (hr:Right10 w.people=true) (hme:U me) (h:(firstB w me m).2=0):m.b=me∧pairM w.people m.a me=true∧usedMay (personW w me).used w.conf.used m.run=0∧full w (personW w me)=false∧(sealW (baseT w 1 []) (personW w me).key 7 ⟨dAt w 0,m.run,m.a,me,0,0,0⟩).2.2=0 ∧
 firstB w me m=(mkT w 2 [sld w 1 (personW w me).key 7 ⟨dAt w 0,m.run,m.a,me,0,0,0⟩] [⟨0,msgWs ⟨7,m.run,m.a,me,0,m.box,dAt w 1⟩⟩] me.toNat (pushRun { personW w me with used:=(personW w me).used++[m.run] } ⟨2,2,m.a,dAt w 0,0,m.run,0,0,1⟩) ⟨3,2,2,m.a,me,0,0,m.run,dAt w 0,(personW w me).clock⟩,0):=by
 obtain ⟨h1,h2,h3,h4,h5,h6⟩:=firstB_done h
 have hin:=(pair_in h2).2.2.2.2
 simp only [bS,d_0 w] at h5
 have h8:=base_seal h5
 refine ⟨h1,h2,h3,h4,h5,?_⟩
 rw [h6]
 simp only [bY,bMsg,bP,bRun,bEv,bS,d_0 w]
 simp only [Int.reduceAdd,List.nil_append] at h8 ⊢
 rw [h8]
 simp only
 rw [send_T (n:=me.toNat) (by exact nm_T hr hme hin) hin]
theorem shareB_T {w:World} {me:Int} {m:Msg} (hr:Right10 w.people=true) (hme:U me) (h:(shareB w me m).2=0):∃ i,bI w me m=some i∧(bO w me m).2=true∧(bO w me m).1.n=(runAt (personW w me).runs i).mine∧me.toNat < w.people.length ∧
 shareB w me m=(mkT w 0 [] [⟨(runAt (personW w me).runs i).peer,msgWs ⟨9,m.run,0,0,0,m.box,0⟩⟩] me.toNat (setRun (personW w me) i (doneR (runAt (personW w me).runs i) (bO w me m).1.k)) ⟨4,2,2,(runAt (personW w me).runs i).peer,me,(bO w me m).1.k,0,(runAt (personW w me).runs i).m,(runAt (personW w me).runs i).mine,(personW w me).clock⟩,0):=by
 unfold shareB at h ⊢
 cases h1:bI w me m with
 | none=>rw [h1] at h;cases h
 | some i =>
   rw [h1] at h
   cases h2:((bO w me m).2 && (bO w me m).1.n==(runAt (personW w me).runs i).mine)
   ·simp only [h2] at h;cases h
   ·cases h3:roomW w 0 1
    ·simp only [h2,h3] at h;cases h
    ·have hz:=(send_to (bX_ok (me:=me) (m:=m) (i:=i) (k:=(bO w me m).1.k) (to:=(runAt (personW w me).runs i).peer) h3)).1
     have hin:=has_runs (wait_run (show (personW w me).runs.findIdx? (waitM 2 2 m.run)=some i from h1)).1
     have h2':=h2
     rw [Bool.and_eq_true,beq_iff_eq] at h2'
     refine ⟨i,rfl,h2'.1,h2'.2,hin,?_⟩
     simp only [h2,h3,cond_true]
     rw [bX,hz,bCom]
     have e:=send_T (w:=w) (k:=0) (sl:=[]) (p:=setRun (personW w me) i (doneR (runAt (personW w me).runs i) (bO w me m).1.k)) (n:=me.toNat) (by exact nm_T hr hme hin) hin
     rw [base_0] at e
     rw [e]
theorem grantM_err {w:World} {m:Msg} (h:(grantM w m).2≠0):(grantM w m).1=w:=by
 unfold grantM at h ⊢
 cases h1:pairM w.people m.a m.b
 ·rfl
 cases h2:decide ((personW w 0).clock≥1073741824)
 ·cases h3:(usedMay (personW w 0).used w.conf.used m.nonce==0)
  ·rfl
  cases h4:roomW w 2 1
  ·rfl
  cases h5:((gTk w m).2.2==0)
  ·rfl
  cases h6:((gGr w m).2.2==0)
  ·rfl
  cases h7:((gZ w m).2==0)
  ·rfl
  ·simp only [h1,h2,h3,h4,h5,h6,h7] at h;exact absurd rfl h
 ·rfl
theorem note_T {l:List Int} {room x:Int} (h:usedMay l room x=0):(usedNote l room x).1=l++[x]:=by rw [usedNote,h];rfl
theorem grantM_T {w:World} {m:Msg} (hr:Right10 w.people=true) (h:(grantM w m).2=0):pairM w.people m.a m.b=true∧(personW w 0).clock < 1073741824∧usedMay (personW w 0).used w.conf.used m.nonce=0 ∧
 (sealW (baseT w 1 []) (personW w m.b).key 3 ⟨0,0,m.a,0,dAt w 0,(personW w 0).clock,0⟩).2.2=0 ∧
 (sealW (baseT w 2 [sld w 1 (personW w m.b).key 3 ⟨0,0,m.a,0,dAt w 0,(personW w 0).clock,0⟩]) (personW w m.a).key 2 ⟨m.nonce,0,0,m.b,dAt w 0,(personW w 0).clock,dAt w 1⟩).2.2=0 ∧
 grantM w m=(mkT w 3 [sld w 1 (personW w m.b).key 3 ⟨0,0,m.a,0,dAt w 0,(personW w 0).clock,0⟩,sld w 2 (personW w m.a).key 2 ⟨m.nonce,0,0,m.b,dAt w 0,(personW w 0).clock,dAt w 1⟩] [⟨m.a,msgWs ⟨2,0,0,0,0,dAt w 2,0⟩⟩] 0 { personW w 0 with used:=(personW w 0).used++[m.nonce] } ⟨2,1,0,m.a,m.b,dAt w 0,(personW w 0).clock,0,m.nonce,(personW w 0).clock⟩,0):=by
 unfold grantM at h ⊢
 cases h1:pairM w.people m.a m.b
 ·simp only [h1] at h;cases h
 cases h2:decide ((personW w 0).clock≥1073741824)
 rotate_left 1
 ·simp only [h1,h2] at h;cases h
 cases h3:(usedMay (personW w 0).used w.conf.used m.nonce==0)
 ·simp only [h1,h2,h3,cond_true,cond_false] at h
  rw [h] at h3;cases h3
 cases h4:roomW w 2 1
 ·simp only [h1,h2,h3,h4] at h;cases h
 cases h5:((gTk w m).2.2==0)
 ·simp only [h1,h2,h3,h4,h5,cond_true,cond_false] at h
  rw [h] at h5;cases h5
 cases h6:((gGr w m).2.2==0)
 ·simp only [h1,h2,h3,h4,h5,h6,cond_true,cond_false] at h
  rw [h] at h6;cases h6
 cases h7:((gZ w m).2==0)
 ·simp only [h1,h2,h3,h4,h5,h6,h7,cond_true,cond_false] at h
  rw [h] at h7;cases h7
 have h3':usedMay (personW w 0).used w.conf.used m.nonce=0:=by simpa using h3
 have h5':(gTk w m).2.2=0:=by simpa using h5
 have h6':(gGr w m).2.2=0:=by simpa using h6
 have h7':(gZ w m).2=0:=by simpa using h7
 have hin:0 < w.people.length:=by have:=(right_len hr).1;omega
 rw [gTk] at h5'
 simp only [d_0 w] at h5'
 have e5:=base_seal h5'
 have e5':gTk w m=(baseT w 2 [sld w 1 (personW w m.b).key 3 ⟨0,0,m.a,0,dAt w 0,(personW w 0).clock,0⟩],dAt w 1,0):=by
  rw [gTk];simp only [d_0 w];exact e5
 rw [gGr,e5'] at h6'
 simp only [d_0 w] at h6'
 have e6:=base_seal h6'
 have e6':gGr w m=(baseT w 3 [sld w 1 (personW w m.b).key 3 ⟨0,0,m.a,0,dAt w 0,(personW w 0).clock,0⟩,sld w 2 (personW w m.a).key 2 ⟨m.nonce,0,0,m.b,dAt w 0,(personW w 0).clock,dAt w 1⟩],dAt w 2,0):=by
  rw [gGr,e5'];simp only [d_0 w];exact e6
 refine ⟨rfl,by have:=of_decide_eq_false h2;omega,h3',h5',h6',?_⟩
 simp only [cond_true,cond_false]
 rw [gZ] at h7'
 have e7:=(send_to h7').1
 rw [gZ,e7,gY,e6',gP,note_T h3',gEv]
 simp only [d_0 w]
 have hn:Person.name { personW w 0 with used:=(personW w 0).used++[m.nonce] }=0:=name_of hr (by decide) hin
 have e8:=send_T (w:=w) (k:=3) (sl:=[sld w 1 (personW w m.b).key 3 ⟨0,0,m.a,0,dAt w 0,(personW w 0).clock,0⟩,sld w 2 (personW w m.a).key 2 ⟨m.nonce,0,0,m.b,dAt w 0,(personW w 0).clock,dAt w 1⟩]) (p:={ personW w 0 with used:=(personW w 0).used++[m.nonce] }) (n:=0) (by rw [hn];rfl) hin
 simp only [putP] at e8
 exact congrArg (·,(0:Int)) (e8 _ _ _)
theorem shareM_err {w:World} {m:Msg} (h:(shareM w m).2≠0):(shareM w m).1=w:=by
 unfold shareM at h ⊢
 cases h1:pairM w.people m.a m.b
 ·rfl
 cases h2:((sA w m).2 && (sB w m).2)
 ·rfl
 cases h3:(usedMay (personW w 0).used w.conf.used m.run==0)
 ·rfl
 cases h4:roomW w 2 1
 ·rfl
 cases h5:((s1 w m).2.2==0)
 ·rfl
 cases h6:((s2 w m).2.2==0)
 ·rfl
 cases h7:((sZ w m).2==0)
 ·rfl
 ·simp only [h1,h2,h3,h4,h5,h6,h7] at h;exact absurd rfl h
theorem shareM_T {w:World} {m:Msg} (hr:Right10 w.people=true) (h:(shareM w m).2=0):pairM w.people m.a m.b=true∧(sA w m).2=true∧(sB w m).2=true∧usedMay (personW w 0).used w.conf.used m.run=0 ∧
 (sealW (baseT w 1 []) (personW w m.b).key 8 ⟨(sB w m).1,0,0,0,dAt w 0,0,0⟩).2.2=0 ∧
 (sealW (baseT w 2 [sld w 1 (personW w m.b).key 8 ⟨(sB w m).1,0,0,0,dAt w 0,0,0⟩]) (personW w m.a).key 9 ⟨(sA w m).1,0,0,0,dAt w 0,0,0⟩).2.2=0 ∧
 shareM w m=(mkT w 3 [sld w 1 (personW w m.b).key 8 ⟨(sB w m).1,0,0,0,dAt w 0,0,0⟩,sld w 2 (personW w m.a).key 9 ⟨(sA w m).1,0,0,0,dAt w 0,0,0⟩] [⟨m.b,msgWs ⟨8,m.run,0,0,0,dAt w 2,dAt w 1⟩⟩] 0 { personW w 0 with used:=(personW w 0).used++[m.run] } ⟨2,2,0,m.a,m.b,dAt w 0,0,m.run,0,(personW w 0).clock⟩,0):=by
 unfold shareM at h ⊢
 cases h1:pairM w.people m.a m.b
 ·simp only [h1] at h;cases h
 cases h2:((sA w m).2 && (sB w m).2)
 ·simp only [h1,h2] at h;cases h
 cases h3:(usedMay (personW w 0).used w.conf.used m.run==0)
 ·simp only [h1,h2,h3,cond_true,cond_false] at h
  rw [h] at h3;cases h3
 cases h4:roomW w 2 1
 ·simp only [h1,h2,h3,h4] at h;cases h
 cases h5:((s1 w m).2.2==0)
 ·simp only [h1,h2,h3,h4,h5,cond_true,cond_false] at h
  rw [h] at h5;cases h5
 cases h6:((s2 w m).2.2==0)
 ·simp only [h1,h2,h3,h4,h5,h6,cond_true,cond_false] at h
  rw [h] at h6;cases h6
 cases h7:((sZ w m).2==0)
 ·simp only [h1,h2,h3,h4,h5,h6,h7,cond_true,cond_false] at h
  rw [h] at h7;cases h7
 have h3':usedMay (personW w 0).used w.conf.used m.run=0:=by simpa using h3
 have h5':(s1 w m).2.2=0:=by simpa using h5
 have h6':(s2 w m).2.2=0:=by simpa using h6
 have h7':(sZ w m).2=0:=by simpa using h7
 have hin:0 < w.people.length:=by have:=(right_len hr).1;omega
 rw [s1] at h5'
 simp only [d_0 w] at h5'
 have e5:=base_seal h5'
 have e5':s1 w m=(baseT w 2 [sld w 1 (personW w m.b).key 8 ⟨(sB w m).1,0,0,0,dAt w 0,0,0⟩],dAt w 1,0):=by
  rw [s1];simp only [d_0 w];exact e5
 rw [s2,e5'] at h6'
 simp only [d_0 w] at h6'
 have e6:=base_seal h6'
 have e6':s2 w m=(baseT w 3 [sld w 1 (personW w m.b).key 8 ⟨(sB w m).1,0,0,0,dAt w 0,0,0⟩,sld w 2 (personW w m.a).key 9 ⟨(sA w m).1,0,0,0,dAt w 0,0,0⟩],dAt w 2,0):=by
  rw [s2,e5'];simp only [d_0 w];exact e6
 rw [Bool.and_eq_true] at h2
 refine ⟨rfl,h2.1,h2.2,h3',h5',h6',?_⟩
 simp only [cond_true,cond_false]
 rw [sZ] at h7'
 have e7:=(send_to h7').1
 rw [sZ,e7,sY,e6',e5',sP,sEv]
 simp only [d_0 w]
 have hn:Person.name { personW w 0 with used:=(personW w 0).used++[m.run] }=0:=name_of hr (by decide) hin
 have e8:=send_T (w:=w) (k:=3) (sl:=[sld w 1 (personW w m.b).key 8 ⟨(sB w m).1,0,0,0,dAt w 0,0,0⟩,sld w 2 (personW w m.a).key 9 ⟨(sA w m).1,0,0,0,dAt w 0,0,0⟩]) (p:={ personW w 0 with used:=(personW w 0).used++[m.run] }) (n:=0) (by rw [hn];rfl) hin
 simp only [putP] at e8
 exact congrArg (·,(0:Int)) (e8 _ _ _)
def takeM (w:World) (to:Int) (m:Msg):World×Int :=
 bif to==0 then (bif m.kind==1 then grantM w m else bif m.kind==7 then shareM w m else (w,4))
 else bif m.kind==2 then grantN w to m else bif m.kind==3 then ticketB w to m else bif m.kind==4 then echoN w to m else bif m.kind==5 then backB w to m else bif m.kind==6 then firstB w to m else bif m.kind==8 then shareB w to m else bif m.kind==9 then shareO w to m else (w,4)
def deliverM (w:World) (to:Int) (l:List Int):World×Int :=
 bif decide (to.toNat < w.people.length) then (bif (msgGet l).2==0 then takeM w to (msgGet l).1 else (w,(msgGet l).2)) else (w,5)
theorem takeM_fit {w:World} {N:Nat} (hw:w.fit N) (h5:21≤N) (hN:N≤400000000000) {to:Int} (ht:U to) {m:Msg} (hm:m.ok):(takeM w to m).1.fit (N + 5):=by
 have h0:=hw.mono (show N≤N + 5 by omega)
 have mono:∀ {K:Nat} {v:World},v.fit K→K≤N + 5→v.fit (N + 5):=fun h1 h2=>h1.mono h2
 unfold takeM
 cases (to==0)
 ·simp only [cond_false]
  cases (m.kind==2)
  ·cases (m.kind==3)
   ·cases (m.kind==4)
    ·cases (m.kind==5)
     ·cases (m.kind==6)
      ·cases (m.kind==8)
       ·cases (m.kind==9)
        ·exact h0
        ·exact mono (shareO_fit hw hN ht m) (by omega)
       ·exact mono (shareB_fit hw h5 hN ht hm) (by omega)
      ·exact mono (firstB_fit hw h5 hN ht hm) (by omega)
     ·exact mono (backB_fit hw hN ht m) (by omega)
    ·exact mono (echoN_fit hw h5 hN ht m) (by omega)
   ·exact mono (ticketB_fit hw h5 hN ht m) (by omega)
  ·exact mono (grantN_fit hw h5 hN ht m) (by omega)
 ·simp only [cond_true]
  cases (m.kind==1)
  ·cases (m.kind==7)
   ·exact h0
   ·exact shareM_fit hw h5 hN hm
  ·exact grantM_fit hw h5 hN hm
theorem msgGet_U {l:List Int} (hu:∀ x∈l,U x) (hz:(msgGet l).2=0):(msgGet l).1.ok:=by
 obtain ⟨h1,h2⟩:=msgGet_ok hu (Prod.ext rfl hz:msgGet l=((msgGet l).1,0))
 generalize (msgGet l).1=m at h1 h2
 subst h2
 have hk:=kind9 (may_kd h1)
 obtain ⟨k,run,a,b,nonce,box,more⟩:=m
 simp only at hk
 have z:U 0:=U0
 rcases hk with rfl|rfl|rfl|rfl|rfl|rfl|rfl|rfl|rfl
 all_goals
  simp [msgMay,tags,hasM,msgWord] at h1
  simp [msgWs,tags,hasM,msgWord] at hu
  refine ⟨?_,?_,?_,?_,?_,?_,?_⟩<;>simp_all
theorem deliverM_fit {w:World} {N:Nat} (hw:w.fit N) (h5:21≤N) (hN:N≤400000000000) {to:Int} (ht:U to) {l:List Int} (hu:∀ x∈l,U x):(deliverM w to l).1.fit (N + 5):=by
 have h0:=hw.mono (show N≤N + 5 by omega)
 unfold deliverM
 cases decide (to.toNat < w.people.length)
 ·exact h0
 cases hz:((msgGet l).2==0)
 ·exact h0
 ·exact takeM_fit hw h5 hN ht (msgGet_U hu (by simpa using hz))
theorem takeM_err {w:World} {to:Int} {m:Msg} (h:(takeM w to m).2≠0):(takeM w to m).1=w:=by
 unfold takeM at h ⊢
 cases c0:(to==0)
 ·rw [c0] at h
  simp only [cond_false] at h ⊢
  cases c2:(m.kind==2)
  ·cases c3:(m.kind==3)
   ·cases c4:(m.kind==4)
    ·cases c5:(m.kind==5)
     ·cases c6:(m.kind==6)
      ·cases c8:(m.kind==8)
       ·cases c9:(m.kind==9)
        ·rfl
        ·simp only [c2,c3,c4,c5,c6,c8,c9,cond_true,cond_false] at h ⊢;exact shareO_err h
       ·simp only [c2,c3,c4,c5,c6,c8,cond_true,cond_false] at h ⊢;exact shareB_err h
      ·simp only [c2,c3,c4,c5,c6,cond_true,cond_false] at h ⊢;exact firstB_err h
     ·simp only [c2,c3,c4,c5,cond_true,cond_false] at h ⊢;exact backB_err h
    ·simp only [c2,c3,c4,cond_true,cond_false] at h ⊢;exact echoN_err h
   ·simp only [c2,c3,cond_true,cond_false] at h ⊢;exact ticketB_err h
  ·simp only [c2,cond_true] at h ⊢;exact grantN_err h
 ·rw [c0] at h
  simp only [cond_true] at h ⊢
  cases c1:(m.kind==1)
  ·cases c7:(m.kind==7)
   ·rfl
   ·simp only [c1,c7,cond_true,cond_false] at h ⊢;exact shareM_err h
  ·simp only [c1,cond_true] at h ⊢;exact grantM_err h
theorem deliverM_err {w:World} {to:Int} {l:List Int} (h:(deliverM w to l).2≠0):(deliverM w to l).1=w:=by
 unfold deliverM at h ⊢
 cases c1:decide (to.toNat < w.people.length)
 ·rfl
 cases c2:((msgGet l).2==0)
 ·rfl
 ·simp only [c1,c2,cond_true] at h ⊢;exact takeM_err h
structure Took (w:World) (n:Nat) (v:World) (k:Int) (sl:List Sld) (gs:List Gram) (p:Person) (e:Event):Prop where
 eq:v=mkT w k sl gs n p e
 k0:0≤k
 k3:k≤3
 gs1:gs.length≤1
 inn:n < w.people.length
 name:p.name=(getP w.people n).name
 key:p.key=(getP w.people n).key
 clock:p.clock=(getP w.people n).clock
 corrupt:p.corrupt=(getP w.people n).corrupt
 okp:okP w.conf (getP w.people n)=true→okP w.conf p=true
 box:Right07 w.box=true→Right07 ⟨w.box.room,w.box.rows++sl⟩=true
 net:(w.net.grams.length:Int)≤w.net.room→((w.net.grams.length + gs.length:Nat):Int)≤w.net.room
 words:∀ g∈gs,g.words.length≤64
theorem base_right {w:World} {k key label:Int} {sl:List Sld} {p:Part} (h:(sealW (baseT w k sl) key label p).2.2=0) (hr:Right07 ⟨w.box.room,w.box.rows++sl⟩=true):Right07 ⟨w.box.room,w.box.rows++(sl++[sld w k key label p])⟩=true:=by
 have h1:=seal_right (w:=baseT w k sl) hr key label p
 rw [base_seal h] at h1
 exact h1
theorem base_right1 {w:World} {k key label:Int} {p:Part} (h:(sealW (baseT w k []) key label p).2.2=0) (hr:Right07 w.box=true):Right07 ⟨w.box.room,w.box.rows++[sld w k key label p]⟩=true :=
 base_right (sl:=[]) h (by rw [List.append_nil];exact hr)
theorem nil_right {w:World} (hr:Right07 w.box=true):Right07 ⟨w.box.room,w.box.rows++[]⟩=true:=by rw [List.append_nil];exact hr
theorem words_le (to:Int) (m:Msg):∀ g∈[(⟨to,msgWs m⟩:Gram)],g.words.length≤64:=by
 intro g hg
 simp only [List.mem_singleton] at hg
 subst hg
 have:=msgWs_len m
 show (msgWs m).length≤64
 omega
theorem setRun_okp {w:World} {p:Person} (i:Nat) {r:Run} (hr:May09 r=true):okP w.conf p=true→okP w.conf (setRun p i r)=true:=fun h=>okP_set h hr i
theorem full_lt {w:World} {p:Person} (h:full w p=false):(p.runs.length:Int) < w.conf.runs:=by have:=of_decide_eq_false h;omega
theorem push_okp {w:World} {p:Person} {r:Run} (hr:May09 r=true) (hf:full w p=false):okP w.conf p=true→okP w.conf (pushRun p r)=true:=fun h=>okP_push h hr (full_lt hf)
theorem room_1 {w:World} {b:Int} (h:roomW w b 1=true):(w.net.grams.length:Int)≤w.net.room→((w.net.grams.length + 1:Nat):Int)≤w.net.room:=fun _=>by have:=room_net h;omega
theorem took_form {w v:World} {n:Nat} {k:Int} {sl:List Sld} {gs:List Gram} {p:Person} {e:Event} (h:Took w n v k sl gs p e) (hf:w.form) (hn:w.draws.next + k≤1048576):v.form:=by
 have hr:=hf.right
 have hnm:=names_of_right hr
 have hlen:=right_len hr
 have hg:getP w.people n=w.people[n]'h.inn:=by simp only [getP,List.getElem?_eq_getElem h.inn,Option.getD_some]
 rw [h.eq]
 have hnet:=hf.net
 simp only [Right06,Bool.and_eq_true,decide_eq_true_eq] at hnet
 have k0:=h.k0
 have n0:=hf.next0
 refine ⟨hf.may,h.box hf.box,hf.broom,?_,hf.nroom,?_,?_,hf.nregs,?_,hn,?_,hf.regs,?_,?_⟩
 ·have h1:=h.net (by omega)
  show Right06 ⟨w.net.room,w.net.grams++gs,w.net.seen++gs.map Gram.words⟩=true
  simp only [Right06,Bool.and_eq_true,decide_eq_true_eq]
  exact ⟨hnet.1,by rw [List.length_append];exact h1⟩
 ·refine names_right (fun i hi=>?_) (by simp only [mkT,List.length_set];omega) (by simp only [mkT,List.length_set];omega)
  simp only [mkT,List.length_set] at hi
  simp only [mkT,List.getElem_set]
  split
  ·rename_i e;subst e
   rw [h.name,hg];exact hnm _ h.inn
  ·exact hnm i hi
 ·show ((w.people.set n p).length:Int)=_
  rw [List.length_set];exact hf.npl
 ·show 0≤w.draws.next + k;omega
 ·intro q hq
  rcases List.mem_or_eq_of_mem_set hq with h1|rfl
  ·exact hf.okp q h1
  ·exact h.okp (by rw [hg];exact hf.okp _ (List.getElem_mem h.inn))
 ·intro l hl
  rcases List.mem_append.1 hl with h1|h1
  ·exact hf.seen l h1
  ·obtain ⟨g,hg,rfl⟩:=List.mem_map.1 h1
   exact h.words g hg
 ·intro g hg
  rcases List.mem_append.1 hg with h1|h1
  ·exact hf.grams g h1
  ·exact h.words g h1
theorem grantN_room {w:World} {me:Int} {m:Msg} (h:(grantN w me m).2=0):roomW w 0 1=true:=by
 cases c:roomW w 0 1
 ·exfalso
  revert h
  unfold grantN
  cases (aG w me m).2
  ·simp
  ·cases aI w me m with
   | none=>simp
   | some i=>simp only [c,cond_true,cond_false];cases freshM (personW w me).clock (aG w me m).1.t w.conf.window<;>simp
 ·rfl
theorem echoN_room {w:World} {me:Int} {m:Msg} (h:(echoN w me m).2=0):roomW w 1 1=true:=by
 cases c:roomW w 1 1
 ·exfalso
  revert h
  unfold echoN
  cases eI w me m with
  | none=>simp
  | some i=>simp only [c,cond_false];cases freshM (personW w me).clock (runAt (personW w me).runs i).t w.conf.window<;>simp
 ·rfl
theorem ticketB_room {w:World} {me:Int} {m:Msg} (h:(ticketB w me m).2=0):roomW w 1 1=true:=by
 cases c:roomW w 1 1
 ·exfalso
  have h4:=(ticketB_done h).2.2.2.1
  revert h
  unfold ticketB
  rw [h4]
  simp only [c,Bool.and_false,cond_false,beq_self_eq_true,cond_true]
  cases (tG w me m).2<;>cases pairM w.people (tG w me m).1.a me<;>cases freshM (personW w me).clock (tG w me m).1.t w.conf.window<;>simp
 ·rfl
theorem firstB_room {w:World} {me:Int} {m:Msg} (h:(firstB w me m).2=0):roomW w 1 1=true:=by
 cases c:roomW w 1 1
 ·exfalso
  have h4:=(firstB_done h).2.2.1
  revert h
  unfold firstB
  rw [h4]
  simp only [c,Bool.and_false,cond_false,beq_self_eq_true,cond_true]
  cases (m.b==me && pairM w.people m.a me)<;>simp
 ·rfl
theorem shareB_room {w:World} {me:Int} {m:Msg} (h:(shareB w me m).2=0):roomW w 0 1=true:=by
 cases c:roomW w 0 1
 ·exfalso
  revert h
  unfold shareB
  cases bI w me m with
  | none=>simp
  | some i =>
    simp only [c,cond_false]
    cases ((bO w me m).2 && (bO w me m).1.n==(runAt (personW w me).runs i).mine)<;>simp
 ·rfl
theorem grantM_room {w:World} {m:Msg} (hr:Right10 w.people=true) (h:(grantM w m).2=0):roomW w 2 1=true:=by
 cases c:roomW w 2 1
 ·exfalso
  have h3:=(grantM_T hr h).2.2.1
  revert h
  unfold grantM
  rw [h3]
  simp only [c,cond_false,beq_self_eq_true,cond_true]
  cases pairM w.people m.a m.b<;>cases decide ((personW w 0).clock≥1073741824)<;>simp
 ·rfl
theorem shareM_room {w:World} {m:Msg} (hr:Right10 w.people=true) (h:(shareM w m).2=0):roomW w 2 1=true:=by
 cases c:roomW w 2 1
 ·exfalso
  have h3:=(shareM_T hr h).2.2.2.1
  revert h
  unfold shareM
  rw [h3]
  simp only [c,cond_false,beq_self_eq_true,cond_true]
  cases pairM w.people m.a m.b<;>cases ((sA w m).2 && (sB w m).2)<;>simp
 ·rfl
theorem may_run {p r s:Int} (hp:p=1∨p=2) (hr:r=1∨r=2) (hs:s=1∨s=2∨s=3) (a b c d e f:Int):May09 ⟨p,r,a,b,c,d,e,f,s⟩=true:=by
 rcases hp with rfl|rfl<;>rcases hr with rfl|rfl<;>rcases hs with rfl|rfl|rfl<;>rfl
theorem takeM_took {w:World} {to:Int} {m:Msg} (hf:w.form) (ht:U to) (h:(takeM w to m).2=0):∃ k sl gs p e,Took w to.toNat (takeM w to m).1 k sl gs p e:=by
 have hr:=hf.right
 have hb:=hf.box
 unfold takeM at h ⊢
 cases c0:(to==0)
 ·rw [c0] at h
  simp only [cond_false] at h ⊢
  cases c2:(m.kind==2)
  ·cases c3:(m.kind==3)
   ·cases c4:(m.kind==4)
    ·cases c5:(m.kind==5)
     ·cases c6:(m.kind==6)
      ·cases c8:(m.kind==8)
       ·cases c9:(m.kind==9)
        ·simp only [c2,c3,c4,c5,c6,c8,c9,cond_false] at h;exact absurd h (by decide)
        ·simp only [c2,c3,c4,c5,c6,c8,c9,cond_true,cond_false] at h ⊢
         obtain ⟨i,h1,h2,h3,h4,h5⟩:=shareO_T hr ht h
         obtain ⟨hi,r1,r2,r3,r4⟩:=wait_run (show (personW w to).runs.findIdx? (waitM 2 1 m.run)=some i from h1)
         rw [h5]
         exact ⟨_,_,_,_,_,rfl,by decide,by decide,by simp,h4,rfl,rfl,rfl,rfl,setRun_okp i (done_may (.inr r1) (.inl r2)),nil_right,fun h=>by simpa using h,by simp⟩
       ·simp only [c2,c3,c4,c5,c6,c8,cond_true,cond_false] at h ⊢
        have hro:=shareB_room h
        obtain ⟨i,h1,h2,h3,h4,h5⟩:=shareB_T hr ht h
        obtain ⟨hi,r1,r2,r3,r4⟩:=wait_run (show (personW w to).runs.findIdx? (waitM 2 2 m.run)=some i from h1)
        rw [h5]
        exact ⟨_,_,_,_,_,rfl,by decide,by decide,by simp,h4,rfl,rfl,rfl,rfl,setRun_okp i (done_may (.inr r1) (.inr r2)),nil_right,room_1 hro,words_le _ _⟩
      ·simp only [c2,c3,c4,c5,c6,cond_true,cond_false] at h ⊢
       have hro:=firstB_room h
       obtain ⟨h1,h2,h3,h4,h5,h6⟩:=firstB_T hr ht h
       rw [h6]
       exact ⟨_,_,_,_,_,rfl,by decide,by decide,by simp,(pair_in h2).2.2.2.2,rfl,rfl,rfl,rfl,fun h=>push_okp (may_run (by decide) (by decide) (by decide) _ _ _ _ _ _) h4 (okP_used h h3),base_right1 h5,room_1 hro,words_le _ _⟩
     ·simp only [c2,c3,c4,c5,cond_true,cond_false] at h ⊢
      obtain ⟨i,h1,h2,h3,h4⟩:=backB_T hr ht h
      obtain ⟨hi,r1,r2,r3,r4,r5⟩:=back_run h1
      rw [h4]
      refine ⟨_,_,_,_,_,rfl,by decide,by decide,by simp,h3,rfl,rfl,rfl,rfl,setRun_okp i ?_,nil_right,fun h=>by simpa using h,by simp⟩
      rw [endR',r1,r2];exact may_run (by decide) (by decide) (by decide) _ _ _ _ _ _
    ·simp only [c2,c3,c4,cond_true,cond_false] at h ⊢
     have hro:=echoN_room h
     obtain ⟨i,h1,h2,h3,h4,h5⟩:=echoN_T hr ht h
     obtain ⟨hi,r1,r2,r3,r4⟩:=echo_run h1
     rw [h5]
     refine ⟨_,_,_,_,_,rfl,by decide,by decide,by simp,h3,rfl,rfl,rfl,rfl,setRun_okp i ?_,base_right1 h4,room_1 hro,words_le _ _⟩
     rw [backR,r1,r2];exact may_run (by decide) (by decide) (by decide) _ _ _ _ _ _
   ·simp only [c2,c3,cond_true,cond_false] at h ⊢
    have hro:=ticketB_room h
    obtain ⟨h1,h2,h3,h4,h5,h6,h7⟩:=ticketB_T hr ht h
    rw [h7]
    exact ⟨_,_,_,_,_,rfl,by decide,by decide,by simp,(pair_in h2).2.2.2.2,rfl,rfl,rfl,rfl,fun h=>push_okp (may_run (by decide) (by decide) (by decide) _ _ _ _ _ _) h5 (okP_used h h4),base_right1 h6,room_1 hro,words_le _ _⟩
  ·simp only [c2,cond_true] at h ⊢
   have hro:=grantN_room h
   obtain ⟨i,h1,h2,h3,h4,h5⟩:=grantN_T hr ht h
   obtain ⟨hi,r1,r2,r3,r4,r5⟩:=grant_run h1
   rw [h5]
   refine ⟨_,_,_,_,_,rfl,by decide,by decide,by simp,h4,rfl,rfl,rfl,rfl,setRun_okp i ?_,nil_right,room_1 hro,words_le _ _⟩
   rw [tookR,r1,r2];exact may_run (by decide) (by decide) (by decide) _ _ _ _ _ _
 ·rw [c0] at h
  have hz:to=0:=by simpa using c0
  subst hz
  have hin:0 < w.people.length:=by have:=(right_len hr).1;omega
  simp only [cond_true] at h ⊢
  cases c1:(m.kind==1)
  ·cases c7:(m.kind==7)
   ·simp only [c1,c7,cond_false] at h;exact absurd h (by decide)
   ·simp only [c1,c7,cond_true,cond_false] at h ⊢
    have hro:=shareM_room hr h
    obtain ⟨h1,h2,h3,h4,h5,h6,h7⟩:=shareM_T hr h
    rw [h7]
    exact ⟨_,_,_,_,_,rfl,by decide,by decide,by simp,hin,rfl,rfl,rfl,rfl,fun h=>okP_used h h4,fun hb=>base_right h6 (base_right1 h5 hb),room_1 hro,words_le _ _⟩
  ·simp only [c1,cond_true] at h ⊢
   have hro:=grantM_room hr h
   obtain ⟨h1,h2,h3,h4,h5,h6⟩:=grantM_T hr h
   rw [h6]
   exact ⟨_,_,_,_,_,rfl,by decide,by decide,by simp,hin,rfl,rfl,rfl,rfl,fun h=>okP_used h h3,fun hb=>base_right h5 (base_right1 h4 hb),room_1 hro,words_le _ _⟩
theorem deliverM_ok {w:World} {to:Int} {l:List Int} (h:(deliverM w to l).2=0):to.toNat < w.people.length∧(msgGet l).2=0∧deliverM w to l=takeM w to (msgGet l).1:=by
 unfold deliverM at h ⊢
 cases c1:decide (to.toNat < w.people.length)
 ·rw [c1] at h;cases h
 cases c2:((msgGet l).2==0)
 ·rw [c1,c2] at h
  simp only [cond_true,cond_false] at h
  rw [h] at c2;cases c2
 ·exact ⟨of_decide_eq_true c1,by simpa using c2,rfl⟩
theorem deliverM_took {w:World} {to:Int} {l:List Int} (hf:w.form) (ht:U to) (h:(deliverM w to l).2=0):∃ k sl gs p e,Took w to.toNat (deliverM w to l).1 k sl gs p e:=by
 obtain ⟨h1,h2,h3⟩:=deliverM_ok h
 rw [h3] at h ⊢
 exact takeM_took hf ht h
def errT (e:Int):Prop:=e=0∨e=5∨e=6∨e=7∨e=8∨e=9∨e=10
theorem e0:errT 0:=.inl rfl
theorem e5:errT 5:=.inr (.inl rfl)
theorem e6:errT 6:=.inr (.inr (.inl rfl))
theorem e7:errT 7:=.inr (.inr (.inr (.inl rfl)))
def cutM (l:List Int) (a b:Int):Option (List Int):=bif decide (a < 0) || (decide (b < a) || decide (b > (l.length:Int))) then none else some ((l.take b.toNat).drop a.toNat)
def regM (w:World) (i:Int):Option (List Int):=bif decide (i < 0) || decide (i≥(w.regs.length:Int)) then none else some ((w.regs[i.toNat]?).getD [])
def firstM (w:World) (i:Int):Option Int:=match regM w i with
 | some (x::_)=>some x
 | _=>none
def setReg (w:World) (i:Int) (l:List Int):World:=⟨w.conf,w.draws,w.box,w.net,w.people,w.log,w.regs.set i.toNat l,w.leaks⟩
def lit0 (w:World) (o:Op):World×Int:=bif decide ((o.words.length:Int) > 64) then (w,3) else (setReg w o.a o.words,0)
def seen1 (w:World) (o:Op):World×Int:=bif decide (o.b < 0) || decide (o.b≥(w.net.seen.length:Int)) then (w,1) else match cutM ((w.net.seen[o.b.toNat]?).getD []) o.c o.d with
 | none=>(w,1)
 | some l=>(setReg w o.a l,0)
def cut2 (w:World) (o:Op):World×Int:=match regM w o.b with
 | none=>(w,1)
 | some s=>match cutM s o.c o.d with
   | none=>(w,1)
   | some l=>(setReg w o.a l,0)
def cat3 (w:World) (o:Op):World×Int:=match regM w o.b,regM w o.c with
 | some x,some y=>bif decide ((x.length:Int) + (y.length:Int) > 64) then (w,3) else (setReg w o.a (x++y),0)
 | _,_=>(w,1)
def seal4 (w:World) (o:Op):World×Int:=match firstM w o.b,firstM w o.c,regM w o.d with
 | some x,some y,some z=>bif (boxSeal w.box (drawW w).2 x y z).2==0 then (setReg { (drawW w).1 with box:=(boxSeal w.box (drawW w).2 x y z).1 } o.a [(drawW w).2],0) else (w,(boxSeal w.box (drawW w).2 x y z).2)
 | _,_,_=>(w,1)
def open5 (w:World) (o:Op):World×Int:=match firstM w o.b,firstM w o.c,firstM w o.d with
 | some x,some y,some z=>(match boxOpen w.box x y z with
   | none=>(w,6)
   | some l=>(setReg w o.a l,0))
 | _,_,_=>(w,1)
def corrupt6 (w:World) (o:Op):World×Int:=bif decide (o.b < 1) || decide (o.b≥(w.people.length:Int)) then (w,5) else (setReg (withW w { personW w o.b with corrupt:=true }) o.a [(personW w o.b).key],0)
def leak7 (w:World) (o:Op):World×Int:=bif decide (o.b < 0) || decide (o.b≥(w.log.length:Int)) then (w,1) else match w.log[o.b.toNat]? with
 | none=>(w,1)
 | some e=>bif e.kind==2 then (setReg { w with leaks:=w.leaks++[⟨e.k,(personW w e.b).clock⟩] } o.a [e.k],0) else (w,1)
def isAdv (o:Op):Bool:=decide (o.kind≥0) && decide (o.kind≤7)
def advM (w:World) (o:Op):World×Int:=bif isAdv o && (regM w o.a).isSome then
 (bif o.kind==0 then lit0 w o else bif o.kind==1 then seen1 w o else bif o.kind==2 then cut2 w o else bif o.kind==3 then cat3 w o else bif o.kind==4 then seal4 w o else bif o.kind==5 then open5 w o else bif o.kind==6 then corrupt6 w o else leak7 w o)
 else (w,1)
def nameB (n:Int):Bool:=decide (n≥0) && decide (n≤255)
def capT (n:Int):Int:=if 1073741824 < n then 1073741824 else n
def tick8 (w:World) (o:Op):World×Int:=bif decide (o.a < 0) || decide (o.a≥(w.people.length:Int)) then (w,5) else bif decide (o.b < 0) then (w,1) else (withW w { personW w o.a with clock:=tickM (personW w o.a).clock (capT o.b) },0)
def inNet (w:World) (i:Int):Bool:=decide (i≥0) && decide (i < (w.net.grams.length:Int))
def gramAt (w:World) (i:Int):Gram:=(w.net.grams[i.toNat]?).getD ⟨0,[]⟩
def gone (w:World) (i:Int):World:=⟨w.conf,w.draws,w.box,⟨w.net.room,w.net.grams.eraseIdx i.toNat,w.net.seen⟩,w.people,w.log,w.regs,w.leaks⟩
def twice (w:World) (i:Int):World:=⟨w.conf,w.draws,w.box,⟨w.net.room,w.net.grams++[gramAt w i],w.net.seen⟩,w.people,w.log,w.regs,w.leaks⟩
def begin9 (w:World) (o:Op):World×Int:=bif nameB o.a && nameB o.b then (bif o.kind==9 then startN w o.a o.b else startO w o.a o.b) else (w,5)
def deliver11 (w:World) (o:Op):World×Int:=bif inNet w o.a then deliverM (gone w o.a) (gramAt w o.a).to (gramAt w o.a).words else (w,1)
def drop12 (w:World) (o:Op):World×Int:=bif inNet w o.a then (gone w o.a,0) else (w,1)
def double13 (w:World) (o:Op):World×Int:=bif inNet w o.a then (bif decide (w.net.room - (w.net.grams.length:Int) < 1) then (w,10) else (twice w o.a,0)) else (w,1)
def inject14 (w:World) (o:Op):World×Int:=match regM w o.a with
 | none=>(w,1)
 | some l=>bif nameB o.b then deliverM w o.b l else (w,5)
def stepM (w:World) (o:Op):World×Int :=
 bif isAdv o then advM w o else bif o.kind==8 then tick8 w o else bif o.kind==9 || o.kind==10 then begin9 w o else bif o.kind==11 then deliver11 w o else bif o.kind==12 then drop12 w o else bif o.kind==13 then double13 w o else bif o.kind==14 then inject14 w o else (w,1)
def runM (w:World):List Op→World×List Int
 | []=>(w,[])
 | o::l=>((runM (stepM w o).1 l).1,(stepM w o).2::(runM (stepM w o).1 l).2)
theorem runM_snoc (w:World) (l:List Op) (o:Op):runM w (l++[o])=((stepM (runM w l).1 o).1,(runM w l).2++[(stepM (runM w l).1 o).2]):=by
 induction l generalizing w with
 | nil=>rfl
 | cons a l ih=>simp only [List.cons_append,runM,ih]
theorem runM_len (w:World) (l:List Op):(runM w l).2.length=l.length:=by
 induction l generalizing w with
 | nil=>rfl
 | cons a l ih=>simp only [runM,List.length_cons,ih]
theorem regM_mem {w:World} {i:Int} {l:List Int} (h:regM w i=some l):0≤i∧i.toNat < w.regs.length∧w.regs[i.toNat]?=some l:=by
 unfold regM at h
 cases c:(decide (i < 0) || decide (i≥(w.regs.length:Int)))
 ·rw [c] at h
  simp only [Bool.or_eq_false_iff,decide_eq_false_iff_not] at c
  have hl:i.toNat < w.regs.length:=by omega
  simp only [cond_false,List.getElem?_eq_getElem hl,Option.getD_some,Option.some.injEq] at h
  exact ⟨by omega,hl,by rw [List.getElem?_eq_getElem hl,h]⟩
 ·rw [c] at h;cases h
theorem regM_ok {w:World} {N:Nat} (hw:w.fit N) {i:Int} {l:List Int} (h:regM w i=some l):LL U l∧l.length≤N:=by
 obtain ⟨_,_,h3⟩:=regM_mem h
 have hm:=List.mem_of_getElem? h3
 exact ⟨hw.ok.2.2.2.2.2.2.1.2 l hm,hw.reg l hm⟩
theorem firstM_U {w:World} {N:Nat} (hw:w.fit N) {i x:Int} (h:firstM w i=some x):U x:=by
 unfold firstM at h
 cases c:regM w i with
 | none=>rw [c] at h;cases h
 | some l =>
   rw [c] at h
   cases l with
   | nil=>cases h
   | cons y l =>
     simp only [Option.some.injEq] at h
     subst h
     exact (regM_ok hw c).1.2 _ (List.mem_cons_self)
theorem LL.cut {l:List Int} (h:LL U l) (a b:Nat):LL U ((l.take b).drop a) :=
 ⟨by have:=h.1;simp only [List.length_drop,List.length_take];omega,fun x hx=>h.2 x (List.mem_of_mem_take (List.mem_of_mem_drop hx))⟩
theorem fit_reg {w:World} {N:Nat} (hw:w.fit N) (hN:64≤N) (i:Int) {l:List Int} (hl:LL U l) (hn:l.length≤N):(setReg w i l).fit N :=
 { hw with
   ok:=⟨hw.ok.1,hw.ok.2.1,hw.ok.2.2.1,hw.ok.2.2.2.1,hw.ok.2.2.2.2.1,hw.ok.2.2.2.2.2.1,LL.set hw.ok.2.2.2.2.2.2.1 _ hl,hw.ok.2.2.2.2.2.2.2⟩
   regs:=by show (w.regs.set i.toNat l).length≤N;rw [List.length_set];exact hw.regs
   reg:=fun x hx=>by
    rcases List.mem_or_eq_of_mem_set hx with h1|rfl
    ·exact hw.reg x h1
    ·exact hn }
end Ch
namespace Go.Ab
open Go Go.RowKit
theorem RUN_min {X:Ctx} {x y:Operand} {ats:Array TypeId} {kd:IntKind} {m n:Int} {dst:Option Tmp} {ty:TypeId} {p:String} {af:Array Edge} {all l:List Oper} {k:List It} {fr:List V} {st:List (List V)} {H:List AB}
 (hx:evalO X.G fr x=.val (.int kd m)) (hy:evalO X.G fr y=.val (.int kd n))
 (h:RUN X ⟨.ops all l::k,putV fr dst (.val (.int kd (if n < m then n else m))),st,H⟩):RUN X ⟨.ops all (⟨dst,.call ⟨.builtin .min,#[x,y],ats⟩,ty,p,af,none⟩::l)::k,fr,st,H⟩:=by
 intro sa a E hH hR hD
 simp only at hH hR;subst hH
 simp only [DF] at hD
 simp only [post]
 have hC:Comes X.P X.G X.w0 X.M0 E a (⟨dst,.call ⟨.builtin .min,#[x,y],ats⟩,ty,p,af,none⟩:Oper) (.val (.int kd (if n < m then n else m))) E.H:=by
  have h1:=evalO_sound hR.ok hR.fr x
  have h2:=evalO_sound hR.ok hR.fr y
  rw [hx] at h1
  rw [hy] at h2
  simp only [Rep] at h1 h2
  refine Comes.pure hR.ok (x:=.int kd (if n < m then n else m)) ?_ (by simp [Rep,Value.oneCell'])
  simp [execOp,resolve,invoke,builtin,Builtin.min_,Builtin.min2,h1.1,h2.1]
 obtain ⟨x',E',h1,h2,h3,h4,h5⟩:=hC
 have hn:=h sa (a.put dst x') E' h2 (hR.put h3 h4 h5 dst) (by simpa only [DF,put_defers] using hD)
 unfold wpListIn
 rw [if_pos (by simp [Region.wanted])]
 refine ⟨fun _ _=>trivial,?_⟩
 rw [Oper.semAt_eq _ _ _ (by intro c hc;cases hc)]
 rcases h1 with h1|⟨h1,rfl⟩<;>rw [h1]
 ·exact hn
 ·exact hn
section
variable {P:Program} {G:Glob} {w0:World} {M0:Nat→Nat→Prop} {R:Value→World→Prop}
theorem RUNs_min {x y:Operand} {ats:Array TypeId} {kd:IntKind} {m n:Int} {dst:Option Tmp} {ty:TypeId} {p:String} {af:Array Edge} {all l:List Oper} {k:List It} {fr:List V} {st:List (List V)} {H:List AB}
 (hx:evalO G fr x=.val (.int kd m)) (hy:evalO G fr y=.val (.int kd n)) (hs:step P G ⟨.ops all (⟨dst,.call ⟨.builtin .min,#[x,y],ats⟩,ty,p,af,none⟩::l)::k,fr,st,H⟩=none)
 (h:RUNs P G w0 M0 R ⟨.ops all l::k,putV fr dst (.val (.int kd (if n < m then n else m))),st,H⟩):RUNs P G w0 M0 R ⟨.ops all (⟨dst,.call ⟨.builtin .min,#[x,y],ats⟩,ty,p,af,none⟩::l)::k,fr,st,H⟩ :=
 RUNs_stop hs (RUN_min (X:=⟨P,G,w0,M0,R⟩) hx hy (RUN_of_RUNs h))
end
end Go.Ab
namespace Go.Proofs
open Go.Shelf
def Tryz.growLeak_ren:Go.Shelf.Ren:=⟨fun|4=>239|n=>n,fun|0=>0|3=>3|4=>4|9=>9|20=>20|22=>38|25=>96|n=>n,fun n=>n⟩
theorem Tryz.growLeak:Lays8.n4 Tryz.prog Tryz.growLeak_ren where
 mixed:=by kernel_rfl
 f4:=⟨Tryz.f239.name,of_decide_eq_true (by kernel_rfl),Tryz.func239.trans (congrArg some (by kernel_rfl))⟩
 t0:=Tryz.underlying0
 a0:=Tryz.isAgg0
 z0:=Tryz.sizeOf0
 v0:=Tryz.zeroValue0
 t3:=Tryz.underlying3
 a3:=Tryz.isAgg3
 z3:=Tryz.sizeOf3
 v3:=Tryz.zeroValue3
 t4:=Tryz.underlying4
 a4:=Tryz.isAgg4
 z4:=Tryz.sizeOf4
 v4:=Tryz.zeroValue4
 t9:=Tryz.underlying9
 a9:=Tryz.isAgg9
 z9:=Tryz.sizeOf9
 v9:=Tryz.zeroValue9
 t20:=Tryz.underlying20
 a20:=Tryz.isAgg20
 z20:=Tryz.sizeOf20
 v20:=Tryz.zeroValue20
 t22:=Tryz.underlying38
 a22:=Tryz.isAgg38
 z22:=Tryz.sizeOf38
 v22:=Tryz.zeroValue38
end Go.Proofs
theorem Ch.GrowLeak_spec (n:Nat) (hn:n≤1099511627776):Go.Ab.Spec Go.Ab.PP Ch.GG 239 [.sl [] .nil,Ch.i64 n] (.row 0 0) [.row 2 [] 0 false] :=
 Go.Ab.Grow_nil' Go.Proofs.Tryz.growLeak Ch.GG 38 rfl Go.Ab.ty38 rfl Go.Ab.ty96 rfl (by decide) (by decide) n hn
namespace Ch
open Go Go.Ab Go.Proofs.Tryz
theorem ctick_spec (now b:Int) (h1:U now) (h2:U b):Spec PP GG 179 [u32 now,u32 b] (u32 (tickM now b)) []:=by
 obtain ⟨a1,a2⟩:=h1
 obtain ⟨b1,b2⟩:=h2
 refine Qs func179 ?_
 intro w0 M0
 simp only [f179,lf,z,seval]
 (refine qc func200 ?_;simp only [f200,lf,z,seval])
 simp only [wu64 (n:=now) (by omega) (by omega),wu64 (n:=b) (by omega) (by omega),wu64 (n:=now + b) (by omega) (by omega),z,seval]
 refine RUNs_min (by rfl) (by rfl) (by rfl) ?_
 simp only [z,seval]
 by_cases h:(1073741824:Int) < now + b
 ·simp only [if_pos h,z,seval]
  (refine Qf ?_;simp only [z,seval])
  simp only [tickM,if_neg (show ¬ now + b < 1073741824 by omega)]
  rfl
 ·have e:tickM now b=now + b:=by simp only [tickM];split<;>omega
  have hw:IntKind.u32.wrap (now + b)=now + b:=by rw [IntKind.wrap_u32];omega
  simp only [if_neg h,hw,z,seval]
  (refine Qf ?_;simp only [z,seval])
  simp only [e]
theorem slc_map {l:List Int} {a b:Nat}:((l.map u32).take b).drop a=((l.take b).drop a).map u32:=by rw [List.map_drop,List.map_take]
theorem wCut_spec (l:List Int) (a b:Int) (hl:l.length≤1099511627776):Spec PP GG 236 [wordsV l,i64 a,i64 b] (.tup [wordsV ((cutM l a b).getD []),.bool (cutM l a b).isSome]) []:=by
 cases c1:decide (a < 0) with
 | true =>
   have e:cutM l a b=none:=by unfold cutM;rw [c1];rfl
   rw [e]
   refine Qs func236 ?_
   intro w0 M0
   simp only [f236,lf,z,seval]
   simp only [c1,z,seval]
   (refine Qf ?_;simp only [z,seval])
   rfl
 | false =>
 cases c2:decide (b < a) with
 | true =>
   have e:cutM l a b=none:=by unfold cutM;rw [c1,c2];rfl
   rw [e]
   refine Qs func236 ?_
   intro w0 M0
   simp only [f236,lf,z,seval]
   simp only [c1,c2,z,seval]
   (refine Qf ?_;simp only [z,seval])
   rfl
 | false =>
 cases c3:decide (b > (l.length:Int)) with
 | true =>
   have e:cutM l a b=none:=by unfold cutM;rw [c1,c2,c3];rfl
   rw [e]
   refine Qs func236 ?_
   intro w0 M0
   simp only [f236,lf,z,seval]
   simp only [c1,c2,c3,z,seval]
   (refine Qf ?_;simp only [z,seval])
   rfl
 | false =>
   have d1:=of_decide_eq_false c1
   have d2:=of_decide_eq_false c2
   have d3:=of_decide_eq_false c3
   obtain ⟨a,rfl⟩:=Int.eq_ofNat_of_zero_le (show 0≤a by omega)
   obtain ⟨b,rfl⟩:=Int.eq_ofNat_of_zero_le (show 0≤b by omega)
   have e:cutM l a b=some ((l.take b).drop a):=by unfold cutM;rw [c1,c2,c3];rfl
   rw [e]
   have hC:=CloneW_fz ((l.take b).drop a) (by simp only [List.length_drop,List.length_take];omega)
   refine Qs func236 ?_
   intro w0 M0
   simp only [f236,lf,z,seval]
   simp only [c1,c2,c3,z,seval]
   refine OPC_ok ?_ ?_
   ·have q1:a≤b:=by omega
    have q2:b≤l.length:=by omega
    simp [slcB,q1,q2,lenE']
    intro x _;rfl
   have e2:((l.map u32).take b).drop a=((l.take b).drop a).map u32:=slc_map
   try simp only [e2,z,seval]
   (refine CU hC (h:=?_);simp only [z,seval])
   (refine Qf ?_;simp only [z,seval])
   rfl
theorem ConcatLeak_spec (L:List (List Leak)) (hl:L.flatten.length≤1099511627776) (hL:L.length≤1099511627776):Spec PP GG 215 [.sl (L.map fun l=>.sl (l.map Leak.v) .plain) .plain] (.sl (L.flatten.map Leak.v) .plain) []:=by
 refine Qs func215 ?_
 intro w0 M0
 simp only [f215,lf,z,seval]
 refine RUNs_rangeS (L.length) (fun _ (_:Unit)=>True) (fun i _=>[(3,i64 (L.take i).flatten.length),(11,i64 i)]) (fun _ _=>[]) () ?_ (by simp only [z,seval];exact wk) rfl ?_
 ·trivial
 rintro ⟨i,_,hi,-⟩
 simp only [z,seval]
 refine CONDS_split (fun h=>?_) (fun h=>?_)
 ·have hlt:i < L.length:=by simpa using h
  have hs:=flat_succ hlt
  have hf:=flat_le L (i + 1)
  have hk:IntKind.i64.wrap (((L.take i).flatten.length:Int) + (L[i].length:Int))=((L.take (i + 1)).flatten.length:Nat):=by
   rw [hs] at hf ⊢
   rw [List.length_append] at hf ⊢
   rw [w64 (by omega) (by omega)];omega
  simp only [z,seval,getMap (fun l:List Leak=>V.sl (l.map Leak.v) .plain) L hlt,hk]
  refine CONDS_split (fun h=>?_) (fun h=>?_)
  ·exact absurd h (by simp)
  ·simp only [z,seval,w64s (i:=i) (by omega)]
   refine NX () (hi:=hlt) (hinv:=?_)
   trivial
 ·obtain rfl:i=L.length:=by simp at h;omega
  rw [List.take_length]
  simp only [z,seval]
  (refine CALLS_specP' (by kernel_rfl) (GrowLeak_spec L.flatten.length hl) (by rfl) (by rfl) ?_;simp only [z,seval])
  refine RUNs_rangeS (L.length) (fun _ (_:Unit)=>True) (fun i _=>[(6,.row 0 i),(27,i64 i)]) (fun i _=>[(0,.row 2 ((L.take i).flatten.map Leak.v) i false)]) () ?_ (by simp only [z,seval];exact wk) rfl ?_
  ·trivial
  rintro ⟨i,_,hi,-⟩
  simp only [z,seval]
  refine CONDS_split (fun h=>?_) (fun h=>?_)
  ·have hlt:i < L.length:=by simpa using h
   simp only [z,seval,getMap (fun l:List Leak=>V.sl (l.map Leak.v) .plain) L hlt]
   have hs:=flat_succ hlt
   have hf:=flat_le L (i + 1)
   rw [hs,List.length_append] at hf
   refine OPC_ok (by simp only [Bool.and_eq_true,List.all_eq_true,decide_eq_true_eq];exact ⟨fun x hx=>by obtain ⟨y,_,rfl⟩:=List.mem_map.1 hx;rfl,by first|omega|(simp only [List.length_map];omega)⟩) ?_
   rw [← List.map_append,← hs]
   simp only [z,seval,w64s (i:=i) (by omega)]
   refine NX () (hi:=hlt) (hinv:=?_)
   trivial
  ·simp only [z,seval]
   obtain rfl:i=L.length:=by simp at h;omega
   rw [List.take_length]
   (refine Qf ?_;simp only [z,seval])
theorem ConcatLeak_2 (A B:List Leak) (hl:A.length + B.length≤1099511627776):Spec PP GG 215 [.sl [.sl (A.map Leak.v) .plain,.sl (B.map Leak.v) .plain] .plain] (.sl ((A++B).map Leak.v) .plain) []:=by
 have:=ConcatLeak_spec [A,B] (by simpa using hl) (by simp)
 simpa using this
theorem CloneR_spec (l:List (List Int)) (hl:l.length≤1099511627776):Spec PP GG 114 [.sl (l.map wordsV) .plain] (.row 0 0) [.row 1 (l.map wordsV) 0 false]:=by
 refine Qs func114 ?_
 intro w0 M0
 simp only [f114,lf,z,seval]
 refine OPV_nilq rfl rfl ty33 rfl rfl ?_
 intro b hb _
 rcases b
 ·simp only [z,seval]
  refine OPC_ok (okMap _ (fun a=>rfl) hl) ?_
  simp only [z,seval]
  exact FINS_own rfl rfl
 ·obtain rfl:l=[]:=by
   cases l with
   | nil=>rfl
   | cons a l=>exact absurd (hb (by simp)) (by simp)
  simp only [List.map_nil,z,seval]
  intro _
  refine RUNs_row0 2 1 (h:=?_)
  simp only [z,seval]
  exact FINS_own rfl rfl
theorem CloneGram_spec (l:List Gram) (hl:l.length≤1099511627776):Spec PP GG 225 [.sl (l.map Gram.v) .plain] (.row 0 0) [.row 2 (l.map Gram.v) 0 false]:=by
 refine Qs func225 ?_
 intro w0 M0
 simp only [f225,lf,z,seval]
 refine OPV_nilq rfl rfl ty32 rfl rfl ?_
 intro b hb _
 rcases b
 ·simp only [z,seval]
  refine OPC_ok (okMap _ (fun a=>rfl) hl) ?_
  simp only [z,seval]
  exact FINS_own rfl rfl
 ·obtain rfl:l=[]:=by
   cases l with
   | nil=>rfl
   | cons a l=>exact absurd (hb (by simp)) (by simp)
  simp only [List.map_nil,z,seval]
  intro _
  refine RUNs_row0 2 2 (h:=?_)
  simp only [z,seval]
  exact FINS_own rfl rfl
end Ch
namespace Go.Ab
open Go Go.RowKit
structure DelP (sz b nn j:Nat) (C:Array Value) (ty:TypeId) (w w':World):Prop where
 ex:∃ C':Array Value,C'.size=C.size∧C'.toList.take ((nn - 1) * sz)=C.toList.take (j * sz)++(C.toList.take (nn * sz)).drop ((j + 1) * sz)∧w'.heap[b]?=some (.cells C' ty (0,0))
 below:Below b w w'
 size:w'.heap.size=w.heap.size
 other:∀ k,k≠b→w'.heap[k]?=w.heap[k]?
def DelC (P:Program) (n:FuncId) (sz:Nat):Prop := ∀ (w:World) (b cap nn j:Nat) (C:Array Value) (ty:TypeId),w.heap[b]?=some (.cells C ty (0,0))→C.size=cap * sz→nn≤cap→cap≤maxLen→j < nn→(∀ v∈C.toList.take (nn * sz),v.oneCell'=true) →
 Calls P n #[.slice (some ⟨b,0,none⟩) nn cap,.int .i64 j,.int .i64 ((j + 1:Nat):Int)] w fun e w'=>e=.returned (.slice (some ⟨b,0,none⟩) (nn - 1) cap)∧DelP sz b nn j C ty w w'
theorem RUNc_row {X:Ctx} {n:FuncId} {sz i ver j:Nat} {es:List V} {dst:Option Tmp} {k:List It} {fr:List V} {st:List (List V)} {H:List AB}
 (hc:DelC X.P n sz) (hi:H[i]?=some (.row sz es ver false)) (hok:es.all (okE sz)=true) (hj:j < es.length)
 (h:RUN X ⟨k,putV fr dst (.row i (ver + 1)),st,H.set i (.row sz (es.eraseIdx j) (ver + 1) false)⟩):RUNc X n [.row i ver,.int .i64 j,.int .i64 ((j + 1:Nat):Int)] dst ⟨k,fr,st,H⟩:=by
 intro sa a E xs hH hR hD hx
 simp only at hH hR hD
 subst hH
 simp only [RepL,Rep,hi] at hx
 obtain ⟨x1,_,rfl,⟨_,_,hx1⟩,x2,_,rfl,⟨rfl,_⟩,x3,_,rfl,⟨rfl,_⟩,rfl⟩:=hx
 have hx1:=hx1 trivial
 obtain ⟨ad,nn,c,g1,rfl,g3,g4,g5,g6⟩:=hR.ok.blk i _ hi
 rw [g1] at hx1
 subst hx1
 have hil:i < E.H.length:=(List.getElem?_eq_some_iff.1 hi).1
 have hself:∀ ab:AB,(E.H.set i ab)[i]?=some ab:=fun ab=>by simp [hil]
 rcases g6 with ⟨q1,q2⟩|⟨b,C,et,q6,rfl,q8,q9,q10,q11,q12⟩
 ·omega
 refine (hc E.w b c es.length j C et q8 q9 g3 g4 hj (RepL.one (okE_one hok) q10)).mono ?_
 rintro e w' ⟨rfl,D⟩
 refine ⟨_,rfl,?_⟩
 obtain ⟨⟨C',d1,d2,d3⟩,d4,d5,d6⟩:=D
 have hM:∀ o,E.M b o:=fun o=>by
  rcases Nat.lt_or_ge o (es.length * sz) with ho|ho
  ·exact (q12 o ho).2 rfl
  ·exact q11 o ho
 have hbphi:=hR.ok.phi i ver b q6
 have hlen:(es.eraseIdx j).length=es.length - 1:=List.length_eraseIdx_of_lt hj
 have hsp:es.eraseIdx j=es.take j++es.drop (j + 1):=List.eraseIdx_eq_take_drop_succ es j
 have hall:∀ u∈es.eraseIdx j,u.cells.length=sz:=fun u hu=>g5.1 u (List.mem_of_mem_eraseIdx hu)
 have hflat:RepL E.bare (flatV (es.eraseIdx j)) (C'.toList.take ((es.length - 1) * sz)):=by
  rw [d2,hsp,flatV_append]
  have e0:flatV es=flatV (es.take j)++flatV (es.drop j):=by rw [← flatV_append,List.take_append_drop]
  have l1:(flatV (es.take j)).length=j * sz:=by rw [flatV_length (fun u hu=>g5.1 u (List.mem_of_mem_take hu)),List.length_take,Nat.min_eq_left (by omega)]
  have e1:flatV es=flatV (es.take (j + 1))++flatV (es.drop (j + 1)):=by rw [← flatV_append,List.take_append_drop]
  have l2:(flatV (es.take (j + 1))).length=(j + 1) * sz:=by rw [flatV_length (fun u hu=>g5.1 u (List.mem_of_mem_take hu)),List.length_take,Nat.min_eq_left (by omega)]
  have t1:(flatV es).take (j * sz)=flatV (es.take j):=by rw [e0,← l1,List.take_left'];rfl
  have t2:(flatV es).drop ((j + 1) * sz)=flatV (es.drop (j + 1)):=by rw [e1,← l2,List.drop_left'];rfl
  have r1:=RepL.take (j * sz) q10
  have r2:=RepL.drop ((j + 1) * sz) q10
  rw [t1,List.take_take,Nat.min_eq_left (Nat.mul_le_mul_right _ (by omega))] at r1
  rw [t2] at r2
  exact r1.append r2
 obtain ⟨k1,k2⟩:=hR.ok.bump hi w' (some b) (.slice (some ⟨b,0,none⟩) (es.length - 1) c) E.M sz (es.eraseIdx j) false
  (hR.ok.below.trans (d4.mono hbphi.2.2.1))
  (fun b' o u hs=>⟨by rw [World.cell?_of_block (d6 b' (fun hb=>hs.2 (by rw [hb];exact hM o)))];exact hs.1,hs.2⟩)
  (fun _ _ _=>Iff.rfl) (fun b' o hm=>by rw [d5];exact hR.ok.mlt b' o hm) (Nat.le_of_eq d5.symm)
  (fun b' hb'=>by
    injection hb' with hb';subst hb'
    exact ⟨hbphi.2.2.1,by rw [d5];exact hbphi.2.2.2,fun j u hj=>hR.ok.inj _ _ _ _ _ hj q6⟩)
  (fun j u b' hj hb'=>⟨d6 b' (by rintro rfl;exact hj (hR.ok.inj _ _ _ _ _ hb' q6)),fun _=>Iff.rfl⟩)
  (fun hle=>by
    refine ⟨some ⟨b,0,none⟩,es.length - 1,c,by simp [Env.bumped],hlen.symm,by omega,g4,⟨hall,fun u hu=>?_⟩,.inr ⟨b,C',et,by simp [Env.bumped],rfl,d3,by rw [d1,q9],RepL.mono _ hle.bare hflat,fun o _=>hM o,fun o _=>⟨fun _=>rfl,fun _=>hM o⟩⟩⟩
    show (if i=i∧u=ver + 1 then _ else E.φ i u)=none
    rw [if_neg (by omega)];exact g5.2 u (by omega))
 refine h sa _ _ rfl (hR.put k2 k1 ?_ dst) (by rw [put_defers];exact hD)
 simp only [Rep]
 refine ⟨⟨_,_,_,rfl⟩,?_⟩
 have:(E.bumped w' i ver (some b) (.slice (some ⟨b,0,none⟩) (es.length - 1) c) E.M (.row sz (es.eraseIdx j) (ver + 1) false)).H[i]?=some (.row sz (es.eraseIdx j) (ver + 1) false):=hself _
 rw [this]
 exact ⟨Nat.le_refl _,fun _=>by simp [Env.bumped]⟩
section
variable {P:Program} {G:Glob} {w0:World} {M0:Nat→Nat→Prop} {R:Value→World→Prop}
theorem CALLS_del {f:Operand} {args:List Operand} {ats:Array TypeId} {n:FuncId} {dst:Option Tmp} {ty:TypeId} {p:String} {af:Array Edge} {all l:List Oper} {k:List It} {fr:List V} {st:List (List V)} {H:List AB} {sz i ver j:Nat} {es:List V} {vargs:List V}
 (hc:DelC P n sz) (hn:callB P n=true) (hv:vargs=[.row i ver,.int .i64 j,.int .i64 ((j + 1:Nat):Int)]) (hi:H[i]?=some (.row sz es ver false)) (hok:es.all (okE sz)=true) (hj:j < es.length)
 (h:RUNs P G w0 M0 R ⟨.ops all l::k,putV fr dst (.row i (ver + 1)),st,H.set i (.row sz (es.eraseIdx j) (ver + 1) false)⟩) :
 CALLS P G w0 M0 R ⟨.ops all (⟨dst,.call ⟨.value f,args.toArray,ats⟩,ty,p,af,none⟩::l)::k,fr,st,H⟩ f args (.fn (.func n) [] []) vargs dst all l k fr st H:=by
 subst hv
 exact RUNs_call hn (RUNc_row (X:=⟨P,G,w0,M0,R⟩) hc hi hok hj (RUN_of_RUNs h))
end
end Go.Ab
