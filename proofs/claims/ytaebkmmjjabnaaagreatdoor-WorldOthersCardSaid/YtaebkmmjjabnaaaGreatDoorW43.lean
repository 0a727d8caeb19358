import Derived.Test.YtaebkmmjjabnaaaGreatDoorW33
import Derived.Test.YtaebkmmjjabnaaaGreatDoorW34
set_option maxRecDepth 100000
set_option maxHeartbeats 4000000
set_option linter.unusedSimpArgs false
set_option linter.unusedVariables false
namespace Ch
open Go Go.Ab Go.Proofs.Tryz
def reW (r:List (List Int)) (k:List Leak) (w:World):World:=⟨w.conf,w.draws,w.box,w.net,w.people,w.log,r,k⟩
def reP (r:List (List Int)) (k:List Leak) {α:Type} (x:World×α):World×α:=(reW r k x.1,x.2)
section
variable (r:List (List Int)) (k:List Leak)
theorem re_seal (w:World) (key label:Int) (p:Part):sealW (reW r k w) key label p=reP r k (sealW w key label p):=by
 unfold sealW
 cases ((partPut label p).2==0)
 ·rfl
 ·show (bif (boxSeal w.box (drawW w).2 key label (partPut label p).1).2==0 then _ else _)=_
  cases ((boxSeal w.box (drawW w).2 key label (partPut label p).1).2==0)<;>rfl
theorem re_send (w:World) (to:Int) (m:Msg):sendW (reW r k w) to m=reP r k (sendW w to m):=by
 unfold sendW
 cases ((msgPut m).2==0)
 ·rfl
 ·show (bif (netSend w.net ⟨to,(msgPut m).1⟩).2==0 then _ else _)=_
  cases ((netSend w.net ⟨to,(msgPut m).1⟩).2==0)<;>rfl
theorem re_startN (w:World) (a b:Int):startN (reW r k w) a b=reP r k (startN w a b):=by
 have e:aZ (reW r k w) a b=reW r k (aZ w a b):=by
  show (sendW (reW r k (aY w a b)) 0 (aMsg w a b)).1=_
  rw [re_send];rfl
 unfold startN
 rw [e]
 show (bif pairM w.people a b then (bif !full w (personW w a) && roomW w 0 1 then _ else _) else _)=_
 cases pairM w.people a b
 ·rfl
 ·cases (!full w (personW w a) && roomW w 0 1)<;>rfl
theorem re_startO (w:World) (a b:Int):startO (reW r k w) a b=reP r k (startO w a b):=by
 have s:oS (reW r k w) a b=reP r k (oS w a b):=re_seal r k (drawW (drawW w).1).1 _ _ _
 have e:oZ (reW r k w) a b=reW r k (oZ w a b):=by
  unfold oZ oY oMsg
  rw [s]
  show (sendW (reW r k (oY w a b)) b (oMsg w a b)).1=_
  rw [re_send];rfl
 unfold startO
 rw [e,s]
 show (bif pairM w.people a b then (bif !full w (personW w a) && roomW w 1 1 then (bif (oS w a b).2.2==0 then _ else _) else _) else _)=_
 cases pairM w.people a b
 ·rfl
 ·cases (!full w (personW w a) && roomW w 1 1)
  ·rfl
  ·cases h:((oS w a b).2.2==0)<;>simp only [cond_true,cond_false,h]<;>rfl
theorem re_grantN (w:World) (me:Int) (m:Msg):grantN (reW r k w) me m=reP r k (grantN w me m):=by
 have e1:aG (reW r k w) me m=aG w me m:=rfl
 have e2:aI (reW r k w) me m=aI w me m:=rfl
 unfold grantN
 rw [e1,e2]
 cases (aG w me m).2
 ·rfl
 ·cases aI w me m with
  | none=>rfl
  | some i =>
    have e:aX (reW r k w) me (aG w me m).1 i=reW r k (aX w me (aG w me m).1 i):=by
     show (sendW (reW r k (aT w me (aG w me m).1 i)) _ _).1=_
     rw [re_send];rfl
    simp only [cond_true]
    rw [e]
    show (bif freshM (personW w me).clock (aG w me m).1.t w.conf.window then (bif roomW w 0 1 then _ else _) else _)=_
    cases freshM (personW w me).clock (aG w me m).1.t w.conf.window
    ·rfl
    ·cases roomW w 0 1<;>rfl
theorem re_echoN (w:World) (me:Int) (m:Msg):echoN (reW r k w) me m=reP r k (echoN w me m):=by
 unfold echoN
 show (match eI w me m with
  | none=>_
  | some i=>bif freshM (personW w me).clock (runAt (personW w me).runs i).t w.conf.window then (bif roomW w 1 1 then
    (bif (eS (reW r k w) me (eN w me m i) i).2.2==0 then (eX (reW r k w) me (eN w me m i) i,0) else (_,(eS (reW r k w) me (eN w me m i) i).2.2)) else _) else _)=_
 cases eI w me m with
 | none=>rfl
 | some i =>
   have s:eS (reW r k w) me (eN w me m i) i=reP r k (eS w me (eN w me m i) i):=re_seal r k w _ _ _
   have e:eX (reW r k w) me (eN w me m i) i=reW r k (eX w me (eN w me m i) i):=by
    unfold eX eT
    rw [s]
    show (sendW (reW r k (eT w me (eN w me m i) i)) _ _).1=_
    rw [re_send];rfl
   simp only
   rw [e,s]
   cases freshM (personW w me).clock (runAt (personW w me).runs i).t w.conf.window
   ·rfl
   ·cases roomW w 1 1
    ·rfl
    ·cases h:((eS w me (eN w me m i) i).2.2==0)<;>simp only [cond_true,cond_false,reP,h]
theorem re_backB (w:World) (me:Int) (m:Msg):backB (reW r k w) me m=reP r k (backB w me m):=by
 unfold backB
 show (match kI w me m with
  | none=>_
  | some i=>bif freshM (personW w me).clock (runAt (personW w me).runs i).t w.conf.window then _ else _)=_
 cases kI w me m with
 | none=>rfl
 | some i=>simp only;cases freshM (personW w me).clock (runAt (personW w me).runs i).t w.conf.window<;>rfl
end
section
variable (r:List (List Int)) (k:List Leak)
theorem re_ticketB (w:World) (me:Int) (m:Msg):ticketB (reW r k w) me m=reP r k (ticketB w me m):=by
 have e1:tG (reW r k w) me m=tG w me m:=rfl
 unfold ticketB
 rw [e1]
 generalize tG w me m=g
 have s:tS (reW r k w) g.1=reP r k (tS w g.1):=re_seal r k (drawW w).1 _ _ _
 have e:tZ (reW r k w) me g.1=reW r k (tZ w me g.1):=by
  unfold tZ tY
  rw [s]
  show (sendW (reW r k (tY w me g.1)) _ _).1=_
  rw [re_send];rfl
 rw [e,s]
 show (bif g.2 then (bif pairM w.people g.1.a me then (bif freshM (personW w me).clock g.1.t w.conf.window then
  (bif usedMay (personW w me).used w.conf.used g.1.k==0 then (bif !full w (personW w me) && roomW w 1 1 then
    (bif (tS w g.1).2.2==0 then _ else _) else _) else _) else _) else _) else _)=_
 cases g.2
 ·rfl
 cases pairM w.people g.1.a me
 ·rfl
 cases freshM (personW w me).clock g.1.t w.conf.window
 ·rfl
 cases h1:(usedMay (personW w me).used w.conf.used g.1.k==0)
 ·simp only [cond_true,cond_false,h1];rfl
 cases (!full w (personW w me) && roomW w 1 1)
 ·simp only [cond_true,cond_false,h1];rfl
 cases h:((tS w g.1).2.2==0)<;>simp only [cond_true,cond_false,h,h1]<;>rfl
theorem re_shareO (w:World) (me:Int) (m:Msg):shareO (reW r k w) me m=reP r k (shareO w me m):=by
 have e1:oO (reW r k w) me m=oO w me m:=rfl
 have e2:oI (reW r k w) me m=oI w me m:=rfl
 unfold shareO
 rw [e1,e2]
 cases oI w me m with
 | none=>rfl
 | some i =>
   show (bif (oO w me m).2 && (oO w me m).1.n==(runAt (personW w me).runs i).mine then _ else _)=_
   simp only
   cases ((oO w me m).2 && (oO w me m).1.n==(runAt (personW w me).runs i).mine)<;>rfl
theorem re_shareB (w:World) (me:Int) (m:Msg):shareB (reW r k w) me m=reP r k (shareB w me m):=by
 have e1:bO (reW r k w) me m=bO w me m:=rfl
 have e2:bI (reW r k w) me m=bI w me m:=rfl
 unfold shareB
 rw [e1,e2]
 cases bI w me m with
 | none=>rfl
 | some i =>
   have e:bX (reW r k w) me m i (bO w me m).1.k=reW r k (bX w me m i (bO w me m).1.k):=by
    show (sendW (reW r k (bCom w me i (bO w me m).1.k)) _ _).1=_
    rw [re_send];rfl
   simp only
   rw [e]
   show (bif (bO w me m).2 && (bO w me m).1.n==(runAt (personW w me).runs i).mine then (bif roomW w 0 1 then _ else _) else _)=_
   cases ((bO w me m).2 && (bO w me m).1.n==(runAt (personW w me).runs i).mine)
   ·rfl
   ·cases roomW w 0 1<;>rfl
theorem re_firstB (w:World) (me:Int) (m:Msg):firstB (reW r k w) me m=reP r k (firstB w me m):=by
 have s:bS (reW r k w) me m=reP r k (bS w me m):=re_seal r k (drawW w).1 _ _ _
 have e:bZ (reW r k w) me m=reW r k (bZ w me m):=by
  unfold bZ bY bMsg
  rw [s]
  show (sendW (reW r k (bY w me m)) 0 (bMsg w me m)).1=_
  rw [re_send];rfl
 unfold firstB
 rw [e,s]
 show (bif m.b==me && pairM w.people m.a me then (bif usedMay (personW w me).used w.conf.used m.run==0 then (bif !full w (personW w me) && roomW w 1 1 then
  (bif (bS w me m).2.2==0 then _ else _) else _) else _) else _)=_
 cases (m.b==me && pairM w.people m.a me)
 ·rfl
 cases h1:(usedMay (personW w me).used w.conf.used m.run==0)
 ·simp only [cond_true,cond_false,h1];rfl
 cases (!full w (personW w me) && roomW w 1 1)
 ·simp only [cond_true,cond_false,h1];rfl
 cases h:((bS w me m).2.2==0)<;>simp only [cond_true,cond_false,h,h1]<;>rfl
end
section
variable (r:List (List Int)) (k:List Leak)
theorem re_grantM (w:World) (m:Msg):grantM (reW r k w) m=reP r k (grantM w m):=by
 have s:gTk (reW r k w) m=reP r k (gTk w m):=re_seal r k (drawW w).1 _ _ _
 have s2:gGr (reW r k w) m=reP r k (gGr w m):=by
  unfold gGr
  rw [s]
  exact re_seal r k (gTk w m).1 _ _ _
 have e:gZ (reW r k w) m=reP r k (gZ w m):=by
  unfold gZ gY
  rw [s2]
  exact re_send r k (gY w m) _ _
 unfold grantM
 rw [e,s2,s]
 show (bif pairM w.people m.a m.b then (bif decide ((personW w 0).clock≥1073741824) then _ else (bif usedMay (personW w 0).used w.conf.used m.nonce==0 then (bif roomW w 2 1 then
  (bif (gTk w m).2.2==0 then (bif (gGr w m).2.2==0 then (bif (gZ w m).2==0 then _ else _) else _) else _) else _) else _)) else _)=_
 cases pairM w.people m.a m.b
 ·rfl
 cases decide ((personW w 0).clock≥1073741824)
 rotate_left 1
 ·rfl
 cases h1:(usedMay (personW w 0).used w.conf.used m.nonce==0)
 ·simp only [cond_true,cond_false,h1];rfl
 cases roomW w 2 1
 ·simp only [cond_true,cond_false,h1];rfl
 cases h2:((gTk w m).2.2==0)
 ·simp only [cond_true,cond_false,h1,h2];rfl
 cases h3:((gGr w m).2.2==0)
 ·simp only [cond_true,cond_false,h1,h2,h3];rfl
 cases h4:((gZ w m).2==0)<;>simp only [cond_true,cond_false,h1,h2,h3,h4]<;>rfl
theorem re_shareM (w:World) (m:Msg):shareM (reW r k w) m=reP r k (shareM w m):=by
 have a1:sA (reW r k w) m=sA w m:=rfl
 have a2:sB (reW r k w) m=sB w m:=rfl
 have s:s1 (reW r k w) m=reP r k (s1 w m):=re_seal r k (drawW w).1 _ _ _
 have t:s2 (reW r k w) m=reP r k (s2 w m):=by
  unfold s2
  rw [s]
  exact re_seal r k (s1 w m).1 _ _ _
 have e:sZ (reW r k w) m=reP r k (sZ w m):=by
  unfold sZ sY
  rw [t,s]
  exact re_send r k (sY w m) _ _
 unfold shareM
 rw [e,t,s,a1,a2]
 show (bif pairM w.people m.a m.b then (bif (sA w m).2 && (sB w m).2 then (bif usedMay (personW w 0).used w.conf.used m.run==0 then (bif roomW w 2 1 then
  (bif (s1 w m).2.2==0 then (bif (s2 w m).2.2==0 then (bif (sZ w m).2==0 then _ else _) else _) else _) else _) else _) else _) else _)=_
 cases pairM w.people m.a m.b
 ·rfl
 cases ((sA w m).2 && (sB w m).2)
 ·rfl
 cases h1:(usedMay (personW w 0).used w.conf.used m.run==0)
 ·simp only [cond_true,cond_false,h1];rfl
 cases roomW w 2 1
 ·simp only [cond_true,cond_false,h1];rfl
 cases h2:((s1 w m).2.2==0)
 ·simp only [cond_true,cond_false,h1,h2];rfl
 cases h3:((s2 w m).2.2==0)
 ·simp only [cond_true,cond_false,h1,h2,h3];rfl
 cases h4:((sZ w m).2==0)<;>simp only [cond_true,cond_false,h1,h2,h3,h4]<;>rfl
theorem re_takeM (w:World) (to:Int) (m:Msg):takeM (reW r k w) to m=reP r k (takeM w to m):=by
 unfold takeM
 rw [re_grantM,re_shareM,re_grantN,re_ticketB,re_echoN,re_backB,re_firstB,re_shareB,re_shareO]
 cases (to==0)
 ·cases (m.kind==2)
  ·cases (m.kind==3)
   ·cases (m.kind==4)
    ·cases (m.kind==5)
     ·cases (m.kind==6)
      ·cases (m.kind==8)
       ·cases (m.kind==9)<;>rfl
       ·rfl
      ·rfl
     ·rfl
    ·rfl
   ·rfl
  ·rfl
 ·cases (m.kind==1)
  ·cases (m.kind==7)<;>rfl
  ·rfl
theorem re_deliverM (w:World) (to:Int) (l:List Int):deliverM (reW r k w) to l=reP r k (deliverM w to l):=by
 unfold deliverM
 rw [re_takeM]
 show (bif decide (to.toNat < w.people.length) then (bif (msgGet l).2==0 then _ else _) else _)=_
 cases decide (to.toNat < w.people.length)
 ·rfl
 ·cases h:((msgGet l).2==0)<;>simp only [cond_true,cond_false,h]<;>rfl
theorem re_stepM (w:World) (o:Op) (h8:8≤o.kind) (h13:o.kind≤13):stepM (reW r k w) o=reP r k (stepM w o):=by
 have na:isAdv o=false:=by
  simp only [isAdv,Bool.and_eq_false_iff,decide_eq_false_iff_not]
  right;omega
 have n14:(o.kind==14)=false:=by rw [beq_eq_false_iff_ne];omega
 unfold stepM
 rw [na,n14]
 simp only [cond_false]
 cases (o.kind==8)
 rotate_left 1
 ·simp only [cond_true]
  unfold tick8
  show (bif decide (o.a < 0) || decide (o.a≥(w.people.length:Int)) then _ else _)=_
  cases (decide (o.a < 0) || decide (o.a≥(w.people.length:Int)))
  ·cases decide (o.b < 0)<;>rfl
  ·rfl
 simp only [cond_false]
 cases (o.kind==9 || o.kind==10)
 rotate_left 1
 ·simp only [cond_true]
  unfold begin9
  rw [re_startN,re_startO]
  cases (nameB o.a && nameB o.b)
  ·rfl
  ·cases (o.kind==9)<;>rfl
 simp only [cond_false]
 cases (o.kind==11)
 rotate_left 1
 ·simp only [cond_true]
  unfold deliver11
  show (bif inNet w o.a then deliverM (reW r k (gone w o.a)) (gramAt w o.a).to (gramAt w o.a).words else _)=_
  rw [re_deliverM]
  cases inNet w o.a<;>rfl
 simp only [cond_false]
 cases (o.kind==12)
 rotate_left 1
 ·simp only [cond_true]
  unfold drop12
  show (bif inNet w o.a then _ else _)=_
  cases inNet w o.a<;>rfl
 simp only [cond_false]
 cases (o.kind==13)
 ·rfl
 ·simp only [cond_true]
  unfold double13
  show (bif inNet w o.a then (bif decide (w.net.room - (w.net.grams.length:Int) < 1) then _ else _) else _)=_
  cases inNet w o.a
  ·rfl
  ·cases decide (w.net.room - (w.net.grams.length:Int) < 1)<;>rfl
end
theorem reW_fit {w:World} {N:Nat} (hw:w.fit N) {r:List (List Int)} (h1:r.length≤N) (hN:N≤400000000000) (h2:∀ l∈r,LL U l∧l.length≤N):(reW r [] w).fit N :=
 { hw with
   ok:=⟨hw.ok.1,hw.ok.2.1,hw.ok.2.2.1,hw.ok.2.2.2.1,hw.ok.2.2.2.2.1,hw.ok.2.2.2.2.2.1,⟨by show r.length≤_;omega,fun l hl=>(h2 l hl).1⟩,⟨by show (0:Nat)≤_;omega,fun l hl=>by cases hl⟩⟩
   regs:=h1
   reg:=fun l hl=>(h2 l hl).2
   leaks:=by show (0:Nat)≤N;omega }
theorem re_same (w:World) (o:Op) (h8:8≤o.kind) (h13:o.kind≤13):(stepM w o).1.regs=w.regs∧(stepM w o).1.leaks=w.leaks:=by
 have h:=re_stepM w.regs w.leaks w o h8 h13
 have e:reW w.regs w.leaks w=w:=rfl
 rw [e] at h
 have h2:=congrArg Prod.fst h
 exact ⟨(congrArg World.regs h2).trans rfl,(congrArg World.leaks h2).trans rfl⟩
def otC (w:World) (v:V):List V:=[u32 w.conf.window,i64 w.conf.people,i64 w.conf.box,i64 w.conf.used,i64 w.conf.runs,i64 w.conf.net,i64 w.conf.regs,wordsV w.draws.list,i64 w.draws.next,
 i64 w.box.room,sldsV w.box.rows,i64 w.net.room,gramsV w.net.grams,rowsV w.net.seen,peopleV w.people,eventsV w.log,v,leaksV w.leaks]
theorem WorldOthers_law (w:World) (hw:w.ok) (o:Op) (ho:o.ok) (ws:List Int) (hws:LL U ws):Spec PP GG 8 [w.v,o.v,wordsV ws] (.bool true) []:=by
 have hA:=L22.awake_spec
 have hL:=Lim_of_ok hw
 have h1:=Few12_spec w hL
 have h2:=Form12_spec w hL
 cases c1:Few12 w with
 | false =>
   rw [c1] at h1
   refine Qs func8 ?_
   intro w0 M0
   simp only [f8,lf,z,seval]
   (refine CU hA (h:=?_);simp only [z,seval])
   (refine CU h1 (h:=?_);simp only [z,seval])
   (refine CU hA (h:=?_);simp only [z,seval])
   (refine Qf ?_;simp only [z,seval])
 | true =>
 rw [c1] at h1
 cases c2:Form12 w with
 | false =>
   rw [c2] at h2
   refine Qs func8 ?_
   intro w0 M0
   simp only [f8,lf,z,seval]
   (refine CU hA (h:=?_);simp only [z,seval])
   (refine CU h1 (h:=?_);simp only [z,seval])
   (refine CU h2 (h:=?_);simp only [z,seval])
   (refine CU hA (h:=?_);simp only [z,seval])
   (refine Qf ?_;simp only [z,seval])
 | true =>
 rw [c2] at h2
 by_cases hbad:(decide (w.draws.next > 1048572) || (decide ((ws.length:Int) > 64) || (decide (o.kind < 8) || decide (o.kind > 13))))=true
 ·obtain ⟨k,a,b,c,d,os⟩:=o
  cases c3:decide (w.draws.next > 1048572)<;>cases c4:decide ((ws.length:Int) > 64)<;>cases c5:decide (k < 8)<;>cases c6:decide (k > 13)
  all_goals first
   | (exfalso;simp only at hbad;rw [c3,c4,c5,c6] at hbad;exact absurd hbad (by decide))
   | (
      refine Qs func8 ?_
      intro w0 M0
      simp only [f8,lf,z,seval]
      (refine CU hA (h:=?_);simp only [z,seval])
      (refine CU h1 (h:=?_);simp only [z,seval])
      (refine CU h2 (h:=?_);simp only [z,seval])
      simp only [c3,c4,c5,c6,z,seval]
      (refine CU hA (h:=?_);simp only [z,seval])
      (refine Qf ?_;simp only [z,seval]))
 ·rw [Bool.not_eq_true,Bool.or_eq_false_iff,Bool.or_eq_false_iff,Bool.or_eq_false_iff] at hbad
  obtain ⟨c3,c4,c5,c6⟩:=hbad
  have hfit:=fit_of_few hw c1 c2
  have hform:=form_iff.1 c2
  have hws64:ws.length≤64:=by have:=of_decide_eq_false c4;omega
  have hr8:=regs_ok hform
  obtain ⟨rr,hrr⟩:∃ rr,rr=List.replicate w.regs.length ws:=⟨_,rfl⟩
  have hrl:rr.length=w.regs.length:=by rw [hrr,List.length_replicate]
  have hfit2:=reW_fit hfit (r:=rr) (by omega) (by decide) (fun l hl=>by
   rw [hrr] at hl
   have:=List.eq_of_mem_replicate hl
   subst this
   exact ⟨hws,by omega⟩)
  have h3:=Step_spec w hfit (by decide) (by decide) hform.right hform.box (rooms_ok hform).1 (rooms_ok hform).2 o
  have h4:=Step_spec (reW rr [] w) hfit2 (by decide) (by decide) hform.right hform.box (rooms_ok hform).1 (rooms_ok hform).2 o
  have k8:8≤o.kind:=by have:=of_decide_eq_false c5;omega
  have k13:o.kind≤13:=by have:=of_decide_eq_false c6;omega
  rw [re_stepM rr [] w o k8 k13] at h4
  obtain ⟨e1,e2⟩:=re_same w o k8 k13
  have h5:=Same12 (stepM w o).1 ((stepM_fit hfit (by decide) (by decide) ho).toLim (by decide))
  have h6:=Rows01 w.regs (by omega) (fun l hl=>by have:=hfit.reg l hl;omega)
  have h7:=Rows01 rr (by omega) (fun l hl=>by
   rw [hrr] at hl
   have:=List.eq_of_mem_replicate hl
   subst this
   omega)
  have hlk:=hfit.leaks
  clear hfit hfit2 hform hL hw ho
  generalize stepM w o=R at *
  obtain ⟨⟨vc,vd,vb,vn,vp,vl,vr,vk⟩,e⟩:=R
  simp only [reP,reW] at h3 h4 h5 e1 e2
  subst e1 e2
  have hrs:∀ i,(List.replicate (i + 1) ws).map wordsV=(List.replicate i ws).map wordsV++[wordsV ws]:=fun i=>by rw [List.replicate_succ',List.map_append];rfl
  obtain ⟨k,a,b,c,d,os⟩:=o
  simp only at c5 c6
  refine Qs func8 ?_
  intro w0 M0
  simp only [f8,lf,z,seval]
  (refine CU hA (h:=?_);simp only [z,seval])
  (refine CU h1 (h:=?_);simp only [z,seval])
  (refine CU h2 (h:=?_);simp only [z,seval])
  simp only [c3,c4,c5,c6,z,seval]
  (refine RUNs_row0H 2 16 1 (h:=?_);simp only [z,seval])
  refine RUNs_rangeS (w.regs.length) (fun _ (_:Unit)=>True) (fun i _=>[(8,i64 i)]) (fun i _=>[(2,.var (otC w (.row 3 i))),(3,.row 1 ((List.replicate i ws).map wordsV) i false)]) () ?_ (by simp only [z,seval];exact wk) rfl ?_
  ·trivial
  rintro ⟨i,_,hi,-⟩
  simp only [otC,z,seval]
  first|refine brk (fun h=>?_) (fun h=>?_)|fail
  ·have hlt:i < w.regs.length:=by have:=of_decide_eq_true h;omega
   have wi:=w64s (i:=i) (by omega)
   have hrs:=hrs i
   simp only [mv] at hrs
   simp only [h,z,seval]
   refine OPC_ok ?_ ?_
   ·simp;omega
   simp only [← hrs,wi,z,seval]
   (refine NX () ?_ (by rfl) hlt ?_;simp only [otC,z,seval];exact wk)
   trivial
  ·obtain rfl:i=w.regs.length:=by have:=of_decide_eq_false h;omega
   subst hrr
   simp only [h,z,seval]
   (refine CU h3 (h:=?_);simp only [z,seval])
   (refine CU h4 (h:=?_);simp only [z,seval])
   (refine CU h6 (h:=?_);simp only [z,seval])
   (refine CU h7 (h:=?_);simp only [z,seval])
   try simp only [beq_self_eq_true,Bool.not_true,List.map_nil,List.length_nil,z,seval]
   (refine CU h5 (h:=?_);simp only [z,seval])
   (refine Qf ?_;simp only [z,seval])
end Ch
