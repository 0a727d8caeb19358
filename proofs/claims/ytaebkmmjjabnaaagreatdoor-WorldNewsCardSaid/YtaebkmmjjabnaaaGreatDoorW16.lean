import Derived.Test.YtaebkmmjjabnaaaGreatDoorW15
set_option maxRecDepth 100000
set_option maxHeartbeats 4000000
set_option linter.unusedSimpArgs false
set_option linter.unusedVariables false
namespace Ch
open Go Go.Ab Go.Proofs.Tryz
def toldM (w:World) (m:Msg) (key label h:Int):Int×Bool:=((openW w key label h).1.n,(openW w key label h).2 && ((openW w key label h).1.m==m.run && ((openW w key label h).1.a==m.a && (openW w key label h).1.b==m.b)))
def sA (w:World) (m:Msg):Int×Bool:=toldM w m (personW w m.a).key 6 m.box
def sB (w:World) (m:Msg):Int×Bool:=toldM w m (personW w m.b).key 7 m.more
def s1 (w:World) (m:Msg):World×Int×Int:=sealW (drawW w).1 (personW w m.b).key 8 ⟨(sB w m).1,0,0,0,(drawW w).2,0,0⟩
def s2 (w:World) (m:Msg):World×Int×Int:=sealW (s1 w m).1 (personW w m.a).key 9 ⟨(sA w m).1,0,0,0,(drawW w).2,0,0⟩
def sP (w:World) (m:Msg):Person:={ personW w 0 with used:=(personW w 0).used++[m.run] }
def sEv (w:World) (m:Msg):Event:=⟨2,2,0,m.a,m.b,(drawW w).2,0,m.run,0,(personW w 0).clock⟩
def sY (w:World) (m:Msg):World:=logW (withW (s2 w m).1 (sP w m)) (sEv w m)
def sZ (w:World) (m:Msg):World×Int:=sendW (sY w m) m.b ⟨8,m.run,0,0,0,(s2 w m).2.1,(s1 w m).2.1⟩
def shareM (w:World) (m:Msg):World×Int :=
 bif pairM w.people m.a m.b then (bif (sA w m).2 && (sB w m).2 then (bif usedMay (personW w 0).used w.conf.used m.run==0 then (bif roomW w 2 1 then
  (bif (s1 w m).2.2==0 then (bif (s2 w m).2.2==0 then (bif (sZ w m).2==0 then ((sZ w m).1,0) else (w,(sZ w m).2)) else (w,(s2 w m).2.2)) else (w,(s1 w m).2.2)) else (w,10))
  else (w,usedMay (personW w 0).used w.conf.used m.run)) else (w,6)) else (w,5)
theorem U8:U 8:=by decide
theorem partRd_ok {label:Int} {l:List Int} (h:∀ x∈l,U x):(partRd label l).ok:=by
 have hg:∀ i,U (l.getD i 0):=fun i=>by
  rw [List.getD_eq_getElem?_getD]
  cases hi:l[i]? with
  | none=>exact U0
  | some x=>exact h x (List.mem_of_getElem? hi)
 unfold partRd
 cases (label==2)<;>cases (label==3)<;>cases (label==4 || label==5)<;>cases (label==6 || label==7)<;>exact ⟨by first|exact hg _|exact U0,by first|exact hg _|exact U0,by first|exact hg _|exact U0,by first|exact hg _|exact U0,by first|exact hg _|exact U0,by first|exact hg _|exact U0,by first|exact hg _|exact U0⟩
theorem openW_ok {w:World} {N:Nat} (hw:w.fit N) (key label h:Int):(openW w key label h).1.ok:=by
 unfold openW
 cases hb:boxOpen w.box key label h with
 | none=>exact ⟨U0,U0,U0,U0,U0,U0,U0⟩
 | some l =>
   have hl:∀ x∈l,U x:=by
    rw [boxOpen] at hb
    cases hf:boxFind w.box h with
    | none=>rw [hf] at hb;cases hb
    | some s =>
      rw [hf] at hb
      simp only at hb
      cases c:(s.key==key && s.label==label) with
      | false=>rw [c] at hb;cases hb
      | true=>rw [c] at hb;cases hb;exact (hw.ok.2.2.1.2.2 s (List.mem_of_find?_eq_some hf)).2.2.2.2
   simp only [partGet]
   cases label? label
   ·exact ⟨U0,U0,U0,U0,U0,U0,U0⟩
   ·cases (l.length==(partWs label zPart).length)
    ·exact ⟨U0,U0,U0,U0,U0,U0,U0⟩
    ·exact partRd_ok hl
theorem sP_ok {w:World} {N:Nat} (hw:w.fit N) (hN:N≤400000000000) {m:Msg} (hm:m.ok):(sP w m).ok:=by
 obtain ⟨h1,h2,h3,h4,h5⟩:=personW_ok hw 0
 exact ⟨h1,h2,h3,LL.app h4 (getP_used hw _) (by omega) hm.2.1,h5⟩
theorem s1_fit {w:World} {N:Nat} (hw:w.fit N) (h5:21≤N) (hN:N≤400000000000) (m:Msg):(s1 w m).1.fit (N + 2) :=
 fit_seal (fit_draw hw (by omega)) (by omega) (by omega) (personW_ok hw _).2.1 U8 ⟨(openW_ok hw _ _ _).1,U0,U0,U0,drawW_U hw,U0,U0⟩
theorem s1_U {w:World} {N:Nat} (hw:w.fit N) (hN:N≤400000000000) (m:Msg):U (s1 w m).2.1:=sealW_U (fit_draw hw (by omega)) _ _ _
theorem s2_fit {w:World} {N:Nat} (hw:w.fit N) (h5:21≤N) (hN:N≤400000000000) (m:Msg):(s2 w m).1.fit (N + 3) :=
 fit_seal (s1_fit hw h5 hN m) (by omega) (by omega) (personW_ok hw _).2.1 (by decide) ⟨(openW_ok hw _ _ _).1,U0,U0,U0,drawW_U hw,U0,U0⟩
theorem s2_U {w:World} {N:Nat} (hw:w.fit N) (h5:21≤N) (hN:N≤400000000000) (m:Msg):U (s2 w m).2.1:=sealW_U (s1_fit hw h5 hN m) _ _ _
theorem sW_fit {w:World} {N:Nat} (hw:w.fit N) (h5:21≤N) (hN:N≤400000000000) {m:Msg} (hm:m.ok):(withW (s2 w m).1 (sP w m)).fit (N + 3) :=
 fit_with (s2_fit hw h5 hN m) (sP_ok hw hN hm) (by have:=getP_used hw (0:Int).toNat;simp only [sP,personW,List.length_append,List.length_singleton];omega) (by have:(sP w m).runs.length≤N:=getP_runs hw _;omega)
theorem sEv_ok {w:World} {N:Nat} (hw:w.fit N) {m:Msg} (hm:m.ok):(sEv w m).ok :=
 ⟨(by decide:I 2),(by decide:I 2),(by decide:I 0),hm.2.2.1,hm.2.2.2.1,drawW_U hw,U0,hm.2.1,U0,(personW_ok hw 0).2.2.1⟩
theorem sY_fit {w:World} {N:Nat} (hw:w.fit N) (h5:21≤N) (hN:N≤400000000000) {m:Msg} (hm:m.ok):(sY w m).fit (N + 4) :=
 fit_log (sW_fit hw h5 hN hm) (by omega) (sEv_ok hw hm)
theorem sM_ok {w:World} {N:Nat} (hw:w.fit N) (h5:21≤N) (hN:N≤400000000000) {m:Msg} (hm:m.ok):Msg.ok ⟨8,m.run,0,0,0,(s2 w m).2.1,(s1 w m).2.1⟩:=⟨U8,hm.2.1,U0,U0,U0,s2_U hw h5 hN m,s1_U hw hN m⟩
theorem shareM_fit {w:World} {N:Nat} (hw:w.fit N) (h5:21≤N) (hN:N≤400000000000) {m:Msg} (hm:m.ok):(shareM w m).1.fit (N + 5):=by
 have h0:=hw.mono (show N≤N + 5 by omega)
 have hz:(sZ w m).1.fit (N + 5):=fit_send (sY_fit hw h5 hN hm) (by omega) (by omega) hm.2.2.2.1 (sM_ok hw h5 hN hm)
 unfold shareM
 cases pairM w.people m.a m.b
 ·exact h0
 cases ((sA w m).2 && (sB w m).2)
 ·exact h0
 cases (usedMay (personW w 0).used w.conf.used m.run==0)
 ·exact h0
 cases roomW w 2 1
 ·exact h0
 cases ((s1 w m).2.2==0)
 ·exact h0
 cases ((s2 w m).2.2==0)
 ·exact h0
 cases ((sZ w m).2==0)
 ·exact h0
 ·exact hz
def zRun:Run:=⟨0,0,0,0,0,0,0,0,0⟩
def runAt (l:List Run) (i:Nat):Run:=(l[i]?).getD zRun
def pushRun (p:Person) (r:Run):Person:={ p with runs:=p.runs++[r] }
def setRun (p:Person) (i:Nat) (r:Run):Person:={ p with runs:=p.runs.set i r }
def putP (v:World) (p:Person) (e:Event):World:=logW (withW v p) e
def full (w:World) (p:Person):Bool:=decide ((p.runs.length:Int)≥w.conf.runs)
def waitM (proto role m:Int) (r:Run):Bool:=isRun proto role 1 r && r.m==m
def oS (w:World) (a b:Int):World×Int×Int:=sealW (drawW (drawW w).1).1 (personW w a).key 6 ⟨(drawW (drawW w).1).2,(drawW w).2,a,b,0,0,0⟩
def oRun (w:World) (b:Int):Run:=⟨2,1,b,(drawW (drawW w).1).2,0,(drawW w).2,0,0,1⟩
def oP (w:World) (a b:Int):Person:=pushRun (personW w a) (oRun w b)
def oEv (w:World) (a b:Int):Event:=⟨1,2,1,a,b,0,0,(drawW w).2,(drawW (drawW w).1).2,(personW w a).clock⟩
def oY (w:World) (a b:Int):World:=putP (oS w a b).1 (oP w a b) (oEv w a b)
def oMsg (w:World) (a b:Int):Msg:=⟨6,(drawW w).2,a,b,0,(oS w a b).2.1,0⟩
def oZ (w:World) (a b:Int):World:=(sendW (oY w a b) b (oMsg w a b)).1
def startO (w:World) (a b:Int):World×Int :=
 bif pairM w.people a b then (bif !full w (personW w a) && roomW w 1 1 then (bif (oS w a b).2.2==0 then (oZ w a b,0) else (w,(oS w a b).2.2)) else (w,10)) else (w,5)
def oI (w:World) (me:Int) (m:Msg):Option Nat:=(personW w me).runs.findIdx? (waitM 2 1 m.run)
def oO (w:World) (me:Int) (m:Msg):Part×Bool:=openW w (personW w me).key 9 m.box
def doneR (r:Run) (k:Int):Run:={ r with k:=k,state:=3 }
def oCom (w:World) (me:Int) (i:Nat) (k:Int):World :=
 putP w (setRun (personW w me) i (doneR (runAt (personW w me).runs i) k)) ⟨4,2,1,me,(runAt (personW w me).runs i).peer,k,0,(runAt (personW w me).runs i).m,(runAt (personW w me).runs i).mine,(personW w me).clock⟩
def shareO (w:World) (me:Int) (m:Msg):World×Int:=match oI w me m with
 | none=>(w,9)
 | some i=>bif (oO w me m).2 && (oO w me m).1.n==(runAt (personW w me).runs i).mine then (oCom w me i (oO w me m).1.k,0) else (w,6)
def bS (w:World) (me:Int) (m:Msg):World×Int×Int:=sealW (drawW w).1 (personW w me).key 7 ⟨(drawW w).2,m.run,m.a,me,0,0,0⟩
def bRun (w:World) (m:Msg):Run:=⟨2,2,m.a,(drawW w).2,0,m.run,0,0,1⟩
def bP (w:World) (me:Int) (m:Msg):Person:=pushRun { personW w me with used:=(personW w me).used++[m.run] } (bRun w m)
def bEv (w:World) (me:Int) (m:Msg):Event:=⟨3,2,2,m.a,me,0,0,m.run,(drawW w).2,(personW w me).clock⟩
def bY (w:World) (me:Int) (m:Msg):World:=putP (bS w me m).1 (bP w me m) (bEv w me m)
def bMsg (w:World) (me:Int) (m:Msg):Msg:=⟨7,m.run,m.a,me,0,m.box,(bS w me m).2.1⟩
def bZ (w:World) (me:Int) (m:Msg):World:=(sendW (bY w me m) 0 (bMsg w me m)).1
def firstB (w:World) (me:Int) (m:Msg):World×Int :=
 bif m.b==me && pairM w.people m.a me then (bif usedMay (personW w me).used w.conf.used m.run==0 then (bif !full w (personW w me) && roomW w 1 1 then
  (bif (bS w me m).2.2==0 then (bZ w me m,0) else (w,(bS w me m).2.2)) else (w,10)) else (w,usedMay (personW w me).used w.conf.used m.run)) else (w,5)
def bI (w:World) (me:Int) (m:Msg):Option Nat:=(personW w me).runs.findIdx? (waitM 2 2 m.run)
def bO (w:World) (me:Int) (m:Msg):Part×Bool:=openW w (personW w me).key 8 m.more
def bCom (w:World) (me:Int) (i:Nat) (k:Int):World :=
 putP w (setRun (personW w me) i (doneR (runAt (personW w me).runs i) k)) ⟨4,2,2,(runAt (personW w me).runs i).peer,me,k,0,(runAt (personW w me).runs i).m,(runAt (personW w me).runs i).mine,(personW w me).clock⟩
def bX (w:World) (me:Int) (m:Msg) (i:Nat) (k:Int):World:=(sendW (bCom w me i k) (runAt (personW w me).runs i).peer ⟨9,m.run,0,0,0,m.box,0⟩).1
def shareB (w:World) (me:Int) (m:Msg):World×Int:=match bI w me m with
 | none=>(w,9)
 | some i=>bif (bO w me m).2 && (bO w me m).1.n==(runAt (personW w me).runs i).mine then (bif roomW w 0 1 then (bX w me m i (bO w me m).1.k,0) else (w,10)) else (w,6)
theorem net_seal (w:World) (k l:Int) (p:Part):(sealW w k l p).1.net=w.net:=by
 unfold sealW
 cases ((partPut l p).2==0)
 ·rfl
 ·cases ((boxSeal w.box (drawW w).2 k l (partPut l p).1).2==0)<;>rfl
theorem conf_seal (w:World) (k l:Int) (p:Part):(sealW w k l p).1.conf=w.conf:=by
 unfold sealW
 cases ((partPut l p).2==0)
 ·rfl
 ·cases ((boxSeal w.box (drawW w).2 k l (partPut l p).1).2==0)<;>rfl
theorem net_put (v:World) (p:Person) (e:Event):(putP v p e).net=v.net:=rfl
theorem sendW_ok {w:World} {to:Int} {m:Msg} (hm:msgMay m=true) (hr:1≤w.net.room - w.net.grams.length):(sendW w to m).2=0:=by
 have e:decide (w.net.room - (w.net.grams.length:Int) < 1)=false:=decide_eq_false (by omega)
 simp only [sendW,msgPut,hm,netSend,e,cond_true,cond_false,beq_self_eq_true]
theorem room_net {w:World} {b f:Int} (h:roomW w b f=true):f≤w.net.room - w.net.grams.length:=by
 simp only [roomW,Bool.and_eq_true,decide_eq_true_eq] at h;exact h.2
theorem may6 (m a b h:Int):msgMay ⟨6,m,a,b,0,h,0⟩=true:=by simp [msgMay,tags,hasM,msgWord]
theorem may7 (m a b h g:Int):msgMay ⟨7,m,a,b,0,h,g⟩=true:=by simp [msgMay,tags,hasM,msgWord]
theorem may9 (m h:Int):msgMay ⟨9,m,0,0,0,h,0⟩=true:=by simp [msgMay,tags,hasM,msgWord]
theorem oZ_ok {w:World} {a b:Int} (h:roomW w 1 1=true):(sendW (oY w a b) b (oMsg w a b)).2=0 :=
 sendW_ok (may6 _ _ _ _) (by have:=room_net h;rw [oY,net_put,oS,net_seal];exact this)
theorem bZ_ok {w:World} {me:Int} {m:Msg} (h:roomW w 1 1=true):(sendW (bY w me m) 0 (bMsg w me m)).2=0 :=
 sendW_ok (may7 _ _ _ _ _) (by have:=room_net h;rw [bY,net_put,bS,net_seal];exact this)
theorem bX_ok {w:World} {me:Int} {m:Msg} {i:Nat} {k to:Int} (h:roomW w 0 1=true):(sendW (bCom w me i k) to ⟨9,m.run,0,0,0,m.box,0⟩).2=0 :=
 sendW_ok (may9 _ _) (by have:=room_net h;rw [bCom,net_put];exact this)
theorem pair_in {l:List Person} {a b:Int} (h:pairM l a b=true):a≠b∧a≠0∧b≠0∧a.toNat < l.length∧b.toNat < l.length:=by
 simp only [pairM,Bool.and_eq_true,Bool.not_eq_true',beq_eq_false_iff_ne,decide_eq_true_eq] at h;exact h
theorem name_of {w:World} (h:Right10 w.people=true) {a:Int} (ha:U a) (hl:a.toNat < w.people.length):(personW w a).name=a:=by
 have:=names_of_right h a.toNat hl
 simp only [personW,getP,List.getElem?_eq_getElem hl,Option.getD_some,this]
 have:=ha.1;omega
theorem runAt_get {l:List Run} {i:Nat} (h:i < l.length):runAt l i=l[i]:=by simp only [runAt,List.getElem?_eq_getElem h,Option.getD_some]
theorem has_runs {w:World} {me:Int} {i:Nat} (h:i < (personW w me).runs.length):me.toNat < w.people.length:=by
 rcases Nat.lt_or_ge me.toNat w.people.length with h1|h1
 ·exact h1
 ·simp only [personW,getP,List.getElem?_eq_none h1,Option.getD_none,zeroP,List.length_nil] at h;omega
theorem find_runs {l:List Run} {p:Run→Bool} {i:Nat} (h:l.findIdx? p=some i):i < l.length∧p (runAt l i)=true:=by
 rw [List.findIdx?_eq_some_iff_getElem] at h
 obtain ⟨h1,h2,_⟩:=h
 exact ⟨h1,by rw [runAt_get h1];exact h2⟩
theorem runAt_ok {w:World} {N:Nat} (hw:w.fit N) (me:Int) (i:Nat):(runAt (personW w me).runs i).ok:=by
 unfold runAt
 cases h:(personW w me).runs[i]? with
 | none=>simp only [Option.getD_none,zRun];exact ⟨by decide,by decide,by decide,by decide,by decide,by decide,by decide,by decide,by decide⟩
 | some r=>exact (personW_ok hw me).2.2.2.2.2 r (List.mem_of_getElem? h)
theorem push_ok {p:Person} {r:Run} {N:Nat} (hp:p.ok) (hr:r.ok) (hl:p.runs.length≤N) (hN:N≤400000000000):(pushRun p r).ok :=
 ⟨hp.1,hp.2.1,hp.2.2.1,hp.2.2.2.1,LL.app hp.2.2.2.2 hl (by omega) hr⟩
theorem set_ok {p:Person} {r:Run} (hp:p.ok) (hr:r.ok) (i:Nat):(setRun p i r).ok :=
 ⟨hp.1,hp.2.1,hp.2.2.1,hp.2.2.2.1,LL.set hp.2.2.2.2 i hr⟩
theorem used_ok {p:Person} {x:Int} {N:Nat} (hp:p.ok) (hx:U x) (hl:p.used.length≤N) (hN:N≤400000000000):Person.ok { p with used:=p.used++[x] } :=
 ⟨hp.1,hp.2.1,hp.2.2.1,LL.app hp.2.2.2.1 hl (by omega) hx,hp.2.2.2.2⟩
theorem put_fit {v:World} {N:Nat} (hv:v.fit N) (hN:N≤500000000000) {p:Person} (hp:p.ok) (hu:p.used.length≤N) (hr:p.runs.length≤N) {e:Event} (he:e.ok):(putP v p e).fit (N + 1) :=
 fit_log (fit_with hv hp hu hr) hN he
theorem personW_used {w:World} {N:Nat} (hw:w.fit N) (n:Int):(personW w n).used.length≤N:=getP_used hw _
theorem personW_runs {w:World} {N:Nat} (hw:w.fit N) (n:Int):(personW w n).runs.length≤N:=getP_runs hw _
theorem oRun_ok {w:World} {N:Nat} (hw:w.fit N) (hN:N≤400000000000) {b:Int} (hb:U b):(oRun w b).ok :=
 ⟨(by decide:I 2),(by decide:I 1),hb,drawW_U (fit_draw hw (by omega)),U0,drawW_U hw,U0,U0,(by decide:I 1)⟩
theorem oS_fit {w:World} {N:Nat} (hw:w.fit N) (h5:21≤N) (hN:N≤400000000000) {a b:Int} (ha:U a) (hb:U b):(oS w a b).1.fit (N + 3) :=
 fit_seal (fit_draw (fit_draw hw (by omega)) (by omega)) (by omega) (by omega) (personW_ok hw a).2.1 (by decide) ⟨drawW_U (fit_draw hw (by omega)),drawW_U hw,ha,hb,U0,U0,U0⟩
theorem oS_U {w:World} {N:Nat} (hw:w.fit N) (hN:N≤400000000000) (a b:Int):U (oS w a b).2.1:=sealW_U (fit_draw (fit_draw hw (by omega)) (by omega)) _ _ _
theorem oP_ok {w:World} {N:Nat} (hw:w.fit N) (hN:N≤400000000000) {a b:Int} (hb:U b):(oP w a b).ok:=push_ok (personW_ok hw a) (oRun_ok hw hN hb) (personW_runs hw a) hN
theorem oEv_ok {w:World} {N:Nat} (hw:w.fit N) (hN:N≤400000000000) {a b:Int} (ha:U a) (hb:U b):(oEv w a b).ok :=
 ⟨(by decide:I 1),(by decide:I 2),(by decide:I 1),ha,hb,U0,U0,drawW_U hw,drawW_U (fit_draw hw (by omega)),(personW_ok hw a).2.2.1⟩
theorem oY_fit {w:World} {N:Nat} (hw:w.fit N) (h5:21≤N) (hN:N≤400000000000) {a b:Int} (ha:U a) (hb:U b):(oY w a b).fit (N + 4) :=
 put_fit (oS_fit hw h5 hN ha hb) (by omega) (oP_ok hw hN hb) (by have:=personW_used hw a;simp only [oP,pushRun];omega) (by have:=personW_runs hw a;simp only [oP,pushRun,List.length_append,List.length_singleton];omega) (oEv_ok hw hN ha hb)
theorem oW_fit {w:World} {N:Nat} (hw:w.fit N) (h5:21≤N) (hN:N≤400000000000) {a b:Int} (ha:U a) (hb:U b):(withW (oS w a b).1 (oP w a b)).fit (N + 3) :=
 fit_with (oS_fit hw h5 hN ha hb) (oP_ok hw hN hb) (by have:=personW_used hw a;simp only [oP,pushRun];omega) (by have:=personW_runs hw a;simp only [oP,pushRun,List.length_append,List.length_singleton];omega)
theorem oMsg_ok {w:World} {N:Nat} (hw:w.fit N) (hN:N≤400000000000) {a b:Int} (ha:U a) (hb:U b):(oMsg w a b).ok:=⟨(by decide:U 6),drawW_U hw,ha,hb,U0,oS_U hw hN a b,U0⟩
theorem startO_fit {w:World} {N:Nat} (hw:w.fit N) (h5:21≤N) (hN:N≤400000000000) {a b:Int} (ha:U a) (hb:U b):(startO w a b).1.fit (N + 5):=by
 have h0:=hw.mono (show N≤N + 5 by omega)
 have hz:(oZ w a b).fit (N + 5):=fit_send (oY_fit hw h5 hN ha hb) (by omega) (by omega) hb (oMsg_ok hw hN ha hb)
 unfold startO
 cases pairM w.people a b
 ·exact h0
 cases (!full w (personW w a) && roomW w 1 1)
 ·exact h0
 cases ((oS w a b).2.2==0)
 ·exact h0
 ·exact hz
theorem doneR_ok {r:Run} (h:r.ok) {k:Int} (hk:U k):(doneR r k).ok:=⟨h.1,h.2.1,h.2.2.1,h.2.2.2.1,h.2.2.2.2.1,h.2.2.2.2.2.1,hk,h.2.2.2.2.2.2.2.1,by show I 3;decide⟩
theorem oCom_fit {w:World} {N:Nat} (hw:w.fit N) (hN:N≤400000000000) {me:Int} (hme:U me) (i:Nat) {k:Int} (hk:U k):(oCom w me i k).fit (N + 1):=by
 have hr:=runAt_ok hw me i
 exact put_fit hw (by omega) (set_ok (personW_ok hw me) (doneR_ok hr hk) i) (personW_used hw me) (by simp only [setRun,List.length_set];exact personW_runs hw me)
  ⟨(by decide:I 4),(by decide:I 2),(by decide:I 1),hme,hr.2.2.1,hk,U0,hr.2.2.2.2.2.1,hr.2.2.2.1,(personW_ok hw me).2.2.1⟩
theorem shareO_fit {w:World} {N:Nat} (hw:w.fit N) (hN:N≤400000000000) {me:Int} (hme:U me) (m:Msg):(shareO w me m).1.fit (N + 1):=by
 have h0:=hw.mono (show N≤N + 1 by omega)
 unfold shareO
 cases oI w me m with
 | none=>exact h0
 | some i =>
   cases h:(oO w me m).2 && (oO w me m).1.n==(runAt (personW w me).runs i).mine
   ·simp only [h];exact h0
   ·simp only [h];exact oCom_fit hw hN hme i (openW_ok hw _ _ _).2.2.2.2.1
theorem bRun_ok {w:World} {N:Nat} (hw:w.fit N) {m:Msg} (hm:m.ok):(bRun w m).ok :=
 ⟨(by decide:I 2),(by decide:I 2),hm.2.2.1,drawW_U hw,U0,hm.2.1,U0,U0,by show I 1;decide⟩
theorem bS_fit {w:World} {N:Nat} (hw:w.fit N) (h5:21≤N) (hN:N≤400000000000) {me:Int} (hme:U me) {m:Msg} (hm:m.ok):(bS w me m).1.fit (N + 2) :=
 fit_seal (fit_draw hw (by omega)) (by omega) (by omega) (personW_ok hw me).2.1 (by decide) ⟨drawW_U hw,hm.2.1,hm.2.2.1,hme,U0,U0,U0⟩
theorem bS_U {w:World} {N:Nat} (hw:w.fit N) (hN:N≤400000000000) (me:Int) (m:Msg):U (bS w me m).2.1:=sealW_U (fit_draw hw (by omega)) _ _ _
theorem bP_ok {w:World} {N:Nat} (hw:w.fit N) (hN:N≤400000000000) (me:Int) {m:Msg} (hm:m.ok):(bP w me m).ok :=
 push_ok (used_ok (personW_ok hw me) hm.2.1 (personW_used hw me) hN) (bRun_ok hw hm) (personW_runs hw me) hN
theorem bEv_ok {w:World} {N:Nat} (hw:w.fit N) {me:Int} (hme:U me) {m:Msg} (hm:m.ok):(bEv w me m).ok :=
 ⟨(by decide:I 3),(by decide:I 2),(by decide:I 2),hm.2.2.1,hme,U0,U0,hm.2.1,drawW_U hw,(personW_ok hw me).2.2.1⟩
theorem bY_fit {w:World} {N:Nat} (hw:w.fit N) (h5:21≤N) (hN:N≤400000000000) {me:Int} (hme:U me) {m:Msg} (hm:m.ok):(bY w me m).fit (N + 3) :=
 put_fit (bS_fit hw h5 hN hme hm) (by omega) (bP_ok hw hN me hm) (by have:=personW_used hw me;simp only [bP,pushRun,List.length_append,List.length_singleton];omega) (by have:=personW_runs hw me;simp only [bP,pushRun,List.length_append,List.length_singleton];omega) (bEv_ok hw hme hm)
theorem bW_fit {w:World} {N:Nat} (hw:w.fit N) (h5:21≤N) (hN:N≤400000000000) {me:Int} (hme:U me) {m:Msg} (hm:m.ok):(withW (bS w me m).1 (bP w me m)).fit (N + 2) :=
 fit_with (bS_fit hw h5 hN hme hm) (bP_ok hw hN me hm) (by have:=personW_used hw me;simp only [bP,pushRun,List.length_append,List.length_singleton];omega) (by have:=personW_runs hw me;simp only [bP,pushRun,List.length_append,List.length_singleton];omega)
theorem set_fit {w:World} {N:Nat} (hw:w.fit N) (me:Int) (i:Nat) {r:Run} (hr:r.ok):(withW w (setRun (personW w me) i r)).fit N :=
 fit_with hw (set_ok (personW_ok hw me) hr i) (personW_used hw me) (by simp only [setRun,List.length_set];exact personW_runs hw me)
theorem bMsg_ok {w:World} {N:Nat} (hw:w.fit N) (hN:N≤400000000000) {me:Int} (hme:U me) {m:Msg} (hm:m.ok):(bMsg w me m).ok:=⟨(by decide:U 7),hm.2.1,hm.2.2.1,hme,U0,hm.2.2.2.2.2.1,bS_U hw hN me m⟩
theorem firstB_fit {w:World} {N:Nat} (hw:w.fit N) (h5:21≤N) (hN:N≤400000000000) {me:Int} (hme:U me) {m:Msg} (hm:m.ok):(firstB w me m).1.fit (N + 4):=by
 have h0:=hw.mono (show N≤N + 4 by omega)
 have hz:(bZ w me m).fit (N + 4):=fit_send (bY_fit hw h5 hN hme hm) (by omega) (by omega) U0 (bMsg_ok hw hN hme hm)
 unfold firstB
 cases (m.b==me && pairM w.people m.a me)
 ·exact h0
 cases (usedMay (personW w me).used w.conf.used m.run==0)
 ·exact h0
 cases (!full w (personW w me) && roomW w 1 1)
 ·exact h0
 cases ((bS w me m).2.2==0)
 ·exact h0
 ·exact hz
theorem bCom_fit {w:World} {N:Nat} (hw:w.fit N) (hN:N≤400000000000) {me:Int} (hme:U me) (i:Nat) {k:Int} (hk:U k):(bCom w me i k).fit (N + 1):=by
 have hr:=runAt_ok hw me i
 exact put_fit hw (by omega) (set_ok (personW_ok hw me) (doneR_ok hr hk) i) (personW_used hw me) (by simp only [setRun,List.length_set];exact personW_runs hw me)
  ⟨(by decide:I 4),(by decide:I 2),(by decide:I 2),hr.2.2.1,hme,hk,U0,hr.2.2.2.2.2.1,hr.2.2.2.1,(personW_ok hw me).2.2.1⟩
theorem msg9_ok {m:Msg} (hm:m.ok):Msg.ok ⟨9,m.run,0,0,0,m.box,0⟩:=⟨(by decide:U 9),hm.2.1,U0,U0,U0,hm.2.2.2.2.2.1,U0⟩
theorem bX_fit {w:World} {N:Nat} (hw:w.fit N) (h5:21≤N) (hN:N≤400000000000) {me:Int} (hme:U me) {m:Msg} (hm:m.ok) (i:Nat) {k:Int} (hk:U k):(bX w me m i k).fit (N + 2) :=
 fit_send (bCom_fit hw hN hme i hk) (by omega) (by omega) (runAt_ok hw me i).2.2.1 (msg9_ok hm)
theorem shareB_fit {w:World} {N:Nat} (hw:w.fit N) (h5:21≤N) (hN:N≤400000000000) {me:Int} (hme:U me) {m:Msg} (hm:m.ok):(shareB w me m).1.fit (N + 2):=by
 have h0:=hw.mono (show N≤N + 2 by omega)
 unfold shareB
 cases bI w me m with
 | none=>exact h0
 | some i =>
   cases h:(bO w me m).2 && (bO w me m).1.n==(runAt (personW w me).runs i).mine
   ·simp only [h];exact h0
   ·simp only [h]
    cases roomW w 0 1
    ·exact h0
    ·exact bX_fit hw h5 hN hme hm i (openW_ok hw _ _ _).2.2.2.2.1
structure World.form (w:World):Prop where
 may:May12 w.conf=true
 box:Right07 w.box=true
 broom:w.box.room=w.conf.box
 net:Right06 w.net=true
 nroom:w.net.room=w.conf.net
 right:Right10 w.people=true
 npl:(w.people.length:Int)=w.conf.people + 1
 nregs:(w.regs.length:Int)=w.conf.regs
 next0:0≤w.draws.next
 nextN:w.draws.next≤1048576
 okp:∀ p∈w.people,okP w.conf p=true
 regs:∀ l∈w.regs,l.length≤64
 seen:∀ l∈w.net.seen,l.length≤64
 grams:∀ g∈w.net.grams,g.words.length≤64
theorem allIx_snoc {α:Type} {f:List α→α→Bool} {l:List α} {x:α}:allIx f (l++[x])=(allIx f l && f l x):=by
 have h:l.length < (l++[x]).length:=by simp
 have:=allIx_succ (f:=f) h
 rw [List.take_of_length_le (by simp),List.take_left,List.getElem_concat_length rfl] at this
 exact this
theorem form_draw {w:World} (h:w.form) (hn:w.draws.next < 1048576):(drawW w).1.form :=
 { h with next0:=by have:=h.next0;show 0≤w.draws.next + 1;omega,nextN:=by show w.draws.next + 1≤_;omega }
theorem right_seal {b:Box} (h:Right07 b=true) (hh key label:Int) (l:List Int):Right07 (boxSeal b hh key label l).1=true:=by
 unfold boxSeal
 cases h1:decide ((l.length:Int) > 64)
 ·cases h2:(boxFind b hh).isSome
  ·cases h3:decide (b.room - b.rows.length < 1)
   ·simp only [Right07,Bool.and_eq_true,decide_eq_true_eq] at h
    obtain ⟨⟨⟨g1,g2⟩,g3⟩,g4⟩:=h
    have h3':=of_decide_eq_false h3
    have h1':=of_decide_eq_false h1
    simp only [cond_false,Right07,allIx_snoc,g4,Bool.and_eq_true,decide_eq_true_eq,List.length_append,List.length_singleton,Bool.true_and,there_find,Bool.not_eq_true']
    exact ⟨⟨⟨g1,g2⟩,by omega⟩,by omega,by rw [← h2,← there_find]⟩
   ·exact h
  ·exact h
 ·exact h
theorem room_seal (b:Box) (hh key label:Int) (l:List Int):(boxSeal b hh key label l).1.room=b.room:=by
 unfold boxSeal
 cases decide ((l.length:Int) > 64)<;>cases (boxFind b hh).isSome<;>cases decide (b.room - b.rows.length < 1)<;>rfl
theorem form_box {w:World} (h:w.form) (hh key label:Int) (l:List Int):World.form { w with box:=(boxSeal w.box hh key label l).1 } :=
 { h with box:=right_seal h.box _ _ _ _,broom:=by show (boxSeal w.box hh key label l).1.room=_;rw [room_seal];exact h.broom }
theorem names_right {l:List Person} (h1:∀ i (hi:i < l.length),l[i].name=i) (h2:1 < l.length) (h3:l.length < 8):Right10 l=true:=by
 have key:∀ n,n≤l.length→allIx (fun pre p:_=>p.name==IntKind.u32.wrap pre.length) (l.take n)=true:=by
  intro n
  induction n with
  | zero=>intro _;rfl
  | succ n ih =>
    intro hn
    rw [allIx_succ (by omega),ih (by omega),h1 n (by omega),List.length_take,Nat.min_eq_left (by omega)]
    rw [IntKind.wrap_u32,Bool.true_and,beq_iff_eq];omega
 have:=key l.length (Nat.le_refl _)
 rw [List.take_length] at this
 simp only [Right10,this,Bool.true_and,Bool.and_eq_true,decide_eq_true_eq]
 omega
theorem right_len {l:List Person} (h:Right10 l=true):1 < l.length∧l.length < 8:=by
 simp only [Right10,Bool.and_eq_true,decide_eq_true_eq] at h;omega
theorem right_set {l:List Person} (h:Right10 l=true) (p:Person) (hp:U p.name):Right10 (setM l p).1=true:=by
 have hn:=names_of_right h
 have hl:=right_len h
 unfold setM
 cases hd:decide (p.name.toNat < l.length)
 ·exact h
 ·refine names_right (fun i hi=>?_) (by simp only [cond_true,List.length_set];omega) (by simp only [cond_true,List.length_set];omega)
  simp only [cond_true,List.length_set] at hi
  simp only [cond_true,List.getElem_set]
  split
  ·rename_i e;have:=hp.1;omega
  ·exact hn i hi
theorem form_with {w:World} (h:w.form) {p:Person} (hp:U p.name) (ho:okP w.conf p=true):(withW w p).form :=
 { h with
   right:=right_set h.right p hp
   npl:=by show ((setM w.people p).1.length:Int)=_;rw [setM_len];exact h.npl
   okp:=fun q hq=>by
    rcases setM_mem hq with h1|rfl
    ·exact h.okp q h1
    ·exact ho }
theorem okP_get {w:World} (h:w.form) {n:Int} (hn:n.toNat < w.people.length):okP w.conf (personW w n)=true:=by
 have e:personW w n=w.people[n.toNat]:=by simp only [personW,getP,List.getElem?_eq_getElem hn,Option.getD_some]
 rw [e];exact h.okp _ (List.getElem_mem hn)
theorem okP_push {c:Conf} {p:Person} (h:okP c p=true) {r:Run} (hr:May09 r=true) (hl:(p.runs.length:Int) < c.runs):okP c (pushRun p r)=true:=by
 simp only [okP,Right09,Bool.and_eq_true,decide_eq_true_eq] at h ⊢
 refine ⟨⟨h.1.1,?_,?_⟩,h.2⟩
 ·simp only [pushRun,List.all_append,h.1.2.1,List.all_cons,List.all_nil,hr,Bool.and_self]
 ·simp only [pushRun,List.length_append,List.length_singleton];omega
theorem okP_set {c:Conf} {p:Person} (h:okP c p=true) {r:Run} (hr:May09 r=true) (i:Nat):okP c (setRun p i r)=true:=by
 simp only [okP,Right09,Bool.and_eq_true,decide_eq_true_eq] at h ⊢
 refine ⟨⟨h.1.1,?_,?_⟩,h.2⟩
 ·simp only [setRun,List.all_eq_true]
  intro x hx
  rcases List.mem_or_eq_of_mem_set hx with h1|rfl
  ·exact List.all_eq_true.1 h.1.2.1 x h1
  ·exact hr
 ·simp only [setRun,List.length_set];exact h.1.2.2
theorem okP_used {c:Conf} {p:Person} (h:okP c p=true) {x:Int} (hu:usedMay p.used c.used x=0):okP c { p with used:=p.used++[x] }=true:=by
 have h2:x ∉ p.used∧(p.used.length:Int) < c.used:=by
  unfold usedMay at hu
  by_cases hm:x∈p.used
  ·rw [decide_eq_true hm] at hu;exact absurd hu (by simp)
  ·by_cases hr:(p.used.length:Int)≥c.used
   ·rw [decide_eq_false hm,decide_eq_true hr] at hu;exact absurd hu (by simp)
   ·exact ⟨hm,by omega⟩
 simp only [okP,Right08,Bool.and_eq_true,decide_eq_true_eq] at h ⊢
 refine ⟨⟨⟨?_,?_⟩,h.1.2⟩,h.2⟩
 ·rw [allIx_snoc,h.1.1.1,decide_eq_false h2.1];rfl
 ·simp only [List.length_append,List.length_singleton];omega
def sealRow (w:World) (key label:Int) (p:Part):Sld:=⟨(drawW w).2,key,label,partWs label p⟩
def sealTo (w:World) (key label:Int) (p:Part):World:={ (drawW w).1 with box:=⟨w.box.room,w.box.rows++[sealRow w key label p]⟩ }
theorem eqPart_eq {p q:Part} (h:eqPart p q=true):p=q:=by
 obtain ⟨a,b,c,d,e,f,g⟩:=p
 obtain ⟨a',b',c',d',e',f',g'⟩:=q
 simp only [eqPart,Bool.and_eq_true,beq_iff_eq] at h
 obtain ⟨rfl,rfl,rfl,rfl,rfl,rfl,rfl⟩:=h
 rfl
theorem seal_ok {w:World} {key label:Int} {p:Part} (h:(sealW w key label p).2.2=0) :
 sealW w key label p=(sealTo w key label p,(drawW w).2,0)∧label? label=true∧p=partRd label (partWs label p)∧boxFind w.box (drawW w).2=none∧1≤w.box.room - w.box.rows.length:=by
 unfold sealW at h ⊢
 cases h1:((partPut label p).2==0)
 ·rw [h1] at h
  simp only [cond_false] at h
  rw [h] at h1;cases h1
 ·rw [h1] at h
  have hp:partPut label p=(partWs label p,0)∧label? label=true∧p=partRd label (partWs label p):=by
   unfold partPut at h1 ⊢
   cases h3:(label? label && eqPart p (partRd label (partWs label p)))
   ·rw [h3] at h1;cases h1
   ·rw [Bool.and_eq_true] at h3
    exact ⟨rfl,h3.1,eqPart_eq h3.2⟩
  obtain ⟨hp,hl,he⟩:=hp
  cases h2:((boxSeal w.box (drawW w).2 key label (partPut label p).1).2==0)
  ·rw [h2] at h
   simp only [cond_true,cond_false] at h
   rw [h] at h2;cases h2
  ·have hb:boxSeal w.box (drawW w).2 key label (partPut label p).1=(⟨w.box.room,w.box.rows++[sealRow w key label p]⟩,0)∧boxFind w.box (drawW w).2=none∧1≤w.box.room - w.box.rows.length:=by
    rw [hp] at h2 ⊢
    unfold boxSeal at h2 ⊢
    cases g1:decide (((partWs label p).length:Int) > 64)
    ·cases g2:(boxFind w.box (drawW w).2).isSome
     ·cases g3:decide (w.box.room - w.box.rows.length < 1)
      ·exact ⟨by simp only [g1,g2,g3,cond_false];rfl,by simpa using g2,by have:=of_decide_eq_false g3;omega⟩
      ·rw [g1,g2,g3] at h2;cases h2
     ·rw [g1,g2] at h2;cases h2
    ·rw [g1] at h2;cases h2
   refine ⟨?_,hl,he,hb.2⟩
   simp only [cond_true,hb.1]
   rfl
def sendTo (w:World) (to:Int) (m:Msg):World:={ w with net:=⟨w.net.room,w.net.grams++[⟨to,msgWs m⟩],w.net.seen++[msgWs m]⟩ }
theorem send_to {w:World} {to:Int} {m:Msg} (h:(sendW w to m).2=0):sendW w to m=(sendTo w to m,0)∧msgMay m=true:=by
 unfold sendW msgPut at h ⊢
 cases h1:msgMay m
 ·rw [h1] at h;cases h
 ·rw [h1] at h
  simp only [cond_true,beq_self_eq_true,netSend] at h ⊢
  cases h2:decide (w.net.room - (w.net.grams.length:Int) < 1)
  ·exact ⟨rfl,trivial⟩
  ·rw [h2] at h;cases h
def aRun (w:World) (b:Int):Run:=⟨1,1,b,(drawW w).2,0,0,0,0,1⟩
def aP (w:World) (a b:Int):Person:=pushRun (personW w a) (aRun w b)
def aEv (w:World) (a b:Int):Event:=⟨1,1,1,a,b,0,0,0,(drawW w).2,(personW w a).clock⟩
def aY (w:World) (a b:Int):World:=putP (drawW w).1 (aP w a b) (aEv w a b)
def aMsg (w:World) (a b:Int):Msg:=⟨1,0,a,b,(drawW w).2,0,0⟩
def aZ (w:World) (a b:Int):World:=(sendW (aY w a b) 0 (aMsg w a b)).1
def startN (w:World) (a b:Int):World×Int :=
 bif pairM w.people a b then (bif !full w (personW w a) && roomW w 0 1 then (aZ w a b,0) else (w,10)) else (w,5)
def aG (w:World) (me:Int) (m:Msg):Part×Bool:=openW w (personW w me).key 2 m.box
def aQ (g:Part) (r:Run):Bool:=isRun 1 1 1 r && (r.mine==g.n && r.peer==g.b)
def aI (w:World) (me:Int) (m:Msg):Option Nat:=(personW w me).runs.findIdx? (aQ (aG w me m).1)
def tookR (r:Run) (g:Part):Run:={ r with k:=g.k,t:=g.t,state:=2 }
def aT (w:World) (me:Int) (g:Part) (i:Nat):World :=
 putP w (setRun (personW w me) i (tookR (runAt (personW w me).runs i) g)) ⟨3,1,1,me,(runAt (personW w me).runs i).peer,g.k,g.t,0,(runAt (personW w me).runs i).mine,(personW w me).clock⟩
def aX (w:World) (me:Int) (g:Part) (i:Nat):World:=(sendW (aT w me g i) (runAt (personW w me).runs i).peer ⟨3,0,0,0,0,g.h,0⟩).1
def grantN (w:World) (me:Int) (m:Msg):World×Int :=
 bif (aG w me m).2 then (match aI w me m with
  | none=>(w,9)
  | some i=>bif freshM (personW w me).clock (aG w me m).1.t w.conf.window then (bif roomW w 0 1 then (aX w me (aG w me m).1 i,0) else (w,10)) else (w,7)) else (w,6)
def eQ (w:World) (m:Msg) (r:Run):Bool:=isRun 1 1 2 r && (openW w r.k 4 m.box).2
def eI (w:World) (me:Int) (m:Msg):Option Nat:=(personW w me).runs.findIdx? (eQ w m)
def eN (w:World) (me:Int) (m:Msg) (i:Nat):Int:=(openW w (runAt (personW w me).runs i).k 4 m.box).1.n
def eS (w:World) (me:Int) (n:Int) (i:Nat):World×Int×Int:=sealW w (runAt (personW w me).runs i).k 5 ⟨n,0,0,0,0,0,0⟩
def backR (r:Run) (n:Int):Run:={ r with their:=n,state:=3 }
def eT (w:World) (me:Int) (n:Int) (i:Nat):World :=
 putP (eS w me n i).1 (setRun (personW w me) i (backR (runAt (personW w me).runs i) n)) ⟨4,1,1,me,(runAt (personW w me).runs i).peer,(runAt (personW w me).runs i).k,(runAt (personW w me).runs i).t,0,n,(personW w me).clock⟩
def eX (w:World) (me:Int) (n:Int) (i:Nat):World:=(sendW (eT w me n i) (runAt (personW w me).runs i).peer ⟨5,0,0,0,0,(eS w me n i).2.1,0⟩).1
def echoN (w:World) (me:Int) (m:Msg):World×Int:=match eI w me m with
 | none=>(w,6)
 | some i=>bif freshM (personW w me).clock (runAt (personW w me).runs i).t w.conf.window then (bif roomW w 1 1 then
    (bif (eS w me (eN w me m i) i).2.2==0 then (eX w me (eN w me m i) i,0) else (w,(eS w me (eN w me m i) i).2.2)) else (w,10)) else (w,7)
def tG (w:World) (me:Int) (m:Msg):Part×Bool:=openW w (personW w me).key 3 m.box
def tS (w:World) (g:Part):World×Int×Int:=sealW (drawW w).1 g.k 4 ⟨(drawW w).2,0,0,0,0,0,0⟩
def tkRun (w:World) (g:Part):Run:=⟨1,2,g.a,(drawW w).2,0,0,g.k,g.t,2⟩
def tP (w:World) (me:Int) (g:Part):Person:=pushRun { personW w me with used:=(personW w me).used++[g.k] } (tkRun w g)
def tEv (w:World) (me:Int) (g:Part):Event:=⟨3,1,2,g.a,me,g.k,g.t,0,(drawW w).2,(personW w me).clock⟩
def tY (w:World) (me:Int) (g:Part):World:=putP (tS w g).1 (tP w me g) (tEv w me g)
def tZ (w:World) (me:Int) (g:Part):World:=(sendW (tY w me g) g.a ⟨4,0,0,0,0,(tS w g).2.1,0⟩).1
def ticketB (w:World) (me:Int) (m:Msg):World×Int :=
 bif (tG w me m).2 then (bif pairM w.people (tG w me m).1.a me then (bif freshM (personW w me).clock (tG w me m).1.t w.conf.window then
  (bif usedMay (personW w me).used w.conf.used (tG w me m).1.k==0 then (bif !full w (personW w me) && roomW w 1 1 then
    (bif (tS w (tG w me m).1).2.2==0 then (tZ w me (tG w me m).1,0) else (w,(tS w (tG w me m).1).2.2)) else (w,10))
    else (w,usedMay (personW w me).used w.conf.used (tG w me m).1.k)) else (w,7)) else (w,5)) else (w,6)
def kQ (w:World) (m:Msg) (r:Run):Bool:=isRun 1 2 2 r && ((openW w r.k 5 m.box).2 && (openW w r.k 5 m.box).1.n==r.mine)
def kI (w:World) (me:Int) (m:Msg):Option Nat:=(personW w me).runs.findIdx? (kQ w m)
def endR' (r:Run):Run:={ r with state:=3 }
def kT (w:World) (me:Int) (i:Nat):World :=
 putP w (setRun (personW w me) i (endR' (runAt (personW w me).runs i))) ⟨4,1,2,(runAt (personW w me).runs i).peer,me,(runAt (personW w me).runs i).k,(runAt (personW w me).runs i).t,0,(runAt (personW w me).runs i).mine,(personW w me).clock⟩
def backB (w:World) (me:Int) (m:Msg):World×Int:=match kI w me m with
 | none=>(w,6)
 | some i=>bif freshM (personW w me).clock (runAt (personW w me).runs i).t w.conf.window then (kT w me i,0) else (w,7)
theorem may1 (a b n:Int):msgMay ⟨1,0,a,b,n,0,0⟩=true:=by simp [msgMay,tags,hasM,msgWord]
theorem mayBox {k:Int} (h:k=2∨k=3∨k=4∨k=5) (x:Int):msgMay ⟨k,0,0,0,0,x,0⟩=true:=by
 rcases h with rfl|rfl|rfl|rfl<;>simp [msgMay,tags,hasM,msgWord]
theorem aZ_ok {w:World} {a b:Int} (h:roomW w 0 1=true):(sendW (aY w a b) 0 (aMsg w a b)).2=0 :=
 sendW_ok (may1 _ _ _) (by have:=room_net h;rw [aY,net_put];exact this)
theorem aX_ok {w:World} {me:Int} {g:Part} {i:Nat} {to:Int} (h:roomW w 0 1=true):(sendW (aT w me g i) to ⟨3,0,0,0,0,g.h,0⟩).2=0 :=
 sendW_ok (mayBox (by omega) _) (by have:=room_net h;rw [aT,net_put];exact this)
theorem eX_ok {w:World} {me n:Int} {i:Nat} {to:Int} (h:roomW w 1 1=true):(sendW (eT w me n i) to ⟨5,0,0,0,0,(eS w me n i).2.1,0⟩).2=0 :=
 sendW_ok (mayBox (by omega) _) (by have:=room_net h;rw [eT,net_put,eS,net_seal];exact this)
theorem tZ_ok {w:World} {me:Int} {g:Part} {to:Int} (h:roomW w 1 1=true):(sendW (tY w me g) to ⟨4,0,0,0,0,(tS w g).2.1,0⟩).2=0 :=
 sendW_ok (mayBox (by omega) _) (by have:=room_net h;rw [tY,net_put,tS,net_seal];exact this)
theorem aRun_ok {w:World} {N:Nat} (hw:w.fit N) {b:Int} (hb:U b):(aRun w b).ok:=⟨(by decide:I 1),(by decide:I 1),hb,drawW_U hw,U0,U0,U0,U0,(by decide:I 1)⟩
theorem aP_ok {w:World} {N:Nat} (hw:w.fit N) (hN:N≤400000000000) {a b:Int} (hb:U b):(aP w a b).ok:=push_ok (personW_ok hw a) (aRun_ok hw hb) (personW_runs hw a) hN
theorem aEv_ok {w:World} {N:Nat} (hw:w.fit N) {a b:Int} (ha:U a) (hb:U b):(aEv w a b).ok :=
 ⟨(by decide:I 1),(by decide:I 1),(by decide:I 1),ha,hb,U0,U0,U0,drawW_U hw,(personW_ok hw a).2.2.1⟩
theorem aW_fit {w:World} {N:Nat} (hw:w.fit N) (hN:N≤400000000000) {a b:Int} (hb:U b):(withW (drawW w).1 (aP w a b)).fit (N + 1) :=
 fit_with (fit_draw hw (by omega)) (aP_ok hw hN hb) (by have:=personW_used hw a;simp only [aP,pushRun];omega) (by have:=personW_runs hw a;simp only [aP,pushRun,List.length_append,List.length_singleton];omega)
theorem aY_fit {w:World} {N:Nat} (hw:w.fit N) (hN:N≤400000000000) {a b:Int} (ha:U a) (hb:U b):(aY w a b).fit (N + 2):=fit_log (aW_fit hw hN hb) (by omega) (aEv_ok hw ha hb)
theorem aMsg_ok {w:World} {N:Nat} (hw:w.fit N) {a b:Int} (ha:U a) (hb:U b):(aMsg w a b).ok:=⟨(by decide:U 1),U0,ha,hb,drawW_U hw,U0,U0⟩
theorem startN_fit {w:World} {N:Nat} (hw:w.fit N) (h5:21≤N) (hN:N≤400000000000) {a b:Int} (ha:U a) (hb:U b):(startN w a b).1.fit (N + 3):=by
 have h0:=hw.mono (show N≤N + 3 by omega)
 have hz:(aZ w a b).fit (N + 3):=fit_send (aY_fit hw hN ha hb) (by omega) (by omega) U0 (aMsg_ok hw ha hb)
 unfold startN
 cases pairM w.people a b
 ·exact h0
 cases (!full w (personW w a) && roomW w 0 1)
 ·exact h0
 ·exact hz
theorem tookR_ok {r:Run} (h:r.ok) {g:Part} (hg:g.ok):(tookR r g).ok:=⟨h.1,h.2.1,h.2.2.1,h.2.2.2.1,h.2.2.2.2.1,h.2.2.2.2.2.1,hg.2.2.2.2.1,hg.2.2.2.2.2.1,by show I 2;decide⟩
theorem aT_fit {w:World} {N:Nat} (hw:w.fit N) (hN:N≤400000000000) {me:Int} (hme:U me) {g:Part} (hg:g.ok) (i:Nat):(aT w me g i).fit (N + 1):=by
 have hr:=runAt_ok hw me i
 exact put_fit hw (by omega) (set_ok (personW_ok hw me) (tookR_ok hr hg) i) (personW_used hw me) (by simp only [setRun,List.length_set];exact personW_runs hw me)
  ⟨(by decide:I 3),(by decide:I 1),(by decide:I 1),hme,hr.2.2.1,hg.2.2.2.2.1,hg.2.2.2.2.2.1,U0,hr.2.2.2.1,(personW_ok hw me).2.2.1⟩
theorem boxMsg_ok {k x:Int} (hk:U k) (hx:U x):Msg.ok ⟨k,0,0,0,0,x,0⟩:=⟨hk,U0,U0,U0,U0,hx,U0⟩
theorem aX_fit {w:World} {N:Nat} (hw:w.fit N) (h5:21≤N) (hN:N≤400000000000) {me:Int} (hme:U me) {g:Part} (hg:g.ok) (i:Nat):(aX w me g i).fit (N + 2) :=
 fit_send (aT_fit hw hN hme hg i) (by omega) (by omega) (runAt_ok hw me i).2.2.1 (boxMsg_ok (by decide) hg.2.2.2.2.2.2)
theorem grantN_fit {w:World} {N:Nat} (hw:w.fit N) (h5:21≤N) (hN:N≤400000000000) {me:Int} (hme:U me) (m:Msg):(grantN w me m).1.fit (N + 2):=by
 have h0:=hw.mono (show N≤N + 2 by omega)
 unfold grantN
 cases (aG w me m).2
 ·exact h0
 simp only [cond_true]
 cases aI w me m with
 | none=>exact h0
 | some i =>
   simp only
   cases freshM (personW w me).clock (aG w me m).1.t w.conf.window
   ·exact h0
   cases roomW w 0 1
   ·exact h0
   ·exact aX_fit hw h5 hN hme (openW_ok hw _ _ _) i
theorem backR_ok {r:Run} (h:r.ok) {n:Int} (hn:U n):(backR r n).ok:=⟨h.1,h.2.1,h.2.2.1,h.2.2.2.1,hn,h.2.2.2.2.2.1,h.2.2.2.2.2.2.1,h.2.2.2.2.2.2.2.1,by show I 3;decide⟩
theorem eS_fit {w:World} {N:Nat} (hw:w.fit N) (h5:21≤N) (hN:N≤400000000000) {me n:Int} (hn:U n) (i:Nat):(eS w me n i).1.fit (N + 1) :=
 fit_seal hw (by omega) (by omega) (runAt_ok hw me i).2.2.2.2.2.2.1 (by decide) ⟨hn,U0,U0,U0,U0,U0,U0⟩
theorem eW_fit {w:World} {N:Nat} (hw:w.fit N) (h5:21≤N) (hN:N≤400000000000) {me n:Int} (hn:U n) (i:Nat):(withW (eS w me n i).1 (setRun (personW w me) i (backR (runAt (personW w me).runs i) n))).fit (N + 1) :=
 fit_with (eS_fit hw h5 hN hn i) (set_ok (personW_ok hw me) (backR_ok (runAt_ok hw me i) hn) i) (by have:=personW_used hw me;simp only [setRun];omega) (by have:=personW_runs hw me;simp only [setRun,List.length_set];omega)
theorem eT_fit {w:World} {N:Nat} (hw:w.fit N) (h5:21≤N) (hN:N≤400000000000) {me n:Int} (hme:U me) (hn:U n) (i:Nat):(eT w me n i).fit (N + 2):=by
 have hr:=runAt_ok hw me i
 exact fit_log (eW_fit hw h5 hN hn i) (by omega) ⟨(by decide:I 4),(by decide:I 1),(by decide:I 1),hme,hr.2.2.1,hr.2.2.2.2.2.2.1,hr.2.2.2.2.2.2.2.1,U0,hn,(personW_ok hw me).2.2.1⟩
theorem eS_U {w:World} {N:Nat} (hw:w.fit N) (me n:Int) (i:Nat):U (eS w me n i).2.1:=sealW_U hw _ _ _
theorem eX_fit {w:World} {N:Nat} (hw:w.fit N) (h5:21≤N) (hN:N≤400000000000) {me n:Int} (hme:U me) (hn:U n) (i:Nat):(eX w me n i).fit (N + 3) :=
 fit_send (eT_fit hw h5 hN hme hn i) (by omega) (by omega) (runAt_ok hw me i).2.2.1 (boxMsg_ok (by decide) (eS_U hw me n i))
theorem echoN_fit {w:World} {N:Nat} (hw:w.fit N) (h5:21≤N) (hN:N≤400000000000) {me:Int} (hme:U me) (m:Msg):(echoN w me m).1.fit (N + 3):=by
 have h0:=hw.mono (show N≤N + 3 by omega)
 unfold echoN
 cases eI w me m with
 | none=>exact h0
 | some i =>
   simp only
   cases freshM (personW w me).clock (runAt (personW w me).runs i).t w.conf.window
   ·exact h0
   cases roomW w 1 1
   ·exact h0
   simp only [cond_true]
   cases ((eS w me (eN w me m i) i).2.2==0)
   ·exact h0
   ·exact eX_fit hw h5 hN hme (openW_ok hw _ _ _).1 i
theorem tRun_ok {w:World} {N:Nat} (hw:w.fit N) {g:Part} (hg:g.ok):(tkRun w g).ok :=
 ⟨(by decide:I 1),(by decide:I 2),hg.2.2.1,drawW_U hw,U0,U0,hg.2.2.2.2.1,hg.2.2.2.2.2.1,by show I 2;decide⟩
theorem tS_fit {w:World} {N:Nat} (hw:w.fit N) (h5:21≤N) (hN:N≤400000000000) {g:Part} (hg:g.ok):(tS w g).1.fit (N + 2) :=
 fit_seal (fit_draw hw (by omega)) (by omega) (by omega) hg.2.2.2.2.1 (by decide) ⟨drawW_U hw,U0,U0,U0,U0,U0,U0⟩
theorem tS_U {w:World} {N:Nat} (hw:w.fit N) (hN:N≤400000000000) (g:Part):U (tS w g).2.1:=sealW_U (fit_draw hw (by omega)) _ _ _
theorem tP_ok {w:World} {N:Nat} (hw:w.fit N) (hN:N≤400000000000) (me:Int) {g:Part} (hg:g.ok):(tP w me g).ok :=
 push_ok (used_ok (personW_ok hw me) hg.2.2.2.2.1 (personW_used hw me) hN) (tRun_ok hw hg) (personW_runs hw me) hN
theorem tW_fit {w:World} {N:Nat} (hw:w.fit N) (h5:21≤N) (hN:N≤400000000000) (me:Int) {g:Part} (hg:g.ok):(withW (tS w g).1 (tP w me g)).fit (N + 2) :=
 fit_with (tS_fit hw h5 hN hg) (tP_ok hw hN me hg) (by have:=personW_used hw me;simp only [tP,pushRun,List.length_append,List.length_singleton];omega) (by have:=personW_runs hw me;simp only [tP,pushRun,List.length_append,List.length_singleton];omega)
theorem tY_fit {w:World} {N:Nat} (hw:w.fit N) (h5:21≤N) (hN:N≤400000000000) {me:Int} (hme:U me) {g:Part} (hg:g.ok):(tY w me g).fit (N + 3) :=
 fit_log (tW_fit hw h5 hN me hg) (by omega) ⟨(by decide:I 3),(by decide:I 1),(by decide:I 2),hg.2.2.1,hme,hg.2.2.2.2.1,hg.2.2.2.2.2.1,U0,drawW_U hw,(personW_ok hw me).2.2.1⟩
theorem ticketB_fit {w:World} {N:Nat} (hw:w.fit N) (h5:21≤N) (hN:N≤400000000000) {me:Int} (hme:U me) (m:Msg):(ticketB w me m).1.fit (N + 4):=by
 have h0:=hw.mono (show N≤N + 4 by omega)
 have hg:(tG w me m).1.ok:=openW_ok hw _ _ _
 have hz:(tZ w me (tG w me m).1).fit (N + 4):=fit_send (tY_fit hw h5 hN hme hg) (by omega) (by omega) hg.2.2.1 (boxMsg_ok (by decide) (tS_U hw hN _))
 unfold ticketB
 cases (tG w me m).2
 ·exact h0
 cases pairM w.people (tG w me m).1.a me
 ·exact h0
 cases freshM (personW w me).clock (tG w me m).1.t w.conf.window
 ·exact h0
 cases (usedMay (personW w me).used w.conf.used (tG w me m).1.k==0)
 ·exact h0
 cases (!full w (personW w me) && roomW w 1 1)
 ·exact h0
 cases ((tS w (tG w me m).1).2.2==0)
 ·exact h0
 ·exact hz
theorem endR'_ok {r:Run} (h:r.ok):(endR' r).ok:=⟨h.1,h.2.1,h.2.2.1,h.2.2.2.1,h.2.2.2.2.1,h.2.2.2.2.2.1,h.2.2.2.2.2.2.1,h.2.2.2.2.2.2.2.1,by show I 3;decide⟩
theorem kT_fit {w:World} {N:Nat} (hw:w.fit N) (hN:N≤400000000000) {me:Int} (hme:U me) (i:Nat):(kT w me i).fit (N + 1):=by
 have hr:=runAt_ok hw me i
 exact put_fit hw (by omega) (set_ok (personW_ok hw me) (endR'_ok hr) i) (personW_used hw me) (by simp only [setRun,List.length_set];exact personW_runs hw me)
  ⟨(by decide:I 4),(by decide:I 1),(by decide:I 2),hr.2.2.1,hme,hr.2.2.2.2.2.2.1,hr.2.2.2.2.2.2.2.1,U0,hr.2.2.2.1,(personW_ok hw me).2.2.1⟩
theorem backB_fit {w:World} {N:Nat} (hw:w.fit N) (hN:N≤400000000000) {me:Int} (hme:U me) (m:Msg):(backB w me m).1.fit (N + 1):=by
 have h0:=hw.mono (show N≤N + 1 by omega)
 unfold backB
 cases kI w me m with
 | none=>exact h0
 | some i =>
   simp only
   cases freshM (personW w me).clock (runAt (personW w me).runs i).t w.conf.window
   ·exact h0
   ·exact kT_fit hw hN hme i
theorem st3 (s:Int):(decide (s≥1) && decide (s≤3))=(s==1 || s==2 || s==3):=by rw [Bool.eq_iff_iff];simp;omega
theorem pMay09_spec (r:Run):Spec PP GG 218 [r.v] (.bool (May09 r)) []:=by
 have hs:=st3 r.state
 refine Qs func218 ?_
 intro w0 M0
 simp only [f218,lf,z,seval]
 repeat' ((first|refine brk (fun h=>?_) (fun h=>?_)|fail)<;>simp only [h,z,seval])
 all_goals (refine Qf ?_;simp only [z,seval])
 all_goals (simp only [May09,← hs];first|(simp_all;done)|(simp_all;intros;omega))
end Ch
namespace Go.Proofs
open Go.Shelf
def Tryz.growRun_ren:Go.Shelf.Ren:=⟨fun|4=>234|n=>n,fun|0=>0|3=>3|4=>4|9=>9|20=>20|22=>63|25=>85|n=>n,fun n=>n⟩
theorem Tryz.growRun:Lays8.n4 Tryz.prog Tryz.growRun_ren where
 mixed:=by kernel_rfl
 f4:=⟨Tryz.f234.name,of_decide_eq_true (by kernel_rfl),Tryz.func234.trans (congrArg some (by kernel_rfl))⟩
 t0:=Tryz.underlying0
 a0:=Tryz.isAgg0
 z0:=Tryz.sizeOf0
 v0:=Tryz.zeroValue0
 t3:=Tryz.underlying3
 a3:=Tryz.isAgg3
 z3:=Tryz.sizeOf3
 v3:=Tryz.zeroValue3
 t4:=Tryz.underlying4
 a4:=Tryz.isAgg4
 z4:=Tryz.sizeOf4
 v4:=Tryz.zeroValue4
 t9:=Tryz.underlying9
 a9:=Tryz.isAgg9
 z9:=Tryz.sizeOf9
 v9:=Tryz.zeroValue9
 t20:=Tryz.underlying20
 a20:=Tryz.isAgg20
 z20:=Tryz.sizeOf20
 v20:=Tryz.zeroValue20
 t22:=Tryz.underlying63
 a22:=Tryz.isAgg63
 z22:=Tryz.sizeOf63
 v22:=Tryz.zeroValue63
end Go.Proofs
theorem Ch.GrowRun_spec (n:Nat) (hn:n≤1099511627776):Go.Ab.Spec Go.Ab.PP Ch.GG 234 [.sl [] .nil,Ch.i64 n] (.row 0 0) [.row 9 [] 0 false] :=
 Go.Ab.Grow_nil' Go.Proofs.Tryz.growRun Ch.GG 63 rfl Go.Ab.ty63 rfl Go.Ab.ty85 rfl (by decide) (by decide) n hn
namespace Ch
open Go Go.Ab Go.Proofs.Tryz
def nextR (l:List Run) (from_:Nat) (p:Run→Bool):Option Nat:=(List.range l.length).find? fun i=>decide (from_≤i) && p (runAt l i)
theorem nextR_some {l:List Run} {a i:Nat} {p:Run→Bool} (h:nextR l a p=some i):i < l.length∧a≤i∧p (runAt l i)=true ∧ ∀ j,a≤j→j < i→p (runAt l j)=false:=by
 rw [nextR,List.find?_range_eq_some] at h
 obtain ⟨h1,h2,h3⟩:=h
 simp only [Bool.and_eq_true,decide_eq_true_eq] at h1
 refine ⟨List.mem_range.1 h2,h1.1,h1.2,fun j hj hi=>?_⟩
 have:=h3 j hi
 simpa [hj] using this
theorem nextR_none {l:List Run} {a:Nat} {p:Run→Bool} (h:nextR l a p=none):∀ j,a≤j→j < l.length→p (runAt l j)=false:=by
 rw [nextR,List.find?_range_eq_none] at h
 intro j hj hl
 have:=h j hl
 simpa [hj] using this
theorem first_at {l:List Run} {q:Run→Bool} {i:Nat} (hi:i < l.length) (h1:q (runAt l i)=true) (h2:∀ j,j < i→q (runAt l j)=false):l.findIdx? q=some i:=by
 rw [List.findIdx?_eq_some_iff_getElem]
 refine ⟨hi,by rw [← runAt_get hi];exact h1,fun j hj=>?_⟩
 have:=h2 j hj
 rw [runAt_get (by omega)] at this
 simpa using this
theorem first_none {l:List Run} {q:Run→Bool} (h:∀ j,j < l.length→q (runAt l j)=false):l.findIdx? q=none:=by
 rw [List.findIdx?_eq_none_iff]
 intro x hx
 obtain ⟨j,hj,rfl⟩:=List.mem_iff_getElem.1 hx
 have:=h j hj
 rwa [runAt_get hj] at this
theorem pNext_spec (l:List Run) (a:Nat) (proto role state:Int) (hl:l.length≤1099511627776):Spec PP GG 302 [runsV l,i64 a,i64 proto,i64 role,i64 state] (.tup [i64 ((nextR l a (isRun proto role state)).getD 0:Nat),.bool (nextR l a (isRun proto role state)).isSome]) []:=by
 refine Qs func302 ?_
 intro w0 M0
 simp only [f302,lf,z,seval]
 refine RUNs_rangeS (l.length) (fun i (_:Unit) => ∀ j,a≤j→j < i→isRun proto role state (runAt l j)=false) (fun i _=>[(16,i64 i)]) (fun i _=>[]) () ?_ (by simp only [z,seval];exact wk) rfl ?_
 ·intro j _ h;exact absurd h (Nat.not_lt_zero _)
 rintro ⟨i,_,hi,hw⟩
 simp only [z,seval]
 first|refine brk (fun h=>?_) (fun h=>?_)|fail
 ·have hlt:i < l.length:=by have:=of_decide_eq_true h;omega
  simp only [h,getMap Run.v l hlt,z,seval]
  have hg:=runAt_get hlt
  cases c:(decide (a≤i) && isRun proto role state (runAt l i)) with
  | true =>
    have e:nextR l a (isRun proto role state)=some i:=by
     rw [nextR,List.find?_range_eq_some]
     refine ⟨c,List.mem_range.2 hlt,fun j hj=>?_⟩
     by_cases hj2:a≤j
     ·simp [hw j hj2 hj]
     ·simp [hj2]
    rw [e]
    simp only [isRun,Bool.and_eq_true] at c
    rw [hg] at c
    have c0:decide ((i:Int)≥(a:Int))=true:=by have:=of_decide_eq_true c.1;exact decide_eq_true (by omega)
    simp only [c0,c.2.1,c.2.2.1,c.2.2.2,z,seval]
    (refine Qf ?_;simp only [z,seval])
  | false =>
    have hs:∀ j,a≤j→j < i + 1→isRun proto role state (runAt l j)=false:=by
     intro j h1 h2
     rcases Nat.lt_or_ge j i with h3|h3
     ·exact hw j h1 h3
     ·obtain rfl:j=i:=by omega
      rw [decide_eq_true h1] at c;exact c
    rw [hg] at c
    have c0:decide ((i:Int)≥(a:Int))=decide (a≤i):=by rw [Bool.eq_iff_iff];simp
    simp only [isRun] at c
    rw [← c0] at c
    have hw1:IntKind.i64.wrap ((i:Int) + 1)=((i + 1:Nat):Int):=w64s (by omega)
    cases c1:decide ((i:Int)≥(a:Int))<;>cases c2:(l[i].proto==proto)<;>cases c3:(l[i].role==role)<;>cases c4:(l[i].state==state)
    all_goals
     simp only [c1,c2,c3,c4,z,seval]
     first
      | (exfalso;rw [c1,c2,c3,c4] at c;exact absurd c (by decide))
      | (simp only [hw1,z,seval]
         refine NX () ?_ (by rfl) hlt hs
         first|exact wk|(simp only [z,seval];exact wk))
 ·have:i=l.length:=by have:=of_decide_eq_false h;omega
  subst this
  simp only [h,z,seval]
  have e:nextR l a (isRun proto role state)=none:=by
   rw [nextR,List.find?_range_eq_none]
   intro j hj
   by_cases hj2:a≤j
   ·simp [hw j hj2 hj]
   ·simp [hj2]
  rw [e]
  (refine Qf ?_;simp only [z,seval])
  rfl
theorem ConcatRun_spec (L:List (List Run)) (hl:L.flatten.length≤1099511627776) (hL:L.length≤1099511627776):Spec PP GG 202 [.sl (L.map fun l=>.sl (l.map Run.v) .plain) .plain] (.sl (L.flatten.map Run.v) .plain) []:=by
 refine Qs func202 ?_
 intro w0 M0
 simp only [f202,lf,z,seval]
 refine RUNs_rangeS (L.length) (fun _ (_:Unit)=>True) (fun i _=>[(3,i64 (L.take i).flatten.length),(11,i64 i)]) (fun _ _=>[]) () ?_ (by simp only [z,seval];exact wk) rfl ?_
 ·trivial
 rintro ⟨i,_,hi,-⟩
 simp only [z,seval]
 refine CONDS_split (fun h=>?_) (fun h=>?_)
 ·have hlt:i < L.length:=by simpa using h
  have hs:=flat_succ hlt
  have hf:=flat_le L (i + 1)
  have hk:IntKind.i64.wrap (((L.take i).flatten.length:Int) + (L[i].length:Int))=((L.take (i + 1)).flatten.length:Nat):=by
   rw [hs] at hf ⊢
   rw [List.length_append] at hf ⊢
   rw [w64 (by omega) (by omega)];omega
  simp only [z,seval,getMap (fun l:List Run=>V.sl (l.map Run.v) .plain) L hlt,hk]
  refine CONDS_split (fun h=>?_) (fun h=>?_)
  ·exact absurd h (by simp)
  ·simp only [z,seval,w64s (i:=i) (by omega)]
   refine NX () (hi:=hlt) (hinv:=?_)
   trivial
 ·obtain rfl:i=L.length:=by simp at h;omega
  rw [List.take_length]
  simp only [z,seval]
  (refine CALLS_specP' (by kernel_rfl) (GrowRun_spec L.flatten.length hl) (by rfl) (by rfl) ?_;simp only [z,seval])
  refine RUNs_rangeS (L.length) (fun _ (_:Unit)=>True) (fun i _=>[(6,.row 0 i),(27,i64 i)]) (fun i _=>[(0,.row 9 ((L.take i).flatten.map Run.v) i false)]) () ?_ (by simp only [z,seval];exact wk) rfl ?_
  ·trivial
  rintro ⟨i,_,hi,-⟩
  simp only [z,seval]
  refine CONDS_split (fun h=>?_) (fun h=>?_)
  ·have hlt:i < L.length:=by simpa using h
   simp only [z,seval,getMap (fun l:List Run=>V.sl (l.map Run.v) .plain) L hlt]
   have hs:=flat_succ hlt
   have hf:=flat_le L (i + 1)
   rw [hs,List.length_append] at hf
   refine OPC_ok (by simp only [Bool.and_eq_true,List.all_eq_true,decide_eq_true_eq];exact ⟨fun x hx=>by obtain ⟨y,_,rfl⟩:=List.mem_map.1 hx;rfl,by first|omega|(simp only [List.length_map];omega)⟩) ?_
   rw [← List.map_append,← hs]
   simp only [z,seval,w64s (i:=i) (by omega)]
   refine NX () (hi:=hlt) (hinv:=?_)
   trivial
  ·simp only [z,seval]
   obtain rfl:i=L.length:=by simp at h;omega
   rw [List.take_length]
   (refine Qf ?_;simp only [z,seval])
theorem ConcatRun_2 (A B:List Run) (hl:A.length + B.length≤1099511627776):Spec PP GG 202 [.sl [.sl (A.map Run.v) .plain,.sl (B.map Run.v) .plain] .plain] (.sl ((A++B).map Run.v) .plain) []:=by
 have:=ConcatRun_spec [A,B] (by simpa using hl) (by simp)
 simpa using this
theorem pAdd_spec (l:List Run) (room:Int) (r:Run) (hl:l.length≤1000000000000):Spec PP GG 183 [runsV l,i64 room,r.v] (.tup [runsV (runsAdd l room r).1,i64 (runsAdd l room r).2]) []:=by
 have h1:=pMay09_spec r
 have h2:=ConcatRun_2 l [r] (by simp;omega)
 refine Qs func183 ?_
 intro w0 M0
 simp only [f183,lf,z,seval]
 (refine CU h1 (h:=?_);simp only [z,seval])
 cases c1:May09 r with
 | false =>
   simp only [c1,z,seval]
   (refine Qf ?_;simp only [z,seval])
   simp only [runsAdd,c1,cond_false]
 | true =>
 simp only [c1,z,seval]
 cases c2:decide ((l.length:Int)≥room) with
 | true =>
   simp only [c2,z,seval]
   (refine Qf ?_;simp only [z,seval])
   simp only [runsAdd,c1,c2,cond_true]
 | false =>
   simp only [c2,z,seval]
   (refine CU h2 (h:=?_);simp only [z,seval])
   (refine Qf ?_;simp only [z,seval])
   simp only [runsAdd,c1,c2,cond_true,cond_false]
theorem CloneRun_spec (l:List Run) (hl:l.length≤1099511627776):Spec PP GG 303 [.sl (l.map Run.v) .plain] (.row 0 0) [.row 9 (l.map Run.v) 0 false]:=by
 refine Qs func303 ?_
 intro w0 M0
 simp only [f303,lf,z,seval]
 refine OPV_nilq rfl rfl ty63 rfl rfl ?_
 intro b hb _
 rcases b
 ·simp only [z,seval]
  refine OPC_ok (okMap _ (fun a=>rfl) hl) ?_
  simp only [z,seval]
  exact FINS_own rfl rfl
 ·obtain rfl:l=[]:=by
   cases l with
   | nil=>rfl
   | cons a l=>exact absurd (hb (by simp)) (by simp)
  simp only [List.map_nil,z,seval]
  intro _
  refine RUNs_row0 2 9 (h:=?_)
  simp only [z,seval]
  exact FINS_own rfl rfl
theorem pSetR_spec (l:List Run) (i:Nat) (r:Run) (hi:i < l.length) (hr:May09 r=true) (hl:l.length≤1099511627776):Spec PP GG 286 [runsV l,i64 i,r.v] (.tup [runsV (l.set i r),i64 0]) []:=by
 have h1:=pMay09_spec r
 have h2:=CloneRun_spec l hl
 have e:(l.map Run.v).set i r.v=(l.set i r).map Run.v:=by rw [List.map_set]
 have n1:decide ((i:Int) < 0)=false:=decide_eq_false (by omega)
 have n2:decide ((i:Int)≥(l.length:Int))=false:=decide_eq_false (by omega)
 rw [hr] at h1
 simp only [mv] at e
 refine Qs func286 ?_
 intro w0 M0
 simp only [f286,lf,z,seval]
 simp only [n1,n2,z,seval]
 (refine CU h1 (h:=?_);simp only [z,seval])
 (refine CH (h2) (h:=?_);simp only [z,seval])
 simp only [hi,getMap Run.v l hi,if_true,e,z,seval]
 (refine Qf ?_;simp only [z,seval])
end Ch
