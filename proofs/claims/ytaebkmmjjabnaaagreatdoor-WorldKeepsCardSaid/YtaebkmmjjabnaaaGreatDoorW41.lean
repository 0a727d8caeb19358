import Derived.Test.YtaebkmmjjabnaaaGreatDoorW30
import Derived.Test.YtaebkmmjjabnaaaGreatDoorW31
import Derived.Test.YtaebkmmjjabnaaaGreatDoorW32
set_option maxRecDepth 100000
set_option maxHeartbeats 4000000
set_option linter.unusedSimpArgs false
set_option linter.unusedVariables false
namespace Ch
open Go Go.Ab Go.Proofs.Tryz
theorem seal_errT {w:World} {key label:Int} {p:Part} (hl:label? label=true) (hp:p=partRd label (partWs label p)):errT (sealW w key label p).2.2:=by
 have h1:partPut label p=(partWs label p,0):=by
  have:eqPart p (partRd label (partWs label p))=true:=by
   rw [← hp];obtain ⟨a,b,c,d,e,f,g⟩:=p;simp [eqPart]
  rw [partPut,hl,this];rfl
 unfold sealW
 rw [h1]
 simp only [beq_self_eq_true,cond_true]
 have h2:decide (((partWs label p).length:Int) > 64)=false:=by have:=partWs_len label p;exact decide_eq_false (by omega)
 unfold boxSeal
 rw [h2]
 simp only [cond_false]
 cases (boxFind w.box (drawW w).2).isSome
 ·cases decide (w.box.room - w.box.rows.length < 1)
  ·exact .inl rfl
  ·exact .inr (.inr (.inr (.inr (.inr (.inr rfl)))))
 ·exact .inr (.inr (.inr (.inr (.inl rfl))))
theorem send_errT {w:World} {to:Int} {m:Msg} (hm:msgMay m=true):errT (sendW w to m).2:=by
 unfold sendW msgPut netSend
 rw [hm]
 simp only [cond_true,beq_self_eq_true]
 cases decide (w.net.room - (w.net.grams.length:Int) < 1)
 ·exact .inl rfl
 ·exact .inr (.inr (.inr (.inr (.inr (.inr rfl)))))
theorem used_errT (l:List Int) (room x:Int):errT (usedMay l room x):=by
 unfold usedMay
 cases decide (x∈l)
 ·cases decide ((l.length:Int)≥room)
  ·exact .inl rfl
  ·exact .inr (.inr (.inr (.inr (.inr (.inr rfl)))))
 ·exact .inr (.inr (.inr (.inr (.inl rfl))))
theorem e9:errT 9:=.inr (.inr (.inr (.inr (.inr (.inl rfl)))))
theorem e10:errT 10:=.inr (.inr (.inr (.inr (.inr (.inr rfl)))))
theorem takeM_errT {w:World} {to:Int} {m:Msg} (hm:msgMay m=true) (hs:(m.kind==1 || m.kind==7)=(to==0)):errT (takeM w to m).2:=by
 have hk:=kind9 (may_kd hm)
 unfold takeM
 cases c0:(to==0)
 ·rw [c0] at hs
  simp only [cond_false]
  cases c2:(m.kind==2)
  ·cases c3:(m.kind==3)
   ·cases c4:(m.kind==4)
    ·cases c5:(m.kind==5)
     ·cases c6:(m.kind==6)
      ·cases c8:(m.kind==8)
       ·cases c9:(m.kind==9)
        ·exfalso
         simp only [Bool.or_eq_false_iff,beq_eq_false_iff_ne] at hs c2 c3 c4 c5 c6 c8 c9
         omega
        ·unfold shareO
         simp only [cond_true,cond_false]
         cases oI w to m with
         | none=>exact e9
         | some i=>simp only;cases ((oO w to m).2 && (oO w to m).1.n==(runAt (personW w to).runs i).mine);exact e6;exact e0
       ·unfold shareB
        simp only [cond_true,cond_false]
        cases bI w to m with
        | none=>exact e9
        | some i =>
          simp only
          cases ((bO w to m).2 && (bO w to m).1.n==(runAt (personW w to).runs i).mine)
          ·exact e6
          ·cases roomW w 0 1;exact e10;exact e0
      ·unfold firstB
       simp only [cond_true,cond_false]
       cases (m.b==to && pairM w.people m.a to)
       ·exact e5
       cases (usedMay (personW w to).used w.conf.used m.run==0)
       ·exact used_errT _ _ _
       cases (!full w (personW w to) && roomW w 1 1)
       ·exact e10
       cases ((bS w to m).2.2==0)
       ·exact seal_errT rfl rfl
       ·exact e0
     ·unfold backB
      simp only [cond_true,cond_false]
      cases kI w to m with
      | none=>exact e6
      | some i=>simp only;cases freshM (personW w to).clock (runAt (personW w to).runs i).t w.conf.window;exact e7;exact e0
    ·unfold echoN
     simp only [cond_true,cond_false]
     cases eI w to m with
     | none=>exact e6
     | some i =>
       simp only
       cases freshM (personW w to).clock (runAt (personW w to).runs i).t w.conf.window
       ·exact e7
       cases roomW w 1 1
       ·exact e10
       simp only [cond_true]
       cases ((eS w to (eN w to m i) i).2.2==0)
       ·exact seal_errT rfl rfl
       ·exact e0
   ·unfold ticketB
    simp only [cond_true,cond_false]
    cases (tG w to m).2
    ·exact e6
    cases pairM w.people (tG w to m).1.a to
    ·exact e5
    cases freshM (personW w to).clock (tG w to m).1.t w.conf.window
    ·exact e7
    cases (usedMay (personW w to).used w.conf.used (tG w to m).1.k==0)
    ·exact used_errT _ _ _
    cases (!full w (personW w to) && roomW w 1 1)
    ·exact e10
    cases ((tS w (tG w to m).1).2.2==0)
    ·exact seal_errT rfl rfl
    ·exact e0
  ·unfold grantN
   simp only [cond_true]
   cases (aG w to m).2
   ·exact e6
   simp only [cond_true]
   cases aI w to m with
   | none=>exact e9
   | some i =>
     simp only
     cases freshM (personW w to).clock (aG w to m).1.t w.conf.window
     ·exact e7
     cases roomW w 0 1;exact e10;exact e0
 ·rw [c0] at hs
  simp only [cond_true]
  cases c1:(m.kind==1)
  ·cases c7:(m.kind==7)
   ·rw [c1,c7] at hs;cases hs
   ·unfold shareM
    simp only [cond_true,cond_false]
    cases pairM w.people m.a m.b
    ·exact e5
    cases ((sA w m).2 && (sB w m).2)
    ·exact e6
    cases (usedMay (personW w 0).used w.conf.used m.run==0)
    ·exact used_errT _ _ _
    cases roomW w 2 1
    ·exact e10
    cases ((s1 w m).2.2==0)
    ·exact seal_errT rfl rfl
    cases ((s2 w m).2.2==0)
    ·exact seal_errT rfl rfl
    cases ((sZ w m).2==0)
    ·exact send_errT (by simp [msgMay,tags,hasM,msgWord])
    ·exact e0
  ·unfold grantM
   simp only [cond_true]
   cases pairM w.people m.a m.b
   ·exact e5
   cases decide ((personW w 0).clock≥1073741824)
   ·cases (usedMay (personW w 0).used w.conf.used m.nonce==0)
    ·exact used_errT _ _ _
    cases roomW w 2 1
    ·exact e10
    cases ((gTk w m).2.2==0)
    ·exact seal_errT rfl rfl
    cases ((gGr w m).2.2==0)
    ·exact seal_errT rfl rfl
    cases ((gZ w m).2==0)
    ·exact send_errT (by simp [msgMay,tags,hasM,msgWord])
    ·exact e0
   ·exact e7
theorem takeM_wrong {w:World} {to:Int} {m:Msg} (hm:msgMay m=true) (hs:(m.kind==1 || m.kind==7)≠(to==0)):takeM w to m=(w,4):=by
 have hk:=kind9 (may_kd hm)
 obtain ⟨k,run,a,b,nonce,box,more⟩:=m
 simp only at hk hs
 unfold takeM
 cases c0:(to==0)
 ·rw [c0] at hs
  rcases hk with rfl|rfl|rfl|rfl|rfl|rfl|rfl|rfl|rfl
  all_goals first|rfl|exact absurd rfl hs
 ·rw [c0] at hs
  rcases hk with rfl|rfl|rfl|rfl|rfl|rfl|rfl|rfl|rfl
  all_goals first|rfl|exact absurd rfl hs
theorem advM_err {w:World} {o:Op} (h:(advM w o).2≠0):(advM w o).1=w:=by
 unfold advM at h ⊢
 cases c:(isAdv o && (regM w o.a).isSome)
 ·rfl
 rw [c] at h
 simp only [cond_true] at h ⊢
 cases c0:(o.kind==0)
 rotate_left 1
 ·rw [c0] at h
  unfold lit0 at h ⊢
  cases d:decide ((o.words.length:Int) > 64)
  ·rw [d] at h;exact absurd rfl h
  ·rfl
 rw [c0] at h
 simp only [cond_false] at h ⊢
 cases c1:(o.kind==1)
 rotate_left 1
 ·rw [c1] at h
  unfold seen1 at h ⊢
  cases d:(decide (o.b < 0) || decide (o.b≥(w.net.seen.length:Int)))
  ·rw [d] at h
   simp only [cond_true,cond_false] at h ⊢
   cases hu:cutM ((w.net.seen[o.b.toNat]?).getD []) o.c o.d with
   | none=>rfl
   | some l=>rw [hu] at h;exact absurd rfl h
  ·rfl
 rw [c1] at h
 simp only [cond_false] at h ⊢
 cases c2:(o.kind==2)
 rotate_left 1
 ·rw [c2] at h
  unfold cut2 at h ⊢
  simp only [cond_true] at h ⊢
  cases hr:regM w o.b with
  | none=>rfl
  | some s =>
    rw [hr] at h
    simp only at h ⊢
    cases hu:cutM s o.c o.d with
    | none=>rfl
    | some l=>rw [hu] at h;exact absurd rfl h
 rw [c2] at h
 simp only [cond_false] at h ⊢
 cases c3:(o.kind==3)
 rotate_left 1
 ·rw [c3] at h
  unfold cat3 at h ⊢
  simp only [cond_true] at h ⊢
  cases hr:regM w o.b with
  | none=>rfl
  | some x =>
    cases hs:regM w o.c with
    | none=>rfl
    | some y =>
      rw [hr,hs] at h
      simp only at h ⊢
      cases d:decide ((x.length:Int) + (y.length:Int) > 64)
      ·rw [d] at h;exact absurd rfl h
      ·rfl
 rw [c3] at h
 simp only [cond_false] at h ⊢
 cases c4:(o.kind==4)
 rotate_left 1
 ·rw [c4] at h
  unfold seal4 at h ⊢
  simp only [cond_true] at h ⊢
  cases hx:firstM w o.b with
  | none=>rfl
  | some x =>
    cases hy:firstM w o.c with
    | none=>rfl
    | some y =>
      cases hz:regM w o.d with
      | none=>rfl
      | some z =>
        rw [hx,hy,hz] at h
        simp only at h ⊢
        cases hs:((boxSeal w.box (drawW w).2 x y z).2==0)
        ·rfl
        ·rw [hs] at h;exact absurd rfl h
 rw [c4] at h
 simp only [cond_false] at h ⊢
 cases c5:(o.kind==5)
 rotate_left 1
 ·rw [c5] at h
  unfold open5 at h ⊢
  simp only [cond_true] at h ⊢
  cases hx:firstM w o.b with
  | none=>rfl
  | some x =>
    cases hy:firstM w o.c with
    | none=>rfl
    | some y =>
      cases hz:firstM w o.d with
      | none=>rfl
      | some z =>
        rw [hx,hy,hz] at h
        simp only at h ⊢
        cases hs:boxOpen w.box x y z with
        | none=>rfl
        | some p=>rw [hs] at h;exact absurd rfl h
 rw [c5] at h
 simp only [cond_false] at h ⊢
 cases c6:(o.kind==6)
 rotate_left 1
 ·rw [c6] at h
  unfold corrupt6 at h ⊢
  cases d:(decide (o.b < 1) || decide (o.b≥(w.people.length:Int)))
  ·rw [d] at h;exact absurd rfl h
  ·rfl
 ·rw [c6] at h
  simp only [cond_false] at h ⊢
  unfold leak7 at h ⊢
  cases d:(decide (o.b < 0) || decide (o.b≥(w.log.length:Int)))
  ·rw [d] at h
   simp only [cond_false] at h ⊢
   cases hg:w.log[o.b.toNat]? with
   | none=>rfl
   | some e =>
     rw [hg] at h
     simp only at h ⊢
     cases d2:(e.kind==2)
     ·rfl
     ·rw [d2] at h;exact absurd rfl h
  ·rfl
theorem stepM_err {w:World} {o:Op} (h:(stepM w o).2≠0):(stepM w o).1=w∨(o.kind=11∧inNet w o.a=true∧(stepM w o).1=gone w o.a):=by
 unfold stepM at h ⊢
 cases c0:isAdv o
 rotate_left 1
 ·rw [c0] at h;exact .inl (advM_err h)
 rw [c0] at h
 simp only [cond_false] at h ⊢
 cases c8:(o.kind==8)
 rotate_left 1
 ·rw [c8] at h
  unfold tick8 at h ⊢
  cases d:(decide (o.a < 0) || decide (o.a≥(w.people.length:Int)))
  ·rw [d] at h
   simp only [cond_true,cond_false] at h ⊢
   cases d2:decide (o.b < 0)
   ·rw [d2] at h;exact absurd rfl h
   ·exact .inl rfl
  ·exact .inl rfl
 rw [c8] at h
 simp only [cond_false] at h ⊢
 cases c9:(o.kind==9 || o.kind==10)
 rotate_left 1
 ·rw [c9] at h
  unfold begin9 at h ⊢
  cases d:(nameB o.a && nameB o.b)
  ·exact .inl rfl
  ·rw [d] at h
   simp only [cond_true] at h ⊢
   cases d2:(o.kind==9)
   ·rw [d2] at h;exact .inl (startO_err h)
   ·rw [d2] at h;exact .inl (startN_err h)
 rw [c9] at h
 simp only [cond_false] at h ⊢
 cases c11:(o.kind==11)
 rotate_left 1
 ·rw [c11] at h
  unfold deliver11 at h ⊢
  cases d:inNet w o.a
  ·exact .inl rfl
  ·rw [d] at h
   exact .inr ⟨by simpa using c11,rfl,deliverM_err h⟩
 rw [c11] at h
 simp only [cond_false] at h ⊢
 cases c12:(o.kind==12)
 rotate_left 1
 ·rw [c12] at h
  unfold drop12 at h ⊢
  cases d:inNet w o.a
  ·exact .inl rfl
  ·rw [d] at h;exact absurd rfl h
 rw [c12] at h
 simp only [cond_false] at h ⊢
 cases c13:(o.kind==13)
 rotate_left 1
 ·rw [c13] at h
  unfold double13 at h ⊢
  cases d:inNet w o.a
  ·exact .inl rfl
  ·rw [d] at h
   simp only [cond_true] at h ⊢
   cases d2:decide (w.net.room - (w.net.grams.length:Int) < 1)
   ·rw [d2] at h;exact absurd rfl h
   ·exact .inl rfl
 rw [c13] at h
 simp only [cond_false] at h ⊢
 cases c14:(o.kind==14)
 ·exact .inl rfl
 ·rw [c14] at h
  unfold inject14 at h ⊢
  simp only [cond_true] at h ⊢
  cases hr:regM w o.a with
  | none=>exact .inl rfl
  | some l =>
    rw [hr] at h
    simp only at h ⊢
    cases d:nameB o.b
    ·exact .inl rfl
    ·rw [d] at h;exact .inl (deliverM_err h)
theorem fieldsM_e:∀ (k:Nat) (l:List Int),(fieldsM k l).2=0∨(fieldsM k l).2=2∨(fieldsM k l).2=3:=by
 intro k
 induction k with
 | zero =>
   intro l
   unfold fieldsM
   cases l.isEmpty
   ·exact .inr (.inr rfl)
   ·exact .inl rfl
 | succ k ih =>
   intro l
   unfold fieldsM
   cases l.isEmpty
   ·simp only [cond_false]
    cases fieldBad l
    ·simp only [cond_false]
     cases h:((fieldsM k (l.drop (2 + (l.getD 1 0).toNat))).2==0)
     ·exact ih _
     ·exact .inl rfl
    ·exact .inr (.inl rfl)
   ·exact .inl rfl
theorem msgGet_e (l:List Int):(msgGet l).2=0∨(msgGet l).2=2∨(msgGet l).2=3∨(msgGet l).2=4:=by
 have hg:(getF l).2=0∨(getF l).2=2∨(getF l).2=3:=by
  unfold getF
  cases decide ((l.length:Int) > 64)
  ·exact fieldsM_e 8 l
  ·exact .inr (.inr rfl)
 unfold msgGet
 cases ((getF l).2==0)
 ·rcases hg with h|h|h
  ·exact .inl h
  ·exact .inr (.inl h)
  ·exact .inr (.inr (.inl h))
 ·simp only [cond_true]
  cases headOk (getF l).1
  ·exact .inr (.inr (.inr rfl))
  ·simp only [cond_true]
   cases msgSeq (kindM (headK (getF l).1)) tags (getF l).1.tail
   ·exact .inr (.inl rfl)
   ·exact .inl rfl
theorem deliverM_e {w:World} {to:Int} {l:List Int} (hu:∀ x∈l,U x) (h:(deliverM w to l).2≠0):0 < (deliverM w to l).2∧(deliverM w to l).2≤10:=by
 unfold deliverM at h ⊢
 cases c1:decide (to.toNat < w.people.length)
 ·show (0:Int) < 5∧(5:Int)≤10;decide
 simp only [c1,cond_true] at h ⊢
 cases c2:((msgGet l).2==0)
 ·simp only [c2,cond_false] at h ⊢
  rcases msgGet_e l with e|e|e|e
  ·exact absurd e h
  ·rw [e];decide
  ·rw [e];decide
  ·rw [e];decide
 ·simp only [c2,cond_true] at h ⊢
  have hm:=(msgGet_ok hu (Prod.ext rfl (by simpa using c2):msgGet l=((msgGet l).1,0))).1
  by_cases hs:((msgGet l).1.kind==1 || (msgGet l).1.kind==7)=(to==0)
  ·rcases takeM_errT hm hs with e|e|e|e|e|e|e
   ·exact absurd e h
   all_goals (rw [e];decide)
  ·rw [takeM_wrong hm hs];show (0:Int) < 4∧(4:Int)≤10;decide
theorem cutOk {α:Type} (f:α→V) (l r:List α) (sz:Nat) (hf:∀ a,lenE' sz (f a)=true):(slcB (l++r).length none (some l.length) none && ((l++r).map f).all (lenE' sz))=true:=by
 simp [slcB,hf]
theorem i5:inE 5:=⟨by decide,by decide⟩
theorem i8:inE 8:=⟨by decide,by decide⟩
theorem i10:inE 10:=⟨by decide,by decide⟩
theorem boxSeal_inE (b:Box) (h k l:Int) (p:List Int):inE (boxSeal b h k l p).2:=by
 unfold boxSeal
 cases decide ((p.length:Int) > 64)
 ·cases (boxFind b h).isSome
  ·cases decide (b.room - (b.rows.length:Int) < 1)
   ·first|exact i0|exact i1|exact i3|exact i5|exact i8|exact i10
   ·first|exact i0|exact i1|exact i3|exact i5|exact i8|exact i10
  ·first|exact i0|exact i1|exact i3|exact i5|exact i8|exact i10
 ·first|exact i0|exact i1|exact i3|exact i5|exact i8|exact i10
theorem partPut_inE (l:Int) (p:Part):inE (partPut l p).2:=by
 unfold partPut
 cases (label? l && eqPart p (partRd l (partWs l p)))<;>(first|exact i0|exact i1|exact i3|exact i5|exact i8|exact i10)
theorem sealW_inE (w:World) (k l:Int) (p:Part):inE (sealW w k l p).2.2:=by
 unfold sealW
 cases ((partPut l p).2==0)
 ·exact partPut_inE l p
 ·cases ((boxSeal w.box (drawW w).2 k l (partPut l p).1).2==0)
  ·exact boxSeal_inE _ _ _ _ _
  ·first|exact i0|exact i1|exact i3|exact i5|exact i8|exact i10
theorem startN_inE (w:World) (a b:Int):inE (startN w a b).2:=by
 unfold startN
 cases pairM w.people a b
 ·first|exact i0|exact i1|exact i3|exact i5|exact i8|exact i10
 ·cases (!full w (personW w a) && roomW w 0 1)<;>(first|exact i0|exact i1|exact i3|exact i5|exact i8|exact i10)
theorem startO_inE (w:World) (a b:Int):inE (startO w a b).2:=by
 unfold startO
 cases pairM w.people a b
 ·first|exact i0|exact i1|exact i3|exact i5|exact i8|exact i10
 ·cases (!full w (personW w a) && roomW w 1 1)
  ·first|exact i0|exact i1|exact i3|exact i5|exact i8|exact i10
  ·cases ((oS w a b).2.2==0)
   ·exact sealW_inE _ _ _ _
   ·first|exact i0|exact i1|exact i3|exact i5|exact i8|exact i10
theorem advM_inE (w:World) (o:Op):inE (advM w o).2:=by
 have z0:inE 0:=⟨by decide,by decide⟩
 have z1:inE 1:=⟨by decide,by decide⟩
 have z3:inE 3:=⟨by decide,by decide⟩
 have z5:inE 5:=⟨by decide,by decide⟩
 have z6:inE 6:=⟨by decide,by decide⟩
 unfold advM
 cases (isAdv o && (regM w o.a).isSome)
 ·exact z1
 simp only [cond_true]
 cases (o.kind==0)
 rotate_left 1
 ·unfold lit0;cases decide ((o.words.length:Int) > 64)<;>assumption
 simp only [cond_false]
 cases (o.kind==1)
 rotate_left 1
 ·unfold seen1
  cases (decide (o.b < 0) || decide (o.b≥(w.net.seen.length:Int)))
  ·simp only [cond_true,cond_false]
   cases cutM ((w.net.seen[o.b.toNat]?).getD []) o.c o.d<;>assumption
  ·exact z1
 simp only [cond_false]
 cases (o.kind==2)
 rotate_left 1
 ·unfold cut2
  simp only [cond_true]
  cases regM w o.b with
  | none=>exact z1
  | some s=>simp only;cases cutM s o.c o.d<;>assumption
 simp only [cond_false]
 cases (o.kind==3)
 rotate_left 1
 ·unfold cat3
  simp only [cond_true]
  cases regM w o.b with
  | none=>exact z1
  | some x =>
    cases regM w o.c with
    | none=>exact z1
    | some y=>simp only;cases decide ((x.length:Int) + (y.length:Int) > 64)<;>assumption
 simp only [cond_false]
 cases (o.kind==4)
 rotate_left 1
 ·unfold seal4
  simp only [cond_true]
  cases firstM w o.b with
  | none=>exact z1
  | some x =>
    cases firstM w o.c with
    | none=>exact z1
    | some y =>
      cases regM w o.d with
      | none=>exact z1
      | some z =>
        simp only
        cases ((boxSeal w.box (drawW w).2 x y z).2==0)
        ·exact boxSeal_inE _ _ _ _ _
        ·exact z0
 simp only [cond_false]
 cases (o.kind==5)
 rotate_left 1
 ·unfold open5
  simp only [cond_true]
  cases firstM w o.b with
  | none=>exact z1
  | some x =>
    cases firstM w o.c with
    | none=>exact z1
    | some y =>
      cases firstM w o.d with
      | none=>exact z1
      | some z=>simp only;cases boxOpen w.box x y z<;>assumption
 simp only [cond_false]
 cases (o.kind==6)
 rotate_left 1
 ·unfold corrupt6;cases (decide (o.b < 1) || decide (o.b≥(w.people.length:Int)))<;>assumption
 ·simp only [cond_false]
  unfold leak7
  cases (decide (o.b < 0) || decide (o.b≥(w.log.length:Int)))
  ·simp only [cond_false]
   cases w.log[o.b.toNat]? with
   | none=>exact z1
   | some e=>simp only;cases (e.kind==2)<;>assumption
  ·exact z1
theorem deliverM_inE {w:World} {to:Int} {l:List Int} (hu:∀ x∈l,U x):inE (deliverM w to l).2:=by
 by_cases h:(deliverM w to l).2=0
 ·rw [h];exact i0
 ·have:=deliverM_e hu h
  exact ⟨by omega,this.2⟩
theorem stepM_inE {w:World} {N:Nat} (hw:w.fit N) (o:Op):inE (stepM w o).2:=by
 have z0:inE 0:=⟨by decide,by decide⟩
 have z1:inE 1:=⟨by decide,by decide⟩
 have z5:inE 5:=⟨by decide,by decide⟩
 have z10:inE 10:=⟨by decide,by decide⟩
 unfold stepM
 cases isAdv o
 rotate_left 1
 ·exact advM_inE w o
 simp only [cond_false]
 cases (o.kind==8)
 rotate_left 1
 ·unfold tick8
  cases (decide (o.a < 0) || decide (o.a≥(w.people.length:Int)))
  ·simp only [cond_true,cond_false];cases decide (o.b < 0)<;>assumption
  ·exact z5
 simp only [cond_false]
 cases (o.kind==9 || o.kind==10)
 rotate_left 1
 ·unfold begin9
  cases hb:(nameB o.a && nameB o.b)
  ·exact z5
  ·simp only [cond_true]
   cases (o.kind==9)
   ·exact startO_inE _ _ _
   ·exact startN_inE _ _ _
 simp only [cond_false]
 cases (o.kind==11)
 rotate_left 1
 ·unfold deliver11
  cases inNet w o.a
  ·exact z1
  ·exact deliverM_inE (gramAt_ok hw o.a).1.2.2
 simp only [cond_false]
 cases (o.kind==12)
 rotate_left 1
 ·unfold drop12;cases inNet w o.a<;>assumption
 simp only [cond_false]
 cases (o.kind==13)
 rotate_left 1
 ·unfold double13
  cases inNet w o.a
  ·exact z1
  ·simp only [cond_true];cases decide (w.net.room - (w.net.grams.length:Int) < 1)<;>assumption
 simp only [cond_false]
 cases (o.kind==14)
 ·exact z1
 ·unfold inject14
  simp only [cond_true]
  cases hr:regM w o.a with
  | none=>exact z1
  | some l =>
    simp only
    cases nameB o.b
    ·exact z5
    ·exact deliverM_inE (regM_ok hw hr).1.2
theorem gone_len {w:World} {i:Int} (h:inNet w i=true):(gone w i).net.grams.length + 1=w.net.grams.length:=by
 unfold inNet at h
 rw [Bool.and_eq_true,decide_eq_true_eq,decide_eq_true_eq] at h
 show (w.net.grams.eraseIdx i.toNat).length + 1=_
 rw [List.length_eraseIdx_of_lt (by omega)]
 omega
theorem err_cases {w:World} {o:Op} (h:(stepM w o).2≠0):({ (stepM w o).1 with net:=⟨(stepM w o).1.net.room,w.net.grams,(stepM w o).1.net.seen⟩ }:World)=w ∧
 ((stepM w o).1.net.grams.length=w.net.grams.length∨(o.kind=11∧(stepM w o).1.net.grams.length + 1=w.net.grams.length)):=by
 rcases stepM_err h with e|⟨k,hin,e⟩
 ·rw [e];exact ⟨rfl,.inl rfl⟩
 ·rw [e];exact ⟨rfl,.inr ⟨k,gone_len hin⟩⟩
theorem WorldKeeps_law (c:Conf) (hc:c.ok) (ls:List Int) (hl:LL U ls) (l:List Op) (ho:LL Op.ok l):Spec PP GG 6 [c.v,wordsV ls,opsV l] (.bool true) []:=by
 have hA:=L22.awake_spec
 have hF:=fits22_spec c ls l ho.1
 cases hf:fits22 c ls l with
 | false =>
   rw [hf] at hF
   refine Qs func6 ?_
   intro w0 M0
   simp only [f6,lf,z,seval]
   (refine CU hA (h:=?_);simp only [z,seval])
   (refine CU hF (h:=?_);simp only [z,seval])
   (refine CU hA (h:=?_);simp only [z,seval])
   (refine Qf ?_;simp only [z,seval])
 | true =>
   rw [hf] at hF
   simp only [fits22,Bool.and_eq_true,decide_eq_true_eq] at hf
   obtain ⟨hm,h1000,h22⟩:=hf
   have h200:=few22_len h22
   obtain ⟨n,m,hn,hr,n1,n6,m1,m8,hfit,hform⟩:=fresh22 hm hc hl (by omega)
   have hD:=pMay12_spec c
   rw [hm] at hD
   have hN:=wNew_spec c ls hl.2 n m hD n1 n6 hn hr m8
   have H:=runs22 hfit hform n6 ho h200
   clear hfit hform
   generalize newWorld c ls n m=W0 at *
   refine Qs func6 ?_
   intro w0 M0
   simp only [f6,lf,z,seval]
   (refine CU hA (h:=?_);simp only [z,seval])
   (refine CU hF (h:=?_);simp only [z,seval])
   (refine CU hN (h:=?_);simp only [z,seval])
   refine RUNs_rangeS (l.length) (fun i (s:World)=>s=(runM W0 (l.take i)).1) (fun i _=>[(9,i64 i)]) (fun _ s=>[(1,.var s.cells)]) W0 ?_ (by simp only [z,seval];exact wk) rfl ?_
   ·rfl
   rintro ⟨i,s,hi,hs⟩
   simp only [z,seval]
   first|refine brk (fun h=>?_) (fun h=>?_)|fail
   rotate_left 1
   ·simp only [h,z,seval]
    (refine Qf ?_;simp only [z,seval])
   have hlt:i < l.length:=by have:=of_decide_eq_true h;omega
   obtain ⟨M,a1,a2,a3,a4,a5⟩:=H.at i
   have hnx:=congrArg Prod.fst (run_at W0 hlt)
   rw [← hs] at a3 a4 a5 hnx
   have hb:=H.next
   have htl:(l.take i).length=i:=by rw [List.length_take];omega
   have hnext:s.draws.next + 3≤1048576:=by rw [htl] at a5;omega
   have hS:=Step_spec s a3 a1 a2 a4.right a4.box (rooms_ok a4).1 (rooms_ok a4).2 l[i]
   have hK:=stepM_kept a3 a4 l[i]
   have hE:=stepM_inE a3 l[i]
   have hX := @err_cases s l[i]
   have hvf:=stepM_fit a3 a1 a2 (H.ok _ (List.getElem_mem hlt))
   have hFo:=Form12_spec (stepM s l[i]).1 (Lim_of_ok hvf.ok)
   rw [form_iff.2 (stepM_form a3 a4 hnext l[i])] at hFo
   have hSm:=Same12 s (a3.toLim (by omega))
   have hRw:=Rows01 s.net.seen (by have:=a3.seen;omega) (fun x hx=>by have:=a3.seens x hx;omega)
   have hEv:=Events_same s.log (by have:=a3.log;omega)
   have hpl:=a3.people
   have hgl:=a3.grams
   have g:=getMap Op.v l hlt
   have wi:=w64s (i:=i) (by omega)
   clear a3 a4 a5 H hvf
   generalize stepM s l[i]=R at hS hK hE hX hFo hnx
   obtain ⟨v,e⟩:=R
   simp only at hS hK hE hX hFo hnx
   have k1:=hK.conf
   have k2:=hK.plen
   obtain ⟨x1,k3⟩:=hK.seen
   obtain ⟨x2,k4⟩:=hK.log
   obtain ⟨x3,k5⟩:=hK.leaks
   have k6:=hK.ppl
   have d3:decide (((s.net.seen++x1).length:Int) < (s.net.seen.length:Int))=false:=decide_eq_false (by rw [List.length_append];omega)
   have d4:decide (((s.log++x2).length:Int) < (s.log.length:Int))=false:=decide_eq_false (by rw [List.length_append];omega)
   have d5:decide (((s.leaks++x3).length:Int) < (s.leaks.length:Int))=false:=decide_eq_false (by rw [List.length_append];omega)
   have d6:decide (e < 0)=false:=decide_eq_false (by have:=hE.1;omega)
   have d7:decide (e > 10)=false:=decide_eq_false (by have:=hE.2;omega)
   clear hK
   simp only [mv] at g
   simp only [h,z,seval]
   (refine Qw 1 ?_;simp only [z,seval])
   simp only [g,z,seval]
   (refine DU hS (h:=?_);simp only [z,seval])
   (refine ⟨by kernel_rfl,?_⟩)
   try simp only [z,seval]
   (refine CU hFo (h:=?_);simp only [z,seval])
   simp only [k1,k2,k3,k4,k5,d3,d4,d5,d6,d7,beq_self_eq_true,Bool.not_true,Bool.and_self,z,seval]
   refine RUNs_rangeS (s.people.length) (fun _ (_:Unit)=>True) (fun k _=>[(12,i64 k)]) (fun _ _=>[]) () ?_ (by simp only [z,seval];exact wk) rfl ?_
   ·trivial
   rintro ⟨k,_,hk,-⟩
   simp only [z,seval]
   first|refine brk (fun h=>?_) (fun h=>?_)|fail
   ·have hkl:k < s.people.length:=by have:=of_decide_eq_true h;omega
    have hkv:k < v.people.length:=by omega
    have gx:=getMap Person.v s.people hkl
    have gy:=getMap Person.v v.people hkv
    have hp:=k6 k
    rw [get_in9 hkl,get_in9 hkv] at hp
    generalize s.people[k]=x at gx hp
    generalize v.people[k]=y at gy hp
    obtain ⟨p1,p2,p3,p4,⟨u,p5⟩,p6⟩:=hp
    have q1:decide (y.clock < x.clock)=false:=decide_eq_false (by omega)
    have q5:decide (((x.used++u).length:Int) < (x.used.length:Int))=false:=decide_eq_false (by rw [List.length_append];omega)
    have q6:decide ((y.runs.length:Int) < (x.runs.length:Int))=false:=decide_eq_false (by omega)
    have wk2:=w64s (i:=k) (by omega)
    simp only [mv] at gx gy
    cases hx:x.corrupt with
    | false =>
      simp only [h,gx,gy,q1,p2,p3,p5,q5,q6,hx,beq_self_eq_true,Bool.not_true,Bool.not_false,wk2,z,seval]
      (refine NX () ?_ (by rfl) hkl ?_;simp only [z,seval];exact wk)
      trivial
    | true =>
      have hy:=p4 hx
      simp only [h,gx,gy,q1,p2,p3,p5,q5,q6,hx,hy,beq_self_eq_true,Bool.not_true,Bool.not_false,wk2,z,seval]
      (refine NX () ?_ (by rfl) hkl ?_;simp only [z,seval];exact wk)
      trivial
   ·simp only [h,z,seval]
    (refine Qw 0 ?_;simp only [z,seval])
    refine DOC_ok (cutOk wordsV s.net.seen x1 1 (fun a=>rfl)) ?_
    simp only [List.take_left,z,seval]
    (refine DU hRw (h:=?_);simp only [z,seval])
    try simp only [Bool.not_true,z,seval]
    refine DOC_ok (cutOk Event.v s.log x2 10 (fun a=>rfl)) ?_
    simp only [List.take_left,z,seval]
    (refine DU hEv (h:=?_);simp only [z,seval])
    (refine ⟨by kernel_rfl,?_⟩)
    try simp only [Bool.not_true,z,seval]
    cases he:(e==0) with
    | true =>
      simp only [he,Bool.not_true,wi,z,seval]
      (refine NX v ?_ (by rfl) hlt ?_;simp only [k1,k3,k4,k5,z,seval];exact wk)
      exact hnx.symm
    | false =>
      obtain ⟨hu,hg⟩:=hX (by simpa using he)
      have hSm2:Spec PP GG 21 [World.v { v with net:=⟨v.net.room,s.net.grams,v.net.seen⟩ },s.v] (.bool true) []:=by
       rw [hu];exact hSm
      simp only [k1,k3,k4,k5,mv] at hSm2
      simp only [he,Bool.not_false,z,seval]
      rcases hg with hg|⟨hg1,hg2⟩
      ·have w0':IntKind.i64.wrap ((s.net.grams.length:Int) - (v.net.grams.length:Int))=0:=by rw [hg,w64 (by omega) (by omega)];omega
       simp only [w0',z,seval]
       (refine CU hSm2 (h:=?_);simp only [z,seval])
       simp only [g,wi,z,seval]
       (refine NX v ?_ (by rfl) hlt ?_;simp only [k1,k3,k4,k5,z,seval];exact wk)
       exact hnx.symm
      ·have w0':IntKind.i64.wrap ((s.net.grams.length:Int) - (v.net.grams.length:Int))=1:=by rw [w64 (by omega) (by omega)];omega
       simp only [w0',z,seval]
       (refine CU hSm2 (h:=?_);simp only [z,seval])
       simp only [g,hg1,wi,z,seval]
       (refine NX v ?_ (by rfl) hlt ?_;simp only [k1,k3,k4,k5,z,seval];exact wk)
       exact hnx.symm
end Ch
