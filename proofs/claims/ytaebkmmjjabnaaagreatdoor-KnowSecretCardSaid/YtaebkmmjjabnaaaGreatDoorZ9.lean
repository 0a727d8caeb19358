import Derived.Test.YtaebkmmjjabnaaaGreatDoorZ8
set_option maxRecDepth 100000
set_option maxHeartbeats 4000000
set_option linter.unusedSimpArgs false
set_option linter.unusedVariables false
namespace Ch
open Go Go.Ab Go.Proofs.Tryz
theorem inv_grantM {L:List Int} {E:Nat} {w:World} (I:Inv L E w) {m:Msg} (hma:U m.a) (hmb:U m.b) (pn:Pub L E w m.nonce) (hf:(grantM w m).1.form) (hE:nx (grantM w m).1≤E):Inv L E (grantM w m).1:=by
 by_cases he:(grantM w m).2=0
 rotate_left 1
 ·rw [grantM_err he];exact I
 have h0:=I.form.next0
 obtain ⟨h1,h2,h3,h4,h5,h6⟩:=grantM_T I.form.right he
 obtain ⟨na,nb,nab⟩:=pair_names hma hmb h1
 have hin:0 < w.people.length:=by have:=na.2;omega
 rw [h6] at hE hf ⊢
 refine inv_step I (by decide) hE hin rfl rfl hf (fun _=>⟨0,by decide,by decide,rfl⟩) (fun h=>?_) (fun g hx=>?_)
 ·rcases h with h|h
  ·exact absurd h.1 n21
  ·exact absurd h.1 n23
 have d:=g.drawn I.d
 have hle:=g.le
 rw [hx] at hle
 have z:=d.small (x:=0) (by decide)
 have o0:=old_dAt I.d h0 (i:=0) (by decide) (by rw [hx];simp) g.le
 have p1:Pub L E _ (dAt w 1):=g.pub_dAt I.d h0 (i:=1) (by decide) (by rw [hx];simp) (fun f hf=>by
  have:=last_ev hf
  subst this
  exact ⟨fun _=>dAt_ne I.d h0 (i:=0) (j:=1) (by decide) (by decide) (by decide) (by simp at hle ⊢;omega) (by simp at hle ⊢;omega),fun h=>by
   rcases h with h|h
   ·exact absurd h.1 n21
   ·exact absurd h.1 n23⟩)
 have p2:Pub L E _ (dAt w 2):=g.pub_dAt I.d h0 (i:=2) (by decide) (by rw [hx];simp) (fun f hf=>by
  have:=last_ev hf
  subst this
  exact ⟨fun _=>dAt_ne I.d h0 (i:=0) (j:=2) (by decide) (by decide) (by decide) (by simp at hle ⊢;omega) (by simp at hle ⊢;omega),fun h=>by
   rcases h with h|h
   ·exact absurd h.1 n21
   ·exact absurd h.1 n23⟩)
 have pn':=g.pub I.evs pn
 refine ⟨⟨⟨g.name na,g.name nb,nab⟩,Int.le_of_lt h2,o0,pn'.1,z.1⟩,fun s hs=>?_,grams_one (msgWs_pub d (by simp) z z z z p2 z),fun r hr=>g.run (I.runs 0 hin r hr)⟩
 simp only [List.mem_cons,List.not_mem_nil,or_false] at hs
 rcases hs with rfl|rfl
 ·exact .inr (.ticket _ (new_mem _ _ _ _ _ _ _) rfl rfl (by rw [g.keyOf];rfl) rfl rfl)
 ·exact .inr (.grant _ (new_mem _ _ _ _ _ _ _) rfl rfl (dAt w 1) (by rw [g.keyOf];rfl) rfl rfl pn' p1)
theorem told_m {w:World} {m:Msg} {key label h:Int} (ht:(toldM w m key label h).2=true):(openW w key label h).2=true∧(openW w key label h).1.m=m.run∧(openW w key label h).1.a=m.a∧(openW w key label h).1.b=m.b:=by
 simp only [toldM,Bool.and_eq_true,beq_iff_eq] at ht
 exact ht
theorem inv_shareM {L:List Int} {E:Nat} {w:World} (I:Inv L E w) {m:Msg} (hma:U m.a) (hmb:U m.b) (pr:Pub L E w m.run) (hf:(shareM w m).1.form) (hE:nx (shareM w m).1≤E):Inv L E (shareM w m).1:=by
 by_cases he:(shareM w m).2=0
 rotate_left 1
 ·rw [shareM_err he];exact I
 have h0:=I.form.next0
 obtain ⟨h1,h2,h3,h4,h5,h6,h7⟩:=shareM_T I.form.right he
 obtain ⟨na,nb,nab⟩:=pair_names hma hmb h1
 obtain ⟨a1,a2,a3,a4⟩:=told_m (show (toldM w m (personW w m.a).key 6 m.box).2=true from h2)
 obtain ⟨b1,b2,b3,b4⟩:=told_m (show (toldM w m (personW w m.b).key 7 m.more).2=true from h3)
 have hA:=open_or1 I na a1
 have hB:=open_or2 I nb b1
 have hin:0 < w.people.length:=by have:=na.2;omega
 rw [h7] at hE hf ⊢
 refine inv_step I (by decide) hE hin rfl rfl hf (fun _=>⟨0,by decide,by decide,rfl⟩) (fun h=>?_) (fun g hx=>?_)
 ·rcases h with h|h
  ·exact absurd h.1 n21
  ·exact absurd h.1 n23
 have d:=g.drawn I.d
 have hle:=g.le
 rw [hx] at hle
 have z:=d.small (x:=0) (by decide)
 have o0:=old_dAt I.d h0 (i:=0) (by decide) (by rw [hx];simp) g.le
 have p1:Pub L E _ (dAt w 1):=g.pub_dAt I.d h0 (i:=1) (by decide) (by rw [hx];simp) (fun f hf=>by
  have:=last_ev hf
  subst this
  exact ⟨fun _=>dAt_ne I.d h0 (i:=0) (j:=1) (by decide) (by decide) (by decide) (by simp at hle ⊢;omega) (by simp at hle ⊢;omega),fun h=>by
   rcases h with h|h
   ·exact absurd h.1 n21
   ·exact absurd h.1 n23⟩)
 have p2:Pub L E _ (dAt w 2):=g.pub_dAt I.d h0 (i:=2) (by decide) (by rw [hx];simp) (fun f hf=>by
  have:=last_ev hf
  subst this
  exact ⟨fun _=>dAt_ne I.d h0 (i:=0) (j:=2) (by decide) (by decide) (by decide) (by simp at hle ⊢;omega) (by simp at hle ⊢;omega),fun h=>by
   rcases h with h|h
   ·exact absurd h.1 n21
   ·exact absurd h.1 n23⟩)
 have pr':=g.pub I.evs pr
 refine ⟨⟨⟨g.name na,g.name nb,nab⟩,t0,o0,z.1,pr'.1⟩,fun s hs=>?_,grams_one (msgWs_pub d (by simp) pr' z z z p2 p1),fun r hr=>g.run (I.runs 0 hin r hr)⟩
 simp only [List.mem_cons,List.not_mem_nil,or_false] at hs
 rcases hs with rfl|rfl
 ·refine .inr (.sh8 _ (new_mem _ _ _ _ _ _ _) rfl rfl (sB w m).1 (by rw [g.keyOf];rfl) rfl rfl ?_)
  rcases hB with q|⟨f,f1,f2,f3,f4,f5,f6,f7,f8⟩
  ·exact .inr ⟨fun hh=>I.d.key_sec nb q.1.2 (g.hon _ hh),g.pub I.evs q.2⟩
  ·exact .inl ⟨f,g.mem f1,f2,f3,f4,f5,f6.trans b3,f7.trans b4,f8.trans b2⟩
 ·refine .inr (.sh9 _ (new_mem _ _ _ _ _ _ _) rfl rfl (sA w m).1 (by rw [g.keyOf];rfl) rfl rfl ?_)
  rcases hA with q|⟨f,f1,f2,f3,f4,f5,f6,f7,f8⟩
  ·exact .inr ⟨fun hh=>I.d.key_sec na q.1.2 (g.hon _ hh),g.pub I.evs q.2⟩
  ·exact .inl ⟨f,g.mem f1,f2,f3,f4,f5,f6.trans a3,f7.trans a4,f8.trans a2⟩
theorem inv_takeM {L:List Int} {E N:Nat} {w:World} (I:Inv L E w) (hw:w.fit N) {to:Int} (ht:U to) {m:Msg} (hma:U m.a) (hmb:U m.b) (pr:Pub L E w m.run) (pn:Pub L E w m.nonce) (pb:Pub L E w m.box) (hf:(takeM w to m).1.form) (hE:nx (takeM w to m).1≤E):Inv L E (takeM w to m).1:=by
 unfold takeM at hf hE ⊢
 cases c0:(to==0)
 ·have h1:1≤to:=by
   have:=ht.1
   simp only [beq_eq_false_iff_ne] at c0
   omega
  simp only [c0,cond_false] at hf hE ⊢
  cases c2:(m.kind==2)
  rotate_left 1
  ·simp only [c2,cond_true] at hf hE ⊢;exact inv_grantN I hw ht h1 hf hE
  simp only [c2,cond_false] at hf hE ⊢
  cases c3:(m.kind==3)
  rotate_left 1
  ·simp only [c3,cond_true] at hf hE ⊢;exact inv_ticketB I hw ht h1 hf hE
  simp only [c3,cond_false] at hf hE ⊢
  cases c4:(m.kind==4)
  rotate_left 1
  ·simp only [c4,cond_true] at hf hE ⊢;exact inv_echoN I hw ht h1 hf hE
  simp only [c4,cond_false] at hf hE ⊢
  cases c5:(m.kind==5)
  rotate_left 1
  ·simp only [c5,cond_true] at hf hE ⊢;exact inv_backB I hw ht h1 hf hE
  simp only [c5,cond_false] at hf hE ⊢
  cases c6:(m.kind==6)
  rotate_left 1
  ·simp only [c6,cond_true] at hf hE ⊢;exact inv_firstB I hw ht hma pr pb hf hE
  simp only [c6,cond_false] at hf hE ⊢
  cases c8:(m.kind==8)
  rotate_left 1
  ·simp only [c8,cond_true] at hf hE ⊢;exact inv_shareB I hw ht h1 pr pb hf hE
  simp only [c8,cond_false] at hf hE ⊢
  cases c9:(m.kind==9)
  rotate_left 1
  ·simp only [c9,cond_true] at hf hE ⊢;exact inv_shareO I hw ht h1 hf hE
  exact I
 ·simp only [c0,cond_true] at hf hE ⊢
  cases c1:(m.kind==1)
  rotate_left 1
  ·simp only [c1,cond_true] at hf hE ⊢;exact inv_grantM I hma hmb pn hf hE
  simp only [c1,cond_false] at hf hE ⊢
  cases c7:(m.kind==7)
  rotate_left 1
  ·simp only [c7,cond_true] at hf hE ⊢;exact inv_shareM I hma hmb pr hf hE
  exact I
theorem inv_deliverM {L:List Int} {E N:Nat} {w:World} (I:Inv L E w) (hw:w.fit N) {to:Int} (ht:U to) {l:List Int} (hu:∀ x∈l,U x) (hl:∀ x∈l,Pub L E w x) (hf:(deliverM w to l).1.form) (hE:nx (deliverM w to l).1≤E):Inv L E (deliverM w to l).1:=by
 unfold deliverM at hf hE ⊢
 cases c1:decide (to.toNat < w.people.length)
 ·exact I
 simp only [c1,cond_true] at hf hE ⊢
 cases c2:((msgGet l).2==0)
 ·exact I
 simp only [c2,cond_true] at hf hE ⊢
 have hm:=msgGet_U hu (by simpa using c2)
 obtain ⟨q1,q2,q3,q4,q5,q6⟩:=msg_pub I.d hu hl (m:=(msgGet l).1) (Prod.ext rfl (by simpa using c2))
 exact inv_takeM I hw ht hm.2.2.1 hm.2.2.2.1 q1 q2 q3 hf hE
theorem Inv.still {L:List Int} {E:Nat} {w v:World} (I:Inv L E w) (g:Grow L E w v) (hl:v.log=w.log) (hf:v.form) (hb:∀ s∈v.box.rows,s∈w.box.rows∨Row L E v s) (hr:∀ l∈v.regs,l∈w.regs ∨ ∀ x∈l,Pub L E v x) (hs:∀ l∈v.net.seen,l∈w.net.seen) (hg:∀ q∈v.net.grams,q∈w.net.grams) (hp:∀ p,(getP v.people p).runs=(getP w.people p).runs):Inv L E v where
 d:=g.drawn I.d
 form:=hf
 evs:=fun f hm=>g.evok (I.evs f (hl ▸ hm))
 box:=fun s hm=>(hb s hm).elim (fun h=>g.row I.evs (I.box s h)) id
 regs:=fun l hm x hx=>(hr l hm).elim (fun h=>g.pub I.evs (I.regs l h x hx)) (fun h=>h x hx)
 seen:=fun l hm x hx=>g.pub I.evs (I.seen l (hs l hm) x hx)
 grams:=fun q hm x hx=>g.pub I.evs (I.grams q (hg q hm) x hx)
 runs:=fun p hq r hm=>g.run (I.runs p (by have:=g.plen;omega) r (by rw [← hp];exact hm))
theorem Grow.same {L:List Int} {E:Nat} {w v:World} (hE:nx v≤E) (h1:v.draws=w.draws) (h2:v.people=w.people) (h3:v.leaks=w.leaks) (h4:v.log=w.log):Grow L E w v where
 list:=by rw [h1]
 next:=by unfold nx;rw [h1];exact Nat.le_refl _
 le:=hE
 key:=fun p=>by rw [h2]
 plen:=by rw [h2]
 hon:=fun a h=>by
  have h':(getP v.people a.toNat).corrupt=false:=h
  rw [h2] at h';exact h'
 leak:=fun k h=>by unfold unleaked at h ⊢;rw [h3] at h;exact h
 log:=.inl h4
theorem set_pub {L:List Int} {E:Nat} {w v:World} {i:Nat} {l:List Int} (h:∀ x∈l,Pub L E v x):∀ q∈w.regs.set i l,q∈w.regs ∨ ∀ x∈q,Pub L E v x:=fun q hq=>by
 rcases List.mem_or_eq_of_mem_set hq with h1|rfl
 ·exact .inl h1
 ·exact .inr h
theorem inv_reg {L:List Int} {E:Nat} {w:World} (I:Inv L E w) {i:Int} {l:List Int} (hl:∀ x∈l,Pub L E w x) (hf:(setReg w i l).form):Inv L E (setReg w i l):=by
 have g:Grow L E w (setReg w i l):=Grow.same I.d.le rfl rfl rfl rfl
 exact I.still g rfl hf (fun s h=>.inl h) (set_pub fun x hx=>g.pub I.evs (hl x hx)) (fun l h=>h) (fun q h=>h) (fun p=>rfl)
theorem reg_pub {L:List Int} {E:Nat} {w:World} (I:Inv L E w) {i:Int} {l:List Int} (h:regM w i=some l):∀ x∈l,Pub L E w x:=I.regs l (List.mem_of_getElem? (regM_mem h).2.2)
theorem first_pub {L:List Int} {E:Nat} {w:World} (I:Inv L E w) {i x:Int} (h:firstM w i=some x):Pub L E w x:=by
 obtain ⟨l,hl⟩:=firstM_some h
 exact reg_pub I hl x List.mem_cons_self
theorem cut_pub {L:List Int} {E:Nat} {w:World} {l s:List Int} {a b:Int} (hl:∀ x∈l,Pub L E w x) (h:cutM l a b=some s):∀ x∈s,Pub L E w x:=by
 obtain ⟨_,_,_,rfl⟩:=cutM_some h
 exact fun x hx=>hl x (List.mem_of_mem_take (List.mem_of_mem_drop hx))
theorem seal_rows {b:Box} {h k l:Int} {p:List Int} (hz:(boxSeal b h k l p).2=0):(boxSeal b h k l p).1.rows=b.rows++[⟨h,k,l,p⟩]:=by
 unfold boxSeal at hz ⊢
 cases c1:decide ((p.length:Int) > 64)
 ·rw [c1] at hz
  simp only [cond_false] at hz ⊢
  cases c2:(boxFind b h).isSome
  ·rw [c2] at hz
   simp only [cond_false] at hz ⊢
   cases c3:decide (b.room - (b.rows.length:Int) < 1)
   ·rfl
   ·rw [c3] at hz;simp at hz
  ·rw [c2] at hz;simp at hz
 ·rw [c1] at hz;simp at hz
theorem inv_seal4 {L:List Int} {E:Nat} {w:World} (I:Inv L E w) (o:Op) (hf:(seal4 w o).1.form) (hE:nx (seal4 w o).1≤E):Inv L E (seal4 w o).1:=by
 unfold seal4 at hf hE ⊢
 cases hx:firstM w o.b with
 | none=>exact I
 | some x =>
   cases hy:firstM w o.c with
   | none=>exact I
   | some y =>
     cases hz:regM w o.d with
     | none=>exact I
     | some z =>
       rw [hx,hy,hz] at hf hE
       simp only at hf hE ⊢
       cases hs:((boxSeal w.box (drawW w).2 x y z).2==0)
       ·exact I
       simp only [hs,cond_true] at hf hE ⊢
       have h0:=I.form.next0
       have hr:=seal_rows (beq_iff_eq.1 hs)
       have hnx:nx (setReg { (drawW w).1 with box:=(boxSeal w.box (drawW w).2 x y z).1 } o.a [(drawW w).2])=nx w + 1:=by
        show (w.draws.next + 1).toNat=w.draws.next.toNat + 1
        omega
       have g:Grow L E w (setReg { (drawW w).1 with box:=(boxSeal w.box (drawW w).2 x y z).1 } o.a [(drawW w).2]):=⟨rfl,by rw [hnx];omega,hE,fun p=>rfl,rfl,fun a h=>h,fun k h=>h,.inl rfl⟩
       have hd:Pub L E (setReg { (drawW w).1 with box:=(boxSeal w.box (drawW w).2 x y z).1 } o.a [(drawW w).2]) (drawW w).2:=by
        have:=g.pub_draw I.d (j:=nx w) (Nat.le_refl _) (by rw [hnx];omega) (fun e he=>by
         have he':w.log=w.log++[e]:=he
         have:=congrArg List.length he'
         simp at this)
        have e:(drawW w).2=drawAt L (nx w):=by rw [← I.d.list];rfl
        rw [e] at this ⊢
        exact this
       refine I.still g rfl hf (fun s h=>?_) (set_pub fun x hx=>by simp only [List.mem_singleton] at hx;subst hx;exact hd) (fun l h=>h) (fun q h=>h) (fun p=>rfl)
       have h':s∈(boxSeal w.box (drawW w).2 x y z).1.rows:=h
       rw [hr] at h'
       rcases List.mem_append.1 h' with h1|h1
       ·exact .inl h1
       ·simp only [List.mem_singleton] at h1
        subst h1
        exact .inr (.inl ⟨g.pub I.evs (first_pub I hx),fun u hu=>g.pub I.evs (reg_pub I hz u hu)⟩)
theorem inv_open5 {L:List Int} {E:Nat} {w:World} (I:Inv L E w) (o:Op) (hf:(open5 w o).1.form):Inv L E (open5 w o).1:=by
 unfold open5 at hf ⊢
 cases hx:firstM w o.b with
 | none=>exact I
 | some x =>
   cases hy:firstM w o.c with
   | none=>exact I
   | some y =>
     cases hz:firstM w o.d with
     | none=>exact I
     | some z =>
       rw [hx,hy,hz] at hf
       simp only at hf ⊢
       cases hs:boxOpen w.box x y z with
       | none=>exact I
       | some p =>
         rw [hs] at hf
         simp only at hf ⊢
         obtain ⟨s,hm,e1,_,e3,_⟩:=open_plain hs
         refine inv_reg I ?_ hf
         rw [← e1]
         exact row_pub I.d I.evs (I.box s hm) (by rw [e3];exact (first_pub I hx).2)
theorem Grow.set1 {L:List Int} {E:Nat} {w v:World} {n:Nat} {p:Person} (hE:nx w≤E) (hin:n < w.people.length) (h1:v.draws=w.draws) (h2:v.people=w.people.set n p) (h3:v.leaks=w.leaks) (h4:v.log=w.log) (hk:p.key=(getP w.people n).key) (hc:p.corrupt=false→(getP w.people n).corrupt=false):Grow L E w v where
 list:=by rw [h1]
 next:=by unfold nx;rw [h1];exact Nat.le_refl _
 le:=by unfold nx;rw [h1];exact hE
 key:=fun q=>by
  rw [h2,getP_set hin];split
  ·rename_i h;rw [h];exact hk
  ·rfl
 plen:=by rw [h2,List.length_set]
 hon:=fun a h=>by
  have h':(getP v.people a.toNat).corrupt=false:=h
  rw [h2,getP_set hin] at h'
  show (getP w.people a.toNat).corrupt=false
  split at h'
  ·rename_i hq;rw [hq];exact hc h'
  ·exact h'
 leak:=fun k h=>by unfold unleaked at h ⊢;rw [h3] at h;exact h
 log:=.inl h4
theorem runs_set {l:List Person} {n:Nat} {p:Person} (hin:n < l.length) (h:p.runs=(getP l n).runs) (q:Nat):(getP (l.set n p) q).runs=(getP l q).runs:=by
 rw [getP_set hin];split
 ·rename_i e;rw [e];exact h
 ·rfl
theorem with_set {w:World} {p:Person} {n:Nat} (hn:p.name.toNat=n) (hin:n < w.people.length):(withW w p).people=w.people.set n p:=by
 subst hn
 simp only [withW,setM]
 rw [decide_eq_true hin]
 rfl
theorem inv_corrupt6 {L:List Int} {E:Nat} {w:World} (I:Inv L E w) (o:Op) (hf:(corrupt6 w o).1.form):Inv L E (corrupt6 w o).1:=by
 unfold corrupt6 at hf ⊢
 cases hb:(decide (o.b < 1) || decide (o.b≥(w.people.length:Int)))
 rotate_left 1
 ·exact I
 simp only [hb,cond_false] at hf ⊢
 simp only [Bool.or_eq_false_iff,decide_eq_false_iff_not] at hb
 have hin:o.b.toNat < w.people.length:=by omega
 have hU:U o.b:=⟨by omega,by have:=(right_len I.form.right).2;omega⟩
 have hnm:({ personW w o.b with corrupt:=true }:Person).name.toNat=o.b.toNat:=nm_T I.form.right hU hin
 have hv:=with_set (w:=w) hnm hin
 have hn:name? w o.b:=⟨by omega,hin⟩
 have g:Grow L E w (setReg (withW w { personW w o.b with corrupt:=true }) o.a [(personW w o.b).key]):=Grow.set1 I.d.le hin rfl hv rfl rfl rfl (fun h=>by cases h)
 have d:=g.drawn I.d
 have hkey:(getP (setReg (withW w { personW w o.b with corrupt:=true }) o.a [(personW w o.b).key]).people o.b.toNat).key=(personW w o.b).key:=g.key _
 have hcor:(getP (setReg (withW w { personW w o.b with corrupt:=true }) o.a [(personW w o.b).key]).people o.b.toNat).corrupt=true:=by
  show (getP (withW w { personW w o.b with corrupt:=true }).people o.b.toNat).corrupt=true
  rw [hv,getP_set hin,if_pos rfl]
 have hk:Pub L E (setReg (withW w { personW w o.b with corrupt:=true }) o.a [(personW w o.b).key]) (personW w o.b).key:=by
  have hs:(Src.key o.b.toNat).has (setReg (withW w { personW w o.b with corrupt:=true }) o.a [(personW w o.b).key]):=⟨by omega,by rw [g.plen];exact hin⟩
  refine ⟨?_,fun hx=>?_⟩
  ·obtain ⟨i,hi,e⟩:=d.src _ hs
   rw [← hkey]
   intro j j1 j2 je
   have j3:nx w≤j:=j1
   have i3:i < nx w:=hi
   have i4:=I.d.le
   have:=I.d.unlike j i j2 (by omega) (je.trans e)
   omega
  ·have hg:=d.sec hs (by show Sec _ (getP _ _).key;rw [hkey];exact hx)
   have hg':(getP (setReg (withW w { personW w o.b with corrupt:=true }) o.a [(personW w o.b).key]).people ((o.b.toNat:Nat):Int).toNat).corrupt=false:=hg
   rw [Int.toNat_natCast,hcor] at hg'
   cases hg'
 exact I.still g rfl hf (fun s h=>.inl h) (set_pub fun x hx=>by simp only [List.mem_singleton] at hx;subst hx;exact hk) (fun l h=>h) (fun q h=>h) (fun p=>by
  show (getP (withW w { personW w o.b with corrupt:=true }).people p).runs=_
  rw [hv];refine runs_set hin ?_ p;rfl)
theorem inv_leak7 {L:List Int} {E:Nat} {w:World} (I:Inv L E w) (o:Op) (hf:(leak7 w o).1.form):Inv L E (leak7 w o).1:=by
 unfold leak7 at hf ⊢
 cases hb:(decide (o.b < 0) || decide (o.b≥(w.log.length:Int)))
 rotate_left 1
 ·exact I
 simp only [hb,cond_false] at hf ⊢
 cases he:w.log[o.b.toNat]? with
 | none=>exact I
 | some e =>
   rw [he] at hf
   simp only at hf ⊢
   cases hk:(e.kind==2)
   ·exact I
   simp only [hk,cond_true] at hf ⊢
   have hm:=List.mem_of_getElem? he
   have hi:isIss e:=beq_iff_eq.1 hk
   have g:Grow L E w (setReg { w with leaks:=w.leaks++[⟨e.k,(personW w e.b).clock⟩] } o.a [e.k]):=⟨rfl,Nat.le_refl _,I.d.le,fun p=>rfl,rfl,fun a h=>h,fun k h l hl=>h l (List.mem_append_left _ hl),.inl rfl⟩
   have d:=g.drawn I.d
   have hp:Pub L E (setReg { w with leaks:=w.leaks++[⟨e.k,(personW w e.b).clock⟩] } o.a [e.k]) e.k:=by
    refine ⟨(I.evs e hm).kold.mono g.next,fun hx=>?_⟩
    have hg:=d.sec (s:=.sess e) ⟨hm,hi⟩ hx
    exact hg.2.2 _ (List.mem_append_right _ (List.mem_singleton.2 rfl)) rfl
   exact I.still g rfl hf (fun s h=>.inl h) (set_pub fun x hx=>by simp only [List.mem_singleton] at hx;subst hx;exact hp) (fun l h=>h) (fun q h=>h) (fun p=>rfl)
theorem lit_pub {L:List Int} {E:Nat} {w:World} (I:Inv L E w) {x:Int} (h:∀ j,j < E→drawAt L j≠x):Pub L E w x:=by
 refine ⟨fun j _ h2=>h j h2,?_⟩
 rintro ⟨s,hs,e,_⟩
 obtain ⟨i,hi,e2⟩:=I.d.src s hs
 exact h i (by have:=I.d.le;omega) (e2.symm.trans e)
theorem inv_advM {L:List Int} {E:Nat} {w:World} (I:Inv L E w) {o:Op} (hl:Lit L E o) (hf:(advM w o).1.form) (hE:nx (advM w o).1≤E):Inv L E (advM w o).1:=by
 unfold advM at hf hE ⊢
 cases hc0:(isAdv o && (regM w o.a).isSome)
 ·exact I
 simp only [hc0,cond_true] at hf hE ⊢
 cases c0:(o.kind==0)
 rotate_left 1
 ·simp only [c0,cond_true] at hf hE ⊢
  unfold lit0 at hf ⊢
  cases hd:decide ((o.words.length:Int) > 64)
  ·simp only [hd,cond_false] at hf ⊢
   exact inv_reg I (fun x hx=>lit_pub I (hl (beq_iff_eq.1 c0) x hx)) hf
  ·exact I
 simp only [c0,cond_false] at hf hE ⊢
 cases c1:(o.kind==1)
 rotate_left 1
 ·simp only [c1,cond_true] at hf hE ⊢
  unfold seen1 at hf ⊢
  cases hd:(decide (o.b < 0) || decide (o.b≥(w.net.seen.length:Int)))
  ·simp only [hd,cond_false] at hf ⊢
   cases hu:cutM ((w.net.seen[o.b.toNat]?).getD []) o.c o.d with
   | none=>exact I
   | some l =>
     rw [hu] at hf
     refine inv_reg I (cut_pub (fun x hx=>?_) hu) hf
     cases hg:w.net.seen[o.b.toNat]? with
     | none=>rw [hg] at hx;simp at hx
     | some q=>rw [hg] at hx;exact I.seen q (List.mem_of_getElem? hg) x hx
  ·exact I
 simp only [c1,cond_false] at hf hE ⊢
 cases c2:(o.kind==2)
 rotate_left 1
 ·simp only [c2,cond_true] at hf hE ⊢
  unfold cut2 at hf ⊢
  cases hr1:regM w o.b with
  | none=>exact I
  | some s =>
    rw [hr1] at hf
    simp only at hf ⊢
    cases hu:cutM s o.c o.d with
    | none=>exact I
    | some l =>
      rw [hu] at hf
      exact inv_reg I (cut_pub (reg_pub I hr1) hu) hf
 simp only [c2,cond_false] at hf hE ⊢
 cases c3:(o.kind==3)
 rotate_left 1
 ·simp only [c3,cond_true] at hf hE ⊢
  unfold cat3 at hf ⊢
  cases hr1:regM w o.b with
  | none=>exact I
  | some x =>
    cases hs:regM w o.c with
    | none=>exact I
    | some y =>
      rw [hr1,hs] at hf
      simp only at hf ⊢
      cases hd:decide ((x.length:Int) + (y.length:Int) > 64)
      ·simp only [hd,cond_false] at hf ⊢
       exact inv_reg I (fun u hu=>by
        rcases List.mem_append.1 hu with h|h
        ·exact reg_pub I hr1 u h
        ·exact reg_pub I hs u h) hf
      ·exact I
 simp only [c3,cond_false] at hf hE ⊢
 cases c4:(o.kind==4)
 rotate_left 1
 ·simp only [c4,cond_true] at hf hE ⊢;exact inv_seal4 I o hf hE
 simp only [c4,cond_false] at hf hE ⊢
 cases c5:(o.kind==5)
 rotate_left 1
 ·simp only [c5,cond_true] at hf hE ⊢;exact inv_open5 I o hf
 simp only [c5,cond_false] at hf hE ⊢
 cases c6:(o.kind==6)
 rotate_left 1
 ·simp only [c6,cond_true] at hf hE ⊢;exact inv_corrupt6 I o hf
 simp only [c6,cond_false] at hf hE ⊢
 exact inv_leak7 I o hf
theorem gram_pub {L:List Int} {E:Nat} {w:World} (I:Inv L E w) (i:Int):∀ x∈(gramAt w i).words,Pub L E w x:=by
 intro x hx
 unfold gramAt at hx
 cases hg:w.net.grams[i.toNat]? with
 | none=>rw [hg] at hx;simp at hx
 | some q=>rw [hg] at hx;exact I.grams q (List.mem_of_getElem? hg) x hx
theorem inv_gone {L:List Int} {E:Nat} {w:World} (I:Inv L E w) (i:Int):Inv L E (gone w i) :=
 I.still (Grow.same I.d.le rfl rfl rfl rfl) rfl (gone_form I.form i) (fun s h=>.inl h) (fun l h=>.inl h) (fun l h=>h) (fun q h=>List.mem_of_mem_eraseIdx h) (fun p=>rfl)
theorem inv_twice {L:List Int} {E:Nat} {w:World} (I:Inv L E w) {i:Int} (hi:inNet w i=true) (hf:(twice w i).form):Inv L E (twice w i) :=
 I.still (Grow.same I.d.le rfl rfl rfl rfl) rfl hf (fun s h=>.inl h) (fun l h=>.inl h) (fun l h=>h) (fun q h=>by
  rcases List.mem_append.1 (show q∈w.net.grams++[gramAt w i] from h) with h1|h1
  ·exact h1
  ·simp only [List.mem_singleton] at h1
   subst h1
   simp only [inNet,Bool.and_eq_true,decide_eq_true_eq] at hi
   have hl:i.toNat < w.net.grams.length:=by omega
   simp only [gramAt,List.getElem?_eq_getElem hl,Option.getD_some]
   exact List.getElem_mem hl) (fun p=>rfl)
theorem inv_tick8 {L:List Int} {E:Nat} {w:World} (I:Inv L E w) (o:Op) (hf:(tick8 w o).1.form):Inv L E (tick8 w o).1:=by
 unfold tick8 at hf ⊢
 cases ha:(decide (o.a < 0) || decide (o.a≥(w.people.length:Int)))
 rotate_left 1
 ·exact I
 simp only [ha,cond_false] at hf ⊢
 cases hb:decide (o.b < 0)
 rotate_left 1
 ·exact I
 simp only [hb,cond_false] at hf ⊢
 simp only [Bool.or_eq_false_iff,decide_eq_false_iff_not] at ha
 have hin:o.a.toNat < w.people.length:=by omega
 have hU:U o.a:=⟨by omega,by have:=(right_len I.form.right).2;omega⟩
 have hnm:({ personW w o.a with clock:=tickM (personW w o.a).clock (capT o.b) }:Person).name.toNat=o.a.toNat:=nm_T I.form.right hU hin
 have hv:=with_set (w:=w) hnm hin
 exact I.still (Grow.set1 I.d.le hin rfl hv rfl rfl rfl id) rfl hf (fun s h=>.inl h) (fun l h=>.inl h) (fun l h=>h) (fun q h=>h) (fun p=>by rw [hv];refine runs_set hin ?_ p;rfl)
theorem inv_stepM {L:List Int} {E N:Nat} {w:World} (I:Inv L E w) (hw:w.fit N) {o:Op} (hl:Lit L E o) (hn:w.draws.next + 3≤1048576) (hE:nx (stepM w o).1≤E):Inv L E (stepM w o).1:=by
 have hf:=stepM_form hw I.form hn o
 unfold stepM at hf hE ⊢
 cases c0:isAdv o
 rotate_left 1
 ·simp only [c0,cond_true] at hf hE ⊢;exact inv_advM I hl hf hE
 simp only [c0,cond_false] at hf hE ⊢
 cases c8:(o.kind==8)
 rotate_left 1
 ·simp only [c8,cond_true] at hf hE ⊢;exact inv_tick8 I o hf
 simp only [c8,cond_false] at hf hE ⊢
 cases c9:(o.kind==9 || o.kind==10)
 rotate_left 1
 ·simp only [c9,cond_true] at hf hE ⊢
  unfold begin9 at hf hE ⊢
  cases hb:(nameB o.a && nameB o.b)
  ·exact I
  ·simp only [hb,cond_true] at hf hE ⊢
   rw [Bool.and_eq_true] at hb
   cases hk:(o.kind==9)
   ·simp only [hk,cond_false] at hf hE ⊢;exact inv_startO I hw (nameB_U hb.1) (nameB_U hb.2) hn hE
   ·simp only [hk,cond_true] at hf hE ⊢;exact inv_startN I hw (nameB_U hb.1) (nameB_U hb.2) hn hE
 simp only [c9,cond_false] at hf hE ⊢
 cases c11:(o.kind==11)
 rotate_left 1
 ·simp only [c11,cond_true] at hf hE ⊢
  unfold deliver11 at hf hE ⊢
  cases hi:inNet w o.a
  ·exact I
  ·simp only [hi,cond_true] at hf hE ⊢
   have hg:=gramAt_ok hw o.a
   exact inv_deliverM (inv_gone I o.a) (gone_fit hw o.a) hg.1.1 hg.1.2.2 (fun x hx=>(Grow.same (w:=w) (v:=gone w o.a) I.d.le rfl rfl rfl rfl).pub I.evs (gram_pub I o.a x hx)) hf hE
 simp only [c11,cond_false] at hf hE ⊢
 cases c12:(o.kind==12)
 rotate_left 1
 ·simp only [c12,cond_true] at hf hE ⊢
  unfold drop12
  cases inNet w o.a
  ·exact I
  ·exact inv_gone I o.a
 simp only [c12,cond_false] at hf hE ⊢
 cases c13:(o.kind==13)
 rotate_left 1
 ·simp only [c13,cond_true] at hf hE ⊢
  unfold double13 at hf ⊢
  cases hi:inNet w o.a
  ·exact I
  ·simp only [hi,cond_true] at hf ⊢
   cases hd:decide (w.net.room - (w.net.grams.length:Int) < 1)
   ·simp only [hd,cond_false] at hf ⊢
    exact inv_twice I hi hf
   ·exact I
 simp only [c13,cond_false] at hf hE ⊢
 cases c14:(o.kind==14)
 ·exact I
 ·simp only [c14,cond_true] at hf hE ⊢
  unfold inject14 at hf hE ⊢
  cases hr:regM w o.a with
  | none=>exact I
  | some l =>
    rw [hr] at hf hE
    simp only at hf hE ⊢
    cases hb:nameB o.b
    ·exact I
    ·simp only [hb,cond_true] at hf hE ⊢
     exact inv_deliverM I hw (nameB_U hb) (regM_ok hw hr).1.2 (reg_pub I hr) hf hE
def isE (f:Event) (k q o:Int):Prop:=f.kind=k∧f.proto=q∧f.role=o
inductive CauseP (w:World) (l:List Event) (e:Event):Prop where
 | st (h:e.kind=1) (r:e.role=1) (p:e.proto=1∨e.proto=2)
 | is1 (h:isE e 2 1 0) (fr:∀ f∈l,f.kind=2→f.k≠e.k) (un:∀ f∈l,isE f 2 1 0→f.n≠e.n)
 | is2 (h:isE e 2 2 0) (fr:∀ f∈l,f.kind=2→f.k≠e.k) (un:∀ f∈l,isE f 2 2 0→f.m≠e.m) (ha:hon w e.a → ∃ f∈l,isE f 1 2 1∧f.a=e.a∧f.b=e.b∧f.m=e.m) (hb:hon w e.b → ∃ f∈l,isE f 3 2 2∧f.a=e.a∧f.b=e.b∧f.m=e.m)
 | r11 (h:isE e 3 1 1) (s:∃ f∈l,isE f 1 1 1∧f.a=e.a∧f.b=e.b∧f.n=e.n) (ha:hon w e.a → ∃ f∈l,isE f 2 1 0∧f.a=e.a∧f.b=e.b∧f.k=e.k∧f.t=e.t∧f.n=e.n)
 | r12 (h:isE e 3 1 2) (un:∀ f∈l,isE f 3 1 2→f.b=e.b→f.k≠e.k) (hb:hon w e.b → ∃ f∈l,isE f 2 1 0∧f.a=e.a∧f.b=e.b∧f.k=e.k∧f.t=e.t)
 | r22 (h:isE e 3 2 2) (un:∀ f∈l,isE f 3 2 2→f.b=e.b→f.m≠e.m)
 | c11 (h:isE e 4 1 1) (s:∃ f∈l,isE f 3 1 1∧f.a=e.a∧f.b=e.b∧f.k=e.k∧f.t=e.t)
 | c12 (h:isE e 4 1 2) (s:∃ f∈l,isE f 3 1 2∧f.a=e.a∧f.b=e.b∧f.k=e.k∧f.t=e.t∧f.n=e.n)
 | c21 (h:isE e 4 2 1) (s:∃ f∈l,isE f 1 2 1∧f.a=e.a∧f.b=e.b∧f.m=e.m∧f.n=e.n) (ha:hon w e.a → ∃ f∈l,isE f 2 2 0∧f.a=e.a∧f.b=e.b∧f.k=e.k∧f.m=e.m)
 | c22 (h:isE e 4 2 2) (s:∃ f∈l,isE f 3 2 2∧f.a=e.a∧f.b=e.b∧f.m=e.m∧f.n=e.n) (hb:hon w e.b → ∃ f∈l,isE f 2 2 0∧f.a=e.a∧f.b=e.b∧f.k=e.k∧f.m=e.m)
theorem CauseP.grow {w v:World} (hh:∀ a,hon v a→hon w a) {l:List Event} {e:Event} (h:CauseP w l e):CauseP v l e:=by
 cases h with
 | st h r p=>exact .st h r p
 | is1 h fr un=>exact .is1 h fr un
 | is2 h fr un ha hb=>exact .is2 h fr un (fun x=>ha (hh _ x)) (fun x=>hb (hh _ x))
 | r11 h s ha=>exact .r11 h s (fun x=>ha (hh _ x))
 | r12 h un hb=>exact .r12 h un (fun x=>hb (hh _ x))
 | r22 h un=>exact .r22 h un
 | c11 h s=>exact .c11 h s
 | c12 h s=>exact .c12 h s
 | c21 h s ha=>exact .c21 h s (fun x=>ha (hh _ x))
 | c22 h s hb=>exact .c22 h s (fun x=>hb (hh _ x))
inductive RunEv (l:List Event) (p:Int) (r:Run):Prop where
 | n1 (h1:r.proto=1) (h2:r.role=1) (f:Event) (hf:f∈l) (hk:isE f 1 1 1) (a:f.a=p) (b:f.b=r.peer) (n:f.n=r.mine) (s:r.state≠1 → ∃ g∈l,isE g 3 1 1∧g.a=p∧g.b=r.peer∧g.k=r.k∧g.t=r.t∧g.n=r.mine)
 | n2 (h1:r.proto=1) (h2:r.role=2) (f:Event) (hf:f∈l) (hk:isE f 3 1 2) (a:f.a=r.peer) (b:f.b=p) (k:f.k=r.k) (t:f.t=r.t) (n:f.n=r.mine)
 | o1 (h1:r.proto=2) (h2:r.role=1) (f:Event) (hf:f∈l) (hk:isE f 1 2 1) (a:f.a=p) (b:f.b=r.peer) (m:f.m=r.m) (n:f.n=r.mine)
 | o2 (h1:r.proto=2) (h2:r.role=2) (f:Event) (hf:f∈l) (hk:isE f 3 2 2) (a:f.a=r.peer) (b:f.b=p) (m:f.m=r.m) (n:f.n=r.mine)
theorem RunEv.mono {l l':List Event} (hl:∀ e∈l,e∈l') {p:Int} {r:Run} (h:RunEv l p r):RunEv l' p r:=by
 cases h with
 | n1 h1 h2 f hf hk a b n s=>exact .n1 h1 h2 f (hl f hf) hk a b n (fun x=>by obtain ⟨g,hg,q⟩:=s x;exact ⟨g,hl g hg,q⟩)
 | n2 h1 h2 f hf hk a b k t n=>exact .n2 h1 h2 f (hl f hf) hk a b k t n
 | o1 h1 h2 f hf hk a b m n=>exact .o1 h1 h2 f (hl f hf) hk a b m n
 | o2 h1 h2 f hf hk a b m n=>exact .o2 h1 h2 f (hl f hf) hk a b m n
structure UsedOk (l:List Person) (f:Event):Prop where
 u1:isE f 2 1 0→f.n∈(getP l 0).used
 u2:isE f 2 2 0→f.m∈(getP l 0).used
 u3:isE f 3 1 2→f.k∈(getP l f.b.toNat).used
 u4:isE f 3 2 2→f.m∈(getP l f.b.toNat).used
structure Tr (w:World):Prop where
 cause:∀ pre e post,w.log=pre++e::post→CauseP w pre e
 run:∀ p,p < w.people.length → ∀ r∈(getP w.people p).runs,RunEv w.log p r
 used:∀ f∈w.log,UsedOk w.people f
theorem UsedOk.grow {l l':List Person} (h:∀ p,∀ x∈(getP l p).used,x∈(getP l' p).used) {f:Event} (u:UsedOk l f):UsedOk l' f :=
 ⟨fun x=>h _ _ (u.u1 x),fun x=>h _ _ (u.u2 x),fun x=>h _ _ (u.u3 x),fun x=>h _ _ (u.u4 x)⟩
theorem split_last {l pre post:List Event} {e f:Event} (h:l++[e]=pre++f::post):(∃ q,l=pre++f::q)∨(pre=l∧f=e):=by
 rcases List.eq_nil_or_concat post with rfl|⟨q,x,rfl⟩
 ·have:=List.append_inj' h rfl
  simp only [List.cons.injEq,and_true] at this
  exact .inr ⟨this.1.symm,this.2.symm⟩
 ·refine .inl ⟨q,?_⟩
  have h2:l++[e]=(pre++f::q)++[x]:=by rw [h];simp
  exact (List.append_inj' h2 rfl).1
theorem Tr.put {w:World} {k:Int} {sl:List Sld} {gs:List Gram} {n:Nat} {p:Person} {e:Event} (T:Tr w) (hin:n < w.people.length) (hc:p.corrupt=(getP w.people n).corrupt) (hu:∀ x∈(getP w.people n).used,x∈p.used) (he:CauseP w w.log e) (hn:UsedOk (w.people.set n p) e) (hr:∀ r∈p.runs,r∈(getP w.people n).runs∨RunEv (w.log++[e]) n r):Tr (mkT w k sl gs n p e):=by
 have hh:∀ a,hon (mkT w k sl gs n p e) a→hon w a:=fun a h=>by
  have h':(getP (w.people.set n p) a.toNat).corrupt=false:=h
  rw [getP_set hin] at h'
  show (getP w.people a.toNat).corrupt=false
  split at h'
  ·rename_i hq;rw [hq,← hc];exact h'
  ·exact h'
 have hu':∀ q,∀ x∈(getP w.people q).used,x∈(getP (w.people.set n p) q).used:=fun q x hx=>by
  rw [getP_set hin];split
  ·rename_i h;subst h;exact hu x hx
  ·exact hx
 refine ⟨fun pre f post h=>?_,fun q hq r hm=>?_,fun f hf=>?_⟩
 ·rcases split_last (show w.log++[e]=pre++f::post from h) with ⟨q,hq⟩|⟨rfl,rfl⟩
  ·exact (T.cause pre f q hq).grow hh
  ·exact he.grow hh
 ·have hm':r∈(getP (w.people.set n p) q).runs:=hm
  have hq':q < w.people.length:=by
   have:(w.people.set n p).length=w.people.length:=List.length_set
   have hq2:q < (w.people.set n p).length:=hq
   omega
  rw [getP_set hin] at hm'
  have hl:∀ x∈w.log,x∈w.log++[e]:=fun x hx=>List.mem_append_left _ hx
  split at hm'
  ·rename_i h;subst h
   rcases hr r hm' with h1|h1
   ·exact (T.run q hq' r h1).mono hl
   ·exact h1
  ·exact (T.run q hq' r hm').mono hl
 ·rcases List.mem_append.1 (show f∈w.log++[e] from hf) with h|h
  ·exact (T.used f h).grow hu'
  ·simp only [List.mem_singleton] at h;subst h;exact hn
theorem Tr.still {w v:World} (T:Tr w) (hl:v.log=w.log) (hh:∀ a,hon v a→hon w a) (hp:v.people.length=w.people.length) (hr:∀ p,(getP v.people p).runs=(getP w.people p).runs) (hu:∀ p,(getP v.people p).used=(getP w.people p).used):Tr v :=
 ⟨fun pre e post h=>(T.cause pre e post (hl.symm.trans h)).grow hh,fun p h r hm=>by rw [hl];exact T.run p (by omega) r (by rw [← hr];exact hm),fun f hf=>(T.used f (hl ▸ hf)).grow (fun p x hx=>by rw [hu];exact hx)⟩
theorem Tr.of {w:World} (T:Tr w) {e:Event} (he:e∈w.log):∃ l,(∀ f∈l,f∈w.log)∧CauseP w l e:=by
 obtain ⟨s,t,h⟩:=List.append_of_mem he
 exact ⟨s,fun f hf=>by rw [h];exact List.mem_append_left _ hf,T.cause s e t h⟩
theorem Tr.iss {w:World} (T:Tr w) {e:Event} (he:e∈w.log) (h2:e.kind=2):e.role=0:=by
 obtain ⟨l,_,h⟩:=T.of he
 cases h with
 | is1 h=>exact h.2.2
 | is2 h=>exact h.2.2
 | st h=>omega
 | r11 h=>have:=h.1;omega
 | r12 h=>have:=h.1;omega
 | r22 h=>have:=h.1;omega
 | c11 h=>have:=h.1;omega
 | c12 h=>have:=h.1;omega
 | c21 h=>have:=h.1;omega
 | c22 h=>have:=h.1;omega
theorem used_not {l:List Int} {room x:Int} (h:usedMay l room x=0):x ∉ l:=by
 unfold usedMay at h
 intro hx
 rw [decide_eq_true hx] at h
 exact absurd h (by simp)
theorem set_ev {w:World} {n i:Nat} {r:Run} {e:Event} (h:RunEv (w.log++[e]) n r):∀ x∈(setRun (getP w.people n) i r).runs,x∈(getP w.people n).runs∨RunEv (w.log++[e]) n x:=by
 intro x hx
 rcases List.mem_or_eq_of_mem_set (show x∈(getP w.people n).runs.set i r from hx) with h1|rfl
 ·exact .inl h1
 ·exact .inr h
theorem push_ev {w:World} {n:Nat} {p:Person} {r:Run} {e:Event} (hp:p.runs=(getP w.people n).runs) (h:RunEv (w.log++[e]) n r):∀ x∈(pushRun p r).runs,x∈(getP w.people n).runs∨RunEv (w.log++[e]) n x:=by
 intro x hx
 rcases List.mem_append.1 (show x∈p.runs++[r] from hx) with h1|h1
 ·rw [hp] at h1;exact .inl h1
 ·simp only [List.mem_singleton] at h1;subst h1;exact .inr h
theorem UsedOk.none {l:List Person} {e:Event} (h2:e.kind≠2) (h3:¬ (e.kind=3∧e.role=2)):UsedOk l e :=
 ⟨fun h=>absurd h.1 h2,fun h=>absurd h.1 h2,fun h=>absurd ⟨h.1,h.2.2⟩ h3,fun h=>absurd ⟨h.1,h.2.2⟩ h3⟩
theorem end_mem (l:List Event) (e:Event):e∈l++[e]:=List.mem_append_right _ (List.mem_singleton.2 rfl)
theorem run_ev {w:World} (T:Tr w) {me:Int} (hme:U me) (hin:me.toNat < w.people.length) {i:Nat} (hi:i < (personW w me).runs.length):RunEv w.log me (runAt (personW w me).runs i):=by
 have:=T.run me.toNat hin _ (runAt_mem hi)
 rw [nat_of hme] at this
 exact this
theorem tr_startN {L:List Int} {E:Nat} {w:World} (I:Inv L E w) (T:Tr w) {a b:Int} (ha:U a):Tr (startN w a b).1:=by
 by_cases he:(startN w a b).2=0
 rotate_left 1
 ·rw [startN_err he];exact T
 obtain ⟨h1,h2,h3⟩:=startN_T I.form.right ha he
 have hin:=(pair_in h1).2.2.2.1
 rw [h3]
 refine T.put hin rfl (fun x hx=>hx) (.st rfl rfl (.inl rfl)) (.none (by simp) (by simp)) (push_ev rfl ?_)
 rw [nat_of ha]
 exact .n1 rfl rfl _ (end_mem _ _) ⟨rfl,rfl,rfl⟩ rfl rfl rfl (fun h=>absurd rfl h)
theorem tr_startO {L:List Int} {E:Nat} {w:World} (I:Inv L E w) (T:Tr w) {a b:Int} (ha:U a):Tr (startO w a b).1:=by
 by_cases he:(startO w a b).2=0
 rotate_left 1
 ·rw [startO_err he];exact T
 obtain ⟨h1,h2,h4,h3⟩:=startO_T I.form.right ha he
 have hin:=(pair_in h1).2.2.2.1
 rw [h3]
 refine T.put hin rfl (fun x hx=>hx) (.st rfl rfl (.inr rfl)) (.none (by simp) (by simp)) (push_ev rfl ?_)
 rw [nat_of ha]
 exact .o1 rfl rfl _ (end_mem _ _) ⟨rfl,rfl,rfl⟩ rfl rfl rfl rfl
theorem tr_grantN {L:List Int} {E:Nat} {w:World} (I:Inv L E w) (T:Tr w) {me:Int} (hme:U me) (h1me:1≤me) {m:Msg}:Tr (grantN w me m).1:=by
 by_cases he:(grantN w me m).2=0
 rotate_left 1
 ·rw [grantN_err he];exact T
 obtain ⟨i,h1,h2,h3,hin,h4⟩:=grantN_T I.form.right hme he
 obtain ⟨hi,r1,r2,r3,r4,r5⟩:=grant_run h1
 have hR:=run_ev T hme hin hi
 have hn:name? w me:=⟨h1me,hin⟩
 have hO:=open_grant I (me:=me) hn h2
 rw [h4]
 cases hR with
 | n1 q1 q2 f hf hk a b n s =>
   have hg:hon w me → ∃ f∈w.log,isE f 2 1 0∧f.a=me∧f.b=(runAt (personW w me).runs i).peer∧f.k=(aG w me m).1.k∧f.t=(aG w me m).1.t∧f.n=(runAt (personW w me).runs i).mine:=fun hh=>by
    rcases hO.1 with hp|⟨e,he,e1,e2,e3,e4,e5,e6,e7⟩
    ·exact absurd hh (I.d.key_sec hn hp.1.2)
    ·exact ⟨e,he,⟨e1,e2,T.iss he e1⟩,e3,e5.trans r5.symm,e6,e7,e4.trans r4.symm⟩
   refine T.put hin rfl (fun x hx=>hx) (.r11 ⟨rfl,rfl,rfl⟩ ⟨f,hf,hk,a,b,n⟩ hg) (.none (by simp) (by simp)) (set_ev ?_)
   rw [nat_of hme]
   exact .n1 q1 q2 f (List.mem_append_left _ hf) hk a b n (fun _=>⟨_,end_mem _ _,⟨rfl,rfl,rfl⟩,rfl,rfl,rfl,rfl,rfl⟩)
 | _=>exfalso;omega
theorem tr_echoN {L:List Int} {E:Nat} {w:World} (I:Inv L E w) (T:Tr w) {me:Int} (hme:U me) {m:Msg}:Tr (echoN w me m).1:=by
 by_cases he:(echoN w me m).2=0
 rotate_left 1
 ·rw [echoN_err he];exact T
 obtain ⟨i,h1,h2,hin,h3,h4⟩:=echoN_T I.form.right hme he
 obtain ⟨hi,r1,r2,r3,r4⟩:=echo_run h1
 have hR:=run_ev T hme hin hi
 rw [h4]
 cases hR with
 | n1 q1 q2 f hf hk a b n s =>
   obtain ⟨g,hg,g1,g2,g3,g4,g5,g6⟩:=s (by omega)
   refine T.put hin rfl (fun x hx=>hx) (.c11 ⟨rfl,rfl,rfl⟩ ⟨g,hg,g1,g2,g3,g4,g5⟩) (.none (by simp) (by simp)) (set_ev ?_)
   rw [nat_of hme]
   exact .n1 q1 q2 f (List.mem_append_left _ hf) hk a b n (fun _=>⟨g,List.mem_append_left _ hg,g1,g2,g3,g4,g5,g6⟩)
 | _=>exfalso;omega
theorem tr_ticketB {L:List Int} {E N:Nat} {w:World} (I:Inv L E w) (hw:w.fit N) (T:Tr w) {me:Int} (hme:U me) {m:Msg}:Tr (ticketB w me m).1:=by
 by_cases he:(ticketB w me m).2=0
 rotate_left 1
 ·rw [ticketB_err he];exact T
 obtain ⟨h1,h2,h3,h4,h5,h6,h7⟩:=ticketB_T I.form.right hme he
 have hga:U (tG w me m).1.a:=(openW_ok hw _ _ _).2.2.1
 obtain ⟨na,nb,nab⟩:=pair_names hga hme h2
 have hO:=open_ticket I (me:=me) nb h1
 have hno:=used_not h4
 rw [h7]
 refine T.put nb.2 rfl (fun x hx=>List.mem_append_left _ hx) (.r12 ⟨rfl,rfl,rfl⟩ (fun f hf hk hb hx=>?_) (fun hh=>?_)) ⟨fun h=>absurd h.1 n32,fun h=>absurd h.1 n32,fun _=>?_,fun h=>absurd h.2.1 (by simp)⟩ (push_ev rfl ?_)
 ·have:=(T.used f hf).u3 hk
  rw [hb,hx] at this
  exact hno this
 ·rcases hO.1 with hp|⟨e,he,e1,e2,e3,e4,e5,e6⟩
  ·exact absurd hh (I.d.key_sec nb hp.1.2)
  ·exact ⟨e,he,⟨e1,e2,T.iss he e1⟩,e4,e3,e5,e6⟩
 ·show _∈(getP (w.people.set me.toNat _) me.toNat).used
  rw [getP_set nb.2,if_pos rfl]
  exact List.mem_append_right _ (List.mem_singleton.2 rfl)
 ·rw [nat_of hme]
  exact .n2 rfl rfl _ (end_mem _ _) ⟨rfl,rfl,rfl⟩ rfl rfl rfl rfl rfl
theorem tr_backB {L:List Int} {E:Nat} {w:World} (I:Inv L E w) (T:Tr w) {me:Int} (hme:U me) {m:Msg}:Tr (backB w me m).1:=by
 by_cases he:(backB w me m).2=0
 rotate_left 1
 ·rw [backB_err he];exact T
 obtain ⟨i,h1,h2,hin,h4⟩:=backB_T I.form.right hme he
 obtain ⟨hi,r1,r2,r3,r4,r5⟩:=back_run h1
 have hR:=run_ev T hme hin hi
 rw [h4]
 cases hR with
 | n2 q1 q2 f hf hk a b k t n =>
   refine T.put hin rfl (fun x hx=>hx) (.c12 ⟨rfl,rfl,rfl⟩ ⟨f,hf,hk,a,b,k,t,n⟩) (.none (by simp) (by simp)) (set_ev ?_)
   rw [nat_of hme]
   exact .n2 q1 q2 f (List.mem_append_left _ hf) hk a b k t n
 | _=>exfalso;omega
theorem tr_shareO {L:List Int} {E:Nat} {w:World} (I:Inv L E w) (T:Tr w) {me:Int} (hme:U me) (h1me:1≤me) {m:Msg}:Tr (shareO w me m).1:=by
 by_cases he:(shareO w me m).2=0
 rotate_left 1
 ·rw [shareO_err he];exact T
 obtain ⟨i,h1,h2,h3,hin,h4⟩:=shareO_T I.form.right hme he
 obtain ⟨hi,r1,r2,r3,r4⟩:=wait_run (show (personW w me).runs.findIdx? (waitM 2 1 m.run)=some i from h1)
 have hR:=run_ev T hme hin hi
 have hn:name? w me:=⟨h1me,hin⟩
 have hO:=open_sh9 I (a:=me) hn h2
 rw [h4]
 cases hR with
 | o1 q1 q2 f hf hk a b mm n =>
   refine T.put hin rfl (fun x hx=>hx) (.c21 ⟨rfl,rfl,rfl⟩ ⟨f,hf,hk,a,b,mm,n⟩ (fun hh=>?_)) (.none (by simp) (by simp)) (set_ev ?_)
   ·rcases hO.2 with hp|⟨e,he,e1,e2,e3,e4,q⟩
    ·exact absurd hh (I.d.key_sec hn hp.1.2)
    ·rcases q with ⟨g,hg,g1,g2,g3,g4,g5,g6,g7⟩|q
     ·have hs:=I.d.uniq (.num g) (.num f) ⟨hg,.inl ⟨g1,g3⟩⟩ ⟨hf,.inl ⟨hk.1,hk.2.2⟩⟩ (g4.trans (h3.trans n.symm))
      have hgf:g=f:=by injection hs
      subst hgf
      exact ⟨e,he,⟨e1,e2,T.iss he e1⟩,e3,g6.symm.trans b,e4,g7.symm.trans mm⟩
     ·exact absurd hh q
   ·rw [nat_of hme]
    exact .o1 q1 q2 f (List.mem_append_left _ hf) hk a b mm n
 | _=>exfalso;omega
theorem tr_firstB {L:List Int} {E:Nat} {w:World} (I:Inv L E w) (T:Tr w) {me:Int} (hme:U me) {m:Msg}:Tr (firstB w me m).1:=by
 by_cases he:(firstB w me m).2=0
 rotate_left 1
 ·rw [firstB_err he];exact T
 obtain ⟨h1,h2,h3,h4,h5,h6⟩:=firstB_T I.form.right hme he
 have hin:=(pair_in h2).2.2.2.2
 have hno:=used_not h3
 rw [h6]
 refine T.put hin rfl (fun x hx=>List.mem_append_left _ hx) (.r22 ⟨rfl,rfl,rfl⟩ (fun f hf hk hb hx=>?_)) ⟨fun h=>absurd h.1 n32,fun h=>absurd h.1 n32,fun h=>absurd h.2.1 n21,fun _=>?_⟩ (push_ev rfl ?_)
 ·have:=(T.used f hf).u4 hk
  rw [hb,hx] at this
  exact hno this
 ·show _∈(getP (w.people.set me.toNat _) me.toNat).used
  rw [getP_set hin,if_pos rfl]
  exact List.mem_append_right _ (List.mem_singleton.2 rfl)
 ·rw [nat_of hme]
  exact .o2 rfl rfl _ (end_mem _ _) ⟨rfl,rfl,rfl⟩ rfl rfl rfl rfl
theorem tr_shareB {L:List Int} {E:Nat} {w:World} (I:Inv L E w) (T:Tr w) {me:Int} (hme:U me) (h1me:1≤me) {m:Msg}:Tr (shareB w me m).1:=by
 by_cases he:(shareB w me m).2=0
 rotate_left 1
 ·rw [shareB_err he];exact T
 obtain ⟨i,h1,h2,h3,hin,h4⟩:=shareB_T I.form.right hme he
 obtain ⟨hi,r1,r2,r3,r4⟩:=wait_run (show (personW w me).runs.findIdx? (waitM 2 2 m.run)=some i from h1)
 have hR:=run_ev T hme hin hi
 have hn:name? w me:=⟨h1me,hin⟩
 have hO:=open_sh8 I (b:=me) hn h2
 rw [h4]
 cases hR with
 | o2 q1 q2 f hf hk a b mm n =>
   refine T.put hin rfl (fun x hx=>hx) (.c22 ⟨rfl,rfl,rfl⟩ ⟨f,hf,hk,a,b,mm,n⟩ (fun hh=>?_)) (.none (by simp) (by simp)) (set_ev ?_)
   ·rcases hO.2 with hp|⟨e,he,e1,e2,e3,e4,q⟩
    ·exact absurd hh (I.d.key_sec hn hp.1.2)
    ·rcases q with ⟨g,hg,g1,g2,g3,g4,g5,g6,g7⟩|q
     ·have hs:=I.d.uniq (.num g) (.num f) ⟨hg,.inr ⟨g1,g3⟩⟩ ⟨hf,.inr ⟨hk.1,hk.2.2⟩⟩ (g4.trans (h3.trans n.symm))
      have hgf:g=f:=by injection hs
      subst hgf
      exact ⟨e,he,⟨e1,e2,T.iss he e1⟩,g5.symm.trans a,e3,e4,g7.symm.trans mm⟩
     ·exact absurd hh q
   ·rw [nat_of hme]
    exact .o2 q1 q2 f (List.mem_append_left _ hf) hk a b mm n
 | _=>exfalso;omega
theorem fresh_k {L:List Int} {E:Nat} {w:World} (I:Inv L E w) (hE:nx w < E):∀ f∈w.log,f.kind=2→f.k≠dAt w 0:=by
 intro f hf hk hx
 obtain ⟨i,hi,e⟩:=I.d.src (.sess f) ⟨hf,hk⟩
 have hd:dAt w 0=drawAt L (nx w):=by unfold dAt nx;rw [I.d.list,Int.add_zero]
 have:=I.d.unlike i (nx w) (by omega) hE (e.symm.trans ((show Src.word w (.sess f)=f.k from rfl).trans (hx.trans hd)))
 omega
theorem tr_grantM {L:List Int} {E:Nat} {w:World} (I:Inv L E w) (T:Tr w) {m:Msg} (hE:nx (grantM w m).1≤E):Tr (grantM w m).1:=by
 by_cases he:(grantM w m).2=0
 rotate_left 1
 ·rw [grantM_err he];exact T
 have h0:=I.form.next0
 obtain ⟨h1,h2,h3,h4,h5,h6⟩:=grantM_T I.form.right he
 have hin:0 < w.people.length:=by have:=(pair_in h1).2.2.2.2;omega
 have hno:=used_not h3
 rw [h6] at hE ⊢
 have hx:=nx_mkT (sl:=[sld w 1 (personW w m.b).key 3 ⟨0,0,m.a,0,dAt w 0,(personW w 0).clock,0⟩,sld w 2 (personW w m.a).key 2 ⟨m.nonce,0,0,m.b,dAt w 0,(personW w 0).clock,dAt w 1⟩]) (gs:=[⟨m.a,msgWs ⟨2,0,0,0,0,dAt w 2,0⟩⟩]) (n:=0) (p:={ personW w 0 with used:=(personW w 0).used++[m.nonce] }) (e:=⟨2,1,0,m.a,m.b,dAt w 0,(personW w 0).clock,0,m.nonce,(personW w 0).clock⟩) h0 (show (0:Int)≤3 by decide)
 rw [hx] at hE
 refine T.put hin rfl (fun x hx=>List.mem_append_left _ hx) (.is1 ⟨rfl,rfl,rfl⟩ (fresh_k I (by simp at hE;omega)) (fun f hf hk hx=>?_)) ⟨fun _=>?_,fun h=>absurd h.2.1 (by simp),fun h=>absurd h.1 n23,fun h=>absurd h.1 n23⟩ (fun r hr=>.inl hr)
 ·have:=(T.used f hf).u1 hk
  rw [hx] at this
  exact hno this
 ·show _∈(getP (w.people.set 0 _) 0).used
  rw [getP_set hin,if_pos rfl]
  exact List.mem_append_right _ (List.mem_singleton.2 rfl)
theorem tr_shareM {L:List Int} {E:Nat} {w:World} (I:Inv L E w) (T:Tr w) {m:Msg} (hma:U m.a) (hmb:U m.b) (hE:nx (shareM w m).1≤E):Tr (shareM w m).1:=by
 by_cases he:(shareM w m).2=0
 rotate_left 1
 ·rw [shareM_err he];exact T
 have h0:=I.form.next0
 obtain ⟨h1,h2,h3,h4,h5,h6,h7⟩:=shareM_T I.form.right he
 obtain ⟨na,nb,nab⟩:=pair_names hma hmb h1
 obtain ⟨a1,a2,a3,a4⟩:=told_m (show (toldM w m (personW w m.a).key 6 m.box).2=true from h2)
 obtain ⟨b1,b2,b3,b4⟩:=told_m (show (toldM w m (personW w m.b).key 7 m.more).2=true from h3)
 have hA:=open_or1 I na a1
 have hB:=open_or2 I nb b1
 have hin:0 < w.people.length:=by have:=na.2;omega
 have hno:=used_not h4
 rw [h7] at hE ⊢
 have hx:=nx_mkT (sl:=[sld w 1 (personW w m.b).key 8 ⟨(sB w m).1,0,0,0,dAt w 0,0,0⟩,sld w 2 (personW w m.a).key 9 ⟨(sA w m).1,0,0,0,dAt w 0,0,0⟩]) (gs:=[⟨m.b,msgWs ⟨8,m.run,0,0,0,dAt w 2,dAt w 1⟩⟩]) (n:=0) (p:={ personW w 0 with used:=(personW w 0).used++[m.run] }) (e:=⟨2,2,0,m.a,m.b,dAt w 0,0,m.run,0,(personW w 0).clock⟩) h0 (show (0:Int)≤3 by decide)
 rw [hx] at hE
 refine T.put hin rfl (fun x hx=>List.mem_append_left _ hx) (.is2 ⟨rfl,rfl,rfl⟩ (fresh_k I (by simp at hE;omega)) (fun f hf hk hx=>?_) (fun hh=>?_) (fun hh=>?_)) ⟨fun h=>absurd h.2.1 n21,fun _=>?_,fun h=>absurd h.1 n23,fun h=>absurd h.1 n23⟩ (fun r hr=>.inl hr)
 ·have:=(T.used f hf).u2 hk
  rw [hx] at this
  exact hno this
 ·rcases hA with q|⟨f,f1,f2,f3,f4,f5,f6,f7,f8⟩
  ·exact absurd hh (I.d.key_sec na q.1.2)
  ·exact ⟨f,f1,⟨f2,f3,f4⟩,f6.trans a3,f7.trans a4,f8.trans a2⟩
 ·rcases hB with q|⟨f,f1,f2,f3,f4,f5,f6,f7,f8⟩
  ·exact absurd hh (I.d.key_sec nb q.1.2)
  ·exact ⟨f,f1,⟨f2,f3,f4⟩,f6.trans b3,f7.trans b4,f8.trans b2⟩
 ·show _∈(getP (w.people.set 0 _) 0).used
  rw [getP_set hin,if_pos rfl]
  exact List.mem_append_right _ (List.mem_singleton.2 rfl)
theorem tr_takeM {L:List Int} {E N:Nat} {w:World} (I:Inv L E w) (hw:w.fit N) (T:Tr w) {to:Int} (ht:U to) {m:Msg} (hma:U m.a) (hmb:U m.b) (hE:nx (takeM w to m).1≤E):Tr (takeM w to m).1:=by
 unfold takeM at hE ⊢
 cases c0:(to==0)
 ·have h1:1≤to:=by
   have:=ht.1
   simp only [beq_eq_false_iff_ne] at c0
   omega
  simp only [c0,cond_false] at hE ⊢
  cases c2:(m.kind==2)
  rotate_left 1
  ·simp only [c2,cond_true] at hE ⊢;exact tr_grantN I T ht h1
  simp only [c2,cond_false] at hE ⊢
  cases c3:(m.kind==3)
  rotate_left 1
  ·simp only [c3,cond_true] at hE ⊢;exact tr_ticketB I hw T ht
  simp only [c3,cond_false] at hE ⊢
  cases c4:(m.kind==4)
  rotate_left 1
  ·simp only [c4,cond_true] at hE ⊢;exact tr_echoN I T ht
  simp only [c4,cond_false] at hE ⊢
  cases c5:(m.kind==5)
  rotate_left 1
  ·simp only [c5,cond_true] at hE ⊢;exact tr_backB I T ht
  simp only [c5,cond_false] at hE ⊢
  cases c6:(m.kind==6)
  rotate_left 1
  ·simp only [c6,cond_true] at hE ⊢;exact tr_firstB I T ht
  simp only [c6,cond_false] at hE ⊢
  cases c8:(m.kind==8)
  rotate_left 1
  ·simp only [c8,cond_true] at hE ⊢;exact tr_shareB I T ht h1
  simp only [c8,cond_false] at hE ⊢
  cases c9:(m.kind==9)
  rotate_left 1
  ·simp only [c9,cond_true] at hE ⊢;exact tr_shareO I T ht h1
  exact T
 ·simp only [c0,cond_true] at hE ⊢
  cases c1:(m.kind==1)
  rotate_left 1
  ·simp only [c1,cond_true] at hE ⊢;exact tr_grantM I T hE
  simp only [c1,cond_false] at hE ⊢
  cases c7:(m.kind==7)
  rotate_left 1
  ·simp only [c7,cond_true] at hE ⊢;exact tr_shareM I T hma hmb hE
  exact T
theorem tr_deliverM {L:List Int} {E N:Nat} {w:World} (I:Inv L E w) (hw:w.fit N) (T:Tr w) {to:Int} (ht:U to) {l:List Int} (hu:∀ x∈l,U x) (hE:nx (deliverM w to l).1≤E):Tr (deliverM w to l).1:=by
 unfold deliverM at hE ⊢
 cases c1:decide (to.toNat < w.people.length)
 ·exact T
 simp only [c1,cond_true] at hE ⊢
 cases c2:((msgGet l).2==0)
 ·exact T
 simp only [c2,cond_true] at hE ⊢
 have hm:=msgGet_U hu (by simpa using c2)
 exact tr_takeM I hw T ht hm.2.2.1 hm.2.2.2.1 hE
theorem tr_reg {w v:World} (T:Tr w) (h1:v.log=w.log) (h2:v.people=w.people):Tr v :=
 T.still h1 (fun a h=>by
  have h':(getP v.people a.toNat).corrupt=false:=h
  rw [h2] at h';exact h') (by rw [h2]) (fun p=>by rw [h2]) (fun p=>by rw [h2])
theorem tr_set {w v:World} {n:Nat} {p:Person} (T:Tr w) (hin:n < w.people.length) (h1:v.log=w.log) (h2:v.people=w.people.set n p) (hc:p.corrupt=false→(getP w.people n).corrupt=false) (hr:p.runs=(getP w.people n).runs) (hu:p.used=(getP w.people n).used):Tr v :=
 T.still h1 (fun a h=>by
  have h':(getP v.people a.toNat).corrupt=false:=h
  rw [h2,getP_set hin] at h'
  show (getP w.people a.toNat).corrupt=false
  split at h'
  ·rename_i hq;rw [hq];exact hc h'
  ·exact h') (by rw [h2,List.length_set]) (fun q=>by rw [h2];exact runs_set hin hr q) (fun q=>by
  rw [h2,getP_set hin];split
  ·rename_i e;rw [e];exact hu
  ·rfl)
theorem tr_advM {w:World} (hr10:Right10 w.people=true) (T:Tr w) {o:Op}:Tr (advM w o).1:=by
 unfold advM
 cases hc0:(isAdv o && (regM w o.a).isSome)
 ·exact T
 simp only [cond_true]
 cases c0:(o.kind==0)
 rotate_left 1
 ·unfold lit0
  cases hd:decide ((o.words.length:Int) > 64)
  ·exact tr_reg T rfl rfl
  ·exact T
 simp only [cond_false]
 cases c1:(o.kind==1)
 rotate_left 1
 ·unfold seen1
  cases hd:(decide (o.b < 0) || decide (o.b≥(w.net.seen.length:Int)))
  ·simp only [cond_true,cond_false]
   cases hu:cutM ((w.net.seen[o.b.toNat]?).getD []) o.c o.d with
   | none=>exact T
   | some l=>exact tr_reg T rfl rfl
  ·exact T
 simp only [cond_false]
 cases c2:(o.kind==2)
 rotate_left 1
 ·unfold cut2
  simp only [cond_true]
  cases hr1:regM w o.b with
  | none=>exact T
  | some s =>
    simp only
    cases hu:cutM s o.c o.d with
    | none=>exact T
    | some l=>exact tr_reg T rfl rfl
 simp only [cond_false]
 cases c3:(o.kind==3)
 rotate_left 1
 ·unfold cat3
  simp only [cond_true]
  cases hr1:regM w o.b with
  | none=>exact T
  | some x =>
    cases hs:regM w o.c with
    | none=>exact T
    | some y =>
      simp only
      cases hd:decide ((x.length:Int) + (y.length:Int) > 64)
      ·exact tr_reg T rfl rfl
      ·exact T
 simp only [cond_false]
 cases c4:(o.kind==4)
 rotate_left 1
 ·unfold seal4
  simp only [cond_true]
  cases hx:firstM w o.b with
  | none=>exact T
  | some x =>
    cases hy:firstM w o.c with
    | none=>exact T
    | some y =>
      cases hz:regM w o.d with
      | none=>exact T
      | some z =>
        simp only
        cases hs:((boxSeal w.box (drawW w).2 x y z).2==0)
        ·exact T
        ·exact tr_reg T rfl rfl
 simp only [cond_false]
 cases c5:(o.kind==5)
 rotate_left 1
 ·unfold open5
  simp only [cond_true]
  cases hx:firstM w o.b with
  | none=>exact T
  | some x =>
    cases hy:firstM w o.c with
    | none=>exact T
    | some y =>
      cases hz:firstM w o.d with
      | none=>exact T
      | some z =>
        simp only
        cases hs:boxOpen w.box x y z with
        | none=>exact T
        | some p=>exact tr_reg T rfl rfl
 simp only [cond_false]
 cases c6:(o.kind==6)
 rotate_left 1
 ·unfold corrupt6
  cases hb:(decide (o.b < 1) || decide (o.b≥(w.people.length:Int)))
  ·simp only [Bool.or_eq_false_iff,decide_eq_false_iff_not] at hb
   have hin:o.b.toNat < w.people.length:=by omega
   have hU:U o.b:=⟨by omega,by have:=(right_len hr10).2;omega⟩
   have hnm:({ personW w o.b with corrupt:=true }:Person).name.toNat=o.b.toNat:=nm_T hr10 hU hin
   have hv:=with_set (w:=w) hnm hin
   exact tr_set T hin rfl hv (fun h=>by cases h) rfl rfl
  ·exact T
 simp only [cond_false]
 unfold leak7
 cases (decide (o.b < 0) || decide (o.b≥(w.log.length:Int)))
 ·simp only [cond_false]
  cases hg:w.log[o.b.toNat]? with
  | none=>exact T
  | some e =>
    simp only
    cases (e.kind==2)
    ·exact T
    ·exact tr_reg T rfl rfl
 ·exact T
theorem tr_stepM {L:List Int} {E N:Nat} {w:World} (I:Inv L E w) (hw:w.fit N) (T:Tr w) {o:Op} (hE:nx (stepM w o).1≤E):Tr (stepM w o).1:=by
 unfold stepM at hE ⊢
 cases c0:isAdv o
 rotate_left 1
 ·simp only [c0,cond_true] at hE ⊢;exact tr_advM I.form.right T
 simp only [c0,cond_false] at hE ⊢
 cases c8:(o.kind==8)
 rotate_left 1
 ·simp only [cond_true]
  unfold tick8
  cases ha:(decide (o.a < 0) || decide (o.a≥(w.people.length:Int)))
  rotate_left 1
  ·exact T
  simp only [cond_false]
  cases hb:decide (o.b < 0)
  rotate_left 1
  ·exact T
  simp only [Bool.or_eq_false_iff,decide_eq_false_iff_not] at ha
  have hin:o.a.toNat < w.people.length:=by omega
  have hU:U o.a:=⟨by omega,by have:=(right_len I.form.right).2;omega⟩
  have hnm:({ personW w o.a with clock:=tickM (personW w o.a).clock (capT o.b) }:Person).name.toNat=o.a.toNat:=nm_T I.form.right hU hin
  have hv:=with_set (w:=w) hnm hin
  exact tr_set T hin rfl hv id rfl rfl
 simp only [c8,cond_false] at hE ⊢
 cases c9:(o.kind==9 || o.kind==10)
 rotate_left 1
 ·simp only [cond_true]
  unfold begin9
  cases hb:(nameB o.a && nameB o.b)
  ·exact T
  ·rw [Bool.and_eq_true] at hb
   cases hk:(o.kind==9)
   ·exact tr_startO I T (nameB_U hb.1)
   ·exact tr_startN I T (nameB_U hb.1)
 simp only [c9,cond_false] at hE ⊢
 cases c11:(o.kind==11)
 rotate_left 1
 ·simp only [c11,cond_true] at hE ⊢
  unfold deliver11 at hE ⊢
  cases hi:inNet w o.a
  ·exact T
  ·simp only [hi,cond_true] at hE ⊢
   have hg:=gramAt_ok hw o.a
   exact tr_deliverM (inv_gone I o.a) (gone_fit hw o.a) (tr_reg T rfl rfl) hg.1.1 hg.1.2.2 hE
 simp only [c11,cond_false] at hE ⊢
 cases c12:(o.kind==12)
 rotate_left 1
 ·simp only [cond_true]
  unfold drop12
  cases inNet w o.a
  ·exact T
  ·exact tr_reg T rfl rfl
 simp only [c12,cond_false] at hE ⊢
 cases c13:(o.kind==13)
 rotate_left 1
 ·simp only [cond_true]
  unfold double13
  cases hi:inNet w o.a
  ·exact T
  ·simp only [cond_true]
   cases hd:decide (w.net.room - (w.net.grams.length:Int) < 1)
   ·exact tr_reg T rfl rfl
   ·exact T
 simp only [c13,cond_false] at hE ⊢
 cases c14:(o.kind==14)
 ·exact T
 ·simp only [c14,cond_true] at hE ⊢
  unfold inject14 at hE ⊢
  cases hr:regM w o.a with
  | none=>exact T
  | some l =>
    rw [hr] at hE
    simp only at hE ⊢
    cases hb:nameB o.b
    ·exact T
    ·simp only [hb,cond_true] at hE ⊢
     exact tr_deliverM I hw T (nameB_U hb) (regM_ok hw hr).1.2 hE
theorem new_key {c:Conf} {l:List Int} {n m p:Nat} (hn:n≤6) (h1:1≤p) (h2:p≤n):(getP (newWorld c l n m).people p).key=drawAt l (p - 1):=by
 show (getP (newPeople l 0 n) p).key=_
 rw [np_get l n p h2 hn]
 show (if p=0 then 0 else drawAt l (p - 1))=_
 rw [if_neg (by omega)]
theorem inv_new {c:Conf} (h:May12 c=true) {L:List Int} (hL:∀ x∈L,U x) {n m E:Nat} (h1:c.people=n) (h2:c.regs=m) (hE:n≤E) (hu:∀ i j,i < E→j < E→drawAt L i=drawAt L j→i=j):Inv L E (newWorld c L n m):=by
 obtain ⟨a1,a2,a3,a4,a5,a6,a7,a8⟩:=may_all h
 have hx:nx (newWorld c L n m)=n:=by show ((n:Nat):Int).toNat=n;omega
 have hp:(newWorld c L n m).people.length=n + 1:=newPeople_len L 0 n
 refine ⟨⟨rfl,hL,by rw [hx];exact hE,hu,fun p p1 p2=>new_key (by omega) p1 (by omega),by omega,by omega,?_,?_⟩,new_form h L h1 h2,fun e he=>(by cases he),fun s hs=>(by cases hs),?_,fun l hl=>(by cases hl),fun g hg=>(by cases hg),?_⟩
 ·rintro s hs
  cases s with
  | key p =>
    have p1:=hs.1
    have p2:=hs.2
    exact ⟨p - 1,by omega,new_key (by omega) p1 (by omega)⟩
  | sess e=>cases hs.1
  | num e=>cases hs.1
 ·rintro s t hs ht e
  cases s with
  | key p =>
    cases t with
    | key q =>
      have p1:=hs.1
      have p2:=hs.2
      have q1:=ht.1
      have q2:=ht.2
      have e':(getP (newWorld c L n m).people p).key=(getP (newWorld c L n m).people q).key:=e
      rw [new_key (by omega) p1 (by omega),new_key (by omega) q1 (by omega)] at e'
      have:=hu _ _ (by omega) (by omega) e'
      rw [show p=q by omega]
    | sess e=>cases ht.1
    | num e=>cases ht.1
  | sess e=>cases hs.1
  | num e=>cases hs.1
 ·intro l hl x hx
  have:l=[]:=(List.mem_replicate.1 (show l∈List.replicate m [] from hl)).2
  subst this;cases hx
 ·intro p hp2 r hr
  have hr':r∈(getP (newPeople L 0 n) p).runs:=hr
  rw [np_get L n p (by omega) (by omega)] at hr'
  cases hr'
theorem tr_new {c:Conf} (h:May12 c=true) {L:List Int} {n m:Nat} (h1:c.people=n):Tr (newWorld c L n m):=by
 obtain ⟨a1,a2,_⟩:=may_all h
 refine ⟨fun pre e post hh=>?_,fun p hp r hr=>?_,fun f hf=>by cases hf⟩
 ·have hh':([]:List Event)=pre++e::post:=hh
  simp at hh'
 ·have hp':p < (newPeople L 0 n).length:=hp
  rw [newPeople_len] at hp'
  have hr':r∈(getP (newPeople L 0 n) p).runs:=hr
  rw [np_get L n p (by omega) (by omega)] at hr'
  cases hr'
theorem run_tr:∀ (l:List Op) (w:World) (N:Nat) {L:List Int} {E:Nat},Inv L E w→Tr w→w.fit N→(∀ o∈l,o.ok)→(∀ o∈l,Lit L E o)→64≤N→w.draws.next + 3 * l.length≤1048576→N + 5 * l.length≤400000000000→nx (runM w l).1≤E→Inv L E (runM w l).1∧Tr (runM w l).1
 | [],w,N,L,E,I,T,hw,_,_,_,_,_,_=>⟨I,T⟩
 | o::l,w,N,L,E,I,T,hw,ho,hl,h5,hn,hN,hE=>by
   simp only [List.length_cons] at hn hN
   have h1:=stepM_fit hw h5 (by omega) (ho o (List.mem_cons_self))
   have h2:=stepM_form hw I.form (by omega) o
   have h4:=stepM_next hw I.form o
   obtain ⟨k1,k2,k3,k4⟩:=run_inv l (stepM w o).1 (N + 5) h1 h2 (fun x hx=>ho x (List.mem_cons_of_mem _ hx)) (by omega) (by omega) (by omega)
   have hE1:nx (stepM w o).1≤E:=by
    have e1:nx (runM (stepM w o).1 l).1≤E:=hE
    have e2:=k3.next0
    unfold nx at e1 ⊢
    omega
   have I1:=inv_stepM I hw (hl o List.mem_cons_self) (by omega) hE1
   have T1:=tr_stepM I hw T hE1
   exact run_tr l (stepM w o).1 (N + 5) I1 T1 h1 (fun x hx=>ho x (List.mem_cons_of_mem _ hx)) (fun x hx=>hl x (List.mem_cons_of_mem _ hx)) (by omega) (by omega) (by omega) hE
theorem clean_run {c:Conf} (h:May12 c=true) (hc:c.ok) {L:List Int} (hL:LL U L) (hlen:L.length≤1000) {n m:Nat} (h1:c.people=n) (h2:c.regs=m) {l:List Op} (ho:∀ o∈l,o.ok) (hl:l.length≤300)
 (hu:∀ i j,i < nx (runM (newWorld c L n m) l).1→j < nx (runM (newWorld c L n m) l).1→drawAt L i=drawAt L j→i=j) (hlit:∀ o∈l,Lit L (nx (runM (newWorld c L n m) l).1) o) {i:Nat} :
 Inv L (nx (runM (newWorld c L n m) l).1) (runM (newWorld c L n m) (l.take i)).1∧Tr (runM (newWorld c L n m) (l.take i)).1∧Kept (runM (newWorld c L n m) (l.take i)).1 (runM (newWorld c L n m) l).1:=by
 obtain ⟨a1,a2,_⟩:=may_all h
 have hw:=new_fit h hc hL h1 h2 (N:=1000) (by omega) hlen
 have hf:=new_form h L h1 h2
 have hd:(newWorld c L n m).draws.next=(n:Int):=rfl
 have ht:(l.take i).length + (l.drop i).length=l.length:=by rw [List.length_take,List.length_drop];omega
 obtain ⟨k1,k2,k3,k4⟩:=run_inv (l.take i) _ 1000 hw hf (fun o hx=>ho o (List.mem_of_mem_take hx)) (by omega) (by rw [hd];omega) (by omega)
 obtain ⟨q1,q2,q3,q4⟩:=run_inv (l.drop i) _ _ k1 k2 (fun o hx=>ho o (List.mem_of_mem_drop hx)) (by omega) (by rw [hd] at k4;omega) (by omega)
 have e:(runM (newWorld c L n m) l).1=(runM (runM (newWorld c L n m) (l.take i)).1 (l.drop i)).1:=by
  rw [← List.take_append_drop i l,runM_app]
  simp
 have hk:Kept (runM (newWorld c L n m) (l.take i)).1 (runM (newWorld c L n m) l).1:=by rw [e];exact q3
 have hnx:nx (runM (newWorld c L n m) (l.take i)).1≤nx (runM (newWorld c L n m) l).1:=by
  have:=hk.next0
  unfold nx;omega
 have hn0:n≤nx (runM (newWorld c L n m) l).1:=by
  have h3:=k3.next0
  rw [hd] at h3
  have:n≤nx (runM (newWorld c L n m) (l.take i)).1:=by unfold nx;omega
  omega
 obtain ⟨r1,r2⟩:=run_tr (l.take i) _ 1000 (inv_new h hL.2 h1 h2 hn0 hu) (tr_new h h1) hw (fun o hx=>ho o (List.mem_of_mem_take hx)) (fun o hx=>hlit o (List.mem_of_mem_take hx)) (by omega) (by rw [hd];omega) (by omega) hnx
 exact ⟨r1,r2,hk⟩
theorem hon_iff {w:World} {a:Int}:honest w.people a=true↔hon w a:=by
 simp only [honest,hon,personW,Bool.not_eq_true']
end Ch
