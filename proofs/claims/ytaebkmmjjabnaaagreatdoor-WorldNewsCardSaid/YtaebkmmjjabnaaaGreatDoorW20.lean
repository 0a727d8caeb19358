import Derived.Test.YtaebkmmjjabnaaaGreatDoorW19
set_option maxRecDepth 100000
set_option maxHeartbeats 4000000
set_option linter.unusedSimpArgs false
set_option linter.unusedVariables false
namespace Go.Ab
open Go Go.RowKit
theorem draw_pre {X:Ctx} {all:List Oper} {t:Nat→TrE} {frF:List V} {HF:List AB} {st:List (List V)} {sa:List Act} {Q:Exit→Act→World→Prop} (htopo:topoB all=true) (p:Nat) (hp:p≤all.length) (hbar:∀ i,p≤i→i < all.length → ∀ j,j < p→Anc all i j)
 (hpair:∀ i j,j < i→i < p→Anc all i j∨apartT all t j i=true∨apartI all t j i=true) {ds:List Deferred} (r:Option Nat) (n:Nat) {lsP:Array Bool} (hP:lsP.toList=List.replicate p true++List.replicate (all.length - p) false)
 (hend:∀ a E,E.H=HF→RelE X frF st sa a E→a.defers=ds→wpAnyIn (FR r) 0 X.P .any all.toArray Q n lsP a E.w):∀ (m:Nat) (listed:Array Bool) (L:List Nat) (fr:List V) (a:Act) (E:Env),listed.size=all.length→(∀ k o,all[k]?=some o→listed.getD k false=true → ∀ e∈o.after,Region.binds .any e=true→listed.getD e.on false=true)→L.Pairwise (· < ·)→(∀ k,k∈L↔(k < p∧listed.getD k true=false))→(∀ k,p≤k→listed.getD k false=false) →
   SEQ X.P X.G all t L fr E.H frF HF→RelE X fr st sa a E→a.defers=ds→L.length=m→wpAnyIn (FR r) 0 X.P .any all.toArray Q (m + n) listed a E.w:=by
 intro m
 induction m with
 | zero =>
   intro listed L fr a E hsz hdc hpw hmem hafter hs hR hds hf
   have hL:L=[]:=List.eq_nil_of_length_eq_zero hf
   subst hL
   have hls:listed=lsP:=by
    apply Array.ext'
    rw [hP]
    apply List.ext_getElem?
    intro i
    rw [Array.getElem?_toList]
    rcases Nat.lt_or_ge i p with h|h
    ·rw [List.getElem?_append_left (by simpa using h),List.getElem?_replicate,if_pos h]
     have h2:¬ (i < p∧listed.getD i true=false):=fun hh=>by cases (hmem i).2 hh
     have h3:i < listed.size:=by omega
     have h4:¬ listed.getD i true=false:=fun hh=>h2 ⟨h,hh⟩
     simp only [Array.getD_eq_getD_getElem?,Array.getElem?_eq_getElem h3,Option.getD_some,Bool.not_eq_false] at h4
     rw [Array.getElem?_eq_getElem h3,h4]
    ·rw [List.getElem?_append_right (by simpa using h),List.length_replicate,List.getElem?_replicate]
     have h2:=hafter i h
     rcases Nat.lt_or_ge i all.length with h3|h3
     ·have h4:i < listed.size:=by omega
      simp only [Array.getD_eq_getD_getElem?,Array.getElem?_eq_getElem h4,Option.getD_some] at h2
      rw [if_pos (by omega),Array.getElem?_eq_getElem h4,h2]
     ·rw [if_neg (by omega),Array.getElem?_eq_none (by omega)]
   subst hls
   generalize hH:E.H=H at hs
   cases hs
   rw [Nat.zero_add]
   exact hend a E hH hR hds
 | succ fuel ih =>
   intro listed L fr a E hsz hdc hpw hmem hafter hs hR hds hf
   have hanc:∀ a b,Anc all a b→listed.getD a false=true→listed.getD b false=true:=by
    intro a b hab
    induction hab with
    | base ho1 e he hb=>exact fun hl=>hdc _ _ ho1 hl e he hb
    | step ho1 e he hb _ ih=>exact fun hl=>ih (hdc _ _ ho1 hl e he hb)
   have hgd:∀ k,k < all.length→listed.getD k false=listed.getD k true:=fun k hk=>by
    have:k < listed.size:=by omega
    simp only [Array.getD_eq_getD_getElem?,Array.getElem?_eq_getElem this,Option.getD_some]
   have hin:∀ i∈Region.ready .any all.toArray listed,i < p:=by
    intro i hi
    rw [mem_ready] at hi
    obtain ⟨hu,o,ho,hall⟩:=hi
    have hil:i < all.length:=by have:=(Array.getElem?_eq_some_iff.1 ho).1;simpa using this
    have ho':all[i]?=some o:=by simpa using ho
    rcases Nat.lt_or_ge i p with h|h
    ·exact h
    ·exfalso
     obtain ⟨k,hk⟩:∃ k,k∈L:=by
      cases L with
      | nil=>cases hf
      | cons k L=>exact ⟨k,by simp⟩
     obtain ⟨hk1,hk2⟩:=(hmem k).1 hk
     have h1:listed.getD k false=true:=by
      cases hbar i h hil k hk1 with
      | base ho1 e he hb =>
        rw [ho'] at ho1;injection ho1 with ho1;subst ho1
        exact hall e he hb
      | step ho1 e he hb hab =>
        rw [ho'] at ho1;injection ho1 with ho1;subst ho1
        exact hanc _ _ hab (hall e he hb)
     rw [hgd k (by omega),hk2] at h1
     cases h1
   have hsome:Region.ready .any all.toArray listed≠[]:=by
    intro hr
    have hno:∀ m,m < all.length→listed.getD m true=false→m < p→False:=by
     intro m
     induction m using Nat.strongRecOn with
     | _ m ihm =>
       intro hm hu hmp
       have:m∈Region.ready .any all.toArray listed:=by
        rw [mem_ready]
        refine ⟨hu,all[m],by simp [hm],fun e he hb=>?_⟩
        have hlt:=topo_spec htopo (List.getElem?_eq_getElem hm) e he hb
        cases hq:listed.getD e.on false with
        | true=>rfl
        | false =>
          exfalso
          refine ihm e.on hlt (by omega) ?_ (by omega)
          rw [← hgd _ (by omega)];exact hq
       rw [hr] at this;cases this
    cases L with
    | nil=>cases hf
    | cons k L=>have:=(hmem k).1 (by simp);exact hno k (by omega) this.2 this.1
   rw [show fuel + 1 + n=(fuel + n) + 1 by omega]
   refine ⟨fun hr=>absurd hr hsome,fun i hi=>?_⟩
   have hip:=hin i hi
   have hi':=hi
   rw [mem_ready] at hi'
   obtain ⟨hu,o,ho,hall⟩:=hi'
   have hil:i < all.length:=by have:=(Array.getElem?_eq_some_iff.1 ho).1;simpa using this
   have hiL:i∈L:=(hmem i).2 ⟨hip,hu⟩
   obtain ⟨L1,L2,rfl⟩:=List.append_of_mem hiL
   have ho':all[i]?=some o:=by simpa using ho
   have hlt:∀ j∈L1,j < i:=fun j hj=>(List.pairwise_append.1 hpw).2.2 j hj i (by simp)
   have hfront:=SEQ.front hs fun j hj=>by
    rcases hpair i j (hlt j hj) hip with h|h
    ·exfalso
     have h1:listed.getD j false=true:=by
      cases h with
      | base ho1 e he hb =>
        rw [ho'] at ho1;injection ho1 with ho1;subst ho1
        exact hall e he hb
      | step ho1 e he hb hab =>
        rw [ho'] at ho1;injection ho1 with ho1;subst ho1
        exact hanc _ _ hab (hall e he hb)
     have h2:=((hmem j).1 (by simp [hj])).2
     have hl:j < listed.size:=by have:=((hmem j).1 (by simp [hj])).1;omega
     simp only [Array.getD_eq_getD_getElem?,Array.getElem?_eq_getElem hl,Option.getD_some] at h1 h2
     rw [h1] at h2;cases h2
    ·exact h
   have hpw':(L1++L2).Pairwise (· < ·):=hpw.sublist (List.Sublist.append (List.Sublist.refl _) (List.sublist_cons_self _ _))
   have hmem':∀ k,k∈L1++L2↔(k < p∧(listed.setIfInBounds i true).getD k true=false):=by
    intro k
    by_cases hk:k=i
    ·subst hk
     constructor
     ·intro hm
      exfalso
      rcases List.mem_append.1 hm with hm|hm
      ·exact Nat.lt_irrefl _ (hlt _ hm)
      ·have:=(List.pairwise_cons.1 (List.pairwise_append.1 hpw).2.1).1 _ hm;omega
     ·rintro ⟨_,h⟩
      simp [show k < listed.size by omega] at h
    ·rw [getD_set_ne true (Ne.symm hk),← hmem k]
     simp [hk]
   have hdc':∀ k o,all[k]?=some o→(listed.setIfInBounds i true).getD k false=true → ∀ e∈o.after,Region.binds .any e=true→(listed.setIfInBounds i true).getD e.on false=true:=by
    intro k o1 hk hl e he hb
    by_cases hek:e.on=i
    ·subst hek;simp [show e.on < listed.size by omega]
    ·rw [getD_set_ne false (Ne.symm hek)]
     by_cases hki:k=i
     ·subst hki
      rw [ho'] at hk;injection hk with hk;subst hk
      exact hall e he hb
     ·rw [getD_set_ne false (Ne.symm hki)] at hl
      exact hdc k o1 hk hl e he hb
   have hlen:(L1++L2).length=fuel:=by simp only [List.length_append,List.length_cons] at hf ⊢;omega
   have hafter':∀ k,p≤k→(listed.setIfInBounds i true).getD k false=false:=fun k hk=>by
    rw [getD_set_ne false (by omega)];exact hafter k hk
   generalize hH:E.H=H at hfront
   cases hfront with
   | @run _ _ o2 _ _ _ _ v u ho2 hg hst hr hw hn rest =>
     rw [ho'] at ho2;injection ho2 with ho2;subst ho2
     subst hH
     refine ST.sound ho' hR hg hst.1 (fun b hb=>(hn b hb).1) (fun b hb p hp=>by rw [(hn b hb).2.2] at hp;cases hp) r fun a' E' hH' hR' hd'=>?_
     ·exact ih _ (L1++L2) _ a' E' (by simp [hsz]) hdc' hpw' hmem' hafter' (by rw [hH'];exact rest) hR' (hd'.trans hds) hlen
   | @skip _ _ o2 _ _ _ _ ho2 hg rest =>
     rw [ho'] at ho2;injection ho2 with ho2;subst ho2
     subst hH
     unfold Go.wpOpIn
     rw [ho]
     simp only
     rw [if_neg (by rw [guardV_sound (X:=X) hR.fr hg];simp)]
     have:=ih (listed.setIfInBounds i true) (L1++L2) _ (a.put o.dst undef) E (by simp [hsz]) hdc' hpw' hmem' hafter' rest (hR.put (Env.le.refl E) hR.ok (Rep.undef E) o.dst) ((put_defers _ _ _).trans hds) hlen
     exact ⟨fun _ _=>trivial,this⟩
def barB (all:List Oper) (p:Nat):Bool:=(List.range all.length).all fun i=>decide (i < p) || (List.range p).all fun j=>((ancs all []).getD i 0).testBit j
theorem RUN_anyP {X:Ctx} {all:List Oper} {k:List It} {n p:Nat} {fr frF:List V} {st:List (List V)} {H HF:List AB} (m:Nat) {t:List TrE} {lsP:Array Bool} (hP:lsP.toList=List.replicate p true++List.replicate (all.length - p) false) (hp:p≤all.length) (hok:drawOK all t=true) (hbar:barB all p=true)
 (hs:SEQ X.P X.G all (fun k=>t.getD k ⟨[],[],0,[]⟩) (List.range' 0 p) fr (H++List.replicate m .hole) frF HF) (h:RUN X ⟨.inv (AJ X all k n lsP)::k,frF,st,HF⟩):RUN X ⟨.inv (AJ X all k (p + n) (Array.replicate all.length false))::k,fr,st,H⟩:=by
 intro sa a E hH hR hD
 simp only at hH hR;subst hH
 simp only [DF] at hD
 simp only [post]
 refine ⟨?_,by simpa only [DF] using hD⟩
 unfold drawOK at hok
 rw [Bool.and_eq_true] at hok
 obtain ⟨g1,g2⟩:=hR.ok.holes m
 have hR':RelE X fr st sa a { E with H:=E.H++List.replicate m .hole }:=⟨g1,RepL.mono _ g2 hR.fr,hR.st.mono g2⟩
 have hA:∀ i j,(((ancs all []).getD i 0).testBit j)=true→Anc all i j:=ancs_sound all all [] (by simp) (by simp) (fun i j h=>by simp at h)
 have hg:∀ (i:Nat) (d:Bool),i < all.length→(Array.replicate all.length false).getD i d=false:=fun i d hi=>by
  rw [Array.getD_eq_getD_getElem?,Array.getElem?_eq_getElem (by simpa using hi)];simp
 have hg2:∀ (i:Nat),(Array.replicate all.length false).getD i false=false:=fun i=>by
  rw [Array.getD_eq_getD_getElem?]
  rcases Nat.lt_or_ge i all.length with hi|hi
  ·rw [Array.getElem?_eq_getElem (by simpa using hi)];simp
  ·rw [Array.getElem?_eq_none (by simpa using hi)];rfl
 have hl:(List.range' 0 p).length=p:=by simp
 refine draw_pre (st:=st) (sa:=sa) hok.1 p hp (fun i hi hil j hj=>?_) (fun i j hji hi=>?_) (rd k) n hP (ds:=a.defers) (fun a' E' hH' hR' hd'=>?_) p (Array.replicate all.length false) (List.range' 0 p) fr a { E with H:=E.H++List.replicate m .hole } (by simp) ?_ ?_ ?_ ?_ hs hR' rfl hl
 ·have:=(List.all_eq_true.1 hbar) i (List.mem_range.2 hil)
  rw [Bool.or_eq_true] at this
  rcases this with this|this
  ·have:=of_decide_eq_true this;omega
  ·exact hA i j ((List.all_eq_true.1 this) j (List.mem_range.2 hj))
 ·have:=(List.all_eq_true.1 hok.2) i (List.mem_range.2 (by omega))
  have:=(List.all_eq_true.1 this) j (List.mem_range.2 hji)
  simp only [Bool.or_eq_true] at this
  rcases this with this|this
  ·exact .inl (hA i j this)
  ·exact .inr this
 ·have:=h sa a' E' hH' hR' (by simp only [DF];rw [hd'];exact hD)
  simp only [post] at this
  exact this.1
 ·intro k o ho hl2
  rw [hg2] at hl2;cases hl2
 ·exact List.pairwise_lt_range'
 ·intro i
  rw [List.mem_range'_1]
  constructor
  ·rintro ⟨h1,h2⟩
   exact ⟨by omega,hg i _ (by omega)⟩
  ·rintro ⟨h1,h2⟩
   omega
 ·intro i _
  exact hg2 i
section
variable {P:Program} {G:Glob} {w0:World} {M0:Nat→Nat→Prop} {R:Value→World→Prop} {all:List Oper} {k:List It} {st:List (List V)}
theorem DRP_pre:∀ (l:List Oper) (d:DM) (fr:List V) (H:List AB),(∃ q,all.drop d.tr.length=l++q)→DRP P G w0 M0 R all k st l d fr H →
 ∃ t frF HF,SEQ P G all (fun j=>(d.tr++t).getD j ⟨[],[],0,[]⟩) (List.range' d.tr.length l.length) fr H frF HF∧drawOK all (d.tr++t)=true∧RUNs P G w0 M0 R ⟨k,frF,st,HF⟩
 | [],d,fr,H,hl,h=>by
   simp only [DRP] at h
   exact ⟨[],fr,H,.nil _ _,by simpa using h.1,h.2⟩
 | o::l,d,fr,H,hl,h=>by
   have ho:all[d.tr.length]?=some o:=by
    obtain ⟨q,hl⟩:=hl
    have:=congrArg (fun l=>l[0]?) hl
    simpa [List.getElem?_drop] using this
   have hl':∀ (e:TrE) (nid:Nat),∃ q,all.drop (⟨nid,d.tr++[e]⟩:DM).tr.length=l++q:=by
    intro e nid
    obtain ⟨q,hl⟩:=hl
    refine ⟨q,?_⟩
    have:=congrArg List.tail hl
    simpa [List.tail_drop] using this
   have hget:∀ (e:TrE) (t:List TrE),((d.tr++[e])++t).getD d.tr.length ⟨[],[],0,[]⟩=e:=by
    intro e t
    simp [List.getD_eq_getElem?_getD]
   have hap:∀ (e:TrE) (t:List TrE),(d.tr++[e])++t=d.tr++(e::t):=by intro e t;simp
   have hlen:∀ (e:TrE),(d.tr++[e]).length=d.tr.length + 1:=by intro e;simp
   simp only [DRP] at h
   split at h
   ·exact h.elim
   ·rename_i hg
    obtain ⟨t,frF,HF,h1,h2,h3⟩:=DRP_pre l _ _ _ (hl' _ _) h
    refine ⟨_::t,frF,HF,?_,by rw [← hap];exact h2,h3⟩
    simp only [List.length_cons,List.range'_succ]
    refine .skip ho hg ?_
    simp only [hlen,hap] at h1
    exact h1
   ·rename_i hg
    split at h
    ·rename_i v s he
     obtain ⟨t,frF,HF,h1,h2,h3⟩:=DRP_pre l _ _ _ (hl' _ _) h
     refine ⟨_::t,frF,HF,?_,by rw [← hap];exact h2,h3⟩
     simp only [List.length_cons,List.range'_succ]
     simp only [hlen] at h1
     rw [← hap]
     refine .run (v:=v) (u:=⟨s,none⟩) ho hg ⟨.inl (by rw [hget];exact he),fun p hp=>by rw [hget] at hp;exact hp⟩ (fun b hb=>by rw [hget];exact hb) (fun p hp=>?_) (fun b hb=>by cases hb) ?_
     ·rw [hget]
      simp only [updS,newS,List.append_nil] at hp
      exact List.mem_map.2 ⟨p,hp,rfl⟩
     ·simpa only [updS,newS,List.append_nil] using h1
    ·rename_i v b he
     obtain ⟨hh,h⟩:=h
     obtain ⟨t,frF,HF,h1,h2,h3⟩:=DRP_pre l _ _ _ (hl' _ _) h
     refine ⟨_::t,frF,HF,?_,by rw [← hap];exact h2,h3⟩
     simp only [List.length_cons,List.range'_succ]
     simp only [hlen] at h1
     rw [← hap]
     have hhole:H[d.nid]?=some .hole:=by
      rcases getH_cases H d.nid with hq|⟨_,hq⟩
      ·rw [hq]
       cases hz:getH H d.nid<;>rw [hz] at hh<;>first|rfl|cases hh
      ·rw [hq] at hh;cases hh
     refine .run (v:=v) (u:=⟨[],some b⟩) ho hg ⟨.inl (by rw [hget];exact he),fun p hp=>by rw [hget] at hp;cases hp⟩ (fun b hb=>by rw [hget];exact hb) (fun p hp=>?_) (fun b' hb=>⟨by rw [hget];exact hhole,by rw [hget];simp,rfl⟩) ?_
     ·rw [hget] at hp ⊢
      simp only [updS,newS,List.nil_append,List.mem_singleton] at hp
      subst hp;simp
     ·rw [hget]
      exact h1
    ·exact h.elim
    ·rename_i he
     split at h
     ·rename_i c hc
      split at h
      ·rename_i f hf
       obtain ⟨n,first,cap,args',r,g1,g2,g3,g4,h⟩:=h
       obtain ⟨t,frF,HF,h1,h2,h3⟩:=DRP_pre l _ _ _ (hl' _ _) h
       refine ⟨_::t,frF,HF,?_,by rw [← hap];exact h2,h3⟩
       simp only [List.length_cons,List.range'_succ]
       simp only [hlen] at h1
       rw [← hap]
       refine .run (v:=r) (u:=.no) ho hg ⟨.inr ⟨c,f,n,first,cap,args',hc,hf,g1,g2,g3,g4,rfl⟩,fun p hp=>by rw [hget] at hp;cases hp⟩ (fun b hb=>by rw [hget];exact hb) (fun p hp=>?_) (fun b hb=>by cases hb) ?_
       ·simp [updS,Upd.no,newS] at hp
       ·simpa only [updS,newS,Upd.no,List.append_nil,setH_nil] using h1
      ·exact h.elim
     ·exact h.elim
theorem RUNs_anyP (p m n:Nat) {id:Nat} {fr:List V} {H:List AB} (hn:all.length=p + n:=by rfl) (hm:P.follows .mixedOrders=true:=by kernel_rfl) (hbar:barB all p=true:=by kernel_rfl)
 (h:DRP P G w0 M0 R all (.inv (ANY P G w0 M0 R all k n (List.replicate p true++List.replicate n false).toArray)::k) st (all.take p) ⟨H.length,[]⟩ fr (H++List.replicate m .hole)):RUNs P G w0 M0 R ⟨.code (.region id all.toArray true)::k,fr,st,H⟩:=by
 have hle:p≤all.length:=by omega
 obtain ⟨t,frF,HF,h1,h2,h3⟩:=DRP_pre (all.take p) ⟨H.length,[]⟩ _ _ ⟨all.drop p,by simp⟩ h
 have hl:(all.take p).length=p:=by rw [List.length_take];omega
 rw [hl] at h1
 have h4:RUN ⟨P,G,w0,M0,R⟩ ⟨.inv (AJ ⟨P,G,w0,M0,R⟩ all k (p + n) (Array.replicate all.length false))::k,fr,st,H⟩ :=
  RUN_anyP m (lsP:=(List.replicate p true++List.replicate n false).toArray) (by rw [show all.length - p=n by omega]) hle (by simpa using h2) hbar (by simpa using h1) (RUN_of_RUNs h3)
 rw [← hn] at h4
 exact RUNs_stop (by rfl) (RUN_any (X:=⟨P,G,w0,M0,R⟩) hm h4)
end
end Go.Ab
namespace Ch
open Go Go.Ab Go.Proofs.Tryz
theorem adv_0 {w:World} {a b c d:Int} {ws:List Int} (h:(regM w a).isSome=true):advM w ⟨0,a,b,c,d,ws⟩=lit0 w ⟨0,a,b,c,d,ws⟩:=by simp only [advM,isAdv,h];rfl
theorem adv_1 {w:World} {a b c d:Int} {ws:List Int} (h:(regM w a).isSome=true):advM w ⟨1,a,b,c,d,ws⟩=seen1 w ⟨1,a,b,c,d,ws⟩:=by simp only [advM,isAdv,h];rfl
theorem adv_2 {w:World} {a b c d:Int} {ws:List Int} (h:(regM w a).isSome=true):advM w ⟨2,a,b,c,d,ws⟩=cut2 w ⟨2,a,b,c,d,ws⟩:=by simp only [advM,isAdv,h];rfl
theorem adv_3 {w:World} {a b c d:Int} {ws:List Int} (h:(regM w a).isSome=true):advM w ⟨3,a,b,c,d,ws⟩=cat3 w ⟨3,a,b,c,d,ws⟩:=by simp only [advM,isAdv,h];rfl
theorem adv_4 {w:World} {a b c d:Int} {ws:List Int} (h:(regM w a).isSome=true):advM w ⟨4,a,b,c,d,ws⟩=seal4 w ⟨4,a,b,c,d,ws⟩:=by simp only [advM,isAdv,h];rfl
theorem adv_5 {w:World} {a b c d:Int} {ws:List Int} (h:(regM w a).isSome=true):advM w ⟨5,a,b,c,d,ws⟩=open5 w ⟨5,a,b,c,d,ws⟩:=by simp only [advM,isAdv,h];rfl
theorem adv_6 {w:World} {a b c d:Int} {ws:List Int} (h:(regM w a).isSome=true):advM w ⟨6,a,b,c,d,ws⟩=corrupt6 w ⟨6,a,b,c,d,ws⟩:=by simp only [advM,isAdv,h];rfl
theorem adv_7 {w:World} {a b c d:Int} {ws:List Int} (h:(regM w a).isSome=true):advM w ⟨7,a,b,c,d,ws⟩=leak7 w ⟨7,a,b,c,d,ws⟩:=by simp only [advM,isAdv,h];rfl
end Ch
namespace Go.Ab
open Go Go.RowKit
def fnTy (P:Program) (t:TypeId):Bool:=match P.underlying t with
 | some (.func ..)=>true
 | _=>false
theorem RUN_ifcF {X:Ctx} {t:TypeId} {x:Operand} {dst:Option Tmp} {ty:TypeId} {p:String} {af:Array Edge} {all l:List Oper} {k:List It} {fr:List V} {st:List (List V)} {H:List AB} (ht:fnTy X.P t=true)
 (h:RUN X ⟨.ops all l::k,putV fr dst (.iface t (evalO X.G fr x)),st,H⟩):RUN X ⟨.ops all (⟨dst,.makeInterface t x,ty,p,af,none⟩::l)::k,fr,st,H⟩:=by
 intro sa a E hH hR hD
 simp only at hH hR;subst hH
 simp only [DF] at hD
 simp only [post]
 have hC:Comes X.P X.G X.w0 X.M0 E a (⟨dst,.makeInterface t x,ty,p,af,none⟩:Oper) (.iface t (evalO X.G fr x)) E.H:=by
  refine Comes.pure hR.ok (x:=.iface t (a.eval x)) ?_ ?_
  ·unfold fnTy at ht
   split at ht
   ·rename_i g2
    simp [execOp,Instr.makeInterface,run_underlying g2]
   ·cases ht
  ·simp only [Rep];exact ⟨_,rfl,evalO_sound hR.ok hR.fr x⟩
 obtain ⟨x',E',h1,h2,h3,h4,h5⟩:=hC
 have hn:=h sa (a.put dst x') E' h2 (hR.put h3 h4 h5 dst) (by simpa only [DF,put_defers] using hD)
 unfold wpListIn
 rw [if_pos (by simp [Region.wanted])]
 refine ⟨fun _ _=>trivial,?_⟩
 rw [Oper.semAt_eq _ _ _ (by intro c hc;cases hc)]
 rcases h1 with h1|⟨h1,rfl⟩<;>rw [h1]
 ·exact hn
 ·exact hn
section
variable {P:Program} {G:Glob} {w0:World} {M0:Nat→Nat→Prop} {R:Value→World→Prop}
theorem OPV_ifcF {t:TypeId} {x:Operand} {v0:Option V} {dst:Option Tmp} {ty:TypeId} {p:String} {af:Array Edge} {all l:List Oper} {k:List It} {fr:List V} {st:List (List V)} {H:List AB} (ht:fnTy P t=true) (hT:ifcT P t=false) (hs:step P G ⟨.ops all (⟨dst,.makeInterface t x,ty,p,af,none⟩::l)::k,fr,st,H⟩=none)
 (h:RUNs P G w0 M0 R ⟨.ops all l::k,putV fr dst (.iface t (evalO G fr x)),st,H⟩):OPV P G w0 M0 R ⟨.ops all (⟨dst,.makeInterface t x,ty,p,af,none⟩::l)::k,fr,st,H⟩ (bif ifcT P t then v0 else none) dst all l k fr st H:=by
 rw [hT]
 exact RUNs_stop hs (RUN_ifcF (X:=⟨P,G,w0,M0,R⟩) ht (RUN_of_RUNs h))
end
end Go.Ab
namespace Ch
open Go Go.Ab Go.Proofs.Tryz
theorem once {g:Prop} (Q:Prop) (h:Q→g) (q:Q):g:=h q
theorem reg_cases (w:World) (i:Int):(decide (i < 0)=true∧regM w i=none)∨(decide (i < 0)=false∧decide (i≥(w.regs.length:Int))=true∧regM w i=none) ∨ ∃ n:Nat,i=n ∧ ∃ h:n < w.regs.length,decide ((n:Int) < 0)=false∧decide ((n:Int)≥(w.regs.length:Int))=false∧regM w (n:Int)=some w.regs[n]∧(w.regs.map wordsV)[n]?=some (V.sl (w.regs[n].map u32) .plain):=by
 cases c1:decide (i < 0) with
 | true=>exact .inl ⟨rfl,regM_none (by rw [c1];rfl)⟩
 | false =>
 cases c2:decide (i≥(w.regs.length:Int)) with
 | true=>exact .inr (.inl ⟨rfl,rfl,regM_none (by rw [c1,c2];rfl)⟩)
 | false =>
   obtain ⟨i,rfl⟩:=Int.eq_ofNat_of_zero_le (show 0≤i by have:=of_decide_eq_false c1;omega)
   have hlt:i < w.regs.length:=by have:=of_decide_eq_false c2;omega
   exact .inr (.inr ⟨i,rfl,hlt,c1,c2,regM_at hlt,getMap wordsV w.regs hlt⟩)
theorem first_cases (w:World) (i:Int):(decide (i < 0)=true∧firstM w i=none)∨(decide (i < 0)=false∧decide (i≥(w.regs.length:Int))=true∧firstM w i=none) ∨
 (∃ n:Nat,i=n ∧ ∃ h:n < w.regs.length,decide ((n:Int) < 0)=false∧decide ((n:Int)≥(w.regs.length:Int))=false∧firstM w (n:Int)=none∧(w.regs.map wordsV)[n]?=some (V.sl (([]:List Int).map u32) .plain)) ∨
 ∃ (n:Nat) (x:Int) (l:List Int),i=n ∧ ∃ h:n < w.regs.length,decide ((n:Int) < 0)=false∧decide ((n:Int)≥(w.regs.length:Int))=false∧firstM w (n:Int)=some x∧(w.regs.map wordsV)[n]?=some (V.sl ((x::l).map u32) .plain):=by
 rcases reg_cases w i with ⟨h1,h2⟩|⟨h1,h2,h3⟩|⟨n,rfl,hn,h1,h2,h3,h4⟩
 ·exact .inl ⟨h1,by unfold firstM;rw [h2]⟩
 ·exact .inr (.inl ⟨h1,h2,by unfold firstM;rw [h3]⟩)
 ·cases hl:w.regs[n] with
  | nil=>rw [hl] at h3 h4;exact .inr (.inr (.inl ⟨n,rfl,hn,h1,h2,by unfold firstM;rw [h3],h4⟩))
  | cons x l=>rw [hl] at h3 h4;exact .inr (.inr (.inr ⟨n,x,l,rfl,hn,h1,h2,by unfold firstM;rw [h3],h4⟩))
theorem notAdv {k a b c d:Int} {ws:List Int} (h:isAdv ⟨k,a,b,c,d,ws⟩=false):∀ n:Int,0≤n→n≤7→(k==n)=false:=fun n h0 h7=>by
 rw [beq_eq_false_iff_ne]
 rintro rfl
 unfold isAdv at h
 rw [decide_eq_true h0,decide_eq_true h7] at h
 cases h
theorem isAdv8 {k a b c d:Int} {ws:List Int} (h:isAdv ⟨k,a,b,c,d,ws⟩=true):k=0∨k=1∨k=2∨k=3∨k=4∨k=5∨k=6∨k=7:=by
 unfold isAdv at h
 rw [Bool.and_eq_true,decide_eq_true_eq,decide_eq_true_eq] at h
 obtain ⟨h1,h2⟩:=h
 simp only at h1 h2
 omega
theorem advIs_spec (o:Op):Spec PP GG 67 [o.v] (.bool (isAdv o)) []:=by
 obtain ⟨k,a,b,c,d,ws⟩:=o
 cases h:isAdv ⟨k,a,b,c,d,ws⟩ with
 | false =>
   have q:=notAdv h
   have q0:=q 0 (by decide) (by decide)
   have q1:=q 1 (by decide) (by decide)
   have q2:=q 2 (by decide) (by decide)
   have q3:=q 3 (by decide) (by decide)
   have q4:=q 4 (by decide) (by decide)
   have q5:=q 5 (by decide) (by decide)
   have q6:=q 6 (by decide) (by decide)
   have q7:=q 7 (by decide) (by decide)
   refine Qs func67 ?_
   intro w0 M0
   simp only [f67,lf,z,seval]
   (refine Qa 9 ?_)
   repeat' (first|(refine Qk ?_)|(refine QD 4 0 ?_)|(refine Qi 0 1 ?_ ?_)|(refine Qi 0 2 ?_ ?_)|(refine Qj 0 ?_)|(refine Qj 1 ?_)|(refine Qj 2 ?_)|(refine Qj 3 ?_)|(refine qc func112 ?_;simp only [f112,lf,z,seval])|(simp only [q0,q1,q2,q3,q4,q5,q6,q7,z,seval]))
   all_goals (refine Qf ?_;simp only [z,seval])
 | true =>
   rcases isAdv8 h with rfl|rfl|rfl|rfl|rfl|rfl|rfl|rfl
   all_goals
    refine Qs func67 ?_
    intro w0 M0
    simp only [f67,lf,z,seval]
    (refine Qa 9 ?_)
    repeat' (first|(refine Qk ?_)|(refine QD 4 0 ?_)|(refine Qi 0 1 ?_ ?_)|(refine Qi 0 2 ?_ ?_)|(refine Qj 0 ?_)|(refine Qj 1 ?_)|(refine Qj 2 ?_)|(refine Qj 3 ?_)|(refine qc func112 ?_;simp only [f112,lf,z,seval])|(simp only [z,seval]))
    all_goals (refine Qf ?_;simp only [z,seval])
theorem advDo_0 (w:World) {N:Nat} (hw:w.fit N) (h5:64≤N) (hN:N≤400000000000) (hbr:0≤w.box.room∧w.box.room≤1099511627776) (a:Nat) (hpl:w.people.length≤1000) (hA:a < w.regs.length) (b c d:Int) (ws:List Int):Spec PP GG 68 [w.v,Op.v ⟨0,a,b,c,d,ws⟩] (.tup [(lit0 w ⟨0,a,b,c,d,ws⟩).1.v,i64 (lit0 w ⟨0,a,b,c,d,ws⟩).2]) []:=by
 have hq:=hw.regs
 have a1:decide ((a:Int) < 0)=false:=decide_eq_false (by omega)
 have a2:decide ((a:Int)≥(w.regs.length:Int))=false:=decide_eq_false (by omega)
 have gA:=getMap wordsV w.regs hA
 simp only [mv] at gA
 have hCl:=CloneR_spec w.regs (by omega)
 have hset:∀ l:List Int,(w.regs.map wordsV).set a (wordsV l)=(w.regs.set a l).map wordsV:=fun l=>by rw [List.map_set]
 unfold lit0
 cases c3:decide ((ws.length:Int) > 64) with
 | true =>
   refine Qs func68 ?_
   intro w0 M0
   simp only [f68,lf,z,seval]
   apply once
   ·intro key
    (refine Qa 9 ?_)
    repeat' (first|(refine Qk ?_)|(refine QD 4 0 ?_)|(refine Qi 0 1 ?_ ?_)|(refine Qi 0 2 ?_ ?_)|(refine Qj 0 ?_)|(refine Qj 1 ?_)|(refine Qj 2 ?_)|(refine Qj 3 ?_)|(refine qc func112 ?_;simp only [f112,lf,z,seval])|(simp only [z,seval]))
    all_goals exact key
   ·(refine qc func113 ?_;simp only [f113,lf,z,seval])
    simp only [a1,a2,gA,z,seval]
    (refine qc func170 ?_;simp only [f170,lf,z,seval])
    simp only [c3,z,seval]
    (refine Qf ?_;simp only [z,seval])
    try rfl
 | false =>
   have hW:=CloneW_fz ws (by have:=of_decide_eq_false c3;omega)
   have hset:=hset (ws)
   simp only [mv,List.map_append,List.map_cons,List.map_nil] at hset
   refine Qs func68 ?_
   intro w0 M0
   simp only [f68,lf,z,seval]
   apply once
   ·intro key
    (refine Qa 9 ?_)
    repeat' (first|(refine Qk ?_)|(refine QD 4 0 ?_)|(refine Qi 0 1 ?_ ?_)|(refine Qi 0 2 ?_ ?_)|(refine Qj 0 ?_)|(refine Qj 1 ?_)|(refine Qj 2 ?_)|(refine Qj 3 ?_)|(refine qc func112 ?_;simp only [f112,lf,z,seval])|(simp only [z,seval]))
    all_goals exact key
   ·(refine qc func113 ?_;simp only [f113,lf,z,seval])
    simp only [a1,a2,gA,z,seval]
    (refine qc func170 ?_;simp only [f170,lf,z,seval])
    simp only [c3,z,seval]
    (refine CU hW (h:=?_);simp only [z,seval])
    (refine CH (hCl) (h:=?_);simp only [z,seval])
    (refine Qw 0 ?_;simp only [z,seval])
    simp only [hA,gA,if_true,z,seval]
    (refine ⟨by kernel_rfl,?_⟩)
    simp only [hset,z,seval]
    (refine Qf ?_;simp only [z,seval])
    simp only [setReg,Int.toNat_natCast]
    try rfl
theorem advDo_1 (w:World) {N:Nat} (hw:w.fit N) (h5:64≤N) (hN:N≤400000000000) (hbr:0≤w.box.room∧w.box.room≤1099511627776) (a:Nat) (hpl:w.people.length≤1000) (hA:a < w.regs.length) (b c d:Int) (ws:List Int):Spec PP GG 68 [w.v,Op.v ⟨1,a,b,c,d,ws⟩] (.tup [(seen1 w ⟨1,a,b,c,d,ws⟩).1.v,i64 (seen1 w ⟨1,a,b,c,d,ws⟩).2]) []:=by
 have hq:=hw.regs
 have a1:decide ((a:Int) < 0)=false:=decide_eq_false (by omega)
 have a2:decide ((a:Int)≥(w.regs.length:Int))=false:=decide_eq_false (by omega)
 have gA:=getMap wordsV w.regs hA
 simp only [mv] at gA
 have hCl:=CloneR_spec w.regs (by omega)
 have hset:∀ l:List Int,(w.regs.map wordsV).set a (wordsV l)=(w.regs.set a l).map wordsV:=fun l=>by rw [List.map_set]
 unfold seen1
 cases b1:decide (b < 0) with
 | true =>
   refine Qs func68 ?_
   intro w0 M0
   simp only [f68,lf,z,seval]
   apply once
   ·intro key
    (refine Qa 9 ?_)
    repeat' (first|(refine Qk ?_)|(refine QD 4 0 ?_)|(refine Qi 0 1 ?_ ?_)|(refine Qi 0 2 ?_ ?_)|(refine Qj 0 ?_)|(refine Qj 1 ?_)|(refine Qj 2 ?_)|(refine Qj 3 ?_)|(refine qc func112 ?_;simp only [f112,lf,z,seval])|(simp only [z,seval]))
    all_goals exact key
   ·(refine qc func113 ?_;simp only [f113,lf,z,seval])
    simp only [a1,a2,gA,z,seval]
    (refine qc func171 ?_;simp only [f171,lf,z,seval])
    (refine Qw 0 ?_;simp only [z,seval])
    simp only [b1,z,seval]
    (refine ⟨by kernel_rfl,?_⟩)
    try simp only [z,seval]
    (refine Qf ?_;simp only [z,seval])
    try rfl
 | false =>
 cases b2:decide (b≥(w.net.seen.length:Int)) with
 | true =>
   refine Qs func68 ?_
   intro w0 M0
   simp only [f68,lf,z,seval]
   apply once
   ·intro key
    (refine Qa 9 ?_)
    repeat' (first|(refine Qk ?_)|(refine QD 4 0 ?_)|(refine Qi 0 1 ?_ ?_)|(refine Qi 0 2 ?_ ?_)|(refine Qj 0 ?_)|(refine Qj 1 ?_)|(refine Qj 2 ?_)|(refine Qj 3 ?_)|(refine qc func112 ?_;simp only [f112,lf,z,seval])|(simp only [z,seval]))
    all_goals exact key
   ·(refine qc func113 ?_;simp only [f113,lf,z,seval])
    simp only [a1,a2,gA,z,seval]
    (refine qc func171 ?_;simp only [f171,lf,z,seval])
    (refine Qw 0 ?_;simp only [z,seval])
    simp only [b1,b2,z,seval]
    (refine ⟨by kernel_rfl,?_⟩)
    try simp only [z,seval]
    (refine Qf ?_;simp only [z,seval])
    try rfl
 | false =>
 obtain ⟨b,rfl⟩:=Int.eq_ofNat_of_zero_le (show 0≤b by have:=of_decide_eq_false b1;omega)
 have hB:b < w.net.seen.length:=by have:=of_decide_eq_false b2;omega
 have gB:=getMap wordsV w.net.seen hB
 simp only [mv] at gB
 have hsl:=hw.seens _ (List.getElem_mem hB)
 have h1:=wCut_spec w.net.seen[b] c d (by omega)
 simp only [Int.toNat_natCast,List.getElem?_eq_getElem hB,Option.getD_some,Bool.false_or,cond_false]
 cases hc:cutM w.net.seen[b] c d with
 | none =>
   rw [hc] at h1
   simp only [Option.getD_none,Option.getD_some,Option.isSome_none,Option.isSome_some,List.map_nil] at h1
   refine Qs func68 ?_
   intro w0 M0
   simp only [f68,lf,z,seval]
   apply once
   ·intro key
    (refine Qa 9 ?_)
    repeat' (first|(refine Qk ?_)|(refine QD 4 0 ?_)|(refine Qi 0 1 ?_ ?_)|(refine Qi 0 2 ?_ ?_)|(refine Qj 0 ?_)|(refine Qj 1 ?_)|(refine Qj 2 ?_)|(refine Qj 3 ?_)|(refine qc func112 ?_;simp only [f112,lf,z,seval])|(simp only [z,seval]))
    all_goals exact key
   ·(refine qc func113 ?_;simp only [f113,lf,z,seval])
    simp only [a1,a2,gA,z,seval]
    (refine qc func171 ?_;simp only [f171,lf,z,seval])
    (refine Qw 0 ?_;simp only [z,seval])
    simp only [b1,b2,z,seval]
    (refine ⟨by kernel_rfl,?_⟩)
    try simp only [z,seval]
    (refine RUNs_anyP 14 0 5 (by rfl) (by kernel_rfl) (by kernel_rfl) ?_;simp only [List.take_succ_cons,List.take_zero,z,seval])
    simp only [gB,z,seval]
    (refine ⟨by kernel_rfl,?_⟩)
    try simp only [z,seval]
    (refine Qj 14 ?_;simp only [z,seval])
    (refine qc func211 ?_;simp only [f211,lf,z,seval])
    (refine Qw 0 ?_;simp only [z,seval])
    (refine DU h1 (h:=?_);simp only [z,seval])
    (refine ⟨by kernel_rfl,?_⟩)
    try simp only [z,seval]
    (refine QD 15 0 ?_;simp only [z,seval])
    (refine ⟨by kernel_rfl,?_⟩)
    try simp only [z,seval]
    (refine Qf ?_;simp only [z,seval])
    try rfl
 | some l =>
   rw [hc] at h1
   simp only [Option.getD_none,Option.getD_some,Option.isSome_none,Option.isSome_some,List.map_nil] at h1
   have hset:=hset (l)
   simp only [mv,List.map_append,List.map_cons,List.map_nil] at hset
   refine Qs func68 ?_
   intro w0 M0
   simp only [f68,lf,z,seval]
   apply once
   ·intro key
    (refine Qa 9 ?_)
    repeat' (first|(refine Qk ?_)|(refine QD 4 0 ?_)|(refine Qi 0 1 ?_ ?_)|(refine Qi 0 2 ?_ ?_)|(refine Qj 0 ?_)|(refine Qj 1 ?_)|(refine Qj 2 ?_)|(refine Qj 3 ?_)|(refine qc func112 ?_;simp only [f112,lf,z,seval])|(simp only [z,seval]))
    all_goals exact key
   ·(refine qc func113 ?_;simp only [f113,lf,z,seval])
    simp only [a1,a2,gA,z,seval]
    (refine qc func171 ?_;simp only [f171,lf,z,seval])
    (refine Qw 0 ?_;simp only [z,seval])
    simp only [b1,b2,z,seval]
    (refine ⟨by kernel_rfl,?_⟩)
    try simp only [z,seval]
    (refine RUNs_anyP 14 0 5 (by rfl) (by kernel_rfl) (by kernel_rfl) ?_;simp only [List.take_succ_cons,List.take_zero,z,seval])
    simp only [gB,z,seval]
    (refine ⟨by kernel_rfl,?_⟩)
    try simp only [z,seval]
    (refine Qj 14 ?_;simp only [z,seval])
    (refine qc func211 ?_;simp only [f211,lf,z,seval])
    (refine Qw 0 ?_;simp only [z,seval])
    (refine DU h1 (h:=?_);simp only [z,seval])
    (refine ⟨by kernel_rfl,?_⟩)
    try simp only [z,seval]
    (refine QD 15 0 ?_;simp only [z,seval])
    (refine ⟨by kernel_rfl,?_⟩)
    try simp only [z,seval]
    (refine CH (hCl) (h:=?_);simp only [z,seval])
    (refine Qw 0 ?_;simp only [z,seval])
    simp only [hA,gA,if_true,z,seval]
    (refine ⟨by kernel_rfl,?_⟩)
    simp only [hset,z,seval]
    (refine Qf ?_;simp only [z,seval])
    simp only [setReg,Int.toNat_natCast]
    try rfl
theorem advDo_2 (w:World) {N:Nat} (hw:w.fit N) (h5:64≤N) (hN:N≤400000000000) (hbr:0≤w.box.room∧w.box.room≤1099511627776) (a:Nat) (hpl:w.people.length≤1000) (hA:a < w.regs.length) (b c d:Int) (ws:List Int):Spec PP GG 68 [w.v,Op.v ⟨2,a,b,c,d,ws⟩] (.tup [(cut2 w ⟨2,a,b,c,d,ws⟩).1.v,i64 (cut2 w ⟨2,a,b,c,d,ws⟩).2]) []:=by
 have hq:=hw.regs
 have a1:decide ((a:Int) < 0)=false:=decide_eq_false (by omega)
 have a2:decide ((a:Int)≥(w.regs.length:Int))=false:=decide_eq_false (by omega)
 have gA:=getMap wordsV w.regs hA
 simp only [mv] at gA
 have hCl:=CloneR_spec w.regs (by omega)
 have hset:∀ l:List Int,(w.regs.map wordsV).set a (wordsV l)=(w.regs.set a l).map wordsV:=fun l=>by rw [List.map_set]
 rcases reg_cases w b with ⟨b1,be⟩|⟨b1,b2,be⟩|⟨b,rfl,bh,b1,b2,be,bg⟩
 ·rw [show cut2 w ⟨2,a,b,c,d,ws⟩=(w,1) by unfold cut2;simp only [be]]
  refine Qs func68 ?_
  intro w0 M0
  simp only [f68,lf,z,seval]
  apply once
  ·intro key
   (refine Qa 9 ?_)
   repeat' (first|(refine Qk ?_)|(refine QD 4 0 ?_)|(refine Qi 0 1 ?_ ?_)|(refine Qi 0 2 ?_ ?_)|(refine Qj 0 ?_)|(refine Qj 1 ?_)|(refine Qj 2 ?_)|(refine Qj 3 ?_)|(refine qc func112 ?_;simp only [f112,lf,z,seval])|(simp only [z,seval]))
   all_goals exact key
  ·(refine qc func113 ?_;simp only [f113,lf,z,seval])
   simp only [a1,a2,gA,z,seval]
   (refine qc func172 ?_;simp only [f172,lf,z,seval])
   (refine qc func113 ?_;simp only [f113,lf,z,seval])
   simp only [b1,z,seval]
   (refine qc func211 ?_;simp only [f211,lf,z,seval])
   (refine Qf ?_;simp only [z,seval])
 ·rw [show cut2 w ⟨2,a,b,c,d,ws⟩=(w,1) by unfold cut2;simp only [be]]
  refine Qs func68 ?_
  intro w0 M0
  simp only [f68,lf,z,seval]
  apply once
  ·intro key
   (refine Qa 9 ?_)
   repeat' (first|(refine Qk ?_)|(refine QD 4 0 ?_)|(refine Qi 0 1 ?_ ?_)|(refine Qi 0 2 ?_ ?_)|(refine Qj 0 ?_)|(refine Qj 1 ?_)|(refine Qj 2 ?_)|(refine Qj 3 ?_)|(refine qc func112 ?_;simp only [f112,lf,z,seval])|(simp only [z,seval]))
   all_goals exact key
  ·(refine qc func113 ?_;simp only [f113,lf,z,seval])
   simp only [a1,a2,gA,z,seval]
   (refine qc func172 ?_;simp only [f172,lf,z,seval])
   (refine qc func113 ?_;simp only [f113,lf,z,seval])
   simp only [b1,b2,z,seval]
   (refine qc func211 ?_;simp only [f211,lf,z,seval])
   (refine Qf ?_;simp only [z,seval])
 ·have hsl:=(regM_ok hw be).2
  have h1:=wCut_spec w.regs[b] c d (by omega)
  cases hc:cutM w.regs[b] c d with
  | none =>
    rw [hc] at h1
    simp only [Option.getD_none,Option.getD_some,Option.isSome_none,Option.isSome_some,List.map_nil] at h1
    rw [show cut2 w ⟨2,a,b,c,d,ws⟩=(w,1) by unfold cut2;simp only [be,hc]]
    refine Qs func68 ?_
    intro w0 M0
    simp only [f68,lf,z,seval]
    apply once
    ·intro key
     (refine Qa 9 ?_)
     repeat' (first|(refine Qk ?_)|(refine QD 4 0 ?_)|(refine Qi 0 1 ?_ ?_)|(refine Qi 0 2 ?_ ?_)|(refine Qj 0 ?_)|(refine Qj 1 ?_)|(refine Qj 2 ?_)|(refine Qj 3 ?_)|(refine qc func112 ?_;simp only [f112,lf,z,seval])|(simp only [z,seval]))
     all_goals exact key
    ·(refine qc func113 ?_;simp only [f113,lf,z,seval])
     simp only [a1,a2,gA,z,seval]
     (refine qc func172 ?_;simp only [f172,lf,z,seval])
     (refine qc func113 ?_;simp only [f113,lf,z,seval])
     simp only [b1,b2,bg,z,seval]
     (refine qc func211 ?_;simp only [f211,lf,z,seval])
     (refine Qw 0 ?_;simp only [z,seval])
     (refine DU h1 (h:=?_);simp only [z,seval])
     (refine ⟨by kernel_rfl,?_⟩)
     try simp only [z,seval]
     (refine Qf ?_;simp only [z,seval])
  | some l =>
    rw [hc] at h1
    simp only [Option.getD_none,Option.getD_some,Option.isSome_none,Option.isSome_some,List.map_nil] at h1
    rw [show cut2 w ⟨2,a,b,c,d,ws⟩=(setReg w a l,0) by unfold cut2;simp only [be,hc]]
    have hset:=hset (l)
    simp only [mv,List.map_append,List.map_cons,List.map_nil] at hset
    refine Qs func68 ?_
    intro w0 M0
    simp only [f68,lf,z,seval]
    apply once
    ·intro key
     (refine Qa 9 ?_)
     repeat' (first|(refine Qk ?_)|(refine QD 4 0 ?_)|(refine Qi 0 1 ?_ ?_)|(refine Qi 0 2 ?_ ?_)|(refine Qj 0 ?_)|(refine Qj 1 ?_)|(refine Qj 2 ?_)|(refine Qj 3 ?_)|(refine qc func112 ?_;simp only [f112,lf,z,seval])|(simp only [z,seval]))
     all_goals exact key
    ·(refine qc func113 ?_;simp only [f113,lf,z,seval])
     simp only [a1,a2,gA,z,seval]
     (refine qc func172 ?_;simp only [f172,lf,z,seval])
     (refine qc func113 ?_;simp only [f113,lf,z,seval])
     simp only [b1,b2,bg,z,seval]
     (refine qc func211 ?_;simp only [f211,lf,z,seval])
     (refine Qw 0 ?_;simp only [z,seval])
     (refine DU h1 (h:=?_);simp only [z,seval])
     (refine ⟨by kernel_rfl,?_⟩)
     try simp only [z,seval]
     (refine CH (hCl) (h:=?_);simp only [z,seval])
     (refine Qw 0 ?_;simp only [z,seval])
     simp only [hA,gA,if_true,z,seval]
     (refine ⟨by kernel_rfl,?_⟩)
     simp only [hset,z,seval]
     (refine Qf ?_;simp only [z,seval])
     simp only [setReg,Int.toNat_natCast]
     try rfl
theorem advDo_3 (w:World) {N:Nat} (hw:w.fit N) (h5:64≤N) (hN:N≤400000000000) (hbr:0≤w.box.room∧w.box.room≤1099511627776) (a:Nat) (hpl:w.people.length≤1000) (hA:a < w.regs.length) (b c d:Int) (ws:List Int):Spec PP GG 68 [w.v,Op.v ⟨3,a,b,c,d,ws⟩] (.tup [(cat3 w ⟨3,a,b,c,d,ws⟩).1.v,i64 (cat3 w ⟨3,a,b,c,d,ws⟩).2]) []:=by
 have hq:=hw.regs
 have a1:decide ((a:Int) < 0)=false:=decide_eq_false (by omega)
 have a2:decide ((a:Int)≥(w.regs.length:Int))=false:=decide_eq_false (by omega)
 have gA:=getMap wordsV w.regs hA
 simp only [mv] at gA
 have hCl:=CloneR_spec w.regs (by omega)
 have hset:∀ l:List Int,(w.regs.map wordsV).set a (wordsV l)=(w.regs.set a l).map wordsV:=fun l=>by rw [List.map_set]
 rcases reg_cases w b with ⟨b1,be⟩|⟨b1,b2,be⟩|⟨b,rfl,bh,b1,b2,be,bg⟩<;>rcases reg_cases w c with ⟨c1,ce⟩|⟨c1,c2,ce⟩|⟨c,rfl,ch,c1,c2,ce,cg⟩
 all_goals try
  (rw [show cat3 w ⟨3,a,b,c,d,ws⟩=(w,1) by unfold cat3;simp only [be,ce]]
   refine Qs func68 ?_
   intro w0 M0
   simp only [f68,lf,z,seval]
   apply once
   ·intro key
    (refine Qa 9 ?_)
    repeat' (first|(refine Qk ?_)|(refine QD 4 0 ?_)|(refine Qi 0 1 ?_ ?_)|(refine Qi 0 2 ?_ ?_)|(refine Qj 0 ?_)|(refine Qj 1 ?_)|(refine Qj 2 ?_)|(refine Qj 3 ?_)|(refine qc func112 ?_;simp only [f112,lf,z,seval])|(simp only [z,seval]))
    all_goals exact key
   ·(refine qc func113 ?_;simp only [f113,lf,z,seval])
    simp only [a1,a2,gA,z,seval]
    (refine qc func173 ?_;simp only [f173,lf,z,seval])
    (refine qc func113 ?_;simp only [f113,lf,z,seval])
    (first|simp only [b1,b2,bg,z,seval]|simp only [b1,b2,z,seval]|simp only [b1,z,seval])
    (refine qc func113 ?_;simp only [f113,lf,z,seval])
    (first|simp only [c1,c2,cg,z,seval]|simp only [c1,c2,z,seval]|simp only [c1,z,seval])
    (refine Qf ?_;simp only [z,seval])
   done)
 have hx:=(regM_ok hw be).2
 have hy:=(regM_ok hw ce).2
 have hwr:IntKind.i64.wrap ((w.regs[b].length:Int) + (w.regs[c].length:Int))=(w.regs[b].length:Int) + (w.regs[c].length:Int):=w64 (by omega) (by omega)
 have hCo:=ConcatW_2 w.regs[b] w.regs[c] (by omega)
 simp only [List.map_append] at hCo
 cases c3:decide ((w.regs[b].length:Int) + (w.regs[c].length:Int) > 64) with
 | true =>
   rw [show cat3 w ⟨3,a,b,c,d,ws⟩=(w,3) by unfold cat3;simp only [be,ce,c3,cond_true]]
   refine Qs func68 ?_
   intro w0 M0
   simp only [f68,lf,z,seval]
   apply once
   ·intro key
    (refine Qa 9 ?_)
    repeat' (first|(refine Qk ?_)|(refine QD 4 0 ?_)|(refine Qi 0 1 ?_ ?_)|(refine Qi 0 2 ?_ ?_)|(refine Qj 0 ?_)|(refine Qj 1 ?_)|(refine Qj 2 ?_)|(refine Qj 3 ?_)|(refine qc func112 ?_;simp only [f112,lf,z,seval])|(simp only [z,seval]))
    all_goals exact key
   ·(refine qc func113 ?_;simp only [f113,lf,z,seval])
    simp only [a1,a2,gA,z,seval]
    (refine qc func173 ?_;simp only [f173,lf,z,seval])
    (refine qc func113 ?_;simp only [f113,lf,z,seval])
    (first|simp only [b1,b2,bg,z,seval]|simp only [b1,b2,z,seval]|simp only [b1,z,seval])
    (refine qc func113 ?_;simp only [f113,lf,z,seval])
    (first|simp only [c1,c2,cg,z,seval]|simp only [c1,c2,z,seval]|simp only [c1,z,seval])
    simp only [hwr,c3,z,seval]
    (refine Qf ?_;simp only [z,seval])
 | false =>
   rw [show cat3 w ⟨3,a,b,c,d,ws⟩=(setReg w a (w.regs[b]++w.regs[c]),0) by unfold cat3;simp only [be,ce,c3,cond_false]]
   have hset:=hset (w.regs[b]++w.regs[c])
   simp only [mv,List.map_append,List.map_cons,List.map_nil] at hset
   refine Qs func68 ?_
   intro w0 M0
   simp only [f68,lf,z,seval]
   apply once
   ·intro key
    (refine Qa 9 ?_)
    repeat' (first|(refine Qk ?_)|(refine QD 4 0 ?_)|(refine Qi 0 1 ?_ ?_)|(refine Qi 0 2 ?_ ?_)|(refine Qj 0 ?_)|(refine Qj 1 ?_)|(refine Qj 2 ?_)|(refine Qj 3 ?_)|(refine qc func112 ?_;simp only [f112,lf,z,seval])|(simp only [z,seval]))
    all_goals exact key
   ·(refine qc func113 ?_;simp only [f113,lf,z,seval])
    simp only [a1,a2,gA,z,seval]
    (refine qc func173 ?_;simp only [f173,lf,z,seval])
    (refine qc func113 ?_;simp only [f113,lf,z,seval])
    (first|simp only [b1,b2,bg,z,seval]|simp only [b1,b2,z,seval]|simp only [b1,z,seval])
    (refine qc func113 ?_;simp only [f113,lf,z,seval])
    (first|simp only [c1,c2,cg,z,seval]|simp only [c1,c2,z,seval]|simp only [c1,z,seval])
    simp only [hwr,c3,z,seval]
    (refine CU hCo (h:=?_);simp only [z,seval])
    (refine CH (hCl) (h:=?_);simp only [z,seval])
    (refine Qw 0 ?_;simp only [z,seval])
    simp only [hA,gA,if_true,z,seval]
    (refine ⟨by kernel_rfl,?_⟩)
    simp only [hset,z,seval]
    (refine Qf ?_;simp only [z,seval])
    simp only [setReg,Int.toNat_natCast,List.map_append]
    try rfl
theorem advDo_4_0 (w:World) {N:Nat} (hw:w.fit N) (h5:64≤N) (hN:N≤400000000000) (hbr:0≤w.box.room∧w.box.room≤1099511627776) (a:Nat) (hpl:w.people.length≤1000) (hA:a < w.regs.length) (b:Int) (b1:decide (b < 0)=true) (be:firstM w b=none) (c d:Int) (ws:List Int):Spec PP GG 68 [w.v,Op.v ⟨4,a,b,c,d,ws⟩] (.tup [(seal4 w ⟨4,a,b,c,d,ws⟩).1.v,i64 (seal4 w ⟨4,a,b,c,d,ws⟩).2]) []:=by
 have hq:=hw.regs
 have a1:decide ((a:Int) < 0)=false:=decide_eq_false (by omega)
 have a2:decide ((a:Int)≥(w.regs.length:Int))=false:=decide_eq_false (by omega)
 have gA:=getMap wordsV w.regs hA
 simp only [mv] at gA
 have hCl:=CloneR_spec w.regs (by omega)
 have hset:∀ l:List Int,(w.regs.map wordsV).set a (wordsV l)=(w.regs.set a l).map wordsV:=fun l=>by rw [List.map_set]
 have znil:((([]:List Int).length:Int)==0)=true:=rfl
 have zcons:∀ (x:Int) (l:List Int),(((x::l).length:Int)==0)=false:=fun x l=>by simp;omega
 have zhd:∀ (x:Int) (l:List Int),((x::l).map u32)[0]?=some (u32 x):=fun x l=>rfl
 have zcons2:∀ (l:List Int),(((l.length + 1:Nat):Int)==0)=false:=fun l=>by simp;omega
 rcases first_cases w c with ⟨c1,ce⟩|⟨c1,c2,ce⟩|⟨c,rfl,ch,c1,c2,ce,cg⟩|⟨c,cx,cl,rfl,ch,c1,c2,ce,cg⟩<;>rcases reg_cases w d with ⟨d1,de⟩|⟨d1,d2,de⟩|⟨d,rfl,dh,d1,d2,de,dg⟩
 all_goals try
  (rw [show seal4 w ⟨4,a,b,c,d,ws⟩=(w,1) by unfold seal4;simp only [be,ce,de]]
   refine Qs func68 ?_
   intro w0 M0
   simp only [f68,lf,z,seval]
   apply once
   ·intro key
    (refine Qa 9 ?_)
    repeat' (first|(refine Qk ?_)|(refine QD 4 0 ?_)|(refine Qi 0 1 ?_ ?_)|(refine Qi 0 2 ?_ ?_)|(refine Qj 0 ?_)|(refine Qj 1 ?_)|(refine Qj 2 ?_)|(refine Qj 3 ?_)|(refine qc func112 ?_;simp only [f112,lf,z,seval])|(simp only [z,seval]))
    all_goals exact key
   ·(refine qc func113 ?_;simp only [f113,lf,z,seval])
    simp only [a1,a2,gA,z,seval]
    (refine qc func174 ?_;simp only [f174,lf,z,seval])
    (refine qc func212 ?_;simp only [f212,lf,z,seval])
    (refine qc func113 ?_;simp only [f113,lf,z,seval])
    (first|simp only [b1,b2,bg,z,seval]|simp only [b1,b2,z,seval]|simp only [b1,z,seval])
    try simp only [znil,zcons,zcons2,zhd,List.length_cons,List.map_cons,List.getElem?_cons_zero,z,seval]
    (refine qc func212 ?_;simp only [f212,lf,z,seval])
    (refine qc func113 ?_;simp only [f113,lf,z,seval])
    (first|simp only [c1,c2,cg,z,seval]|simp only [c1,c2,z,seval]|simp only [c1,z,seval])
    try simp only [znil,zcons,zcons2,zhd,List.length_cons,List.map_cons,List.getElem?_cons_zero,z,seval]
    (refine qc func113 ?_;simp only [f113,lf,z,seval])
    (first|simp only [d1,d2,dg,z,seval]|simp only [d1,d2,z,seval]|simp only [d1,z,seval])
    (refine Qf ?_;simp only [z,seval])
   done)
theorem advDo_4_1 (w:World) {N:Nat} (hw:w.fit N) (h5:64≤N) (hN:N≤400000000000) (hbr:0≤w.box.room∧w.box.room≤1099511627776) (a:Nat) (hpl:w.people.length≤1000) (hA:a < w.regs.length) (b:Int) (b1:decide (b < 0)=false) (b2:decide (b≥(w.regs.length:Int))=true) (be:firstM w b=none) (c d:Int) (ws:List Int):Spec PP GG 68 [w.v,Op.v ⟨4,a,b,c,d,ws⟩] (.tup [(seal4 w ⟨4,a,b,c,d,ws⟩).1.v,i64 (seal4 w ⟨4,a,b,c,d,ws⟩).2]) []:=by
 have hq:=hw.regs
 have a1:decide ((a:Int) < 0)=false:=decide_eq_false (by omega)
 have a2:decide ((a:Int)≥(w.regs.length:Int))=false:=decide_eq_false (by omega)
 have gA:=getMap wordsV w.regs hA
 simp only [mv] at gA
 have hCl:=CloneR_spec w.regs (by omega)
 have hset:∀ l:List Int,(w.regs.map wordsV).set a (wordsV l)=(w.regs.set a l).map wordsV:=fun l=>by rw [List.map_set]
 have znil:((([]:List Int).length:Int)==0)=true:=rfl
 have zcons:∀ (x:Int) (l:List Int),(((x::l).length:Int)==0)=false:=fun x l=>by simp;omega
 have zhd:∀ (x:Int) (l:List Int),((x::l).map u32)[0]?=some (u32 x):=fun x l=>rfl
 have zcons2:∀ (l:List Int),(((l.length + 1:Nat):Int)==0)=false:=fun l=>by simp;omega
 rcases first_cases w c with ⟨c1,ce⟩|⟨c1,c2,ce⟩|⟨c,rfl,ch,c1,c2,ce,cg⟩|⟨c,cx,cl,rfl,ch,c1,c2,ce,cg⟩<;>rcases reg_cases w d with ⟨d1,de⟩|⟨d1,d2,de⟩|⟨d,rfl,dh,d1,d2,de,dg⟩
 all_goals try
  (rw [show seal4 w ⟨4,a,b,c,d,ws⟩=(w,1) by unfold seal4;simp only [be,ce,de]]
   refine Qs func68 ?_
   intro w0 M0
   simp only [f68,lf,z,seval]
   apply once
   ·intro key
    (refine Qa 9 ?_)
    repeat' (first|(refine Qk ?_)|(refine QD 4 0 ?_)|(refine Qi 0 1 ?_ ?_)|(refine Qi 0 2 ?_ ?_)|(refine Qj 0 ?_)|(refine Qj 1 ?_)|(refine Qj 2 ?_)|(refine Qj 3 ?_)|(refine qc func112 ?_;simp only [f112,lf,z,seval])|(simp only [z,seval]))
    all_goals exact key
   ·(refine qc func113 ?_;simp only [f113,lf,z,seval])
    simp only [a1,a2,gA,z,seval]
    (refine qc func174 ?_;simp only [f174,lf,z,seval])
    (refine qc func212 ?_;simp only [f212,lf,z,seval])
    (refine qc func113 ?_;simp only [f113,lf,z,seval])
    (first|simp only [b1,b2,bg,z,seval]|simp only [b1,b2,z,seval]|simp only [b1,z,seval])
    try simp only [znil,zcons,zcons2,zhd,List.length_cons,List.map_cons,List.getElem?_cons_zero,z,seval]
    (refine qc func212 ?_;simp only [f212,lf,z,seval])
    (refine qc func113 ?_;simp only [f113,lf,z,seval])
    (first|simp only [c1,c2,cg,z,seval]|simp only [c1,c2,z,seval]|simp only [c1,z,seval])
    try simp only [znil,zcons,zcons2,zhd,List.length_cons,List.map_cons,List.getElem?_cons_zero,z,seval]
    (refine qc func113 ?_;simp only [f113,lf,z,seval])
    (first|simp only [d1,d2,dg,z,seval]|simp only [d1,d2,z,seval]|simp only [d1,z,seval])
    (refine Qf ?_;simp only [z,seval])
   done)
end Ch
