import Derived.Test.YtaebkmmjjabnaaaGreatDoorW11
import Derived.RangeFuncIn
import Derived.RangeFuncRecord
set_option maxRecDepth 100000
set_option maxHeartbeats 4000000
set_option linter.unusedSimpArgs false
set_option linter.unusedVariables false
set_option linter.unnecessarySimpa false
namespace Go.Ab
open Go Go.RowKit
mutual
def shV (n:Nat):V→V
 | .ptr i o=>.ptr (n + i) o
 | .ptrE i v x s o=>.ptrE (n + i) v x s o
 | .row i v=>.row (n + i) v
 | .vs i o k s=>.vs (n + i) o k s
 | .mp i=>.mp (n + i)
 | .agg cs=>.agg (shL n cs)
 | .tup cs=>.tup (shL n cs)
 | .fn f a b=>.fn f (shL n a) (shL n b)
 | .iface t v=>.iface t (shV n v)
 | v=>v
def shL (n:Nat):List V→List V
 | []=>[]
 | v::vs=>shV n v::shL n vs
end
def shO (n:Nat) (own:Bool) (o:Option V):Option V:=bif own then o.map (shV n) else o
def shAB (n:Nat):AB→AB
 | .var cs=>.var (shL n cs)
 | .map own sg f=>.map own sg (fun q=>shO n own (f q))
 | .lp l s pend fr ps asg body=>.lp l s pend (shL n fr) ps asg body
 | b=>b
structure Moved (n:Nat) (E E':Env):Prop where
 w:E'.w=E.w
 stab:∀ b o u,E.stab b o u→E'.stab b o u
 phi:∀ i,E'.φ (n + i)=E.φ i
 tau:∀ i,E'.τ (n + i)=E.τ i
 H:∀ i,E'.H[n + i]?=(E.H[i]?).map (shAB n)
theorem Moved.bare {n:Nat} {E E':Env} (h:Moved n E E'):E.bare.le E'.bare:=⟨h.stab,fun _ _ _ h=>by simp [Env.bare] at h,fun _ _ _ _ _ h=>by simp [Env.bare] at h,fun _ h=>by simp [Env.bare] at h⟩
mutual
theorem Rep.moved {n:Nat} {E E':Env} (hm:Moved n E E'):(v:V) → ∀ {x:Value},Rep E v x→Rep E' (shV n v) x
 | .any,x,_=>by simp only [shV,Rep]
 | .val v,x,h=>by simpa only [shV,Rep] using h
 | .ptr i o,x,h=>by simp only [shV,Rep,hm.phi] at h ⊢;exact h
 | .ptrE i ver idx sz off,x,h=>by
   simp only [shV,Rep,hm.phi,hm.H] at h ⊢
   obtain ⟨h0,h⟩:=h
   refine ⟨h0,?_⟩
   cases hH:E.H[i]? with
   | none=>rw [hH] at h;exact h.elim
   | some b=>rw [hH] at h;cases b<;>simpa only [Option.map_some,shAB] using h
 | .cp cs,x,h=>by
   simp only [shV,Rep] at h ⊢
   obtain ⟨b,o,h1,h2⟩:=h
   exact ⟨b,o,h1,RepAt.mono cs hm.bare h2⟩
 | .sl es m,x,h=>by
   simp only [shV,Rep] at h ⊢
   obtain ⟨a,k,c,h1,h2,h3,h4,h5,h6,h7⟩:=h
   refine ⟨a,k,c,h1,h2,h3,h4,h5,h6,fun he=>?_⟩
   obtain ⟨sz,b,o,h8,h9⟩:=h7 he
   exact ⟨sz,b,o,h8,RepEs.mono es hm.bare h9⟩
 | .row i ver,x,h=>by
   simp only [shV,Rep,hm.H,hm.tau] at h ⊢
   obtain ⟨h0,h⟩:=h
   refine ⟨h0,?_⟩
   cases hH:E.H[i]? with
   | none=>rw [hH] at h;exact h.elim
   | some b=>rw [hH] at h;cases b<;>simpa only [Option.map_some,shAB] using h
 | .vs i o k s,x,h=>by simp only [shV,Rep,hm.phi] at h ⊢;exact h
 | .mp i,x,h=>by simp only [shV,Rep,hm.phi] at h ⊢;exact h
 | .agg cs,x,h=>by
   simp only [shV,Rep] at h ⊢
   obtain ⟨xs,h1,h2⟩:=h;exact ⟨xs,h1,RepL.moved hm cs h2⟩
 | .tup cs,x,h=>by
   simp only [shV,Rep] at h ⊢
   obtain ⟨xs,h1,h2⟩:=h;exact ⟨xs,h1,RepL.moved hm cs h2⟩
 | .fn f a b,x,h=>by
   simp only [shV,Rep] at h ⊢
   obtain ⟨xs,ys,h1,h2,h3⟩:=h;exact ⟨xs,ys,h1,RepL.moved hm a h2,RepL.moved hm b h3⟩
 | .iface t v,x,h=>by
   simp only [shV,Rep] at h ⊢
   obtain ⟨y,h1,h2⟩:=h;exact ⟨y,h1,Rep.moved hm v h2⟩
theorem RepL.moved {n:Nat} {E E':Env} (hm:Moved n E E'):(vs:List V) → ∀ {xs:List Value},RepL E vs xs→RepL E' (shL n vs) xs
 | [],xs,h=>by simpa only [shL,RepL] using h
 | v::vs,xs,h=>by
   simp only [shL,RepL] at h ⊢
   obtain ⟨y,ys,h1,h2,h3⟩:=h
   exact ⟨y,ys,h1,Rep.moved hm v h2,RepL.moved hm vs h3⟩
end
theorem shL_map (n:Nat):∀ (vs:List V),shL n vs=vs.map (shV n)
 | []=>rfl
 | v::vs=>by simp only [shL,List.map_cons,shL_map n vs]
theorem lookL_sh (n:Nat) (own:Bool):∀ (L:List (List Int×V)) (q:List Int),lookL (L.map fun p=>(p.1,bif own then shV n p.2 else p.2)) q=shO n own (lookL L q)
 | [],q=>by cases own<;>rfl
 | p::L,q=>by
   simp only [List.map_cons,lookL]
   cases eqIs q p.1 with
   | true=>cases own<;>rfl
   | false=>exact lookL_sh n own L q
theorem HOK.moved {n:Nat} {E E':Env} (hm:Moved n E E') {i:Nat} {ab:AB} (hM:∀ v b,E.φ i v=some b → ∀ o,E'.M b o↔E.M b o) (h:HOK E i ab):HOK E' (n + i) (shAB n ab):=by
 cases ab with
 | dead=>trivial
 | hole=>intro v;rw [hm.phi];exact h v
 | var cs =>
   obtain ⟨b,C,e,h1,h2,h3,h4⟩:=h
   exact ⟨b,C,e,by rw [hm.phi,h1],by rw [hm.w,h2],RepL.moved hm cs h3,fun o=>(hM _ b h1 o).2 (h4 o)⟩
 | row sz es ver imm =>
   obtain ⟨a,k,c,h1,h2,h3,h4,h5,h6⟩:=h
   refine ⟨a,k,c,by rw [hm.tau,h1],h2,h3,h4,⟨h5.1,fun u hu=>by rw [hm.phi];exact h5.2 u hu⟩,?_⟩
   rcases h6 with h6|⟨b,C,e,h6,h7,h8,h9,h10,h11,h12⟩
   ·exact .inl h6
   ·exact .inr ⟨b,C,e,by rw [hm.phi,h6],h7,by rw [hm.w,h8],h9,RepL.mono _ hm.bare h10,fun o ho=>(hM _ b h6 o).2 (h11 o ho),fun o ho=>(hM _ b h6 o).trans (h12 o ho)⟩
 | map own sg f =>
   obtain ⟨b,C,k,L,h1,h2,h3,h4,h5,rfl⟩:=h
   refine ⟨b,C,k,L.map fun p=>(p.1,bif own then shV n p.2 else p.2),by rw [hm.phi,h1],by rw [hm.w,h2],by rw [h3,List.map_map];rfl,?_,?_,?_⟩
   ·rw [List.map_map]
    cases own with
    | true =>
      have:=RepL.moved hm _ h4
      rw [shL_map,List.map_map] at this
      exact this
    | false=>exact RepL.mono _ hm.bare h4
   ·intro p hp
    obtain ⟨q,hq,rfl⟩:=List.mem_map.1 hp
    exact h5 q hq
   ·funext q;exact (lookL_sh n own L q).symm
 | dfr D =>
   obtain ⟨h1,h2⟩:=h
   exact ⟨by rw [hm.phi,h1],by rw [hm.w,h2]⟩
 | lp l s pend fr ps asg body =>
   obtain ⟨fn,tmps,D,h1,h2,h3⟩:=h
   exact ⟨fn,tmps,D,by rw [hm.phi,h1],by rw [hm.w,h2],RepL.moved hm fr h3⟩
theorem RUNc_specC {X:Ctx} {n:FuncId} {args args':List V} {r:V} {Hr:List AB} {dst:Option Tmp} {k:List It} {fr:List V} {st:List (List V)} {H:List AB}
 (hc:∀ E xs,EOK X.G X.w0 X.M0 E→E.H=immL H (rowsInL args)→RepL E args xs→RepL E.bare args' xs) (hs:Spec X.P X.G n args' r Hr)
 (h:RUN X ⟨k,putV fr dst (shV (immL H (rowsInL args)).length r),st,immL H (rowsInL args)++Hr.map (shAB (immL H (rowsInL args)).length)⟩):RUNc X n args dst ⟨k,fr,st,H⟩:=by
 intro sa a E xs hH hR hD hx
 obtain ⟨E1,e1,e2,e3,e4⟩:=EOK.immL (rowsInL args) hR.ok
 simp only at hH
 rw [hH] at e2
 have hx1:=RepL.mono _ e4 hx
 have hx':=hc E1 xs e3 e2 hx1
 have hb:EOK X.G E1.w E1.M E1.bare:=⟨Below.refl _ _,fun _ _ _=>Iff.rfl,e3.mlt,fun i v b hp=>by simp [Env.bare] at hp,fun i v j u b hp=>by simp [Env.bare] at hp,fun i h hh=>by simp [Env.bare] at hh,e3.glob⟩
 have hcalls:=hs E1 xs hb hx'
 rw [e1] at hcalls
 refine hcalls.mono ?_
 rintro e w' ⟨v,E2,rfl,hw,hH2,hok,hle,hv⟩
 refine ⟨v,rfl,?_⟩
 let N:=(immL H (rowsInL args)).length
 have hN:E1.H.length=N:=by rw [e2]
 let E3:Env:={ w:=E2.w,φ:=fun i v=>if i < N then E1.φ i v else E2.φ (i - N) v,τ:=fun i=>if i < N then E1.τ i else E2.τ (i - N),M:=fun b o=>if b < E.w.heap.size then E1.M b o else E2.M b o,H:=E1.H++E2.H.map (shAB N) }
 have hstab:∀ b o u,E1.stab b o u→E3.stab b o u:=by
  intro b o u hs
  have hlt:b < E.w.heap.size:=by rw [← e1];exact EOK.lt_of_stab E1 hs
  have:=hle.stab b o u hs
  refine ⟨this.1,?_⟩
  show ¬ (if b < E.w.heap.size then E1.M b o else E2.M b o)
  rw [if_pos hlt];exact hs.2
 have hget:∀ (i:Nat) (x:AB),E1.H[i]?=some x→E3.H[i]?=some x:=fun i x hx=>by
  show (E1.H++_)[i]?=_
  rw [List.getElem?_append_left (List.getElem?_eq_some_iff.1 hx).1];exact hx
 have hlt1:∀ (i:Nat) (x:AB),E1.H[i]?=some x→i < N:=fun i x hx=>by rw [← hN];exact (List.getElem?_eq_some_iff.1 hx).1
 have hphi1:∀ i v b,E1.φ i v=some b→i < N:=fun i v b hp=>by
  obtain ⟨⟨x,hx⟩,_⟩:=e3.phi i v b hp
  exact hlt1 i x hx
 have hle3:E1.le E3:=by
  refine ⟨hstab,fun i v b hp=>?_,fun i sz es v m hr=>.inr ⟨_,_,_,_,hget _ _ hr,Nat.le_refl _,fun _=>?_⟩,fun i hd=>hget _ _ hd⟩
  ·show (if i < N then E1.φ i v else _)=_
   rw [if_pos (hphi1 i v b hp)];exact hp
  ·show (if i < N then E1.τ i else _)=_
   rw [if_pos (hlt1 _ _ hr)]
 have hmv:Moved N E2 E3:=by
  refine ⟨rfl,fun b o u hs=>⟨hs.1,?_⟩,fun i=>?_,fun i=>?_,fun i=>?_⟩
  ·show ¬ (if b < E.w.heap.size then E1.M b o else E2.M b o)
   split
   ·rename_i hlt;exact fun hm=>hs.2 ((hok.old b o hlt).2 hm)
   ·exact hs.2
  ·funext v
   show (if N + i < N then _ else E2.φ (N + i - N) v)=_
   rw [if_neg (by omega),Nat.add_sub_cancel_left]
  ·show (if N + i < N then _ else E2.τ (N + i - N))=_
   rw [if_neg (by omega),Nat.add_sub_cancel_left]
  ·show (E1.H++E2.H.map (shAB N))[N + i]?=_
   rw [List.getElem?_append_right (by omega),hN,Nat.add_sub_cancel_left,List.getElem?_map]
 have hsize:=hok.below.size
 have h0:X.w0.heap.size≤E.w.heap.size:=by
  have h1:Below X.w0.heap.size X.w0 E.w:=by rw [← e1];exact e3.below
  exact h1.size
 have hphi3:∀ i v b,E3.φ i v=some b→(i < N∧E1.φ i v=some b) ∨ ∃ j,i=N + j∧E2.φ j v=some b:=by
  intro i v b hp
  have hp':(if i < N then E1.φ i v else E2.φ (i - N) v)=some b:=hp
  split at hp'
  ·rename_i hlt;exact .inl ⟨hlt,hp'⟩
  ·exact .inr ⟨i - N,by omega,hp'⟩
 have hE3:EOK X.G X.w0 X.M0 E3:=by
  refine ⟨?_,fun b o hb=>?_,fun b o hm=>?_,fun i v b hp=>?_,fun i v j u b hi hj=>?_,fun i x hx=>?_,fun g cs hg=>RepAt.mono cs hle3.bare (e3.glob g cs hg)⟩
  ·have h1:Below X.w0.heap.size X.w0 E.w:=by rw [← e1];exact e3.below
   exact h1.trans (hok.below.mono h1.size)
  ·show (if b < E.w.heap.size then E1.M b o else E2.M b o)↔_
   rw [if_pos (Nat.lt_of_lt_of_le hb h0)]
   exact e3.old b o hb
  ·have hm':(if b < E.w.heap.size then E1.M b o else E2.M b o):=hm
   split at hm'
   ·rename_i hb;exact Nat.lt_of_lt_of_le hb hsize
   ·exact hok.mlt b o hm'
  ·rcases hphi3 i v b hp with ⟨hlt,hq⟩|⟨j,rfl,hq⟩
   ·obtain ⟨⟨x,k1⟩,k2,k3,k4⟩:=e3.phi i v b hq
    rw [e1] at k4
    exact ⟨⟨x,hget _ _ k1⟩,by rw [hget _ _ k1,← k1];exact k2,k3,Nat.lt_of_lt_of_le k4 hsize⟩
   ·obtain ⟨⟨x,k1⟩,k2,k3,k4⟩:=hok.phi j v b hq
    refine ⟨⟨shAB N x,by rw [hmv.H,k1];rfl⟩,?_,Nat.le_trans h0 k3,k4⟩
    rw [hmv.H,k1]
    rw [k1] at k2
    cases x<;>simp [shAB] at k2 ⊢
  ·rcases hphi3 i v b hi with ⟨hlt,gi⟩|⟨i',rfl,gi⟩<;>rcases hphi3 j u b hj with ⟨hlt',gj⟩|⟨j',rfl,gj⟩
   ·exact e3.inj i v j u b gi gj
   ·have h1:=(e3.phi i v b gi).2.2.2
    have h2:=(hok.phi j' u b gj).2.2.1
    rw [e1] at h1;omega
   ·have h1:=(e3.phi j u b gj).2.2.2
    have h2:=(hok.phi i' v b gi).2.2.1
    rw [e1] at h1;omega
   ·rw [hok.inj i' v j' u b gi gj]
  ·rcases Nat.lt_or_ge i N with hi|hi
   ·have hx1:E1.H[i]?=some x:=by
     have hx':(E1.H++E2.H.map (shAB N))[i]?=some x:=hx
     rwa [List.getElem?_append_left (by omega)] at hx'
    refine HOK.mono hle3 ?_ ?_ (fun v b hb=>?_) (e3.blk i x hx1)
    ·funext v
     show (if i < N then E1.φ i v else _)=_
     rw [if_pos hi]
    ·show (if i < N then E1.τ i else _)=_
     rw [if_pos hi]
    ·have hb4:=(e3.phi i v b hb).2.2.2
     rw [e1] at hb4
     refine ⟨?_,fun o=>?_⟩
     ·show E2.w.heap[b]?=E1.w.heap[b]?
      rw [e1];exact hok.below.block b hb4
     ·show (if b < E.w.heap.size then E1.M b o else E2.M b o)↔_
      rw [if_pos hb4]
   ·obtain ⟨j,rfl⟩:∃ j,i=N + j:=⟨i - N,by omega⟩
    rw [hmv.H,Option.map_eq_some_iff] at hx
    obtain ⟨y,hy,rfl⟩:=hx
    refine HOK.moved hmv (fun v b hp o=>?_) (hok.blk j y hy)
    have h2:=(hok.phi j v b hp).2.2.1
    show (if b < E.w.heap.size then E1.M b o else E2.M b o)↔_
    rw [if_neg (by omega)]
 have hR1:RelE X fr st sa a E1:=⟨e3,RepL.mono _ e4 hR.fr,hR.st.mono e4⟩
 have:=h sa (a.put dst v) E3 (by show E1.H++E2.H.map (shAB N)=_;rw [e2,hH2]) (hR1.put hle3 hE3 (Rep.moved hmv r hv) dst) (by rw [put_defers];exact hD)
 rw [← hw];exact this
section
variable {P:Program} {G:Glob} {w0:World} {M0:Nat→Nat→Prop} {R:Value→World→Prop}
theorem RUNc_specH {X:Ctx} {n:FuncId} {args args':List V} {r:V} {Hr:List AB} {dst:Option Tmp} {k:List It} {fr:List V} {st:List (List V)} {H:List AB}
 (ha:fzL (immL H (rowsInL args)) args=some args') (hs:Spec X.P X.G n args' r Hr)
 (h:RUN X ⟨k,putV fr dst (shV (immL H (rowsInL args)).length r),st,immL H (rowsInL args)++Hr.map (shAB (immL H (rowsInL args)).length)⟩):RUNc X n args dst ⟨k,fr,st,H⟩ :=
 RUNc_specC (fun E xs he h2 hx=>fzL_sound he args hx (by rw [h2];exact ha)) hs h
def pureV:V→Bool
 | .val _=>true
 | .sl _ _=>true
 | .cp _=>true
 | _=>false
theorem RepL.pure {E:Env}:∀ {vs:List V} {xs:List Value},vs.all pureV=true→RepL E vs xs→RepL E.bare vs xs
 | [],xs,_,h=>h
 | v::vs,xs,hp,h=>by
   simp only [List.all_cons,Bool.and_eq_true] at hp
   simp only [RepL] at h ⊢
   obtain ⟨y,ys,h1,h2,h3⟩:=h
   refine ⟨y,ys,h1,?_,RepL.pure hp.2 h3⟩
   cases v<;>simp [pureV] at hp<;>(simp only [Rep] at h2 ⊢;exact h2)
theorem pure_rows:∀ {vs:List V},vs.all pureV=true→rowsInL vs=[]
 | [],_=>rfl
 | v::vs,hp=>by
   simp only [List.all_cons,Bool.and_eq_true] at hp
   simp only [rowsInL,pure_rows hp.2,List.append_nil]
   cases v<;>simp [pureV] at hp<;>rfl
theorem RUNc_specP {X:Ctx} {n:FuncId} {args:List V} {r:V} {Hr:List AB} {dst:Option Tmp} {k:List It} {fr:List V} {st:List (List V)} {H:List AB}
 (hp:args.all pureV=true) (hs:Spec X.P X.G n args r Hr) (h:RUN X ⟨k,putV fr dst (shV H.length r),st,H++Hr.map (shAB H.length)⟩):RUNc X n args dst ⟨k,fr,st,H⟩:=by
 refine RUNc_specC (fun E xs he h2 hx=>RepL.pure hp hx) hs ?_
 rw [pure_rows hp];exact h
theorem CALLS_specP {f:Operand} {args:List Operand} {ats:Array TypeId} {n:FuncId} {first cap vargs:List V} {r:V} {Hr:List AB} {dst:Option Tmp} {ty:TypeId} {p:String} {af:Array Edge} {all l:List Oper} {k:List It} {fr:List V} {st:List (List V)} {H:List AB}
 (hn:callB P n=true) (hp:(first++vargs++cap).all pureV=true) (hs:Spec P G n (first++vargs++cap) r Hr)
 (h:RUNs P G w0 M0 R ⟨.ops all l::k,putV fr dst (shV H.length r),st,H++Hr.map (shAB H.length)⟩) :
 CALLS P G w0 M0 R ⟨.ops all (⟨dst,.call ⟨.value f,args.toArray,ats⟩,ty,p,af,none⟩::l)::k,fr,st,H⟩ f args (.fn (.func n) first cap) vargs dst all l k fr st H :=
 RUNs_call hn (RUNc_specP (X:=⟨P,G,w0,M0,R⟩) hp hs (RUN_of_RUNs h))
theorem CALLS_specH {f:Operand} {args:List Operand} {ats:Array TypeId} {n:FuncId} {first cap vargs args':List V} {r:V} {Hr:List AB} {dst:Option Tmp} {ty:TypeId} {p:String} {af:Array Edge} {all l:List Oper} {k:List It} {fr:List V} {st:List (List V)} {H:List AB}
 (hn:callB P n=true) (ha:fzL (immL H (rowsInL (first++vargs++cap))) (first++vargs++cap)=some args') (hs:Spec P G n args' r Hr)
 (h:RUNs P G w0 M0 R ⟨.ops all l::k,putV fr dst (shV (immL H (rowsInL (first++vargs++cap))).length r),st,immL H (rowsInL (first++vargs++cap))++Hr.map (shAB (immL H (rowsInL (first++vargs++cap))).length)⟩) :
 CALLS P G w0 M0 R ⟨.ops all (⟨dst,.call ⟨.value f,args.toArray,ats⟩,ty,p,af,none⟩::l)::k,fr,st,H⟩ f args (.fn (.func n) first cap) vargs dst all l k fr st H :=
 RUNs_call hn (RUNc_specH (X:=⟨P,G,w0,M0,R⟩) ha hs (RUN_of_RUNs h))
end
theorem shM_nil (n:Nat):([]:List AB).map (shAB n)=[]:=rfl
theorem shM_cons (n:Nat) (b:AB) (l:List AB):(b::l).map (shAB n)=shAB n b::l.map (shAB n):=rfl
theorem shAB_dead (n:Nat):shAB n .dead=.dead:=rfl
theorem shAB_var (n:Nat) (cs:List V):shAB n (.var cs)=.var (shL n cs):=rfl
theorem shAB_row (n sz:Nat) (es:List V) (v:Nat) (m:Bool):shAB n (.row sz es v m)=.row sz es v m:=rfl
theorem shAB_map (n:Nat) (sg:KS) (f:List Int→Option V):shAB n (.map false sg f)=.map false sg f:=rfl
theorem shAB_mapO (n:Nat) (sg:KS) (f:List Int→Option V):shAB n (.map true sg f)=.map true sg (fun q=>(f q).map (shV n)):=rfl
theorem shAB_dfr (n D:Nat):shAB n (.dfr D)=.dfr D:=rfl
theorem shAB_lp (n l:Nat) (s:LoopState) (pend:Option Code) (fr:List V) (ps:List Tmp) (asg body:Code):shAB n (.lp l s pend fr ps asg body)=.lp l s pend (shL n fr) ps asg body:=rfl
theorem shV_val (n:Nat) (w:Value):shV n (.val w)=.val w:=by simp only [shV]
theorem shV_any (n:Nat):shV n .any=.any:=by simp only [shV]
theorem shV_ptr (n i o:Nat):shV n (.ptr i o)=.ptr (n + i) o:=by simp only [shV]
theorem shV_cp (n:Nat) (cs:List V):shV n (.cp cs)=.cp cs:=by simp only [shV]
theorem shV_sl (n:Nat) (es:List V) (m:Mk):shV n (.sl es m)=.sl es m:=by simp only [shV]
theorem shV_row (n i v:Nat):shV n (.row i v)=.row (n + i) v:=by simp only [shV]
theorem shV_vs (n i o k s:Nat):shV n (.vs i o k s)=.vs (n + i) o k s:=by simp only [shV]
theorem shV_mp (n i:Nat):shV n (.mp i)=.mp (n + i):=by simp only [shV]
theorem shV_agg (n:Nat) (cs:List V):shV n (.agg cs)=.agg (shL n cs):=by simp only [shV]
theorem shV_tup (n:Nat) (cs:List V):shV n (.tup cs)=.tup (shL n cs):=by simp only [shV]
theorem shV_fn (n:Nat) (f:Fn) (a b:List V):shV n (.fn f a b)=.fn f (shL n a) (shL n b):=by simp only [shV]
theorem shV_iface (n:Nat) (t:TypeId) (v:V):shV n (.iface t v)=.iface t (shV n v):=by simp only [shV]
theorem shL_nil (n:Nat):shL n []=[]:=by simp only [shL]
theorem shL_cons (n:Nat) (v:V) (vs:List V):shL n (v::vs)=shV n v::shL n vs:=by simp only [shL]
mutual
def fzK (keep:List Nat) (H:List AB):V→Option V
 | .row i ver=>bif keep.contains i then some (.row i ver) else fzRow H i ver
 | .agg cs=>(fzKL keep H cs).map .agg
 | .tup cs=>(fzKL keep H cs).map .tup
 | .val v=>some (.val v)
 | .sl es m=>some (.sl es .plain)
 | .cp cs=>some (.cp cs)
 | _=>none
def fzKL (keep:List Nat) (H:List AB):List V→Option (List V)
 | []=>some []
 | v::vs=>(fzK keep H v).bind fun v'=>(fzKL keep H vs).map (v' :: ·)
end
mutual
theorem fzK_sound {G:Glob} {w0:World} {M0:Nat→Nat→Prop} {E:Env} (hE:EOK G w0 M0 E) {keep:List Nat}:(v:V) → ∀ {v':V} {x:Value},Rep E v x→fzK keep E.H v=some v'→Rep E v' x
 | .row i ver,v',x,h,k=>by
   simp only [fzK] at k
   cases hc:keep.contains i with
   | true=>rw [hc] at k;simp only [cond_true] at k;injection k with k;subst k;exact h
   | false =>
     rw [hc] at k;simp only [cond_false] at k
     exact Rep.mono _ E.bare_le (fz_sound hE (.row i ver) h (by simp only [fz];exact k))
 | .agg cs,v',x,h,k=>by
   simp only [fzK,Option.map_eq_some_iff] at k
   obtain ⟨cs',k1,rfl⟩:=k
   simp only [Rep] at h ⊢
   obtain ⟨xs,h1,h2⟩:=h;exact ⟨xs,h1,fzKL_sound hE cs h2 k1⟩
 | .tup cs,v',x,h,k=>by
   simp only [fzK,Option.map_eq_some_iff] at k
   obtain ⟨cs',k1,rfl⟩:=k
   simp only [Rep] at h ⊢
   obtain ⟨xs,h1,h2⟩:=h;exact ⟨xs,h1,fzKL_sound hE cs h2 k1⟩
 | .val v,v',x,h,k=>by simp only [fzK] at k;injection k with k;subst k;exact h
 | .sl es m,v',x,h,k=>by simp only [fzK] at k;injection k with k;subst k;exact Rep.le (.sl es m) h
 | .cp cs,v',x,h,k=>by simp only [fzK] at k;injection k with k;subst k;exact h
 | .any,v',x,h,k=>by simp [fzK] at k
 | .ptr _ _,v',x,h,k=>by simp [fzK] at k
 | .ptrE _ _ _ _ _,v',x,h,k=>by simp [fzK] at k
 | .vs _ _ _ _,v',x,h,k=>by simp [fzK] at k
 | .fn _ _ _,v',x,h,k=>by simp [fzK] at k
 | .iface _ _,v',x,h,k=>by simp [fzK] at k
 | .mp _,v',x,h,k=>by simp [fzK] at k
theorem fzKL_sound {G:Glob} {w0:World} {M0:Nat→Nat→Prop} {E:Env} (hE:EOK G w0 M0 E) {keep:List Nat}:(vs:List V) → ∀ {vs':List V} {xs:List Value},RepL E vs xs→fzKL keep E.H vs=some vs'→RepL E vs' xs
 | [],vs',xs,h,k=>by simp only [fzKL] at k;injection k with k;subst k;exact h
 | v::vs,vs',xs,h,k=>by
   simp only [fzKL,Option.bind_eq_some_iff,Option.map_eq_some_iff] at k
   obtain ⟨v',k1,vs'',k2,rfl⟩:=k
   simp only [RepL] at h ⊢
   obtain ⟨y,ys,h1,h2,h3⟩:=h
   exact ⟨y,ys,h1,fzK_sound hE v h2 k1,fzKL_sound hE vs h3 k2⟩
end
section
variable {P:Program} {G:Glob} {w0:World} {M0:Nat→Nat→Prop} {R:Value→World→Prop}
theorem FINS_keep (keep:List Nat) {r:V} {Hr:List AB} {rs:List ResultVar} {k:List It} {fr:List V} {st:List (List V)} {H:List AB} {vs:List V}
 (h:fzK keep (immL H ((rowsIn (resV vs)).filter fun i => !keep.contains i)) (resV vs)=some r) (hw:Weak [r] (immL H ((rowsIn (resV vs)).filter fun i => !keep.contains i)) [r] Hr):FINS P G w0 M0 r Hr ⟨.fin rs::k,fr,st,H⟩ rs (some vs) fr H:=by
 intro h1
 refine RUNs_stop (by rfl) ?_
 intro sa a E hH hRel hD
 simp only at hH hRel;subst hH
 simp only [post]
 obtain ⟨x,k1,k2⟩:=results_sound hRel.ok hRel.fr h1
 obtain ⟨E1,e1,e2,e3,e4⟩:=EOK.immL ((rowsIn (resV vs)).filter fun i => !keep.contains i) hRel.ok
 simp only [DF] at hD
 rw [hD]
 refine ⟨x,k1,?_⟩
 have hr:Rep E1 r x:=fzK_sound e3 _ (Rep.mono _ e4 k2) (by rw [e2];exact h)
 have hR1:RelE ⟨P,G,w0,M0,RES G w0 M0 r Hr⟩ [r] [] [] ⟨#[x],[]⟩ E1:=⟨e3,RepL.cons hr (RepL.nil _),rfl⟩
 rw [← e2] at hw
 obtain ⟨E2,f1,f2,f3⟩:=hR1.weak hw (by rfl)
 have:=f3.fr
 simp only [RepL.cons_iff] at this
 exact ⟨E2,by rw [f1,e1],f2,f3.ok,this.1⟩
end
theorem fzK_row (keep:List Nat) (H:List AB) (i ver:Nat):fzK keep H (.row i ver)=bif keep.contains i then some (.row i ver) else fzRow H i ver:=by simp only [fzK]
theorem fzK_agg (keep:List Nat) (H:List AB) (cs:List V):fzK keep H (.agg cs)=(fzKL keep H cs).map .agg:=by simp only [fzK]
theorem fzK_tup (keep:List Nat) (H:List AB) (cs:List V):fzK keep H (.tup cs)=(fzKL keep H cs).map .tup:=by simp only [fzK]
theorem fzK_val (keep:List Nat) (H:List AB) (v:Value):fzK keep H (.val v)=some (.val v):=by simp only [fzK]
theorem fzK_sl (keep:List Nat) (H:List AB) (es:List V) (m:Mk):fzK keep H (.sl es m)=some (.sl es .plain):=by simp only [fzK]
theorem fzK_cp (keep:List Nat) (H:List AB) (cs:List V):fzK keep H (.cp cs)=some (.cp cs):=by simp only [fzK]
theorem fzKL_nil (keep:List Nat) (H:List AB):fzKL keep H []=some []:=by simp only [fzKL]
theorem fzKL_cons (keep:List Nat) (H:List AB) (v:V) (vs:List V):fzKL keep H (v::vs)=(fzK keep H v).bind fun v'=>(fzKL keep H vs).map (v' :: ·):=by simp only [fzKL]
mutual
def frV (i ver:Nat) (s:V):V→V
 | .row j v=>bif j==i && v==ver then s else .row j v
 | .agg cs=>.agg (frL i ver s cs)
 | .tup cs=>.tup (frL i ver s cs)
 | .fn f a b=>.fn f (frL i ver s a) (frL i ver s b)
 | .iface t v=>.iface t (frV i ver s v)
 | v=>v
def frL (i ver:Nat) (s:V):List V→List V
 | []=>[]
 | v::vs=>frV i ver s v::frL i ver s vs
end
def frAB (i ver:Nat) (s:V):AB→AB
 | .var cs=>.var (frL i ver s cs)
 | .lp l st pend fr ps asg body=>.lp l st pend (frL i ver s fr) ps asg body
 | b=>b
mutual
theorem Rep.fr {G:Glob} {w0:World} {M0:Nat→Nat→Prop} {E:Env} (hE:EOK G w0 M0 E) {i ver:Nat} {s:V} (hs:fzRow E.H i ver=some s):(v:V) → ∀ {x:Value},Rep E v x→Rep E (frV i ver s v) x
 | .row j v,x,h=>by
   simp only [frV]
   cases hc:(j==i && v==ver) with
   | false=>exact h
   | true =>
     simp only [Bool.and_eq_true,beq_iff_eq] at hc
     obtain ⟨rfl,rfl⟩:=hc
     exact Rep.mono _ E.bare_le (fz_sound hE (.row j v) h (by simp only [fz];exact hs))
 | .agg cs,x,h=>by
   simp only [frV,Rep] at h ⊢
   obtain ⟨xs,h1,h2⟩:=h;exact ⟨xs,h1,RepL.fr hE hs cs h2⟩
 | .tup cs,x,h=>by
   simp only [frV,Rep] at h ⊢
   obtain ⟨xs,h1,h2⟩:=h;exact ⟨xs,h1,RepL.fr hE hs cs h2⟩
 | .fn f a b,x,h=>by
   simp only [frV,Rep] at h ⊢
   obtain ⟨xs,ys,h1,h2,h3⟩:=h;exact ⟨xs,ys,h1,RepL.fr hE hs a h2,RepL.fr hE hs b h3⟩
 | .iface t v,x,h=>by
   simp only [frV,Rep] at h ⊢
   obtain ⟨y,h1,h2⟩:=h;exact ⟨y,h1,Rep.fr hE hs v h2⟩
 | .any,x,h=>by simpa only [frV] using h
 | .val v,x,h=>by simpa only [frV] using h
 | .ptr _ _,x,h=>by simpa only [frV] using h
 | .ptrE _ _ _ _ _,x,h=>by simpa only [frV] using h
 | .cp _,x,h=>by simpa only [frV] using h
 | .sl _ _,x,h=>by simpa only [frV] using h
 | .vs _ _ _ _,x,h=>by simpa only [frV] using h
 | .mp _,x,h=>by simpa only [frV] using h
theorem RepL.fr {G:Glob} {w0:World} {M0:Nat→Nat→Prop} {E:Env} (hE:EOK G w0 M0 E) {i ver:Nat} {s:V} (hs:fzRow E.H i ver=some s):(vs:List V) → ∀ {xs:List Value},RepL E vs xs→RepL E (frL i ver s vs) xs
 | [],xs,h=>by simpa only [frL] using h
 | v::vs,xs,h=>by
   simp only [frL,RepL] at h ⊢
   obtain ⟨y,ys,h1,h2,h3⟩:=h
   exact ⟨y,ys,h1,Rep.fr hE hs v h2,RepL.fr hE hs vs h3⟩
end
theorem RepStack.fr {G:Glob} {w0:World} {M0:Nat→Nat→Prop} {E:Env} (hE:EOK G w0 M0 E) {i ver:Nat} {s:V} (hs:fzRow E.H i ver=some s):∀ {st:List (List V)} {sa:List Act},RepStack E st sa→RepStack E (st.map (frL i ver s)) sa
 | [],sa,h=>h
 | f::st,sa,h=>by
   obtain ⟨a,sa',rfl,h1,h3⟩:=h
   exact ⟨a,sa',rfl,RepL.fr hE hs f h1,RepStack.fr hE hs h3⟩
theorem EOK.frozen {G:Glob} {w0:World} {M0:Nat→Nat→Prop} {E:Env} (hE:EOK G w0 M0 E) {i ver:Nat} {s:V} (hs:fzRow E.H i ver=some s):EOK G w0 M0 { E with H:=E.H.map (frAB i ver s) }∧E.le { E with H:=E.H.map (frAB i ver s) }:=by
 have hget:∀ j,(E.H.map (frAB i ver s))[j]?=(E.H[j]?).map (frAB i ver s):=fun j=>List.getElem?_map ..
 have hle:E.le { E with H:=E.H.map (frAB i ver s) }:=by
  refine ⟨fun _ _ _ h=>h,fun _ _ _ h=>h,fun j sz es v m hr=>.inr ⟨sz,es,v,m,?_,Nat.le_refl _,fun _=>rfl⟩,fun j hd=>?_⟩
  ·show (E.H.map _)[j]?=_
   rw [hget,hr];rfl
  ·show (E.H.map _)[j]?=_
   rw [hget,hd];rfl
 refine ⟨⟨hE.below,hE.old,hE.mlt,fun j v b hp=>?_,hE.inj,fun j x hx=>?_,fun g cs hg=>RepAt.mono cs hle.bare (hE.glob g cs hg)⟩,hle⟩
 ·obtain ⟨⟨x,k1⟩,k2,k3⟩:=hE.phi j v b hp
  refine ⟨⟨frAB i ver s x,by show (E.H.map _)[j]?=_;rw [hget,k1];rfl⟩,?_,k3⟩
  show (E.H.map _)[j]?≠_
  rw [hget,k1];rw [k1] at k2
  cases x<;>simp [frAB] at k2 ⊢
 ·have hx':(E.H.map (frAB i ver s))[j]?=some x:=hx
  rw [hget,Option.map_eq_some_iff] at hx'
  obtain ⟨y,hy,rfl⟩:=hx'
  have hb:=hE.blk j y hy
  cases y with
  | var cs =>
    obtain ⟨b,C,e,h1,h2,h3,h4⟩:=hb
    exact ⟨b,C,e,h1,h2,RepL.mono _ hle (RepL.fr hE hs cs h3),h4⟩
  | lp l st pend fr ps asg body =>
    obtain ⟨fn,tmps,D,h1,h2,h3⟩:=hb
    exact ⟨fn,tmps,D,h1,h2,RepL.mono _ hle (RepL.fr hE hs fr h3)⟩
  | _=>exact HOK.mono hle rfl rfl (fun v b hb=>⟨rfl,fun _=>Iff.rfl⟩) hb
theorem RUN_freeze {X:Ctx} (i ver:Nat) (s:V) {k:List It} {fr:List V} {st:List (List V)} {H:List AB} (hs:fzRow (immAt H i) i ver=some s)
 (h:RUN X ⟨k,frL i ver s fr,st.map (frL i ver s),(immAt H i).map (frAB i ver s)⟩):RUN X ⟨k,fr,st,H⟩:=by
 intro sa a E hH hR hD
 simp only at hH hR;subst hH
 obtain ⟨E1,e1,e2,e3,e4⟩:=hR.ok.immAt i
 rw [← e2] at hs
 obtain ⟨f1,f2⟩:=e3.frozen hs
 have:=h sa a { E1 with H:=E1.H.map (frAB i ver s) } (by show E1.H.map _=_;rw [e2]) ⟨f1,RepL.mono _ f2 (RepL.fr e3 hs fr (RepL.mono _ e4 hR.fr)),(RepStack.fr e3 hs (hR.st.mono e4)).mono f2⟩ hD
 rw [← e1];exact this
section
variable {P:Program} {G:Glob} {w0:World} {M0:Nat→Nat→Prop} {R:Value→World→Prop}
theorem RUNs_freeze (i ver:Nat) (s:V) {k:List It} {fr:List V} {st:List (List V)} {H:List AB} (hn:step P G ⟨k,fr,st,H⟩=none) (hs:fzRow (immAt H i) i ver=some s)
 (h:RUNs P G w0 M0 R ⟨k,frL i ver s fr,st.map (frL i ver s),(immAt H i).map (frAB i ver s)⟩):RUNs P G w0 M0 R ⟨k,fr,st,H⟩ :=
 RUNs_stop hn (RUN_freeze (X:=⟨P,G,w0,M0,R⟩) i ver s hs (RUN_of_RUNs h))
end
theorem frV_row (i ver:Nat) (s:V) (j v:Nat):frV i ver s (.row j v)=bif j==i && v==ver then s else .row j v:=by simp only [frV]
theorem frV_agg (i ver:Nat) (s:V) (cs:List V):frV i ver s (.agg cs)=.agg (frL i ver s cs):=by simp only [frV]
theorem frV_tup (i ver:Nat) (s:V) (cs:List V):frV i ver s (.tup cs)=.tup (frL i ver s cs):=by simp only [frV]
theorem frV_fn (i ver:Nat) (s:V) (f:Fn) (a b:List V):frV i ver s (.fn f a b)=.fn f (frL i ver s a) (frL i ver s b):=by simp only [frV]
theorem frV_iface (i ver:Nat) (s:V) (t:TypeId) (v:V):frV i ver s (.iface t v)=.iface t (frV i ver s v):=by simp only [frV]
theorem frV_any (i ver:Nat) (s:V):frV i ver s .any=.any:=by simp only [frV]
theorem frV_val (i ver:Nat) (s:V) (w:Value):frV i ver s (.val w)=.val w:=by simp only [frV]
theorem frV_ptr (i ver:Nat) (s:V) (j o:Nat):frV i ver s (.ptr j o)=.ptr j o:=by simp only [frV]
theorem frV_ptrE (i ver:Nat) (s:V) (j v x z o:Nat):frV i ver s (.ptrE j v x z o)=.ptrE j v x z o:=by simp only [frV]
theorem frV_cp (i ver:Nat) (s:V) (cs:List V):frV i ver s (.cp cs)=.cp cs:=by simp only [frV]
theorem frV_sl (i ver:Nat) (s:V) (es:List V) (m:Mk):frV i ver s (.sl es m)=.sl es m:=by simp only [frV]
theorem frV_vs (i ver:Nat) (s:V) (j o n z:Nat):frV i ver s (.vs j o n z)=.vs j o n z:=by simp only [frV]
theorem frV_mp (i ver:Nat) (s:V) (j:Nat):frV i ver s (.mp j)=.mp j:=by simp only [frV]
theorem frL_nil (i ver:Nat) (s:V):frL i ver s []=[]:=by simp only [frL]
theorem frL_cons (i ver:Nat) (s:V) (v:V) (vs:List V):frL i ver s (v::vs)=frV i ver s v::frL i ver s vs:=by simp only [frL]
theorem frM_nil (i ver:Nat) (s:V):([]:List AB).map (frAB i ver s)=[]:=rfl
theorem frM_cons (i ver:Nat) (s:V) (b:AB) (l:List AB):(b::l).map (frAB i ver s)=frAB i ver s b::l.map (frAB i ver s):=rfl
theorem stM_nil (i ver:Nat) (s:V):([]:List (List V)).map (frL i ver s)=[]:=rfl
theorem stM_cons (i ver:Nat) (s:V) (f:List V) (l:List (List V)):(f::l).map (frL i ver s)=frL i ver s f::l.map (frL i ver s):=rfl
theorem frAB_var (i ver:Nat) (s:V) (cs:List V):frAB i ver s (.var cs)=.var (frL i ver s cs):=rfl
theorem frAB_row (i ver:Nat) (s:V) (sz:Nat) (es:List V) (v:Nat) (m:Bool):frAB i ver s (.row sz es v m)=.row sz es v m:=rfl
theorem frAB_dfr (i ver:Nat) (s:V) (D:Nat):frAB i ver s (.dfr D)=.dfr D:=rfl
theorem frAB_lp (i ver:Nat) (s:V) (l:Nat) (st:LoopState) (pend:Option Code) (fr:List V) (ps:List Tmp) (asg body:Code):frAB i ver s (.lp l st pend fr ps asg body)=.lp l st pend (frL i ver s fr) ps asg body:=rfl
theorem frAB_dead (i ver:Nat) (s:V):frAB i ver s .dead=.dead:=rfl
theorem frAB_map (i ver:Nat) (s:V) (own:Bool) (sg:KS) (f:List Int→Option V):frAB i ver s (.map own sg f)=.map own sg f:=rfl
end Go.Ab
namespace Go.Ab
open Go Go.RowKit
theorem Oper.wpIn_monoQ {F:Fence} {n:Nat} {P:Program} {o:Oper} {a:Act} {w:World} {K K':Act→World→Prop} {Q Q':Exit→Act→World→Prop} (h:∀ a w,K a w→K' a w) (hq:∀ e a w,Q e a w→Q' e a w)
 (hh:o.wpIn F n P a w K Q):o.wpIn F n P a w K' Q':=by
 have hl:LetsOut Q→LetsOut Q':=fun ⟨a,w,x⟩=>⟨a,w,hq _ _ _ x⟩
 unfold Oper.wpIn at *
 refine ⟨hh.1,?_⟩
 have hh:=hh.2
 generalize (o.semAt F.round a.eval).run P w=r at *
 cases r with
 | ok x w' =>
   cases x<;>simp only [Oper.uponIn] at hh ⊢ <;>
    first
     | exact h _ _ hh
     | exact ⟨hh.1,CallsIn.mono hh.2 (fun e w'' he=>by cases e<;>first|exact h _ _ he|exact hq _ _ _ he|exact hl he)⟩
     | exact ⟨hh.1,RowsIn.mono hh.2 (fun _ _ he=>h _ _ he)⟩
     | exact ⟨hh.1,RoundIn.mono hh.2 (fun e w'' he=>by cases e<;>first|exact h _ _ he|exact hq _ _ _ he|exact hl he)⟩
 | halt x w'=>cases x<;>simp only [Oper.uponIn] at hh ⊢ <;> first|exact hh|exact hq _ _ _ hh
theorem wpListIn_monoQ {F:Fence} {n:Nat} {P:Program} {ops:Array Oper} {Q Q':Exit→Act→World→Prop} (hq:∀ e a w,Q e a w→Q' e a w):∀ {l:List Oper} {a:Act} {w:World},wpListIn F n P ops Q l a w→wpListIn F n P ops Q' l a w
 | [],a,w,h=>hq _ _ _ h
 | o::l,a,w,h=>by
   unfold wpListIn at h ⊢
   split
   ·rename_i hw;rw [if_pos hw] at h;exact Oper.wpIn_monoQ (fun a w=>wpListIn_monoQ hq) hq h
   ·rename_i hw;rw [if_neg hw] at h;exact ⟨h.1,wpListIn_monoQ hq h.2⟩
def addMk (D:Nat):List It→List It
 | []=>[]
 | .fin rs::k=>.mk D::.fin rs::k
 | .code c::k=>.code c::addMk D k
 | .ops all l::k=>.ops all l::addMk D k
 | .blk id::k=>.blk id::addMk D k
 | k=>k
def okMk:List It→Bool
 | .fin _::_=>true
 | .code _::k=>okMk k
 | .ops _ _::k=>okMk k
 | .blk _::k=>okMk k
 | _=>false
theorem rd_addMk {D:Nat}:∀ {k:List It},okMk k=true→rd (addMk D k)=none∧rd k=none
 | [],h=>by simp [okMk] at h
 | .fin _::_,_=>⟨rfl,rfl⟩
 | .code _::k,h=>by simpa only [addMk,rd] using rd_addMk (k:=k) (by simpa only [okMk] using h)
 | .ops _ _::k,h=>by simpa only [addMk,rd] using rd_addMk (k:=k) (by simpa only [okMk] using h)
 | .blk _::k,h=>by simpa only [addMk,rd] using rd_addMk (k:=k) (by simpa only [okMk] using h)
 | .ret _ _::_,h=>by simp [okMk] at h
 | .inv _::_,h=>by simp [okMk] at h
 | .mk _::_,h=>by simp [okMk] at h
 | .beg _::_,h=>by simp [okMk] at h
 | .rnd _ _::_,h=>by simp [okMk] at h
 | .rndj _ _ _::_,h=>by simp [okMk] at h
 | .erf _::_,h=>by simp [okMk] at h
theorem post_addMk {P:Program} {R:Value→World→Prop} {D:Nat}:∀ {k:List It},okMk k=true → ∀ {sa:List Act} {e:Exit} {a:Act} {w:World},post P R (addMk D k) sa e a w→post P R k sa e a w
 | [],h,_,_,_,_,_=>by simp [okMk] at h
 | .fin rs::k,_,sa,e,a,w,h=>by
   simp only [addMk,post] at h ⊢
   cases e<;>simp only at h ⊢ <;> try exact h
   all_goals
    obtain ⟨ds,w',h1,h2,h3⟩:=h
    rw [h1]
    exact ⟨D,w',rfl,h2,h3⟩
 | .code c::k,h,sa,e,a,w,hp=>by
   simp only [okMk] at h
   simp only [addMk,post] at hp ⊢
   cases e<;>simp only at hp ⊢ <;> try exact post_addMk h hp
   rw [(rd_addMk (D:=D) h).1] at hp
   rw [(rd_addMk (D:=D) h).2]
   exact wpIn_mono hp fun e a w q=>post_addMk h q
 | .ops all l::k,h,sa,e,a,w,hp=>by
   simp only [okMk] at h
   simp only [addMk,post] at hp ⊢
   cases e<;>simp only at hp ⊢ <;> try exact post_addMk h hp
   rw [(rd_addMk (D:=D) h).1] at hp
   rw [(rd_addMk (D:=D) h).2]
   exact wpListIn_monoQ (fun e a w q=>post_addMk h q) hp
 | .blk id::k,h,sa,e,a,w,hp=>by
   simp only [okMk] at h
   simp only [addMk,post] at hp ⊢
   cases e<;>simp only at hp ⊢ <;> try exact post_addMk h hp
   split
   ·rename_i hi;rw [if_pos hi] at hp;exact post_addMk h hp
   ·rename_i hi;rw [if_neg hi] at hp;exact post_addMk h hp
 | .ret _ _::_,h,_,_,_,_,_=>by simp [okMk] at h
 | .inv _::_,h,_,_,_,_,_=>by simp [okMk] at h
 | .mk _::_,h,_,_,_,_,_=>by simp [okMk] at h
 | .beg _::_,h,_,_,_,_,_=>by simp [okMk] at h
 | .rnd _ _::_,h,_,_,_,_,_=>by simp [okMk] at h
 | .rndj _ _ _::_,h,_,_,_,_,_=>by simp [okMk] at h
 | .erf _::_,h,_,_,_,_,_=>by simp [okMk] at h
theorem DF_addMk {D:Nat}:∀ {k:List It},okMk k=true → ∀ {ds:List Deferred} {sa:List Act},DF k ds sa→DF (addMk D k) (mkD D::ds) sa
 | [],h,_,_,_=>by simp [okMk] at h
 | .fin rs::k,_,ds,sa,h=>by simp only [addMk,DF] at h ⊢;exact ⟨ds,rfl,h⟩
 | .code c::k,h,ds,sa,hp=>by simp only [addMk,DF] at hp ⊢;exact DF_addMk (by simpa only [okMk] using h) hp
 | .ops all l::k,h,ds,sa,hp=>by simp only [addMk,DF] at hp ⊢;exact DF_addMk (by simpa only [okMk] using h) hp
 | .blk id::k,h,ds,sa,hp=>by simp only [addMk,DF] at hp ⊢;exact DF_addMk (by simpa only [okMk] using h) hp
 | .ret _ _::_,h,_,_,_=>by simp [okMk] at h
 | .inv _::_,h,_,_,_=>by simp [okMk] at h
 | .mk _::_,h,_,_,_=>by simp [okMk] at h
 | .beg _::_,h,_,_,_=>by simp [okMk] at h
 | .rnd _ _::_,h,_,_,_=>by simp [okMk] at h
 | .rndj _ _ _::_,h,_,_,_=>by simp [okMk] at h
 | .erf _::_,h,_,_,_=>by simp [okMk] at h
theorem RepL.undefs (E:Env):∀ m,RepL E (List.replicate m undefV) (List.replicate m undef)
 | 0=>RepL.nil E
 | m + 1=>RepL.cons (Rep.undef E) (RepL.undefs E m)
theorem EOK.enter {G:Glob} {w0:World} {M0:Nat→Nat→Prop} {E:Env} (h:EOK G w0 M0 E) (fn:FuncId) {tmps:Array Value} {ps:List Tmp} {asg body:Code} {fr:List V} (hfr:RepL E fr tmps.toList) :
 ∃ E',E'.w=(E.w.alloc (.deferred (some []))).alloc (.loop { state:=.ready,pending:=none,fn,tmps,params:=ps.toArray,assign:=asg,body,defers:=E.w.heap.size }) ∧
  E'.H=E.H++[.dfr E.w.heap.size,.lp (E.w.heap.size + 1) .ready none fr ps asg body]∧EOK G w0 M0 E'∧E.le E':=by
 obtain ⟨h1,l1⟩:=h.allocOwn (.deferred (some [])) (NewAt.push E.H (.dfr E.w.heap.size)) (.bool false) (fun _=>False) (by simp) (fun _=>by
  refine ⟨by simp [Env.allocOwn],?_⟩
  show (E.w.alloc _).heap[_]?=_
  exact World.alloc_heap_new _ _)
 obtain ⟨h2,l2⟩:=h1.allocOwn (.loop { state:=.ready,pending:=none,fn,tmps,params:=ps.toArray,assign:=asg,body,defers:=E.w.heap.size }) (NewAt.push _ (.lp (E.w.heap.size + 1) .ready none fr ps asg body)) (.bool false) (fun _=>False) (by simp) (fun l=>by
  refine ⟨fn,tmps,E.w.heap.size,by simp [Env.allocOwn],?_,RepL.mono _ (l1.trans l) hfr⟩
  show (World.alloc (Env.allocOwn ..).w _).heap[_]?=_
  have:=World.alloc_heap_new (E.allocOwn (.deferred (some [])) E.H.length (E.H++[AB.dfr E.w.heap.size]) (.bool false) (fun _=>False)).w (.loop { state:=.ready,pending:=none,fn,tmps,params:=ps.toArray,assign:=asg,body,defers:=E.w.heap.size })
  rwa [show (E.allocOwn (.deferred (some [])) E.H.length (E.H++[AB.dfr E.w.heap.size]) (.bool false) (fun _=>False)).w.heap.size=E.w.heap.size + 1 by simp [Env.allocOwn]] at this)
 exact ⟨_,rfl,by simp [Env.allocOwn],h2,l1.trans l2⟩
abbrev yieldV (l:Nat):V:=.val (.func (.yield l) #[] #[])
theorem RUN_rangeFunc {X:Ctx} {g:Operand} {ps:List Tmp} {asg body:Code} {k:List It} {fr:List V} {H:List AB} {n:FuncId} {first cap:List V} {fn:Func} {gbody:Code}
 (hf:evalO X.G fr g=.fn (.func n) first cap) (hn:callB X.P n=true) (hfn:X.P.funcs[n]?=some fn) (hb:fn.body=some gbody) (hk:okMk k=true)
 (h:∀ D l,RUN X ⟨.code gbody::.ret fn.results.toList none::.erf l::addMk D k,(first++[yieldV l]++cap)++List.replicate (fn.ntmps - (first++[yieldV l]++cap).length) undefV,[fr],H++[.dfr D,.lp l .ready none fr ps asg body]⟩) :
 RUN X ⟨.code (.rangeFunc g ps.toArray asg body)::k,fr,[],H⟩:=by
 intro sa a E hH hR hD
 simp only at hH hR hD
 simp only [DF] at hD
 simp only [post]
 have hsa:sa=[]:=hR.st
 subst hsa
 rw [(rd_addMk (D:=0) hk).2]
 have hg:=evalO_sound hR.ok hR.fr g
 rw [hf] at hg;simp only [Rep] at hg
 obtain ⟨xs,ys,hfv,h1,h2⟩:=hg
 refine wpIn_rangeFunc fun fn0 _=>?_
 obtain ⟨E',e1,e2,e3,e4⟩:=hR.ok.enter fn0 (ps:=ps) (asg:=asg) (body:=body) hR.fr
 rw [hH] at e2
 have hn':=hn
 unfold callB at hn'
 rw [hfn] at hn'
 simp only [Bool.and_eq_true,Bool.not_eq_true'] at hn'
 have hbn:fn.body.isNone=false:=by simp [hb]
 refine ⟨E.w.heap.size + 1,[mkD E.w.heap.size],E'.w,⟨.fn (.func n) ys.toArray,(xs++[(Value.func (.yield (E.w.heap.size + 1)) #[] #[])]).toArray⟩,E'.w,n,(xs++[(Value.func (.yield (E.w.heap.size + 1)) #[] #[])]++ys).toArray,E'.w,?_,?_,fun _ _=>trivial,?_,?_,?_⟩
 ·rw [e1];exact run_enterLoop_outer _ _ _ _ _
 ·simp only [resolve,rangeCall,hfv,Deferred.ofValue,Sem.run_bind,Sem.run_pure,Result.andThen_ok]
  simp [Act.eval]
 ·simp only [invoke,callFunc,Sem.run_bind,run_program,Result.andThen_ok,hfn,hn'.2,hbn,Bool.false_eq_true,if_false]
  simp
 ·intro hd;simp [FR,Fence.wide] at hd
 ·refine callsIn_wide.2 (calls_of_wp hfn hb ?_)
  have hrep:RepL E' ((first++[yieldV (E.w.heap.size + 1)]++cap)++List.replicate (fn.ntmps - (first++[yieldV (E.w.heap.size + 1)]++cap).length) undefV)
   ((xs++[(Value.func (.yield (E.w.heap.size + 1)) #[] #[])]++ys).toArray++Array.replicate (fn.ntmps - (xs++[(Value.func (.yield (E.w.heap.size + 1)) #[] #[])]++ys).toArray.size) undef).toList:=by
   have hh:RepL E' (first++[yieldV (E.w.heap.size + 1)]++cap) (xs++[(Value.func (.yield (E.w.heap.size + 1)) #[] #[])]++ys) :=
    ((RepL.mono _ e4 h1).append (RepL.cons (by simp [yieldV,Rep,Value.oneCell']) (RepL.nil _))).append (RepL.mono _ e4 h2)
   have hl:=hh.length
   have:=hh.append (RepL.undefs E' (fn.ntmps - (first++[yieldV (E.w.heap.size + 1)]++cap).length))
   rw [← hl] at this
   rw [← hl,Array.toList_append,Array.toList_replicate,List.size_toArray]
   exact this
  have:=h E.w.heap.size (E.w.heap.size + 1) [{ a with defers:=mkD E.w.heap.size::a.defers }] ⟨_,[]⟩ E' e2
   ⟨e3,hrep,⟨_,_,rfl,RepL.mono _ e4 hR.fr,rfl⟩⟩ (by simp only [DF];exact ⟨trivial,fun a0 sa' e=>by injection e with e5 e6;subst e5;subst e6;exact DF_addMk hk hD⟩)
  simp only [post,rd,FR_none,wpIn_wide] at this
  refine Code.wp_mono (fun e a' w' q=>?_) this
  cases e<;>simp only [post] at q<;>try exact q.elim
  all_goals
   obtain ⟨k1,v,k2,a0,sa',k3,jump,w4,k5,k6⟩:=q
   injection k3 with k3 k4;subst k3;subst k4
   refine ⟨k1,v,by rw [results_eq];exact k2,?_⟩
   refine ⟨jump,w4,k5,?_⟩
   cases jump with
   | none=>exact post_addMk hk k6
   | some c =>
     simp only [(rd_addMk (D:=E.w.heap.size) hk).1] at k6
     exact wpIn_mono k6 (fun e a w q=>post_addMk hk q)
theorem cell_none_of {w:World} {b:Nat} {o:Obj} (h:w.heap[b]?=some o) (hc:∀ C e d,o≠.cells C e d) (off:Nat):w.cell? ⟨b,off,none⟩=none:=by
 cases o<;>simp_all [World.cell?]
theorem EOK.put {G:Glob} {w0:World} {M0:Nat→Nat→Prop} {E:Env} (h:EOK G w0 M0 E) (i b:Nat) (ab ab':AB) (o o':Obj) (hφ:E.φ i 0=some b) (hi:E.H[i]?=some ab) (ho:E.w.heap[b]?=some o) (hc:∀ C e d,o≠.cells C e d)
 (hrow:∀ sz es v m,ab≠AB.row sz es v m) (hdead:ab≠AB.dead) (hhole:ab'≠AB.hole)
 (hk:E.le { E with w:=E.w.putObj b o',H:=E.H.set i ab' }→HOK { E with w:=E.w.putObj b o',H:=E.H.set i ab' } i ab') :
 EOK G w0 M0 { E with w:=E.w.putObj b o',H:=E.H.set i ab' }∧E.le { E with w:=E.w.putObj b o',H:=E.H.set i ab' } :=
 h.write (E.w.putObj b o') i b ab ab' hφ hi World.putObj_size rfl rfl rfl (fun k hk=>World.putObj_heap_other hk) (fun off u hs=>by have:=hs.1;rw [cell_none_of ho hc] at this;cases this) (fun sz es v m e=>absurd e (hrow sz es v m)) hdead hhole hk
theorem lt_of_some {w:World} {b:Nat} {o:Obj} (h:w.heap[b]?=some o):b < w.heap.size:=by
 rcases Nat.lt_or_ge b w.heap.size with k|k
 ·exact k
 ·rw [Array.getElem?_eq_none k] at h;cases h
theorem RUN_mk {X:Ctx} {i D:Nat} {k:List It} {fr:List V} {st:List (List V)} {H:List AB} (hi:H[i]?=some (.dfr D)) (h:RUN X ⟨toRet k,fr,st,H.set i .dead⟩):RUN X ⟨.mk D::k,fr,st,H⟩:=by
 intro sa a E hH hR hD
 simp only at hH hR;subst hH
 simp only [DF] at hD
 obtain ⟨ds,hds,hD⟩:=hD
 simp only [post]
 have hb:=hR.ok.blk i _ hi
 obtain ⟨h1,h2⟩:=hb
 obtain ⟨k1,k2⟩:=hR.ok.put i D (.dfr D) .dead _ (.deferred none) h1 hi h2 (by simp) (by simp) (by simp) (by simp) (fun _=>trivial)
 refine ⟨ds,_,hds,run_takeDeferred h2,post_ret ?_⟩
 exact h sa { a with defers:=ds } { E with w:=E.w.putObj D (.deferred none),H:=E.H.set i .dead } rfl ⟨k1,RepL.mono _ k2 hR.fr,hR.st.mono k2⟩ (DF_ret hD)
theorem EOK.loop {G:Glob} {w0:World} {M0:Nat→Nat→Prop} {E:Env} (h:EOK G w0 M0 E) {i l:Nat} {s:LoopState} {p:Option Code} {frL:List V} {ps:List Tmp} {asg body:Code} (hi:E.H[i]?=some (.lp l s p frL ps asg body)) (s':LoopState) (p':Option Code) :
 ∃ r:Loop,E.w.heap[l]?=some (.loop r)∧r.state=s∧r.pending=p∧r.params=ps.toArray∧r.assign=asg∧r.body=body∧RepL E frL r.tmps.toList ∧
  EOK G w0 M0 { E with w:=E.w.putObj l (.loop { r with state:=s',pending:=p' }),H:=E.H.set i (.lp l s' p' frL ps asg body) }∧E.le { E with w:=E.w.putObj l (.loop { r with state:=s',pending:=p' }),H:=E.H.set i (.lp l s' p' frL ps asg body) }:=by
 obtain ⟨fn,tmps,D,h1,h2,h3⟩:=h.blk i _ hi
 refine ⟨_,h2,rfl,rfl,rfl,rfl,rfl,h3,?_⟩
 exact h.put i l _ (.lp l s' p' frL ps asg body) _ _ h1 hi h2 (by simp) (by simp) (by simp) (by simp) (fun hle=>⟨fn,tmps,D,h1,World.putObj_heap_same (lt_of_some h2),RepL.mono _ hle h3⟩)
theorem RUN_beg {X:Ctx} {i l:Nat} {p:Option Code} {frL:List V} {ps:List Tmp} {asg body:Code} {k:List It} {fr:List V} {st:List (List V)} {H:List AB} (hi:H[i]?=some (.lp l .ready p frL ps asg body))
 (h:RUN X ⟨k,fr,st,H.set i (.lp l .busy p frL ps asg body)⟩):RUN X ⟨.beg l::k,fr,st,H⟩:=by
 intro sa a E hH hR hD
 simp only at hH hR;subst hH
 simp only [DF] at hD
 simp only [post]
 obtain ⟨r,h1,h2,h3,h4,h5,h6,h7,k1,k2⟩:=hR.ok.loop hi .busy p
 refine ⟨_,run_beginRound h1 h2,?_⟩
 have:=h sa a _ rfl ⟨k1,RepL.mono _ k2 hR.fr,hR.st.mono k2⟩ hD
 subst h3
 exact this
theorem RUN_rnd {X:Ctx} {i l:Nat} {s:LoopState} {p:Option Code} {frL:List V} {ps:List Tmp} {asg body:Code} {dst:Option Tmp} {k:List It} {fr f:List V} {st:List (List V)} {H:List AB} (hi:H[i]?=some (.lp l s p frL ps asg body))
 (h:RUN X ⟨k,putV f dst (.bool true),st,H.set i (.lp l .ready none frL ps asg body)⟩):RUN X ⟨.rnd l dst::k,fr,f::st,H⟩:=by
 intro sa a E hH hR hD
 simp only at hH hR;subst hH
 simp only [DF] at hD
 simp only [post]
 obtain ⟨r,h1,h2,h3,h4,h5,h6,h7,k1,k2⟩:=hR.ok.loop hi .ready none
 have hs:RepStack E (f::st) sa:=hR.st
 obtain ⟨a0,sa',rfl,h8,h9⟩:=hs
 refine ⟨_,_,run_endRound none h1,a0,sa',rfl,?_⟩
 exact h sa' (a0.put dst (.bool true)) _ rfl (RelE.put (E:={ E with w:=E.w.putObj l (.loop { r with state:=.ready,pending:=none }),H:=E.H.set i (.lp l .ready none frL ps asg body) }) ⟨k1,RepL.mono _ k2 h8,h9.mono k2⟩ (Env.le.refl _) k1 (v:=.bool true) (by simp [Rep,Value.oneCell']) dst) (by rw [put_defers];exact hD.2 a0 sa' rfl)
theorem RUN_rndj {X:Ctx} {i l:Nat} {c:Code} {s:LoopState} {p:Option Code} {frL:List V} {ps:List Tmp} {asg body:Code} {dst:Option Tmp} {k:List It} {fr f:List V} {st:List (List V)} {H:List AB} (hi:H[i]?=some (.lp l s p frL ps asg body))
 (h:RUN X ⟨k,putV f dst (.bool false),st,H.set i (.lp l .done (some c) frL ps asg body)⟩):RUN X ⟨.rndj l c dst::k,fr,f::st,H⟩:=by
 intro sa a E hH hR hD
 simp only at hH hR;subst hH
 simp only [DF] at hD
 simp only [post]
 obtain ⟨r,h1,h2,h3,h4,h5,h6,h7,k1,k2⟩:=hR.ok.loop hi .done (some c)
 have hs:RepStack E (f::st) sa:=hR.st
 obtain ⟨a0,sa',rfl,h8,h9⟩:=hs
 refine ⟨_,_,run_endRound (some c) h1,a0,sa',rfl,?_⟩
 exact h sa' (a0.put dst (.bool false)) _ rfl (RelE.put (E:={ E with w:=E.w.putObj l (.loop { r with state:=.done,pending:=some c }),H:=E.H.set i (.lp l .done (some c) frL ps asg body) }) ⟨k1,RepL.mono _ k2 h8,h9.mono k2⟩ (Env.le.refl _) k1 (v:=.bool false) (by simp [Rep,Value.oneCell']) dst) (by rw [put_defers];exact hD.2 a0 sa' rfl)
def pendK (p:Option Code) (k:List It):List It:=match p with|none=>k|some c=>.code c::k
theorem RUN_erf {X:Ctx} {i l:Nat} {s:LoopState} {p:Option Code} {frL:List V} {ps:List Tmp} {asg body:Code} {k:List It} {fr:List V} {st:List (List V)} {H:List AB} (hi:H[i]?=some (.lp l s p frL ps asg body)) (hs:s≠.busy)
 (h:RUN X ⟨pendK p k,fr,st,H.set i (.lp l .exhausted p frL ps asg body)⟩):RUN X ⟨.erf l::k,fr,st,H⟩:=by
 intro sa a E hH hR hD
 simp only at hH hR;subst hH
 simp only [DF] at hD
 simp only [post]
 obtain ⟨r,h1,h2,h3,h4,h5,h6,h7,k1,k2⟩:=hR.ok.loop hi .exhausted p
 subst h3
 refine ⟨_,_,run_endLoop h1 (by rw [h2];exact hs),?_⟩
 have:=h sa a _ rfl ⟨k1,RepL.mono _ k2 hR.fr,hR.st.mono k2⟩ (by cases r.pending<;>simpa only [pendK,DF] using hD)
 cases hp:r.pending with
 | none=>rw [hp] at this;simpa only [pendK,hp] using this
 | some c=>rw [hp] at this;simpa only [pendK,post,hp] using this
def setPs:List V→List (Tmp×V)→List V
 | f,[]=>f
 | f,p::ps=>setPs (f.set p.1 p.2) ps
theorem RepL.setPs {E:Env}:∀ {ps:List Tmp} {vs:List V} {xs:List Value} {f:List V} {t:Array Value},RepL E f t.toList→RepL E vs xs→RepL E (setPs f (ps.zip vs)) ((ps.zip xs).foldl (fun tmps (t,a)=>tmps.setIfInBounds t a) t).toList
 | [],vs,xs,f,t,h,hv=>by simpa [Ab.setPs] using h
 | p::ps,[],xs,f,t,h,hv=>by simp only [RepL] at hv;subst hv;simpa [Ab.setPs] using h
 | p::ps,v::vs,xs,f,t,h,hv=>by
   simp only [RepL] at hv
   obtain ⟨y,ys,rfl,h1,h2⟩:=hv
   simp only [List.zip_cons_cons,Ab.setPs,List.foldl_cons]
   refine RepL.setPs (t:=t.setIfInBounds p y) ?_ h2
   rw [Array.toList_setIfInBounds]
   exact h.set p h1
theorem RUN_yield {X:Ctx} {all l':List Oper} {o:Oper} {k:List It} {fr:List V} {st:List (List V)} {H:List AB} {c:Call} {f:Operand} {i l:Nat} {s:LoopState} {p:Option Code} {frL:List V} {ps:List Tmp} {asg body:Code}
 (hg:guardV all fr o=some true) (ho:o.op=.call c) (hc:c.callee=.value f) (hf:evalO X.G fr f=yieldV l) (hi:H[i]?=some (.lp l s p frL ps asg body)) (hlen:c.args.toList.length=ps.length)
 (h:RUN X ⟨.code asg::.beg l::.code body::.rnd l o.dst::.ops all l'::k,setPs frL (ps.zip (c.args.toList.map (evalO X.G fr))),fr::st,H⟩):RUN X ⟨.ops all (o::l')::k,fr,st,H⟩:=by
 intro sa a E hH hR hD
 simp only at hH hR hD
 subst hH
 simp only [DF] at hD
 simp only [post]
 unfold wpListIn
 rw [if_pos (guardV_sound (X:=X) hR.fr hg)]
 refine ⟨fun _ _=>trivial,?_⟩
 have hfr:=evalO_sound hR.ok hR.fr f
 rw [hf] at hfr;simp only [yieldV,Rep] at hfr
 have hargs:=evalL_sound hR.ok hR.fr c.args.toList
 obtain ⟨r,h1,h2,h3,h4,h5,h6,h7,k1,k2⟩:=hR.ok.loop hi s p
 have hrun:(execOp a.eval o).run X.P E.w=.ok (.round l r.fn ((r.params.zip (c.args.map a.eval)).foldl (fun tmps (t,a)=>tmps.setIfInBounds t a) r.tmps) r.assign r.body) E.w:=by
  have:=run_yield (P:=X.P) (args:=c.args.map a.eval) h1 (by rw [h4];simpa using hlen)
  simp only [execOp,ho,resolve,hc,hfr.1,Deferred.ofValue,Sem.run_bind,Sem.run_pure,Result.andThen_ok,invoke]
  simpa using this
 rw [Oper.semAt_eq _ _ _ (by intro c' hc';rw [ho] at hc';cases hc'),hrun,Oper.uponIn_round]
 refine ⟨(fun hd=>by simp [FR,Fence.wide] at hd),?_⟩
 refine roundIn_of_wpIn trivial ?_
 rw [h5,h6]
 have htmps:RepL E (setPs frL (ps.zip (c.args.toList.map (evalO X.G fr)))) ((r.params.zip (c.args.map a.eval)).foldl (fun tmps (t,a)=>tmps.setIfInBounds t a) r.tmps).toList:=by
  have:=RepL.setPs (ps:=ps) h7 hargs
  rw [h4]
  rw [← Array.foldl_toList]
  simpa using this
 have:=h (a::sa) ⟨_,[]⟩ E rfl ⟨hR.ok,htmps,⟨a,sa,rfl,hR.fr,hR.st⟩⟩ (by simp only [DF];exact ⟨trivial,fun a0 sa' e=>by injection e with e1 e2;subst e1;subst e2;exact hD⟩)
 simp only [post,rd] at this
 refine wpIn_mono this (fun e a1 w1 q=>?_)
 cases e<;>simp only [post] at q<;>try exact q.elim
 obtain ⟨w2,q1,q2⟩:=q
 refine ⟨w2,q1,?_⟩
 refine wpIn_mono q2 (fun e a3 w3 q=>?_)
 cases e<;>simp only [post] at q<;>try exact q.elim
 all_goals
  obtain ⟨v,w4,q3,a0,sa',q4,q5⟩:=q
  injection q4 with q4 q6;subst q4;subst q6
  exact ⟨v,w4,q3,q5⟩
end Go.Ab
namespace Go.Ab
open Go Go.RowKit
section
variable {P:Program} {G:Glob} {w0:World} {M0:Nat→Nat→Prop} {R:Value→World→Prop}
theorem RUNs_rangeFunc {g:Operand} {ps:List Tmp} {asg body:Code} {k:List It} {fr:List V} {H:List AB} {n:FuncId} {first cap:List V} (fn:Func) {gbody:Code}
 (hfn:P.funcs[n]?=some fn) (hb:fn.body=some gbody) (hn:callB P n=true) (hf:evalO G fr g=.fn (.func n) first cap) (hk:okMk k=true)
 (h:∀ D l,RUNs P G w0 M0 R ⟨.code gbody::.ret fn.results.toList none::.erf l::addMk D k,(first++[yieldV l]++cap)++List.replicate (fn.ntmps - (first++[yieldV l]++cap).length) undefV,[fr],H++[.dfr D,.lp l .ready none fr ps asg body]⟩) :
 RUNs P G w0 M0 R ⟨.code (.rangeFunc g ps.toArray asg body)::k,fr,[],H⟩ :=
 RUNs_stop (by rfl) (RUN_rangeFunc (X:=⟨P,G,w0,M0,R⟩) hf hn hfn hb hk fun D l=>RUN_of_RUNs (h D l))
theorem RUNs_mk (i:Nat) {D:Nat} {k:List It} {fr:List V} {st:List (List V)} {H:List AB} (hi:H[i]?=some (.dfr D)) (h:RUNs P G w0 M0 R ⟨toRet k,fr,st,H.set i .dead⟩):RUNs P G w0 M0 R ⟨.mk D::k,fr,st,H⟩ :=
 RUNs_stop (by rfl) (RUN_mk (X:=⟨P,G,w0,M0,R⟩) hi (RUN_of_RUNs h))
theorem RUNs_beg (i:Nat) {l:Nat} {p:Option Code} {frL:List V} {ps:List Tmp} {asg body:Code} {k:List It} {fr:List V} {st:List (List V)} {H:List AB} (hi:H[i]?=some (.lp l .ready p frL ps asg body))
 (h:RUNs P G w0 M0 R ⟨k,fr,st,H.set i (.lp l .busy p frL ps asg body)⟩):RUNs P G w0 M0 R ⟨.beg l::k,fr,st,H⟩ :=
 RUNs_stop (by rfl) (RUN_beg (X:=⟨P,G,w0,M0,R⟩) hi (RUN_of_RUNs h))
theorem RUNs_rnd (i:Nat) {l:Nat} {s:LoopState} {p:Option Code} {frL:List V} {ps:List Tmp} {asg body:Code} {dst:Option Tmp} {k:List It} {fr f:List V} {st:List (List V)} {H:List AB} (hi:H[i]?=some (.lp l s p frL ps asg body))
 (h:RUNs P G w0 M0 R ⟨k,putV f dst (.bool true),st,H.set i (.lp l .ready none frL ps asg body)⟩):RUNs P G w0 M0 R ⟨.rnd l dst::k,fr,f::st,H⟩ :=
 RUNs_stop (by rfl) (RUN_rnd (X:=⟨P,G,w0,M0,R⟩) hi (RUN_of_RUNs h))
theorem RUNs_rndj (i:Nat) {l:Nat} {c:Code} {s:LoopState} {p:Option Code} {frL:List V} {ps:List Tmp} {asg body:Code} {dst:Option Tmp} {k:List It} {fr f:List V} {st:List (List V)} {H:List AB} (hi:H[i]?=some (.lp l s p frL ps asg body))
 (h:RUNs P G w0 M0 R ⟨k,putV f dst (.bool false),st,H.set i (.lp l .done (some c) frL ps asg body)⟩):RUNs P G w0 M0 R ⟨.rndj l c dst::k,fr,f::st,H⟩ :=
 RUNs_stop (by rfl) (RUN_rndj (X:=⟨P,G,w0,M0,R⟩) hi (RUN_of_RUNs h))
theorem RUNs_erf (i:Nat) {l:Nat} {s:LoopState} {p:Option Code} {frL:List V} {ps:List Tmp} {asg body:Code} {k:List It} {fr:List V} {st:List (List V)} {H:List AB} (hi:H[i]?=some (.lp l s p frL ps asg body)) (hs:s≠.busy)
 (h:RUNs P G w0 M0 R ⟨pendK p k,fr,st,H.set i (.lp l .exhausted p frL ps asg body)⟩):RUNs P G w0 M0 R ⟨.erf l::k,fr,st,H⟩ :=
 RUNs_stop (by rfl) (RUN_erf (X:=⟨P,G,w0,M0,R⟩) hi hs (RUN_of_RUNs h))
theorem CALLS_yield (i:Nat) {l:Nat} {s:LoopState} {p:Option Code} {frL:List V} {ps:List Tmp} {asg body:Code} {f:Operand} {args:List Operand} {ats:Array TypeId} {vargs:List V} {dst:Option Tmp} {ty:TypeId} {pp:String} {af:Array Edge} {all l':List Oper} {k:List It} {fr:List V} {st:List (List V)} {H:List AB}
 (hi:H[i]?=some (.lp l s p frL ps asg body)) (hlen:args.length=ps.length)
 (h:RUNs P G w0 M0 R ⟨.code asg::.beg l::.code body::.rnd l dst::.ops all l'::k,setPs frL (ps.zip vargs),fr::st,H⟩) :
 CALLS P G w0 M0 R ⟨.ops all (⟨dst,.call ⟨.value f,args.toArray,ats⟩,ty,pp,af,none⟩::l')::k,fr,st,H⟩ f args (.val (.func (.yield l) #[] #[])) vargs dst all l' k fr st H:=by
 intro h1 h2
 refine RUNs_stop (by rfl) ?_
 refine RUN_yield (X:=⟨P,G,w0,M0,R⟩) (c:=⟨.value f,args.toArray,ats⟩) rfl rfl rfl h1 hi (by simpa using hlen) ?_
 rw [show (Call.args ⟨.value f,args.toArray,ats⟩).toList=args by rfl,h2]
 exact RUN_of_RUNs h
end
theorem addMk_fin (D:Nat) (rs:List ResultVar) (k:List It):addMk D (.fin rs::k)=.mk D::.fin rs::k:=rfl
theorem addMk_code (D:Nat) (c:Code) (k:List It):addMk D (.code c::k)=.code c::addMk D k:=rfl
theorem addMk_ops (D:Nat) (a l:List Oper) (k:List It):addMk D (.ops a l::k)=.ops a l::addMk D k:=rfl
theorem addMk_blk (D:Nat) (i:Nat) (k:List It):addMk D (.blk i::k)=.blk i::addMk D k:=rfl
theorem toRet_mk (D:Nat) (k:List It):toRet (.mk D::k)=.mk D::k:=rfl
theorem toRet_rnd (l:Nat) (d:Option Tmp) (k:List It):toRet (.rnd l d::k)=.rndj l .ret d::k:=rfl
theorem toBlk_rnd (i l:Nat) (d:Option Tmp) (k:List It):toBlk i (.rnd l d::k)=some (.rndj l (.exit i) d::k):=rfl
theorem pendK_none (k:List It):pendK none k=k:=rfl
theorem pendK_some (c:Code) (k:List It):pendK (some c) k=.code c::k:=rfl
theorem setPs_nil (f:List V) (xs:List V):setPs f (([]:List Tmp).zip xs)=f:=rfl
theorem setPs_cons (f:List V) (t:Tmp) (ts:List Tmp) (x:V) (xs:List V):setPs f ((t::ts).zip (x::xs))=setPs (f.set t x) (ts.zip xs):=rfl
end Go.Ab
namespace Go.Ab
open Go Go.RowKit
theorem ab:(((((((type_of% @AB1)∧(type_of% @AB2))∧((type_of% @AB3)∧(type_of% @AB4)))∧(((type_of% @AB5)∧(type_of% @AB6))∧((type_of% @AB7)∧((type_of% @S_call)∧(type_of% @S_fin)))))∧((((type_of% @S_inv)∧(type_of% @GRDN_f))∧((type_of% @GRDN_t)∧((type_of% @shM_nil)∧(type_of% @shM_cons))))∧(((type_of% @shAB_dead)∧(type_of% @shAB_var))∧((type_of% @shAB_row)∧((type_of% @shAB_map)∧(type_of% @shAB_mapO))))))∧(((((type_of% @shV_val)∧(type_of% @shV_any))∧((type_of% @shV_ptr)∧((type_of% @shV_cp)∧(type_of% @shV_sl))))∧(((type_of% @shV_row)∧(type_of% @shV_vs))∧((type_of% @shV_mp)∧((type_of% @shV_agg)∧(type_of% @shV_tup)))))∧((((type_of% @shV_fn)∧(type_of% @shV_iface))∧((type_of% @shL_nil)∧((type_of% @shL_cons)∧(type_of% @fzK_row))))∧(((type_of% @fzK_agg)∧(type_of% @fzK_tup))∧((type_of% @fzK_val)∧((type_of% @fzK_sl)∧(type_of% @fzK_cp)))))))∧((((((type_of% @fzKL_nil)∧(type_of% @fzKL_cons))∧((type_of% @frV_row)∧((type_of% @frV_agg)∧(type_of% @frV_tup))))∧(((type_of% @frV_fn)∧(type_of% @frV_iface))∧((type_of% @frV_any)∧((type_of% @frV_val)∧(type_of% @frV_ptr)))))∧((((type_of% @frV_ptrE)∧(type_of% @frV_cp))∧((type_of% @frV_sl)∧((type_of% @frV_vs)∧(type_of% @frV_mp))))∧(((type_of% @frL_nil)∧(type_of% @frL_cons))∧((type_of% @frM_nil)∧((type_of% @frM_cons)∧(type_of% @frAB_var))))))∧(((((type_of% @frAB_row)∧(type_of% @frAB_dead))∧((type_of% @frAB_map)∧((type_of% @stM_nil)∧(type_of% @stM_cons))))∧(((type_of% @addMk_fin)∧(type_of% @addMk_code))∧((type_of% @addMk_ops)∧((type_of% @addMk_blk)∧(type_of% @toRet_mk)))))∧((((type_of% @toRet_rnd)∧(type_of% @toBlk_rnd))∧((type_of% @pendK_none)∧((type_of% @pendK_some)∧(type_of% @setPs_nil))))∧(((type_of% @setPs_cons)∧(type_of% @shAB_dfr))∧((type_of% @shAB_lp)∧((type_of% @frAB_dfr)∧(type_of% @frAB_lp)))))))):=⟨⟨⟨⟨⟨⟨@AB1,@AB2⟩,⟨@AB3,@AB4⟩⟩,⟨⟨@AB5,@AB6⟩,⟨@AB7,⟨@S_call,@S_fin⟩⟩⟩⟩,⟨⟨⟨@S_inv,@GRDN_f⟩,⟨@GRDN_t,⟨@shM_nil,@shM_cons⟩⟩⟩,⟨⟨@shAB_dead,@shAB_var⟩,⟨@shAB_row,⟨@shAB_map,@shAB_mapO⟩⟩⟩⟩⟩,⟨⟨⟨⟨@shV_val,@shV_any⟩,⟨@shV_ptr,⟨@shV_cp,@shV_sl⟩⟩⟩,⟨⟨@shV_row,@shV_vs⟩,⟨@shV_mp,⟨@shV_agg,@shV_tup⟩⟩⟩⟩,⟨⟨⟨@shV_fn,@shV_iface⟩,⟨@shL_nil,⟨@shL_cons,@fzK_row⟩⟩⟩,⟨⟨@fzK_agg,@fzK_tup⟩,⟨@fzK_val,⟨@fzK_sl,@fzK_cp⟩⟩⟩⟩⟩⟩,⟨⟨⟨⟨⟨@fzKL_nil,@fzKL_cons⟩,⟨@frV_row,⟨@frV_agg,@frV_tup⟩⟩⟩,⟨⟨@frV_fn,@frV_iface⟩,⟨@frV_any,⟨@frV_val,@frV_ptr⟩⟩⟩⟩,⟨⟨⟨@frV_ptrE,@frV_cp⟩,⟨@frV_sl,⟨@frV_vs,@frV_mp⟩⟩⟩,⟨⟨@frL_nil,@frL_cons⟩,⟨@frM_nil,⟨@frM_cons,@frAB_var⟩⟩⟩⟩⟩,⟨⟨⟨⟨@frAB_row,@frAB_dead⟩,⟨@frAB_map,⟨@stM_nil,@stM_cons⟩⟩⟩,⟨⟨@addMk_fin,@addMk_code⟩,⟨@addMk_ops,⟨@addMk_blk,@toRet_mk⟩⟩⟩⟩,⟨⟨⟨@toRet_rnd,@toBlk_rnd⟩,⟨@pendK_none,⟨@pendK_some,@setPs_nil⟩⟩⟩,⟨⟨@setPs_cons,@shAB_dfr⟩,⟨@shAB_lp,⟨@frAB_dfr,@frAB_lp⟩⟩⟩⟩⟩⟩⟩
theorem ab2:(((((type_of% @List.drop_zero.{0})∧((type_of% @if_true.{1})∧(type_of% @if_false.{1})))∧(((type_of% @eq_self.{1})∧(type_of% @and_self))∧((type_of% @and_true)∧(type_of% @true_and))))∧((((type_of% @Option.isSome_some.{0})∧(type_of% @Nat.zero_add))∧((type_of% @Bool.and_self)∧(type_of% @decide_true)))∧(((type_of% @decide_false)∧(type_of% @cond_true.{1}))∧((type_of% @cond_false.{1})∧(type_of% @Bool.and_true)))))∧(((((type_of% @Bool.true_and)∧(type_of% @Bool.false_and))∧((type_of% @Bool.and_false)∧(type_of% @beq_self_eq_true.{0})))∧(((type_of% @Int.toNat_natCast)∧(type_of% @not_true))∧((type_of% @not_false_eq_true)∧(type_of% @and_false))))∧((((type_of% @false_and)∧(type_of% @ite_true.{1}))∧((type_of% @ite_false.{1})∧(type_of% @lenMap)))∧(((type_of% @takeMap)∧(type_of% @dropMap))∧((type_of% @List.length_cons.{0})∧(type_of% @List.length_nil.{0})))))):=⟨⟨⟨⟨@List.drop_zero,⟨@if_true,@if_false⟩⟩,⟨⟨@eq_self,@and_self⟩,⟨@and_true,@true_and⟩⟩⟩,⟨⟨⟨@Option.isSome_some,@Nat.zero_add⟩,⟨@Bool.and_self,@decide_true⟩⟩,⟨⟨@decide_false,@cond_true⟩,⟨@cond_false,@Bool.and_true⟩⟩⟩⟩,⟨⟨⟨⟨@Bool.true_and,@Bool.false_and⟩,⟨@Bool.and_false,@beq_self_eq_true⟩⟩,⟨⟨@Int.toNat_natCast,@not_true⟩,⟨@not_false_eq_true,@and_false⟩⟩⟩,⟨⟨⟨@false_and,@ite_true⟩,⟨@ite_false,@lenMap⟩⟩,⟨⟨@takeMap,@dropMap⟩,⟨@List.length_cons,@List.length_nil⟩⟩⟩⟩⟩
theorem lf:(type_of% @List.replicate_zero.{0})∧(type_of% @List.replicate_succ.{0})∧(type_of% @List.cons_append.{0})∧(type_of% @List.nil_append.{0}):=⟨@List.replicate_zero.{0},@List.replicate_succ.{0},@List.cons_append.{0},@List.nil_append.{0}⟩
end Go.Ab
