import Derived.Test.YtaebkmmjjabnaaaGreatDoorW7
import Derived.Orders
set_option maxRecDepth 100000
set_option maxHeartbeats 4000000
set_option linter.unusedSimpArgs false
set_option linter.unusedVariables false
namespace Go.Ab
open Go Go.RowKit
theorem Spec.callsE {P:Program} {G:Glob} {w0:World} {M0:Nat→Nat→Prop} {E:Env} {n:FuncId} {args':List V} {r:V} {xs:List Value} (hs:Spec P G n args' r []) (e3:EOK G w0 M0 E) (hx':RepL E.bare args' xs) :
 Calls P n xs.toArray E.w fun e w' => ∃ v E3,e=.returned v∧E3.w=w'∧E3.H=E.H∧EOK G w0 M0 E3∧E.le E3∧Rep E3 r v:=by
 have hb:EOK G E.w E.M E.bare:=⟨Below.refl _ _,fun _ _ _=>Iff.rfl,e3.mlt,fun i v b hp=>by simp [Env.bare] at hp,fun i v j u b hp=>by simp [Env.bare] at hp,fun i h hh=>by simp [Env.bare] at hh,e3.glob⟩
 refine (hs E xs hb hx').mono ?_
 rintro e w' ⟨v,E2,rfl,hw,hH2,hok,hle,hv⟩
 let E3:Env:={ w:=E2.w,φ:=E.φ,τ:=E.τ,M:=fun b o=>if b < E.w.heap.size then E.M b o else False,H:=E.H }
 have hstab:∀ b o u,E.stab b o u→E3.stab b o u:=by
  intro b o u hs
  have:=hle.stab b o u hs
  refine ⟨this.1,?_⟩
  show ¬ (if b < E.w.heap.size then E.M b o else False)
  split
  ·exact hs.2
  ·exact id
 have hle3:E.le E3:=⟨hstab,fun _ _ _ h=>h,fun _ _ _ _ _ h=>.inr ⟨_,_,_,_,h,Nat.le_refl _,fun _=>rfl⟩,fun _ h=>h⟩
 have hle23:E2.le E3:=by
  refine ⟨fun b o u hs=>⟨hs.1,?_⟩,fun i v b hp=>?_,fun i sz es v m hr=>?_,fun i hd=>?_⟩
  ·show ¬ (if b < E.w.heap.size then E.M b o else False)
   split
   ·rename_i hb;exact fun hm=>hs.2 ((hok.old b o hb).2 hm)
   ·exact id
  ·obtain ⟨⟨x,hx⟩,_⟩:=hok.phi i v b hp
   rw [hH2] at hx;simp at hx
  ·rw [hH2] at hr;simp at hr
  ·rw [hH2] at hd;simp at hd
 have hsize:=hok.below.size
 refine ⟨v,E3,rfl,hw,rfl,?_,hle3,Rep.mono _ hle23 hv⟩
 refine ⟨e3.below.trans (hok.below.mono e3.below.size),fun b o hb=>?_,fun b o hm=>?_,fun i v b hp=>?_,e3.inj,fun i x hx=>?_,fun g cs hg=>RepAt.mono cs hle3.bare (e3.glob g cs hg)⟩
 ·show (if b < E.w.heap.size then E.M b o else False)↔_
  rw [if_pos (Nat.lt_of_lt_of_le hb e3.below.size)]
  exact e3.old b o hb
 ·have hm':(if b < E.w.heap.size then E.M b o else False):=hm
  split at hm'
  ·rename_i hb;exact Nat.lt_of_lt_of_le hb hsize
  ·exact hm'.elim
 ·obtain ⟨k1,k2,k3,k4⟩:=e3.phi i v b hp
  exact ⟨k1,k2,k3,Nat.lt_of_lt_of_le k4 hsize⟩
 ·refine HOK.mono hle3 rfl rfl (fun v b hb=>?_) (e3.blk i x hx)
  have hb4:=(e3.phi i v b hb).2.2.2
  refine ⟨?_,fun o=>?_⟩
  ·show E2.w.heap[b]?=E.w.heap[b]?
   exact hok.below.block b hb4
  ·show (if b < E.w.heap.size then E.M b o else False)↔_
   rw [if_pos hb4]
mutual
def ids:V→List Nat
 | .ptr i _=>[i]
 | .ptrE i _ _ _ _=>[i]
 | .row i _=>[i]
 | .vs i _ _ _=>[i]
 | .mp i=>[i]
 | .agg cs=>idsL cs
 | .tup cs=>idsL cs
 | .fn _ a b=>idsL a++idsL b
 | .iface _ v=>ids v
 | _=>[]
def idsL:List V→List Nat
 | []=>[]
 | v::vs=>ids v++idsL vs
end
theorem mem_idsL {vs:List V} {v:V} (h:v∈vs) {i:Nat} (hi:i∈ids v):i∈idsL vs:=by
 induction vs with
 | nil=>cases h
 | cons u us ih =>
   simp only [idsL,List.mem_append]
   rcases List.mem_cons.1 h with rfl|h
   ·exact .inl hi
   ·exact .inr (ih h)
theorem idsL_cells {v:V} {i:Nat}:i∈idsL v.cells↔i∈ids v:=by
 cases v<;>simp [V.cells,ids,idsL]
def Same (s:List Nat) (H H':List AB):Prop := ∀ i∈s,H[i]?=H'[i]?
theorem Same.sub {s t:List Nat} {H H':List AB} (h:Same s H H') (hs:∀ i∈t,i∈s):Same t H H':=fun i hi=>h i (hs i hi)
mutual
theorem fz_same {H H':List AB}:(v:V)→Same (ids v) H H'→fz H v=fz H' v
 | .val _,_=>by simp only [fz]
 | .sl _ _,_=>by simp only [fz]
 | .cp _,_=>by simp only [fz]
 | .row i ver,h=>by simp only [fz,fzRow];rw [h i (by simp [ids])]
 | .agg cs,h=>by simp only [fz];rw [fzL_same cs (by simpa only [ids] using h)]
 | .tup cs,h=>by simp only [fz];rw [fzL_same cs (by simpa only [ids] using h)]
 | .fn f a b,h=>by
   simp only [ids] at h
   simp only [fz];rw [fzL_same a (h.sub fun i hi=>List.mem_append_left _ hi),fzL_same b (h.sub fun i hi=>List.mem_append_right _ hi)]
 | .iface t v,h=>by simp only [fz];rw [fz_same v (by simpa only [ids] using h)]
 | .any,_=>by simp only [fz]
 | .ptr _ _,_=>by simp only [fz]
 | .ptrE _ _ _ _ _,_=>by simp only [fz]
 | .vs _ _ _ _,_=>by simp only [fz]
 | .mp _,_=>by simp only [fz]
theorem fzL_same {H H':List AB}:(vs:List V)→Same (idsL vs) H H'→fzL H vs=fzL H' vs
 | [],_=>by simp only [fzL]
 | v::vs,h=>by
   simp only [idsL] at h
   simp only [fzL];rw [fz_same v (h.sub fun i hi=>List.mem_append_left _ hi),fzL_same vs (h.sub fun i hi=>List.mem_append_right _ hi)]
end
mutual
theorem rowsIn_ids:(v:V) → ∀ i∈rowsIn v,i∈ids v
 | .row i _,j,h=>by simpa only [rowsIn,ids] using h
 | .agg cs,j,h=>by simp only [rowsIn] at h;simp only [ids];exact rowsIn_idsL cs j h
 | .tup cs,j,h=>by simp only [rowsIn] at h;simp only [ids];exact rowsIn_idsL cs j h
 | .fn _ a b,j,h=>by
   simp only [rowsIn,List.mem_append] at h;simp only [ids,List.mem_append]
   exact h.elim (fun h=>.inl (rowsIn_idsL a j h)) (fun h=>.inr (rowsIn_idsL b j h))
 | .iface _ v,j,h=>by simp only [rowsIn] at h;simp only [ids];exact rowsIn_ids v j h
 | .val _,j,h=>by simp [rowsIn] at h
 | .sl _ _,j,h=>by simp [rowsIn] at h
 | .cp _,j,h=>by simp [rowsIn] at h
 | .any,j,h=>by simp [rowsIn] at h
 | .ptr _ _,j,h=>by simp [rowsIn] at h
 | .ptrE _ _ _ _ _,j,h=>by simp [rowsIn] at h
 | .vs _ _ _ _,j,h=>by simp [rowsIn] at h
 | .mp _,j,h=>by simp [rowsIn] at h
theorem rowsIn_idsL:(vs:List V) → ∀ i∈rowsInL vs,i∈idsL vs
 | [],j,h=>by simp [rowsInL] at h
 | v::vs,j,h=>by
   simp only [rowsInL,List.mem_append] at h;simp only [idsL,List.mem_append]
   exact h.elim (fun h=>.inl (rowsIn_ids v j h)) (fun h=>.inr (rowsIn_idsL vs j h))
end
theorem Same.immAt {s:List Nat} {H H':List AB} (h:Same s H H') (i:Nat):Same s (immAt H i) (immAt H' i):=fun j hj=>by
 rw [immAt_get,immAt_get,h j hj]
theorem Same.immL {s:List Nat}:∀ (is:List Nat) {H H':List AB},Same s H H'→Same s (immL H is) (immL H' is)
 | [],H,H',h=>h
 | i::is,H,H',h=>Same.immL is (h.immAt i)
theorem immS_same:∀ (is:List Nat) {H H':List AB},Same is H H'→immS H is=immS H' is
 | [],H,H',h=>rfl
 | i::is,H,H',h=>by
   simp only [immS,List.getD_eq_getElem?_getD]
   rw [h i (by simp),immS_same is ((h.immAt i).sub fun j hj=>List.mem_cons_of_mem _ hj)]
theorem loadV_same {H H':List AB} {d:TD} {v:V} (h:Same (ids v) H H'):loadV H d v=loadV H' d v:=by
 cases v<;>simp only [loadV]<;>(rw [h _ (by simp [ids])])
theorem fieldAddrV_same {H H':List AB} {f:Nat×Nat×Bool} {v:V} (h:Same (ids v) H H'):fieldAddrV H f v=fieldAddrV H' f v:=by
 cases v<;>simp only [fieldAddrV]<;>(rw [h _ (by simp [ids])])
theorem indexAddrV_same {H H':List AB} {sh:Sh} {n:Nat} {v:V} (h:Same (ids v) H H'):indexAddrV H sh n v=indexAddrV H' sh n v:=by
 cases v<;>simp only [indexAddrV]<;>(rw [h _ (by simp [ids])])
theorem storeV_same {H H':List AB} {xs:List V} {v:V} (h:Same (ids v) H H') (hx:Same (idsL xs) H H'):storeV H xs v=storeV H' xs v:=by
 cases v<;>simp only [storeV]<;>rw [h _ (by simp [ids])]
 rw [fzL_same xs hx]
theorem lenV_same {H H':List AB} {sh:Sh} {v:V} (h:Same (ids v) H H'):lenV H sh v=lenV H' sh v:=by
 cases v<;>first|(simp only [lenV];done)|(simp only [lenV];rw [h _ (by simp [ids])];done)|(rename_i w;cases w<;>rfl)
theorem srcV_same {H H':List AB} {v:V} (h:Same (ids v) H H'):srcV H v=srcV H' v:=by
 cases v<;>simp only [srcV]<;>(rw [h _ (by simp [ids])])
theorem appR_same {H H':List AB} {nid esz:Nat} {xs:List V} {v:V} (h:Same (ids v) H H'):appR H nid esz xs v=appR H' nid esz xs v:=by
 cases v<;>simp only [appR]<;>try (rw [h _ (by simp [ids])])
 rename_i m;cases m<;>rfl
theorem slcR_same {H H':List AB} {esz:Nat} {lo hi mx:Option Nat} {v:V} (h:Same (ids v) H H'):slcR H esz lo hi mx v=slcR H' esz lo hi mx v:=by
 cases v<;>simp only [slcR]<;>(rw [h _ (by simp [ids])])
theorem insR_same {P:Program} {H H':List AB} {kt:TypeId} {m k x:V} (h:Same (ids m) H H') (hx:Same (ids x) H H'):insR P H kt m k x=insR P H' kt m k x:=by
 cases m<;>simp only [insR]<;>(rw [h _ (by simp [ids])])
 simp only [insV,fz_same x hx]
theorem lkR_same {P:Program} {H H':List AB} {kt et:TypeId} {ok:Bool} {m k:V} (h:Same (ids m) H H'):lkR P H kt et ok m k=lkR P H' kt et ok m k:=by
 cases m<;>simp only [lkR]<;>(rw [h _ (by simp [ids])])
theorem eff_same {P:Program} {G:Glob} {fr fr':List V} {H H':List AB} {nid:Nat} {op:Op} (he:∀ x∈op.operands.toList,evalO G fr x=evalO G fr' x) (hH:∀ x∈op.operands.toList,Same (ids (evalO G fr x)) H H') :
 eff P G fr H nid op=eff P G fr' H' nid op:=by
 have hH':∀ x∈op.operands.toList,Same (ids (evalO G fr' x)) H H':=fun x hx=>he x hx ▸ hH x hx
 clear hH
 cases op<;>simp only [eff]
 case move x=>rw [he x (by simp [Op.operands])]
 case assign x=>rw [he x (by simp [Op.operands])]
 case pick c x y=>rw [he c (by simp [Op.operands]),he x (by simp [Op.operands]),he y (by simp [Op.operands])]
 case box t x=>rw [he x (by simp [Op.operands])]
 case build t ps =>
  have:(ps.toList.map fun p=>(p.1,evalO G fr p.2))=ps.toList.map fun p=>(p.1,evalO G fr' p.2) :=
   List.map_congr_left fun p hp=>by rw [he p.2 (by simp [Op.operands];exact ⟨p.1,by simpa using hp⟩)]
  rw [this]
 case buildSlice t n ps =>
  have:(ps.toList.map fun p=>(p.1,evalO G fr p.2))=ps.toList.map fun p=>(p.1,evalO G fr' p.2) :=
   List.map_congr_left fun p hp=>by rw [he p.2 (by simp [Op.operands];exact ⟨p.1,by simpa using hp⟩)]
  rw [this]
  have hs:∀ vs,inOrder 0 (ps.toList.map fun p=>(p.1,evalO G fr' p.2))=some vs→Same (idsL vs) H H':=by
   intro vs hvs
   have hps:=inOrder_eq hvs
   intro i hi
   have hmem:∀ v∈vs,∃ x∈(Op.buildSlice t n ps).operands.toList,v=evalO G fr' x:=by
    intro v hv
    obtain ⟨j,hj⟩:=List.getElem?_of_mem hv
    have h1:(((vs.zipIdx 0).map fun x=>(x.2,x.1)))[j]?=some (j,v):=by simp [List.getElem?_zipIdx,hj]
    rw [← hps] at h1
    rw [List.getElem?_map,Option.map_eq_some_iff] at h1
    obtain ⟨p,h2,h3⟩:=h1
    refine ⟨p.2,?_,by injection h3 with _ h3;exact h3.symm⟩
    have:=List.mem_of_getElem? h2
    simp [Op.operands];exact ⟨p.1,by simpa using this⟩
   clear hps hvs
   induction vs with
   | nil=>simp [idsL] at hi
   | cons v vs ih =>
     simp only [idsL,List.mem_append] at hi
     rcases hi with hi|hi
     ·obtain ⟨x,hx,rfl⟩:=hmem v (by simp)
      exact hH' x hx i hi
     ·exact ih hi fun v hv=>hmem v (List.mem_cons_of_mem _ hv)
  cases hio:inOrder 0 (ps.toList.map fun p=>(p.1,evalO G fr' p.2)) with
  | none=>rfl
  | some vs =>
    have hsame:=hs vs hio
    have hrows:=hsame.sub (rowsIn_idsL vs)
    have hbs:∀ esz z r,bsR H nid esz n z vs r=bsR H' nid esz n z vs r:=by
     intro esz z r
     cases r<;>simp only [bsR,immS_same (rowsInL vs) hrows]
    simp only [Option.bind_some,fzL_same vs (Same.immL (rowsInL vs) hsame),hbs]
 case load t x=>simp only [he x (by simp [Op.operands]),loadV_same (hH' x (by simp [Op.operands]))]
 case store t x y=>simp only [he x (by simp [Op.operands]),he y (by simp [Op.operands]),storeV_same (hH' x (by simp [Op.operands])) (fun i hi=>hH' y (by simp [Op.operands]) i (idsL_cells.1 hi))]
 case nilCheck x=>rw [he x (by simp [Op.operands])]
 case fieldAddr t x f=>simp only [he x (by simp [Op.operands]),fieldAddrV_same (hH' x (by simp [Op.operands]))]
 case field t x f=>rw [he x (by simp [Op.operands])]
 case indexAddr t x ix=>simp only [he x (by simp [Op.operands]),he ix (by simp [Op.operands]),indexAddrV_same (hH' x (by simp [Op.operands]))]
 case index t x ix=>rw [he x (by simp [Op.operands]),he ix (by simp [Op.operands])]
 case binOp op t x y t2=>rw [he x (by simp [Op.operands]),he y (by simp [Op.operands])]
 case unOp op t x=>rw [he x (by simp [Op.operands])]
 case convert s t x=>rw [he x (by simp [Op.operands])]
 case makeFunc f x y =>
  rw [List.map_congr_left (l:=x.toList) fun z hz=>he z (by simp [Op.operands];exact .inl (by simpa using hz)),List.map_congr_left (l:=y.toList) fun z hz=>he z (by simp [Op.operands];exact .inr (by simpa using hz))]
 case extract x i=>rw [he x (by simp [Op.operands])]
 case makeInterface t x=>rw [he x (by simp [Op.operands])]
 case makeMap t r=>cases r<;>rfl
 case makeSlice t x y=>rw [he x (by simp [Op.operands]),he y (by simp [Op.operands])]
 case insert t m k x=>simp only [he m (by simp [Op.operands]),he k (by simp [Op.operands]),he x (by simp [Op.operands]),insR_same (hH' m (by simp [Op.operands])) (hH' x (by simp [Op.operands]))]
 case mapUpdate t m k x=>simp only [he m (by simp [Op.operands]),he k (by simp [Op.operands]),he x (by simp [Op.operands]),insR_same (hH' m (by simp [Op.operands])) (hH' x (by simp [Op.operands]))]
 case lookup t m k ok=>simp only [he m (by simp [Op.operands]),he k (by simp [Op.operands]),lkR_same (hH' m (by simp [Op.operands]))]
 case slice t x lo hi mx =>
  have ho:∀ y:Option Operand,(∀ z,y=some z→evalO G fr z=evalO G fr' z)→optN G fr y=optN G fr' y:=by
   intro y hy
   cases y with
   | none=>rfl
   | some z=>simp only [optN];rw [hy z rfl]
  rw [he x (by simp [Op.operands]),ho lo fun z hz=>he z (by subst hz;simp [Op.operands]),ho hi fun z hz=>he z (by subst hz;simp [Op.operands]),ho mx fun z hz=>he z (by subst hz;simp [Op.operands])]
  simp only [slcR_same (hH' x (by simp [Op.operands]))]
 case call c =>
  have hm:∀ x∈c.args.toList,x∈(Op.call c).operands.toList:=fun x hx=>by
   simp only [Op.operands,Call.operands,Array.toList_append,List.mem_append];exact .inr hx
  split
  ·split
   ·rename_i x t ha _
    rw [he x (hm x (by simp [ha]))]
    simp only [lenV_same (hH' x (hm x (by simp [ha])))]
   ·rfl
  ·split
   ·rename_i x y t tx ha _
    rw [he x (hm x (by simp [ha])),he y (hm y (by simp [ha])),srcV_same (hH' y (hm y (by simp [ha])))]
    simp only [appR_same (hH' x (hm x (by simp [ha])))]
   ·rfl
  ·rfl
structure TrE where
 rd:List Nat
 wr:List Nat
 nid:Nat
 ins:List (Nat×List Int)
def keyN:V→List Int
 | .agg cs=>cs.map fun c=>match c with|.val (.int _ n)=>n|_=>0
 | .val (.int _ n)=>[n]
 | _=>[]
def stK:V→V→List (Nat×List Int)
 | .ptr i off,v=>[(i,[(off:Int),(v.cells.length:Int)])]
 | _,_=>[]
def isInsO:Op→Bool
 | .insert .. => true
 | _=>false
def isStO:Op→Bool
 | .store .. => true
 | _=>false
def insK (G:Glob) (fr:List V):Op→List (Nat×List Int)
 | .store _ a x=>stK (evalO G fr a) (evalO G fr x)
 | .insert _ m k _=>match evalO G fr m with
   | .mp i=>[(i,keyN (evalO G fr k))]
   | _=>[]
 | _=>[]
def isMv:Op→Bool
 | .move _=>true
 | .assign _=>true
 | _=>false
def rdOf (G:Glob) (fr:List V) (o:Op):List Nat:=bif isMv o then [] else idsL (o.operands.toList.map (evalO G fr))
def newS (nid:Nat):Option AB→List (Nat×AB)
 | some b=>[(nid,b)]
 | none=>[]
def updS (nid:Nat) (u:Upd):List (Nat×AB):=u.sets++newS nid u.new
def ST (P:Program) (G:Glob) (o:Oper) (fr:List V) (H:List AB) (nid:Nat) (v:V) (u:Upd):Prop :=
 eff P G fr H nid o.op=some (v,u) ∨ ∃ (c:Call) (f:Operand) (n:FuncId) (first cap args':List V),o.op=.call c∧c.callee=.value f∧evalO G fr f=.fn (.func n) first cap∧callB P n=true ∧
  fzL H (first++c.args.toList.map (evalO G fr)++cap)=some args'∧Spec P G n args' v []∧u=.no
theorem rdOf_mem {G:Glob} {fr:List V} {o:Op} {x:Operand} (hm:isMv o=false) (hx:x∈o.operands.toList) {i:Nat} (hi:i∈ids (evalO G fr x)):i∈rdOf G fr o:=by
 unfold rdOf;rw [hm];exact mem_idsL (List.mem_map.2 ⟨x,hx,rfl⟩) hi
theorem idsL_append (a b:List V):idsL (a++b)=idsL a++idsL b:=by
 induction a with
 | nil=>rfl
 | cons x a ih=>simp [idsL,ih]
theorem mem_idsL_iff {vs:List V} {i:Nat}:i∈idsL vs ↔ ∃ v∈vs,i∈ids v:=by
 induction vs with
 | nil=>simp [idsL]
 | cons x a ih=>simp [idsL,ih]
theorem ST.same {P:Program} {G:Glob} {o:Oper} {fr fr':List V} {H H':List AB} {nid:Nat} {v:V} {u:Upd} (h:ST P G o fr H nid v u) (he:∀ x∈o.op.operands.toList,evalO G fr x=evalO G fr' x) (hH:Same (rdOf G fr o.op) H H') :
 ST P G o fr' H' nid v u:=by
 rcases h with h|⟨c,f,n,first,cap,args',h1,h2,h3,h4,h5,h6,h7⟩
 ·cases hm:isMv o.op with
  | false=>exact .inl (by rw [← eff_same he fun x hx i hi=>hH i (rdOf_mem hm hx hi)];exact h)
  | true =>
    refine .inl ?_
    cases ho:o.op<;>rw [ho] at hm h he<;>try (cases hm;done)
    ·rename_i x
     simp only [eff] at h ⊢
     rw [← he x (by simp [Op.operands])];exact h
    ·rename_i x
     simp only [eff] at h ⊢
     rw [← he x (by simp [Op.operands])];exact h
 ·have hmv:isMv o.op=false:=by rw [h1];rfl
  have hf:f∈o.op.operands.toList:=by rw [h1];simp [Op.operands,Call.operands,h2]
  have hargs:∀ x∈c.args.toList,x∈o.op.operands.toList:=fun x hx=>by rw [h1];simp only [Op.operands,Call.operands,Array.toList_append,List.mem_append];exact .inr hx
  refine .inr ⟨c,f,n,first,cap,args',h1,h2,by rw [← he f hf];exact h3,h4,?_,h6,h7⟩
  have hm:c.args.toList.map (evalO G fr')=c.args.toList.map (evalO G fr):=List.map_congr_left fun x hx=>(he x (hargs x hx)).symm
  rw [hm,← fzL_same _ ?_]
  ·exact h5
  ·intro i hi
   refine hH i ?_
   rw [idsL_append,idsL_append] at hi
   simp only [List.mem_append] at hi
   rcases hi with (hi|hi)|hi
   ·exact rdOf_mem hmv hf (by rw [h3];simp [ids,hi])
   ·obtain ⟨v,hv,hi⟩:=mem_idsL_iff.1 hi
    obtain ⟨x,hx,rfl⟩:=List.mem_map.1 hv
    exact rdOf_mem hmv (hargs x hx) hi
   ·exact rdOf_mem hmv hf (by rw [h3];simp [ids,hi])
def STK (P:Program) (G:Glob) (o:Oper) (fr:List V) (H:List AB) (e:TrE) (v:V) (u:Upd):Prop:=ST P G o fr H e.nid v u ∧ ∀ p∈e.ins,p∈insK G fr o.op
theorem insK_same {G:Glob} {fr fr':List V} {op:Op} (he:∀ x∈op.operands.toList,evalO G fr x=evalO G fr' x):insK G fr op=insK G fr' op:=by
 cases op<;>simp only [insK]
 case store t a x=>rw [he a (by simp [Op.operands]),he x (by simp [Op.operands])]
 case insert t m k x=>rw [he m (by simp [Op.operands]),he k (by simp [Op.operands])]
theorem STK.same {P:Program} {G:Glob} {o:Oper} {fr fr':List V} {H H':List AB} {e:TrE} {v:V} {u:Upd} (h:STK P G o fr H e v u) (he:∀ x∈o.op.operands.toList,evalO G fr x=evalO G fr' x) (hH:Same (rdOf G fr o.op) H H') :
 STK P G o fr' H' e v u:=⟨ST.same h.1 he hH,fun p hp=>insK_same he ▸ h.2 p hp⟩
theorem setH_get_ne:∀ (s:List (Nat×AB)) (H:List AB) (k:Nat),(∀ p∈s,p.1≠k)→(setH H s)[k]?=H[k]?
 | [],H,k,_=>rfl
 | (i,b)::s,H,k,h=>by
   simp only [setH]
   rw [setH_get_ne s _ k fun p hp=>h p (List.mem_cons_of_mem _ hp),List.getElem?_set_ne (h (i,b) (by simp))]
theorem setH_congr:∀ (s:List (Nat×AB)) (H H':List AB) (k:Nat),H[k]?=H'[k]?→(setH H s)[k]?=(setH H' s)[k]?
 | [],H,H',k,h=>h
 | (i,b)::s,H,H',k,h=>by
   simp only [setH]
   refine setH_congr s _ _ k ?_
   by_cases hi:i=k
   ·subst hi
    by_cases hl:i < H.length
    ·have hl':i < H'.length:=by
      rcases Nat.lt_or_ge i H'.length with g|g
      ·exact g
      ·rw [List.getElem?_eq_none g,List.getElem?_eq_getElem hl] at h;cases h
     rw [List.getElem?_set_self hl,List.getElem?_set_self hl']
    ·have hl':H'.length≤i:=by
      rcases Nat.lt_or_ge i H'.length with g|g
      ·rw [List.getElem?_eq_none (Nat.not_lt.1 hl),List.getElem?_eq_getElem g] at h;cases h
      ·exact g
     rw [List.getElem?_eq_none (by simp;omega),List.getElem?_eq_none (by simp;omega)]
   ·rw [List.getElem?_set_ne hi,List.getElem?_set_ne hi];exact h
theorem setH_comm (s r:List (Nat×AB)) (H:List AB) (h:∀ p∈s,∀ q∈r,p.1≠q.1):setH (setH H s) r=setH (setH H r) s:=by
 apply List.ext_getElem?
 intro k
 by_cases hk:∃ q∈r,q.1=k
 ·obtain ⟨q,hq,rfl⟩:=hk
  rw [setH_get_ne s (setH H r) _ fun p hp=>h p hp q hq]
  exact setH_congr r _ _ _ (setH_get_ne s H _ fun p hp=>h p hp q hq)
 ·rw [setH_get_ne r (setH H s) _ fun q hq e=>hk ⟨q,hq,e⟩]
  exact (setH_congr s _ _ _ (setH_get_ne r H _ fun q hq e=>hk ⟨q,hq,e⟩)).symm
inductive SEQ (P:Program) (G:Glob) (all:List Oper) (t:Nat→TrE):List Nat→List V→List AB→List V→List AB→Prop where
 | nil (fr:List V) (H:List AB):SEQ P G all t [] fr H fr H
 | run {i:Nat} {L:List Nat} {o:Oper} {fr frF:List V} {H HF:List AB} {v:V} {u:Upd} (ho:all[i]?=some o) (hg:guardV all fr o=some true) (hs:STK P G o fr H (t i) v u) (hr:∀ b∈rdOf G fr o.op,b∈(t i).rd)
    (hw:∀ p∈updS (t i).nid u,p.1∈(t i).wr) (hn:∀ b,u.new=some b→H[(t i).nid]?=some .hole∧(t i).nid∈(t i).wr∧u.sets=[]) (rest:SEQ P G all t L (putV fr o.dst v) (setH H (updS (t i).nid u)) frF HF):SEQ P G all t (i::L) fr H frF HF
 | skip {i:Nat} {L:List Nat} {o:Oper} {fr frF:List V} {H HF:List AB} (ho:all[i]?=some o) (hg:guardV all fr o=some false) (rest:SEQ P G all t L (putV fr o.dst undefV) H frF HF):SEQ P G all t (i::L) fr H frF HF
def apartI (all:List Oper) (t:Nat→TrE) (i j:Nat):Bool:=(match all[i]?,all[j]? with
 | some oi,some oj=>oi.apart all.toArray oj && ((isInsO oi.op && isInsO oj.op && (match (t i).ins,(t j).ins with
   | [(a,k)],[(b,l)]=>a==b && !eqIs k l
   | _,_=>false)) || (isStO oi.op && isStO oj.op && (match (t i).ins,(t j).ins with
   | [(a,[o1,n1])],[(b,[o2,n2])]=>a==b && (decide (o1 + n1≤o2) || decide (o2 + n2≤o1))
   | _,_=>false)))
 | _,_=>false)
def apartT (all:List Oper) (t:Nat→TrE) (i j:Nat):Bool:=(match all[i]?,all[j]? with
 | some oi,some oj=>oi.apart all.toArray oj
 | _,_=>false) && (t i).rd.all (fun b => !(t j).wr.contains b) && (t i).wr.all (fun b => !(t j).rd.contains b) && (t i).wr.all (fun b => !(t j).wr.contains b)
theorem putV_comm {fr:List V} {x y:Option Tmp} (v u:V) (h:∀ d,x=some d→y≠some d):putV (putV fr x v) y u=putV (putV fr y u) x v:=by
 cases x with
 | none=>rfl
 | some d =>
   cases y with
   | none=>rfl
   | some e =>
     simp only [putV]
     exact List.set_comm _ _ (fun hh=>h d rfl (by rw [hh]))
theorem evalO_put {G:Glob} {fr:List V} {dst:Option Tmp} {v:V} {x:Operand} (h:∀ d,dst=some d→x≠.tmp d):evalO G (putV fr dst v) x=evalO G fr x:=by
 cases dst with
 | none=>rfl
 | some d =>
   cases x<;>simp only [evalO,putV]
   rename_i t
   have:d≠t:=fun e=>h d rfl (by rw [e])
   simp [List.getD_eq_getElem?_getD,List.getElem?_set_ne this]
theorem evalO_looks {G:Glob} {all:List Oper} {o:Oper} {fr:List V} {dst:Option Tmp} {v:V} (h:∀ d,dst=some d→d ∉ o.looksAt all.toArray):∀ x∈o.op.operands.toList,evalO G (putV fr dst v) x=evalO G fr x :=
 fun x hx=>evalO_put fun d hd e=>h d hd (by subst e;exact List.mem_append_left _ (List.mem_filterMap.2 ⟨.tmp d,hx,rfl⟩))
theorem guardV_looks {all:List Oper} {o:Oper} {fr:List V} {dst:Option Tmp} {v:V} (h:∀ d,dst=some d→d ∉ o.looksAt all.toArray):guardV all (putV fr dst v) o=guardV all fr o:=by
 cases dst with
 | none=>rfl
 | some d =>
   unfold guardV
   cases hg:o.guard with
   | none=>rfl
   | some gw =>
     obtain ⟨g,want⟩:=gw
     simp only
     cases ht:(all[g]?).bind (·.dst) with
     | none=>rfl
     | some t =>
       have hne:d≠t:=fun e=>h d rfl (by subst e;simp [Oper.looksAt,hg,ht])
       simp only [putV,List.getD_eq_getElem?_getD,List.getElem?_set_ne hne]
theorem rdOf_looks {G:Glob} {all:List Oper} {o:Oper} {fr:List V} {dst:Option Tmp} {v:V} (h:∀ d,dst=some d→d ∉ o.looksAt all.toArray):rdOf G (putV fr dst v) o.op=rdOf G fr o.op:=by
 unfold rdOf;rw [List.map_congr_left (evalO_looks h)]
mutual
theorem fz_rows {H H':List AB} (h:∀ i ver,fzRow H i ver=fzRow H' i ver):(v:V)→fz H v=fz H' v
 | .val _=>by simp only [fz]
 | .sl _ _=>by simp only [fz]
 | .cp _=>by simp only [fz]
 | .row i ver=>by simp only [fz];exact h i ver
 | .agg cs=>by simp only [fz];rw [fzL_rows h cs]
 | .tup cs=>by simp only [fz];rw [fzL_rows h cs]
 | .fn f a b=>by simp only [fz];rw [fzL_rows h a,fzL_rows h b]
 | .iface t v=>by simp only [fz];rw [fz_rows h v]
 | .any=>by simp only [fz]
 | .ptr _ _=>by simp only [fz]
 | .ptrE _ _ _ _ _=>by simp only [fz]
 | .vs _ _ _ _=>by simp only [fz]
 | .mp _=>by simp only [fz]
theorem fzL_rows {H H':List AB} (h:∀ i ver,fzRow H i ver=fzRow H' i ver):(vs:List V)→fzL H vs=fzL H' vs
 | []=>by simp only [fzL]
 | v::vs=>by simp only [fzL];rw [fz_rows h v,fzL_rows h vs]
end
theorem fz_setmap {H:List AB} {a:Nat} {own own':Bool} {sg sg':KS} {f f':List Int→Option V} (h:H[a]?=some (.map own sg f)) (v:V):fz (H.set a (.map own' sg' f')) v=fz H v:=by
 refine fz_rows (fun i ver=>?_) v
 unfold fzRow
 by_cases hi:a=i
 ·subst hi
  have hl:=(List.getElem?_eq_some_iff.1 h).1
  rw [List.getElem?_set_self hl,h]
 ·rw [List.getElem?_set_ne hi]
theorem updF_comm {f:List Int→Option V} {k l:List Int} (h:eqIs k l=false) (x y:V):updF (updF f k x) l y=updF (updF f l y) k x:=by
 funext q
 simp only [updF]
 cases h1:eqIs q k with
 | false=>simp
 | true =>
   cases h2:eqIs q l with
   | false=>simp
   | true =>
     have e1:=eqIs_iff.1 h1;have e2:=eqIs_iff.1 h2
     rw [← e1,← e2,eqIs_iff.2 rfl] at h;cases h
theorem intsOf_N:∀ {ks:List IntKind} {xs:List V} {q:List Int},intsOf ks xs=some q→(xs.map fun c=>match c with|.val (.int _ n)=>n|_=>0)=q
 | [],[],q,h=>by simp only [intsOf] at h;injection h
 | [],x::xs,q,h=>by simp [intsOf] at h
 | k::ks,[],q,h=>by simp [intsOf] at h
 | k::ks,x::xs,q,h=>by
   unfold intsOf at h
   split at h
   ·rename_i e1 e2;cases e2
   ·rename_i k' ks' j n xs' e1 e2
    cases e1;cases e2
    split at h
    ·simp only [Option.map_eq_some_iff] at h
     obtain ⟨q',h1,rfl⟩:=h
     simp only [List.map_cons,intsOf_N h1]
    ·cases h
   ·cases h
theorem keyI_N {sg:KS} {k:V} {q:List Int} (h:keyI sg k=some q):keyN k=q:=by
 obtain ⟨b,ks⟩:=sg
 cases b with
 | true =>
   cases k<;>simp only [keyI] at h<;>try (cases h;done)
   exact intsOf_N h
 | false =>
   simp only [keyI] at h
   have h1:=h
   unfold intsOf at h1
   split at h1
   ·rename_i e1 e2;cases e2
   ·rename_i k' ks' j n xs' e1 e2
    simp only [List.cons.injEq] at e2;obtain ⟨rfl,_⟩:=e2
    have:=intsOf_N h
    simpa [keyN] using this
   ·cases h1
theorem STK.ins {P:Program} {G:Glob} {o:Oper} {fr:List V} {H:List AB} {e:TrE} {v:V} {u:Upd} {a:Nat} {k:List Int} (h:STK P G o fr H e v u) (hI:isInsO o.op=true) (he:e.ins=[(a,k)]) :
 ∃ t m kk x own sg f kt,o.op=.insert t m kk x∧mapT P t=some kt∧sgT P kt.1=some sg∧keyI sg (evalO G fr kk)=some k∧evalO G fr m=.mp a∧H[a]?=some (.map own sg f)∧v=undefV∧u=⟨[(a,.map (insV H own (evalO G fr x)).1 sg (updF f k (insV H own (evalO G fr x)).2))],none⟩:=by
 have h1:=h.2 (a,k) (by rw [he];simp)
 cases ho:o.op<;>rw [ho] at h1 hI<;>simp only [insK] at h1<;>try (cases h1;done)
 case store=>cases hI
 rename_i t m kk x
 split at h1
 ·rename_i i hm
  simp only [List.mem_singleton,Prod.mk.injEq] at h1
  obtain ⟨rfl,rfl⟩:=h1
  rcases h.1 with h2|⟨c,f,n,first,cap,args',h2,_⟩
  ·rw [ho] at h2
   simp only [eff,Option.bind_eq_some_iff,Option.map_eq_some_iff,Prod.mk.injEq] at h2
   obtain ⟨kt,g1,s,g2,rfl,rfl⟩:=h2
   obtain ⟨i,own,sg,f,q,e1,e2,e3,e4,rfl⟩:=insR_some g2
   rw [hm] at e1;injection e1 with e1;subst e1
   have:=keyI_N e4
   subst this
   exact ⟨t,m,kk,x,own,sg,f,kt,rfl,g1,e3,e4,hm,e2,rfl,rfl⟩
  ·rw [ho] at h2;cases h2
 ·cases h1
theorem insV_comm (H H1 H2:List AB) (own:Bool) (x y:V) (h1:∀ v,fz H1 v=fz H v) (h2:∀ v,fz H2 v=fz H v) :
 (insV H1 (insV H own x).1 y).1=(insV H2 (insV H own y).1 x).1∧(insV H1 (insV H own x).1 y).2=(insV H own y).2∧(insV H2 (insV H own y).1 x).2=(insV H own x).2:=by
 unfold insV
 rw [h1,h2]
 cases fz H x<;>cases fz H y<;>simp
theorem STK.st {P:Program} {G:Glob} {o:Oper} {fr:List V} {H:List AB} {e:TrE} {v:V} {u:Upd} {a:Nat} {k:List Int} (h:STK P G o fr H e v u) (hI:isStO o.op=true) (he:e.ins=[(a,k)]) :
 ∃ t x y off d cs cs',o.op=.store t x y∧evalO G fr x=.ptr a off∧k=[(off:Int),((evalO G fr y).cells.length:Int)]∧tdOf P t=some d∧((evalO G fr y).cells.length=d.size∧(evalO G fr y).cells.all oneV)∧H[a]?=some (.var cs)∧splice cs off (evalO G fr y).cells=some cs'∧v=undefV∧u=⟨[(a,.var cs')],none⟩:=by
 have h1:=h.2 (a,k) (by rw [he];simp)
 cases ho:o.op<;>rw [ho] at h1 hI<;>try (cases hI;done)
 rename_i t x y
 simp only [insK] at h1
 cases hx:evalO G fr x<;>rw [hx] at h1<;>simp only [stK,List.not_mem_nil] at h1
 rename_i i off
 simp only [List.mem_singleton,Prod.mk.injEq] at h1
 obtain ⟨rfl,rfl⟩:=h1
 rcases h.1 with h2|⟨c,f,n,first,cap,args',h2,_⟩
 ·rw [ho] at h2
  simp only [eff,Option.bind_eq_some_iff] at h2
  obtain ⟨d,g1,g2⟩:=h2
  split at g2
  ·rename_i hc
   rw [hx] at g2
   simp only [storeV,Option.map_eq_some_iff,Prod.mk.injEq] at g2
   obtain ⟨u',g3,rfl,rfl⟩:=g2
   split at g3
   ·rename_i cs hcs
    simp only [Option.map_eq_some_iff] at g3
    obtain ⟨cs',g4,rfl⟩:=g3
    exact ⟨t,x,y,off,d,cs,cs',rfl,hx,rfl,g1,hc,hcs,g4,rfl,rfl⟩
   ·cases g3
  ·cases g2
 ·rw [ho] at h2;cases h2
theorem over_get:∀ {xs cs cs':List V},over cs xs=some cs'→xs.length≤cs.length ∧ ∀ k,cs'[k]?=if k < xs.length then xs[k]? else cs[k]?
 | [],cs,cs',h=>by
   have:over cs []=some cs:=by cases cs<;>rfl
   rw [this] at h;cases h
   exact ⟨by simp,fun k=>by simp⟩
 | x::xs,[],cs',h=>by cases h
 | x::xs,c::cs,cs',h=>by
   simp only [over,Option.map_eq_some_iff] at h
   obtain ⟨r,h1,rfl⟩:=h
   obtain ⟨g1,g2⟩:=over_get h1
   refine ⟨by simp;omega,fun k=>?_⟩
   cases k with
   | zero=>simp
   | succ k=>simp only [List.getElem?_cons_succ,g2,List.length_cons,Nat.succ_lt_succ_iff]
theorem over_some:∀ {xs cs:List V},xs.length≤cs.length → ∃ cs',over cs xs=some cs'
 | [],cs,_=>⟨cs,by cases cs<;>rfl⟩
 | x::xs,[],h=>by simp at h
 | x::xs,c::cs,h=>by
   obtain ⟨r,hr⟩:=over_some (xs:=xs) (cs:=cs) (by simp at h;omega)
   exact ⟨x::r,by simp [over,hr]⟩
theorem splice_get:∀ {off:Nat} {xs cs cs':List V},splice cs off xs=some cs'→off + xs.length≤cs.length ∧ ∀ k,cs'[k]?=if off≤k∧k < off + xs.length then xs[k - off]? else cs[k]?
 | 0,xs,cs,cs',h=>by
   have e:splice cs 0 xs=over cs xs:=by cases cs<;>rfl
   rw [e] at h
   obtain ⟨g1,g2⟩:=over_get h
   exact ⟨by omega,fun k=>by simp [g2]⟩
 | n + 1,xs,[],cs',h=>by cases h
 | n + 1,xs,c::cs,cs',h=>by
   simp only [splice,Option.map_eq_some_iff] at h
   obtain ⟨r,h1,rfl⟩:=h
   obtain ⟨g1,g2⟩:=splice_get h1
   refine ⟨by simp;omega,fun k=>?_⟩
   cases k with
   | zero=>simp
   | succ k =>
     simp only [List.getElem?_cons_succ,g2]
     have e1:(n + 1≤k + 1∧k + 1 < n + 1 + xs.length)↔(n≤k∧k < n + xs.length):=by omega
     simp only [e1,Nat.add_sub_add_right]
theorem splice_some:∀ {off:Nat} {xs cs:List V},off + xs.length≤cs.length → ∃ cs',splice cs off xs=some cs'
 | 0,xs,cs,h=>by
   have e:splice cs 0 xs=over cs xs:=by cases cs<;>rfl
   rw [e];exact over_some (by omega)
 | n + 1,xs,[],h=>by simp at h
 | n + 1,xs,c::cs,h=>by
   obtain ⟨r,hr⟩:=splice_some (off:=n) (xs:=xs) (cs:=cs) (by simp at h;omega)
   exact ⟨c::r,by simp [splice,hr]⟩
theorem len_of_get {α:Type} {a b:List α} (h:∀ k:Nat,b[k]?=none↔a[k]?=none):b.length=a.length:=by
 have h1:=h a.length
 have h2:=h b.length
 simp at h1 h2
 omega
theorem splice_comm {cs c1 c2 x y:List V} {o p:Nat} (h1:splice cs o x=some c1) (h2:splice c1 p y=some c2) (hd:o + x.length≤p∨p + y.length≤o):∃ c3,splice cs p y=some c3∧splice c3 o x=some c2:=by
 obtain ⟨g1,g2⟩:=splice_get h1
 obtain ⟨g3,g4⟩:=splice_get h2
 have hl:c1.length=cs.length:=len_of_get fun k=>by
  rw [g2];split
  ·rename_i hk;simp;omega
  ·exact Iff.rfl
 obtain ⟨c3,h3⟩:=splice_some (off:=p) (xs:=y) (cs:=cs) (by omega)
 obtain ⟨g5,g6⟩:=splice_get h3
 have hl3:c3.length=cs.length:=len_of_get fun k=>by
  rw [g6];split
  ·rename_i hk;simp;omega
  ·exact Iff.rfl
 obtain ⟨c4,h4⟩:=splice_some (off:=o) (xs:=x) (cs:=c3) (by omega)
 obtain ⟨g7,g8⟩:=splice_get h4
 refine ⟨c3,h3,?_⟩
 rw [h4]
 congr 1
 apply List.ext_getElem?
 intro k
 rw [g8,g6,g4,g2]
 by_cases a1:o≤k∧k < o + x.length
 ·rw [if_pos a1,if_neg (by omega),if_pos a1]
 ·rw [if_neg a1,if_neg a1]
theorem SEQ.swap {P:Program} {G:Glob} {all:List Oper} {t:Nat→TrE} {i j:Nat} {L:List Nat} {fr frF:List V} {H HF:List AB} (h:SEQ P G all t (j::i::L) fr H frF HF) (hap:apartT all t j i=true∨apartI all t j i=true):SEQ P G all t (i::j::L) fr H frF HF:=by
 have hA:∀ oj oi,all[j]?=some oj→all[i]?=some oi→(∀ d,oj.dst=some d→d ∉ oi.looksAt all.toArray)∧(∀ d,oj.dst=some d→oi.dst≠some d)∧(∀ d,oi.dst=some d→d ∉ oj.looksAt all.toArray):=by
  intro oj oi h1 h2
  rcases hap with hap|hap
  ·unfold apartT at hap
   rw [h1,h2] at hap
   simp only [Bool.and_eq_true] at hap
   exact Oper.apart_spec hap.1.1.1
  ·unfold apartI at hap
   rw [h1,h2] at hap
   simp only [Bool.and_eq_true] at hap
   exact Oper.apart_spec hap.1
 cases h with
 | @run _ _ oj _ _ _ _ vj uj ho hg hs hr hw hn rest =>
   cases rest with
   | @run _ _ oi _ _ _ _ vi ui ho' hg' hs' hr' hw' hn' rest =>
     obtain ⟨a1,a2,a3⟩:=hA _ _ ho ho'
     rcases hap with hap|hap
     ·skip
      have hd1:∀ b∈(t j).rd,b ∉ (t i).wr:=fun b hb hc=>by
       unfold apartT at hap;simp only [Bool.and_eq_true,List.all_eq_true] at hap
       have:=hap.1.1.2 b hb;simp [hc] at this
      have hd2:∀ b∈(t j).wr,b ∉ (t i).rd:=fun b hb hc=>by
       unfold apartT at hap;simp only [Bool.and_eq_true,List.all_eq_true] at hap
       have:=hap.1.2 b hb;simp [hc] at this
      have hd3:∀ b∈(t j).wr,b ∉ (t i).wr:=fun b hb hc=>by
       unfold apartT at hap;simp only [Bool.and_eq_true,List.all_eq_true] at hap
       have:=hap.2 b hb;simp [hc] at this
      have hsame:Same (rdOf G (putV fr oj.dst vj) oi.op) (setH H (updS (t j).nid uj)) H:=fun b hb=>setH_get_ne _ _ _ fun p hp e=>hd2 p.1 (hw p hp) (by rw [e];exact hr' b hb)
      have hS:STK P G oi fr H (t i) vi ui:=STK.same hs' (evalO_looks a1) hsame
      have hsame2:Same (rdOf G fr oj.op) H (setH H (updS (t i).nid ui)):=fun b hb=>(setH_get_ne _ _ _ fun p hp e=>hd1 b (hr b hb) (by rw [← e];exact hw' p hp)).symm
      refine .run (v:=vi) (u:=ui) ho' (by rw [← guardV_looks a1];exact hg') hS (by rw [← rdOf_looks a1];exact hr') hw' (fun b hb=>⟨?_,(hn' b hb).2⟩) (.run (v:=vj) (u:=uj) ho (by rw [guardV_looks a3];exact hg) (STK.same hs (fun x hx=>(evalO_looks a3 x hx).symm) hsame2) (by rw [rdOf_looks a3];exact hr) hw (fun b hb=>⟨?_,(hn b hb).2⟩) ?_)
      ·rw [← (hn' b hb).1,setH_get_ne]
       intro p hp e;exact hd3 p.1 (hw p hp) (by rw [e];exact (hn' b hb).2.1)
      ·rw [setH_get_ne]
       ·exact (hn b hb).1
       ·intro p hp e;exact hd3 _ (hn b hb).2.1 (by rw [← e];exact hw' p hp)
      ·rw [putV_comm (x:=oi.dst) (y:=oj.dst) vi vj (fun d hd e=>a2 d e hd),setH_comm]
       ·exact rest
       ·intro p hp q hq e;exact hd3 q.1 (hw q hq) (by rw [← e];exact hw' p hp)
     ·unfold apartI at hap
      rw [ho,ho'] at hap
      simp only [Bool.and_eq_true,Bool.or_eq_true] at hap
      obtain ⟨_,hap⟩:=hap
      rcases hap with ⟨⟨hIj,hIi⟩,hap⟩|⟨⟨hIj,hIi⟩,hap⟩
      rotate_left 1
      ·split at hap
       ·rename_i a o1 n1 b o2 n2 hj hi
        simp only [Bool.and_eq_true,Bool.or_eq_true,beq_iff_eq,decide_eq_true_eq] at hap
        obtain ⟨rfl,hne⟩:=hap
        obtain ⟨tj,xj,yj,offj,dj,csj,cj,p1,p2,p3,p4,p5,p6,p7,rfl,rfl⟩:=STK.st hs hIj hj
        obtain ⟨ti,xi,yi,offi,di,csi,ci,q1,q2,q3,q4,q5,q6,q7,rfl,rfl⟩:=STK.st hs' hIi hi
        have hl:a < H.length:=(List.getElem?_eq_some_iff.1 p6).1
        have e1:=evalO_looks (G:=G) (fr:=fr) (v:=undefV) a1
        have e3:=fun v=>evalO_looks (G:=G) (fr:=fr) (v:=v) a3
        have exi:=e1 xi (by rw [q1];simp [Op.operands]);have eyi:=e1 yi (by rw [q1];simp [Op.operands])
        have exj:=e3 undefV xj (by rw [p1];simp [Op.operands]);have eyj:=e3 undefV yj (by rw [p1];simp [Op.operands])
        simp only [updS,newS,List.append_nil,setH] at q6 rest
        rw [List.getElem?_set_self hl] at q6
        injection q6 with q6;injection q6 with r1;subst r1
        rw [exi] at q2;rw [eyi] at q7 q5 q3
        simp only [List.cons.injEq,and_true] at p3 q3
        obtain ⟨rfl,rfl⟩:=p3
        obtain ⟨rfl,rfl⟩:=q3
        obtain ⟨c3,k1,k2⟩:=splice_comm p7 q7 (by omega)
        refine .run (v:=undefV) (u:=⟨[(a,.var c3)],none⟩) ho' (by rw [← guardV_looks a1];exact hg') ⟨.inl ?_,fun p hp=>by have:=hs'.2 p hp;rwa [insK_same (evalO_looks a1)] at this⟩ (by rw [← rdOf_looks a1];exact hr') (fun p hp=>?_) (fun b hb=>by cases hb)
         (.run (v:=undefV) (u:=⟨[(a,.var ci)],none⟩) ho (by rw [guardV_looks a3];exact hg) ⟨.inl ?_,fun p hp=>by have:=hs.2 p hp;rwa [← insK_same (fun x hx=>evalO_looks a3 x hx)] at this⟩ (by rw [rdOf_looks a3];exact hr) (fun p hp=>?_) (fun b hb=>by cases hb) ?_)
        ·rw [q1]
         simp only [eff,q4,Option.bind_some,q5,and_self,if_true,q2,storeV,p6,k1,Option.map_some]
        ·simp only [updS,newS,List.append_nil,List.mem_singleton] at hp;subst hp
         have:=hw' (a,.var ci) (List.mem_append_left _ List.mem_cons_self)
         exact this
        ·rw [p1]
         simp only [eff,p4,Option.bind_some,eyj,p5,and_self,if_true,exj,p2,storeV,updS,newS,List.append_nil,setH,List.getElem?_set_self hl,k2,Option.map_some]
        ·simp only [updS,newS,List.append_nil,List.mem_singleton] at hp;subst hp
         have:=hw (a,.var cj) (List.mem_append_left _ List.mem_cons_self)
         exact this
        ·rw [putV_comm (x:=oi.dst) (y:=oj.dst) undefV undefV (fun d hd e=>a2 d e hd)]
         simp only [updS,newS,List.append_nil,setH,List.set_set] at rest ⊢
         exact rest
       ·cases hap
      split at hap
      ·rename_i a k b l hj hi
       simp only [Bool.and_eq_true,beq_iff_eq,Bool.not_eq_true'] at hap
       obtain ⟨rfl,hne⟩:=hap
       obtain ⟨tj,mj,kj,xj,own,sg,f,ktj,p1,p2,p3,p4,p5,p6,rfl,rfl⟩:=STK.ins hs hIj hj
       obtain ⟨ti,mi,ki,xi,own2,sg2,f2,kti,q1,q2,q3,q4,q5,q6,rfl,rfl⟩:=STK.ins hs' hIi hi
       have hl:a < H.length:=(List.getElem?_eq_some_iff.1 p6).1
       have e1:=evalO_looks (G:=G) (fr:=fr) (v:=undefV) a1
       have e3:=fun v=>evalO_looks (G:=G) (fr:=fr) (v:=v) a3
       have emi:=e1 mi (by rw [q1];simp [Op.operands]);have eki:=e1 ki (by rw [q1];simp [Op.operands]);have exi:=e1 xi (by rw [q1];simp [Op.operands])
       have emj:=e3 undefV mj (by rw [p1];simp [Op.operands]);have ekj:=e3 undefV kj (by rw [p1];simp [Op.operands]);have exj:=e3 undefV xj (by rw [p1];simp [Op.operands])
       simp only [updS,newS,List.append_nil,setH] at q6 rest
       rw [List.getElem?_set_self hl] at q6
       injection q6 with q6;injection q6 with r1 r2 r3;subst r1;subst r2;subst r3
       rw [emi] at q5;rw [eki] at q4
       rw [exi] at rest
       have hfz1:∀ v,fz (H.set a (.map (insV H own (evalO G fr xj)).1 sg (updF f k (insV H own (evalO G fr xj)).2))) v=fz H v:=fun v=>fz_setmap p6 v
       have hfz2:∀ v,fz (H.set a (.map (insV H own (evalO G fr xi)).1 sg (updF f l (insV H own (evalO G fr xi)).2))) v=fz H v:=fun v=>fz_setmap p6 v
       obtain ⟨c1,c2,c3⟩:=insV_comm H _ _ own (evalO G fr xj) (evalO G fr xi) hfz1 hfz2
       refine .run (v:=undefV) (u:=⟨[(a,.map (insV H own (evalO G fr xi)).1 sg (updF f l (insV H own (evalO G fr xi)).2))],none⟩) ho' (by rw [← guardV_looks a1];exact hg') ⟨.inl ?_,fun p hp=>by have:=hs'.2 p hp;rwa [insK_same (evalO_looks a1)] at this⟩ (by rw [← rdOf_looks a1];exact hr') (fun p hp=>?_) (fun b hb=>by cases hb)
        (.run (v:=undefV) (u:=⟨[(a,.map (insV (H.set a (.map (insV H own (evalO G fr xi)).1 sg (updF f l (insV H own (evalO G fr xi)).2))) (insV H own (evalO G fr xi)).1 (evalO G fr xj)).1 sg (updF (updF f l (insV H own (evalO G fr xi)).2) k (insV (H.set a (.map (insV H own (evalO G fr xi)).1 sg (updF f l (insV H own (evalO G fr xi)).2))) (insV H own (evalO G fr xi)).1 (evalO G fr xj)).2))],none⟩) ho (by rw [guardV_looks a3];exact hg) ⟨.inl ?_,fun p hp=>by rw [insK_same (evalO_looks a3)];exact hs.2 p hp⟩ (by rw [rdOf_looks a3];exact hr) (fun p hp=>?_) (fun b hb=>by cases hb) ?_)
       ·rw [q1]
        simp only [eff,q2,Option.bind_some,q5,q4,insR,p6,q3,if_true,Option.map_some]
       ·simp only [updS,newS,List.append_nil,List.mem_singleton] at hp;subst hp
        have:=hw' _ (List.mem_append_left _ List.mem_cons_self)
        exact this
       ·rw [p1]
        simp only [eff,p2,Option.bind_some,emj,p5,ekj,p4,insR,updS,newS,List.append_nil,setH,List.getElem?_set_self hl,p3,if_true,exj,Option.map_some]
       ·simp only [updS,newS,List.append_nil,List.mem_singleton] at hp;subst hp
        have:=hw _ (List.mem_append_left _ List.mem_cons_self)
        exact this
       ·rw [putV_comm (x:=oi.dst) (y:=oj.dst) undefV undefV (fun d hd e=>a2 d e hd)]
        simp only [updS,newS,List.append_nil,setH,List.set_set] at rest ⊢
        rw [c1,c2] at rest
        rw [c3,updF_comm (by
         cases hq:eqIs l k with
         | false=>rfl
         | true=>have:=eqIs_iff.1 hq;subst this;rw [eqIs_iff.2 rfl] at hne;cases hne)]
        exact rest
      ·cases hap
   | @skip _ _ oi _ _ _ _ ho' hg' rest =>
     obtain ⟨a1,a2,a3⟩:=hA _ _ ho ho'
     refine .skip ho' (by rw [← guardV_looks a1];exact hg') (.run (v:=vj) (u:=uj) ho (by rw [guardV_looks a3];exact hg) (STK.same hs (fun x hx=>(evalO_looks a3 x hx).symm) fun _ _=>rfl) (by rw [rdOf_looks a3];exact hr) hw hn ?_)
     rw [putV_comm (x:=oi.dst) (y:=oj.dst) _ vj (fun d hd e=>a2 d e hd)];exact rest
 | @skip _ _ oj _ _ _ _ ho hg rest =>
   cases rest with
   | @run _ _ oi _ _ _ _ vi ui ho' hg' hs' hr' hw' hn' rest =>
     obtain ⟨a1,a2,a3⟩:=hA _ _ ho ho'
     refine .run (v:=vi) (u:=ui) ho' (by rw [← guardV_looks a1];exact hg') (STK.same hs' (evalO_looks a1) fun _ _=>rfl) (by rw [← rdOf_looks a1];exact hr') hw' hn' (.skip ho (by rw [guardV_looks a3];exact hg) ?_)
     rw [putV_comm (x:=oi.dst) (y:=oj.dst) vi _ (fun d hd e=>a2 d e hd)];exact rest
   | @skip _ _ oi _ _ _ _ ho' hg' rest =>
     obtain ⟨a1,a2,a3⟩:=hA _ _ ho ho'
     refine .skip ho' (by rw [← guardV_looks a1];exact hg') (.skip ho (by rw [guardV_looks a3];exact hg) ?_)
     rw [putV_comm (x:=oi.dst) (y:=oj.dst) _ _ (fun d hd e=>a2 d e hd)];exact rest
theorem SEQ.front {P:Program} {G:Glob} {all:List Oper} {t:Nat→TrE} {i:Nat} {L2:List Nat} {frF:List V} {HF:List AB}:∀ {L1:List Nat} {fr:List V} {H:List AB},SEQ P G all t (L1++i::L2) fr H frF HF→(∀ j∈L1,apartT all t j i=true∨apartI all t j i=true)→SEQ P G all t (i::(L1++L2)) fr H frF HF
 | [],fr,H,h,_=>h
 | j::L1,fr,H,h,ha=>by
   have key:SEQ P G all t (j::i::(L1++L2)) fr H frF HF:=by
    cases h with
    | run ho hg hs hr hw hn rest=>exact .run ho hg hs hr hw hn (SEQ.front rest fun k hk=>ha k (List.mem_cons_of_mem _ hk))
    | skip ho hg rest=>exact .skip ho hg (SEQ.front rest fun k hk=>ha k (List.mem_cons_of_mem _ hk))
   exact key.swap (ha j (by simp))
theorem ST.sound {X:Ctx} {all:List Oper} {o:Oper} {i:Nat} (ho:all[i]?=some o) {fr:List V} {st:List (List V)} {sa:List Act} {a:Act} {E:Env} {nid:Nat} {v:V} {u:Upd} (hR:RelE X fr st sa a E) (hg:guardV all fr o=some true) (hs:ST X.P X.G o fr E.H nid v u)
 (hn:∀ b,u.new=some b→E.H[nid]?=some .hole) (hnd:∀ b,u.new=some b → ∀ p∈u.sets,p.1≠nid) {Q:Exit→Act→World→Prop} {K:Act→World→Prop} (r:Option Nat) (hK:∀ a' E',E'.H=setH E.H (updS nid u)→RelE X (putV fr o.dst v) st sa a' E'→a'.defers=a.defers→K a' E'.w) :
 wpOpIn (FR r) 0 X.P all.toArray Q i K a E.w:=by
 unfold Go.wpOpIn
 have ho':all.toArray[i]?=some o:=by simpa using ho
 rw [ho']
 simp only
 rw [if_pos (guardV_sound (X:=X) hR.fr hg)]
 refine ⟨fun _ _=>trivial,?_⟩
 rcases hs with he|⟨c,f,n,first,cap,args',h1,h2,h3,h4,h5,h6,rfl⟩
 ·have hA:After E.H nid u (setH E.H (updS nid u)):=by
   unfold After updS
   cases hu:u.new with
   | none=>simp [newS]
   | some b =>
     have e:setH E.H (u.sets++newS nid (some b))=(setH E.H u.sets).set nid b:=by
      have:∀ (s r:List (Nat×AB)) (H:List AB),setH H (s++r)=setH (setH H s) r:=by
       intro s
       induction s with
       | nil=>intro r H;rfl
       | cons p s ih=>intro r H;obtain ⟨k,x⟩:=p;simp [setH,ih]
      rw [this];rfl
     rw [e]
     exact NewAt.hole (by rw [setH_get_ne _ _ _ (hnd b hu)];exact hn b hu) b
  obtain ⟨x,E',k1,k2,k3,k4,k5⟩:=eff_sound (o:=o) hR.ok hR.fr he hA
  have:=hK (a.put o.dst x) E' k2 (hR.put k3 k4 k5 o.dst) (put_defers _ _ _)
  rw [Oper.semAt_eq _ _ _ (eff_not_defer he)]
  rcases k1 with k1|⟨k1,rfl⟩<;>rw [k1]
  ·exact this
  ·exact this
 ·have hfr:=evalO_sound hR.ok hR.fr f
  rw [h3] at hfr;simp only [Rep] at hfr
  obtain ⟨xs,ys,hfv,g1,g2⟩:=hfr
  have hargs:=evalL_sound hR.ok hR.fr c.args.toList
  unfold callB at h4
  split at h4
  ·rename_i fn hfn
   simp only [Bool.and_eq_true,Bool.not_eq_true'] at h4
   have hbn:fn.body.isNone=false:=by cases hb:fn.body<;>simp_all
   have hrun:(execOp a.eval o).run X.P E.w=.ok (.enter n (xs++c.args.toList.map a.eval++ys).toArray) E.w:=by
    have e:(xs.toArray++c.args.map a.eval++ys.toArray)=(xs++c.args.toList.map a.eval++ys).toArray:=by
     apply Array.ext';simp
    simp only [execOp,h1,resolve,h2,hfv,Deferred.ofValue,Sem.run_bind,Sem.run_pure,Result.andThen_ok,invoke,callFunc,run_program,hfn,h4.2,hbn,Bool.false_eq_true,if_false,e]
   rw [Oper.semAt_eq _ _ _ (by intro c' hc';rw [h1] at hc';cases hc'),hrun,Oper.uponIn_enter]
   have hx:=fzL_sound hR.ok _ ((g1.append hargs).append g2) h5
   refine ⟨(fun hd=>by simp [FR,Fence.wide] at hd),callsFR _ _ ((Spec.callsE h6 hR.ok hx).mono ?_)⟩
   rintro e w' ⟨x,E3,rfl,hw,hH3,hok,hle,hv⟩
   have:=hK (a.put o.dst x) E3 (by rw [hH3];rfl) (hR.put hle hok hv o.dst) (put_defers _ _ _)
   rw [hw] at this
   exact this
  ·cases h4
def topoB (all:List Oper):Bool:=all.zipIdx.all fun p=>p.1.after.toList.all fun e => !Region.binds .any e || decide (e.on < p.2)
theorem topo_spec {all:List Oper} (h:topoB all=true) {i:Nat} {o:Oper} (ho:all[i]?=some o):∀ e∈o.after,Region.binds .any e=true→e.on < i:=by
 intro e he hb
 unfold topoB at h
 rw [List.all_eq_true] at h
 have hm:(o,i)∈all.zipIdx:=by rw [List.mem_zipIdx_iff_getElem?];exact ho
 have:=h _ hm
 rw [List.all_eq_true] at this
 have:=this e (by simpa using he)
 rw [hb] at this;simpa using this
inductive Anc (all:List Oper):Nat→Nat→Prop where
 | base {i:Nat} {o:Oper} (ho:all[i]?=some o) (e:Edge) (he:e∈o.after) (hb:Region.binds .any e=true):Anc all i e.on
 | step {i j:Nat} {o:Oper} (ho:all[i]?=some o) (e:Edge) (he:e∈o.after) (hb:Region.binds .any e=true) (h:Anc all e.on j):Anc all i j
def ancM (ms:List Nat):List Edge→Nat
 | []=>0
 | e::es=>bif Region.binds .any e then (2 ^ e.on ||| ms.getD e.on 0) ||| ancM ms es else ancM ms es
def ancs:List Oper→List Nat→List Nat
 | [],ms=>ms
 | o::l,ms=>ancs l (ms++[ancM ms o.after.toList])
theorem ancM_sound {ms:List Nat} {j:Nat}:∀ {es:List Edge},(ancM ms es).testBit j=true → ∃ e∈es,Region.binds .any e=true∧(e.on=j∨(ms.getD e.on 0).testBit j=true)
 | [],h=>by simp [ancM] at h
 | e::es,h=>by
   simp only [ancM] at h
   cases hb:Region.binds .any e with
   | true =>
     rw [hb] at h
     simp only [cond_true,Nat.testBit_or,Bool.or_eq_true] at h
     rcases h with (h|h)|h
     ·refine ⟨e,by simp,hb,.inl ?_⟩
      rw [Nat.testBit_two_pow] at h;simpa using h
     ·exact ⟨e,by simp,hb,.inr h⟩
     ·obtain ⟨e',h1,h2⟩:=ancM_sound h
      exact ⟨e',List.mem_cons_of_mem _ h1,h2⟩
   | false =>
     rw [hb] at h
     obtain ⟨e',h1,h2⟩:=ancM_sound h
     exact ⟨e',List.mem_cons_of_mem _ h1,h2⟩
theorem ancs_sound (all:List Oper):∀ (l:List Oper) (ms:List Nat),l=all.drop ms.length→ms.length≤all.length→(∀ i j,((ms.getD i 0).testBit j)=true→Anc all i j) → ∀ i j,(((ancs l ms).getD i 0).testBit j)=true→Anc all i j
 | [],ms,_,_,hms,i,j,h=>hms i j h
 | o::l,ms,hl,hle,hms,i,j,h=>by
   have ho:all[ms.length]?=some o:=by
    have:=congrArg (fun l=>l[0]?) hl
    simpa [List.getElem?_drop] using this.symm
   have hlt:ms.length < all.length:=(List.getElem?_eq_some_iff.1 ho).1
   refine ancs_sound all l (ms++[ancM ms o.after.toList]) ?_ (by simp;omega) ?_ i j h
   ·have:=congrArg List.tail hl
    simpa [List.tail_drop] using this
   ·intro i' j' h'
    rw [List.getD_eq_getElem?_getD] at h'
    rcases Nat.lt_trichotomy i' ms.length with hi|hi|hi
    ·rw [List.getElem?_append_left hi] at h'
     exact hms i' j' (by rw [List.getD_eq_getElem?_getD];exact h')
    ·subst hi
     simp at h'
     obtain ⟨e,h1,h2,h3⟩:=ancM_sound h'
     have he:e∈o.after:=by simpa using h1
     rcases h3 with rfl|h3
     ·exact .base ho e he h2
     ·exact .step ho e he h2 (hms _ _ h3)
    ·rw [List.getElem?_eq_none (by simp;omega)] at h';simp at h'
theorem draw_any {X:Ctx} {all:List Oper} {t:Nat→TrE} {frF:List V} {HF:List AB} {st:List (List V)} {sa:List Act} {Q:Exit→Act→World→Prop} (htopo:topoB all=true)
 (hpair:∀ i j,j < i→i < all.length→Anc all i j∨apartT all t j i=true∨apartI all t j i=true)
 {ds:List Deferred} (r:Option Nat) (hend:∀ a E,E.H=HF→RelE X frF st sa a E→a.defers=ds→Q .normal a E.w):∀ (fuel:Nat) (listed:Array Bool) (L:List Nat) (fr:List V) (a:Act) (E:Env),listed.size=all.length→(∀ k o,all[k]?=some o→listed.getD k false=true → ∀ e∈o.after,Region.binds .any e=true→listed.getD e.on false=true)→L.Pairwise (· < ·)→(∀ k,k∈L↔(k < all.length∧listed.getD k true=false)) →
   SEQ X.P X.G all t L fr E.H frF HF→RelE X fr st sa a E→a.defers=ds→L.length≤fuel→wpAnyIn (FR r) 0 X.P .any all.toArray Q fuel listed a E.w:=by
 have hdone:∀ (listed:Array Bool) (L:List Nat) (fr:List V) (a:Act) (E:Env),L=[]→SEQ X.P X.G all t L fr E.H frF HF→RelE X fr st sa a E→a.defers=ds→Q .normal a E.w:=by
  rintro listed L fr a E rfl hs hR hds
  generalize hH:E.H=H at hs
  cases hs
  exact hend a E hH hR hds
 have hnone:∀ (listed:Array Bool) (L:List Nat),listed.size=all.length→(∀ k,k∈L↔(k < all.length∧listed.getD k true=false))→Region.ready .any all.toArray listed=[]→L=[]:=by
  intro listed L hsz hmem hr
  have hno:∀ m,m < all.length→listed.getD m true=false→False:=by
   intro m
   induction m using Nat.strongRecOn with
   | _ m ih =>
     intro hm hu
     have:m∈Region.ready .any all.toArray listed:=by
      rw [mem_ready]
      refine ⟨hu,all[m],by simp [hm],fun e he hb=>?_⟩
      have hlt:=topo_spec htopo (List.getElem?_eq_getElem hm) e he hb
      cases hq:listed.getD e.on false with
      | true=>rfl
      | false =>
        exfalso
        refine ih e.on hlt (by omega) ?_
        have hl:e.on < listed.size:=by omega
        simp only [Array.getD_eq_getD_getElem?,Array.getElem?_eq_getElem hl,Option.getD_some] at hq ⊢
        exact hq
     rw [hr] at this;cases this
  cases L with
  | nil=>rfl
  | cons k L=>have:=(hmem k).1 (by simp);exact (hno k this.1 this.2).elim
 intro fuel
 induction fuel with
 | zero =>
   intro listed L fr a E hsz hdc hpw hmem hs hR hds hf
   have hL:L=[]:=List.eq_nil_of_length_eq_zero (by omega)
   refine ⟨?_,hdone listed L fr a E hL hs hR hds⟩
   cases hr:Region.ready .any all.toArray listed with
   | nil=>rfl
   | cons i rs =>
     have hi:i∈Region.ready .any all.toArray listed:=by rw [hr];simp
     rw [mem_ready] at hi
     obtain ⟨hu,o,ho,_⟩:=hi
     have:i∈L:=(hmem i).2 ⟨by have:=(Array.getElem?_eq_some_iff.1 ho).1;simpa using this,hu⟩
     rw [hL] at this;cases this
 | succ fuel ih =>
   intro listed L fr a E hsz hdc hpw hmem hs hR hds hf
   refine ⟨fun hr=>hdone listed L fr a E (hnone listed L hsz hmem hr) hs hR hds,fun i hi=>?_⟩
   have hi':=hi
   rw [mem_ready] at hi'
   obtain ⟨hu,o,ho,hall⟩:=hi'
   have hil:i < all.length:=by have:=(Array.getElem?_eq_some_iff.1 ho).1;simpa using this
   have hiL:i∈L:=(hmem i).2 ⟨hil,hu⟩
   obtain ⟨L1,L2,rfl⟩:=List.append_of_mem hiL
   have ho':all[i]?=some o:=by simpa using ho
   have hlt:∀ j∈L1,j < i:=fun j hj=>(List.pairwise_append.1 hpw).2.2 j hj i (by simp)
   have hfront:=SEQ.front hs fun j hj=>by
    rcases hpair i j (hlt j hj) hil with h|h
    ·exfalso
     have hanc:∀ a b,Anc all a b→listed.getD a false=true→listed.getD b false=true:=by
      intro a b hab
      induction hab with
      | base ho1 e he hb=>exact fun hl=>hdc _ _ ho1 hl e he hb
      | step ho1 e he hb _ ih=>exact fun hl=>ih (hdc _ _ ho1 hl e he hb)
     have h1:listed.getD j false=true:=by
      cases h with
      | base ho1 e he hb =>
        rw [ho'] at ho1;injection ho1 with ho1;subst ho1
        exact hall e he hb
      | step ho1 e he hb hab =>
        rw [ho'] at ho1;injection ho1 with ho1;subst ho1
        exact hanc _ _ hab (hall e he hb)
     have h2:=((hmem j).1 (by simp [hj])).2
     have hl:j < listed.size:=by have:=((hmem j).1 (by simp [hj])).1;omega
     simp only [Array.getD_eq_getD_getElem?,Array.getElem?_eq_getElem hl,Option.getD_some] at h1 h2
     rw [h1] at h2;cases h2
    ·exact h
   have hpw':(L1++L2).Pairwise (· < ·):=hpw.sublist (List.Sublist.append (List.Sublist.refl _) (List.sublist_cons_self _ _))
   have hmem':∀ k,k∈L1++L2↔(k < all.length∧(listed.setIfInBounds i true).getD k true=false):=by
    intro k
    by_cases hk:k=i
    ·subst hk
     constructor
     ·intro hm
      exfalso
      rcases List.mem_append.1 hm with hm|hm
      ·exact Nat.lt_irrefl _ (hlt _ hm)
      ·have:=(List.pairwise_cons.1 (List.pairwise_append.1 hpw).2.1).1 _ hm;omega
     ·rintro ⟨_,h⟩
      simp [show k < listed.size by omega] at h
    ·rw [getD_set_ne true (Ne.symm hk),← hmem k]
     simp [hk]
   have hdc':∀ k o,all[k]?=some o→(listed.setIfInBounds i true).getD k false=true → ∀ e∈o.after,Region.binds .any e=true→(listed.setIfInBounds i true).getD e.on false=true:=by
    intro k o1 hk hl e he hb
    by_cases hek:e.on=i
    ·subst hek;simp [show e.on < listed.size by omega]
    ·rw [getD_set_ne false (Ne.symm hek)]
     by_cases hki:k=i
     ·subst hki
      rw [ho'] at hk;injection hk with hk;subst hk
      exact hall e he hb
     ·rw [getD_set_ne false (Ne.symm hki)] at hl
      exact hdc k o1 hk hl e he hb
   have hlen:(L1++L2).length≤fuel:=by simp only [List.length_append,List.length_cons] at hf ⊢;omega
   generalize hH:E.H=H at hfront
   cases hfront with
   | @run _ _ o2 _ _ _ _ v u ho2 hg hst hr hw hn rest =>
     rw [ho'] at ho2;injection ho2 with ho2;subst ho2
     subst hH
     refine ST.sound ho' hR hg hst.1 (fun b hb=>(hn b hb).1) (fun b hb p hp=>by rw [(hn b hb).2.2] at hp;cases hp) r fun a' E' hH' hR' hd'=>?_
     ·exact ih _ (L1++L2) _ a' E' (by simp [hsz]) hdc' hpw' hmem' (by rw [hH'];exact rest) hR' (hd'.trans hds) hlen
   | @skip _ _ o2 _ _ _ _ ho2 hg rest =>
     rw [ho'] at ho2;injection ho2 with ho2;subst ho2
     subst hH
     unfold Go.wpOpIn
     rw [ho]
     simp only
     rw [if_neg (by rw [guardV_sound (X:=X) hR.fr hg];simp)]
     have:=ih (listed.setIfInBounds i true) (L1++L2) _ (a.put o.dst undef) E (by simp [hsz]) hdc' hpw' hmem' rest (hR.put (Env.le.refl E) hR.ok (Rep.undef E) o.dst) ((put_defers _ _ _).trans hds) hlen
     exact ⟨fun _ _=>trivial,this⟩
theorem EOK.holes {G:Glob} {w0:World} {M0:Nat→Nat→Prop} {E:Env} (h:EOK G w0 M0 E) (n:Nat):EOK G w0 M0 { E with H:=E.H++List.replicate n .hole }∧E.le { E with H:=E.H++List.replicate n .hole }:=by
 have hget:∀ (i:Nat) (x:AB),E.H[i]?=some x→(E.H++List.replicate n .hole)[i]?=some x:=fun i x hx=>by
  rw [List.getElem?_append_left (List.getElem?_eq_some_iff.1 hx).1];exact hx
 have hle:E.le { E with H:=E.H++List.replicate n .hole } :=
  ⟨fun _ _ _ h=>h,fun _ _ _ h=>h,fun i sz es v m hr=>.inr ⟨_,_,_,_,hget i _ hr,Nat.le_refl _,fun _=>rfl⟩,fun i hd=>hget i _ hd⟩
 refine ⟨⟨h.below,h.old,h.mlt,fun i v b hp=>?_,h.inj,fun i x hx=>?_,fun g cs hg=>RepAt.mono cs hle.bare (h.glob g cs hg)⟩,hle⟩
 ·obtain ⟨⟨x,k1⟩,k2,k3⟩:=h.phi i v b hp
  exact ⟨⟨x,hget i x k1⟩,by show (E.H++List.replicate n .hole)[i]?≠_;rw [hget i x k1,← k1];exact k2,k3⟩
 ·have hx':(E.H++List.replicate n .hole)[i]?=some x:=hx
  rcases Nat.lt_or_ge i E.H.length with hl|hl
  ·rw [List.getElem?_append_left hl] at hx'
   exact HOK.mono hle rfl rfl (fun v b hb=>⟨rfl,fun _=>Iff.rfl⟩) (h.blk i x hx')
  ·rw [List.getElem?_append_right hl] at hx'
   rw [List.getElem?_replicate] at hx'
   split at hx'
   ·injection hx' with hx';subst hx'
    intro v
    cases hp:E.φ i v with
    | none=>rfl
    | some b =>
      obtain ⟨⟨y,k1⟩,_⟩:=h.phi i v b hp
      have:=(List.getElem?_eq_some_iff.1 k1).1;omega
   ·cases hx'
def drawOK (all:List Oper) (t:List TrE):Bool:=topoB all && (List.range all.length).all fun i=>(List.range i).all fun j=>((ancs all []).getD i 0).testBit j || (apartT all (fun k=>t.getD k ⟨[],[],0,[]⟩) j i || apartI all (fun k=>t.getD k ⟨[],[],0,[]⟩) j i)
theorem RUN_draw {X:Ctx} {id:Nat} {all:List Oper} {k:List It} {fr frF:List V} {st:List (List V)} {H HF:List AB} (n:Nat) {t:List TrE} (hm:X.P.follows .mixedOrders=true) (hok:drawOK all t=true)
 (hs:SEQ X.P X.G all (fun k=>t.getD k ⟨[],[],0,[]⟩) (List.range all.length) fr (H++List.replicate n .hole) frF HF) (h:RUN X ⟨k,frF,st,HF⟩):RUN X ⟨.code (.region id all.toArray true)::k,fr,st,H⟩:=by
 intro sa a E hH hR hD
 simp only at hH hR;subst hH
 simp only [DF] at hD
 simp only [post]
 unfold drawOK at hok
 rw [Bool.and_eq_true] at hok
 refine wpIn_region_any hm ?_
 obtain ⟨d1,d2⟩:=hR.ok.drew
 obtain ⟨g1,g2⟩:=d1.holes n
 have hR':RelE X fr st sa a { E with w:=E.w.drew,H:=E.H++List.replicate n .hole }:=⟨g1,RepL.mono _ (d2.trans g2) hR.fr,hR.st.mono (d2.trans g2)⟩
 refine draw_any (st:=st) (sa:=sa) hok.1 (fun i j hji hi=>?_) (rd k) (ds:=a.defers) (fun a' E' hH' hR' hd'=>?_) _ _ (List.range all.length) fr a { E with w:=E.w.drew,H:=E.H++List.replicate n .hole } (by simp) (fun k o _ hl=>by simp only [Array.getD_eq_getD_getElem?,Array.getElem?_replicate] at hl;split at hl<;>cases hl) List.pairwise_lt_range (fun k=>by simp only [List.mem_range];exact ⟨fun hk=>⟨hk,by simp [hk]⟩,fun hk=>hk.1⟩) hs hR' rfl (by simp)
 ·have:=(List.all_eq_true.1 hok.2) i (List.mem_range.2 hi)
  have:=(List.all_eq_true.1 this) j (List.mem_range.2 hji)
  simp only [Bool.or_eq_true] at this
  rcases this with this|this
  ·exact .inl (ancs_sound all all [] (by simp) (by simp) (fun i j h=>by simp at h) i j this)
  ·exact .inr this
 ·exact h sa a' E' hH' hR' (by rw [hd'];exact hD)
end Go.Ab
