import Derived.Test.YtaebkmmjjabnaaaGreatDoorW1
import Derived.Great.BuildSlice
set_option maxRecDepth 100000
set_option maxHeartbeats 4000000
set_option linter.unusedSimpArgs false
set_option linter.unusedVariables false
namespace Go.Ab
open Go Go.RowKit
theorem chk_eq:∀ (n:Nat) (xs:List V),(xs.length=n∧xs.all oneV=true)↔chk n xs=true
 | 0,[]=>by simp [chk]
 | 0,x::xs=>by simp [chk]
 | n + 1,[]=>by simp [chk]
 | n + 1,x::xs=>by
   simp only [List.length_cons,List.all_cons,Bool.and_eq_true,chk,← chk_eq n xs]
   constructor
   ·rintro ⟨h1,h2,h3⟩;exact ⟨h2,by omega,h3⟩
   ·rintro ⟨h2,h1,h3⟩;exact ⟨by omega,h2,h3⟩
theorem over_sound {E:Env}:∀ {cs xs cs':List V} {zs ys:List Value},RepL E cs zs→RepL E xs ys→over cs xs=some cs'→ys.length≤zs.length∧RepL E cs' (ys++zs.drop ys.length)
 | cs,[],cs',zs,ys,h,k,ho=>by
   simp only [RepL] at k;subst k
   cases cs<;>(simp only [over] at ho;injection ho with ho;subst ho;exact ⟨Nat.zero_le _,by simpa using h⟩)
 | [],x::xs,cs',zs,ys,h,k,ho=>by simp [over] at ho
 | c::cs,x::xs,cs',zs,ys,h,k,ho=>by
   simp only [over,Option.map_eq_some_iff] at ho
   obtain ⟨ds,h1,rfl⟩:=ho
   simp only [RepL] at h k
   obtain ⟨z,zs,rfl,h2,h3⟩:=h
   obtain ⟨y,ys,rfl,k2,k3⟩:=k
   obtain ⟨h4,h5⟩:=over_sound h3 k3 h1
   exact ⟨by simpa using h4,by simpa using RepL.cons k2 h5⟩
theorem splice_sound {E:Env}:∀ {n:Nat} {cs xs cs':List V} {zs ys:List Value},RepL E cs zs→RepL E xs ys→splice cs n xs=some cs' →
 n + ys.length≤zs.length∧RepL E cs' (zs.take n++ys++zs.drop (n + ys.length))
 | 0,cs,xs,cs',zs,ys,h,k,ho=>by
   simp only [splice] at ho
   obtain ⟨h1,h2⟩:=over_sound h k ho
   exact ⟨by omega,by simpa using h2⟩
 | n + 1,[],xs,cs',zs,ys,h,k,ho=>by simp [splice] at ho
 | n + 1,c::cs,xs,cs',zs,ys,h,k,ho=>by
   simp only [splice,Option.map_eq_some_iff] at ho
   obtain ⟨ds,h1,rfl⟩:=ho
   simp only [RepL] at h
   obtain ⟨z,zs,rfl,h2,h3⟩:=h
   obtain ⟨h4,h5⟩:=splice_sound h3 k h1
   refine ⟨by simp;omega,?_⟩
   rw [show n + 1 + ys.length=(n + ys.length) + 1 by omega]
   simpa using RepL.cons h2 h5
theorem splice_length:∀ {n:Nat} {cs xs cs':List V},splice cs n xs=some cs'→cs'.length=cs.length
 | 0,cs,xs,cs',h=>by
   simp only [splice] at h
   induction xs generalizing cs cs' with
   | nil=>cases cs<;>(simp [over] at h;subst h;rfl)
   | cons x xs ih =>
     cases cs with
     | nil=>simp [over] at h
     | cons c cs =>
       simp only [over,Option.map_eq_some_iff] at h
       obtain ⟨ds,h1,rfl⟩:=h
       simp [ih _ _ h1]
 | n + 1,[],xs,cs',h=>by simp [splice] at h
 | n + 1,c::cs,xs,cs',h=>by
   simp only [splice,Option.map_eq_some_iff] at h
   obtain ⟨ds,h1,rfl⟩:=h
   simp [splice_length h1]
theorem Rep.one {E:Env} {v:V} {x:Value} (h:oneV v=true) (hr:Rep E v x):x.oneCell'=true:=by
 cases v<;>simp [oneV] at h<;>simp only [Rep] at hr
 ·exact hr.1 ▸ hr.2
 ·obtain ⟨b,_,rfl⟩:=hr;rfl
 ·obtain ⟨⟨a,rfl⟩,_⟩:=hr;rfl
 ·obtain ⟨b,o,rfl,_⟩:=hr;rfl
 ·obtain ⟨a,n,c,rfl,_⟩:=hr;rfl
 ·obtain ⟨⟨a,n,c,rfl⟩,_⟩:=hr;rfl
 ·obtain ⟨b,c,_,rfl,_⟩:=hr;rfl
 ·obtain ⟨xs,ys,rfl,_⟩:=hr;rfl
 ·obtain ⟨y,rfl,_⟩:=hr;rfl
 ·obtain ⟨b,_,rfl⟩:=hr;rfl
theorem Rep.cells {E:Env} {v:V} {x:Value} (hr:Rep E v x) (hv:v≠.any):RepL E v.cells x.cells.toList:=by
 have one:∀ {y:Value},y.oneCell'=true→y.cells.toList=[y]:=by intro y hy;cases y<;>simp_all [Value.cells,Value.oneCell']
 cases v with
 | any=>exact absurd rfl hv
 | agg cs=>simp only [Rep] at hr;obtain ⟨xs,rfl,h⟩:=hr;simpa [V.cells,Value.cells] using h
 | tup vs =>
   have h:=hr
   simp only [Rep] at h;obtain ⟨xs,rfl,_⟩:=h
   exact RepL.cons hr (RepL.nil E)
 | _=>rw [one (Rep.one rfl hr)];exact RepL.cons hr (RepL.nil E)
theorem RepL.one {E:Env}:∀ {vs:List V} {xs:List Value},vs.all oneV=true→RepL E vs xs → ∀ x∈xs,x.oneCell'=true
 | [],xs,_,h,x,hx=>by simp only [RepL] at h;subst h;simp at hx
 | v::vs,xs,ha,h,x,hx=>by
   simp only [RepL] at h
   obtain ⟨y,ys,rfl,h1,h2⟩:=h
   simp at ha
   rcases List.mem_cons.1 hx with rfl|hx
   ·exact Rep.one ha.1 h1
   ·exact RepL.one (by simpa using ha.2) h2 x hx
theorem not_any_of_one {v:V} (h:v.cells.all oneV=true):v≠.any:=by
 rintro rfl;simp [V.cells,oneV] at h
section
variable {P:Program} {G:Glob} {w0:World} {M0:Nat→Nat→Prop} {E:Env} {a:Act} {fr:List V}
theorem evalO_sound (hE:EOK G w0 M0 E) (hfr:RepL E fr a.tmps.toList) (x:Operand):Rep E (evalO G fr x) (a.eval x):=by
 cases x with
 | tmp t =>
   have:=hfr.getD t
   simpa [evalO,Act.eval,List.getD_eq_getElem?_getD,Array.getD_eq_getD_getElem?] using this
 | const v=>exact Rep.ofConst E v
 | global g =>
   simp only [evalO,Act.eval]
   cases h:G.lookup g with
   | none=>simp [Rep]
   | some cs=>simp only [Rep];exact ⟨g,0,rfl,hE.glob g cs h⟩
 | func f=>simp only [evalO,Act.eval,Rep];exact ⟨[],[],rfl,RepL.nil E,RepL.nil E⟩
theorem evalL_sound (hE:EOK G w0 M0 E) (hfr:RepL E fr a.tmps.toList):∀ (xs:List Operand),RepL E (xs.map (evalO G fr)) (xs.map a.eval)
 | []=>RepL.nil E
 | x::xs=>RepL.cons (evalO_sound hE hfr x) (evalL_sound hE hfr xs)
def Comes (P:Program) (G:Glob) (w0:World) (M0:Nat→Nat→Prop) (E:Env) (a:Act) (o:Oper) (v:V) (H':List AB):Prop :=
 ∃ x E',((execOp a.eval o).run P E.w=.ok (.value x) E'.w∨((execOp a.eval o).run P E.w=.ok .skip E'.w∧x=undef))∧E'.H=H'∧E.le E'∧EOK G w0 M0 E'∧Rep E' v x
theorem Comes.pure {o:Oper} {v:V} {x:Value} (hE:EOK G w0 M0 E) (h:(execOp a.eval o).run P E.w=.ok (.value x) E.w) (hr:Rep E v x):Comes P G w0 M0 E a o v E.H :=
 ⟨x,E,.inl h,rfl,Env.le.refl E,hE,hr⟩
theorem row_elem {E:Env} {sz n:Nat} {es:List V} {C:Array Value} (h:∀ e∈es,e.cells.length=sz) (hr:RepL E (flatV es) (C.toList.take (n * sz))) {i:Nat} {e:V} (he:es[i]?=some e) :
 ∃ xs,RepL E e.cells xs ∧ ∀ j x,xs[j]?=some x→C[i * sz + j]?=some x:=by
 refine ⟨(((C.toList.take (n * sz)).drop (i * sz)).take sz),?_,fun j x hx=>?_⟩
 ·rw [← flatV_get h i e he];exact (hr.drop _).take _
 ·rw [List.getElem?_take] at hx
  split at hx
  ·rw [List.getElem?_drop,List.getElem?_take] at hx
   split at hx
   ·simpa using hx
   ·cases hx
  ·cases hx
theorem loadV_sound (hE:EOK G w0 M0 E) {t:TypeId} {d:TD} (ht:tdOf P t=some d) {p v:V} {x:Value} (hp:Rep E p x) (h:loadV E.H d p=some v) :
 ∃ b o y,x=.pointer (some ⟨b,o,none⟩)∧(loadVar t ⟨b,o,none⟩).run P E.w=.ok y E.w∧Rep E v y:=by
 cases p<;>simp only [loadV] at h<;>try (cases h;done)
 ·rename_i i off
  split at h
  ·rename_i cs hi
   simp only [Rep] at hp
   obtain ⟨b,h1,rfl⟩:=hp
   obtain ⟨b',C,e,k1,k2,k3,k4⟩:=hE.blk i _ hi
   rw [h1] at k1;injection k1 with k1;subst k1
   obtain ⟨y,hy,hv⟩:=run_loadVar (P:=P) ht (w:=E.w) (b:=b) (o:=off) (k3.drop off) (fun j u hu=>by
    rw [cell_of_row E.w b (off + j) C e (0,0) k2]
    rw [List.getElem?_drop] at hu
    simpa using hu) h
   exact ⟨b,off,y,rfl,hy,hv⟩
  ·cases h
 ·rename_i i ver idx sz off
  split at h
  ·rename_i sz' es v' imm hi
   split at h
   ·rename_i hver
    obtain ⟨rfl,rfl⟩:=hver
    simp only [Option.bind_eq_some_iff] at h
    obtain ⟨e,he,h⟩:=h
    simp only [Rep,hi] at hp
    obtain ⟨_,_,hp⟩:=hp
    obtain ⟨b,h1,rfl⟩:=hp trivial
    obtain ⟨a',n,c,k1,k2,k3,k4,k5,k6⟩:=hE.blk i _ hi
    rcases k6 with ⟨k6,_⟩|⟨b',C,ty,k6,k7,k8,k9,k10,k11,k12⟩
    ·have:es=[]:=List.eq_nil_of_length_eq_zero (by omega)
     subst this;simp at he
    ·rw [h1] at k6;injection k6 with k6;subst k6
     obtain ⟨xs,hx,hc⟩:=row_elem k5.1 k10 he
     obtain ⟨y,hy,hv⟩:=run_loadVar (P:=P) ht (w:=E.w) (b:=b) (o:=idx * sz + off) (hx.drop off) (fun j u hu=>by
      rw [List.getElem?_drop] at hu
      rw [cell_of_row E.w b _ C ty (0,0) k8,Nat.add_assoc]
      exact hc _ _ hu) h
     exact ⟨b,_,y,rfl,hy,Rep.mono _ E.bare_le hv⟩
   ·cases h
  ·cases h
 ·rename_i cs
  simp only [Rep] at hp
  obtain ⟨b,o,rfl,h1⟩:=hp
  obtain ⟨xs,h2,h3⟩:=h1.to
  obtain ⟨y,hy,hv⟩:=run_loadVar (P:=P) ht (w:=E.w) (b:=b) (o:=o) h2 (fun j u hu=>(h3 j u hu).1) h
  exact ⟨b,o,y,rfl,hy,Rep.mono _ E.bare_le hv⟩
mutual
theorem fz_sound (hE:EOK G w0 M0 E):(v:V) → ∀ {v':V} {x:Value},Rep E v x→fz E.H v=some v'→Rep E.bare v' x
 | .val v,v',x,h,k=>by simp only [fz] at k;injection k with k;subst k;simpa only [Rep] using h
 | .sl es m,v',x,h,k=>by
   simp only [fz] at k;injection k with k;subst k
   simp only [Rep] at h ⊢
   obtain ⟨a,n,c,h1,h2,h3,h4,_,_,h7⟩:=h
   exact ⟨a,n,c,h1,h2,h3,h4,by simp,by simp,h7⟩
 | .cp cs,v',x,h,k=>by simp only [fz] at k;injection k with k;subst k;simpa only [Rep,Env.bare_bare] using h
 | .row i ver,v',x,h,k=>by
   simp only [fz,fzRow] at k
   split at k
   ·rename_i sz es v hi
    split at k
    ·rename_i hv;subst hv
     injection k with k;subst k
     simp only [Rep,hi] at h
     obtain ⟨_,_,h⟩:=h
     have h:=h trivial
     obtain ⟨a',n,c,k1,k2,k3,k4,k5,k6⟩:=hE.blk i _ hi
     simp only [Rep]
     refine ⟨a',n,c,h.trans k1,k2,k3,k4,by simp,by simp,fun hne=>?_⟩
     rcases k6 with ⟨k6,_⟩|⟨b,C,ty,k6,k7,k8,k9,k10,k11,k12⟩
     ·exact absurd (List.eq_nil_of_length_eq_zero (by omega)) hne
     ·refine ⟨sz,b,0,k7,RepEs.flat.2 ⟨k5.1,RepAt.of k10 fun j u hu=>?_⟩⟩
      rw [List.getElem?_take] at hu
      split at hu
      ·rename_i hj
       refine ⟨?_,fun hm=>?_⟩
       ·show E.w.cell? _=_
        rw [cell_of_row E.w b _ C ty (0,0) k8];simpa using hu
       ·have:=(k12 (0 + j) (by omega)).1 hm;cases this
      ·cases hu
    ·cases k
   ·cases k
 | .agg cs,v',x,h,k=>by
   simp only [fz,Option.map_eq_some_iff] at k
   obtain ⟨cs',k1,rfl⟩:=k
   simp only [Rep] at h ⊢
   obtain ⟨xs,rfl,h2⟩:=h
   exact ⟨xs,rfl,fzL_sound hE cs h2 k1⟩
 | .tup cs,v',x,h,k=>by
   simp only [fz,Option.map_eq_some_iff] at k
   obtain ⟨cs',k1,rfl⟩:=k
   simp only [Rep] at h ⊢
   obtain ⟨xs,rfl,h2⟩:=h
   exact ⟨xs,rfl,fzL_sound hE cs h2 k1⟩
 | .fn f fa fb,v',x,h,k=>by
   simp only [fz,Option.bind_eq_some_iff,Option.map_eq_some_iff] at k
   obtain ⟨a',k1,b',k2,rfl⟩:=k
   simp only [Rep] at h ⊢
   obtain ⟨xs,ys,rfl,h2,h3⟩:=h
   exact ⟨xs,ys,rfl,fzL_sound hE fa h2 k1,fzL_sound hE fb h3 k2⟩
 | .iface t v,v',x,h,k=>by
   simp only [fz,Option.map_eq_some_iff] at k
   obtain ⟨u,k1,rfl⟩:=k
   simp only [Rep] at h ⊢
   obtain ⟨y,rfl,h2⟩:=h
   exact ⟨y,rfl,fz_sound hE v h2 k1⟩
 | .any,v',x,h,k=>by simp [fz] at k
 | .ptr _ _,v',x,h,k=>by simp [fz] at k
 | .ptrE _ _ _ _ _,v',x,h,k=>by simp [fz] at k
 | .vs _ _ _ _,v',x,h,k=>by simp [fz] at k
 | .mp _,v',x,h,k=>by simp [fz] at k
theorem fzL_sound (hE:EOK G w0 M0 E):(vs:List V) → ∀ {vs':List V} {xs:List Value},RepL E vs xs→fzL E.H vs=some vs'→RepL E.bare vs' xs
 | [],vs',xs,h,k=>by simp only [fzL] at k;injection k with k;subst k;simpa only [RepL] using h
 | v::vs,vs',xs,h,k=>by
   simp only [fzL,Option.bind_eq_some_iff,Option.map_eq_some_iff] at k
   obtain ⟨v',k1,ws,k2,rfl⟩:=k
   simp only [RepL] at h
   obtain ⟨y,ys,rfl,h1,h2⟩:=h
   exact RepL.cons (fz_sound hE v h1 k1) (fzL_sound hE vs h2 k2)
end
theorem flat_set {E:Env} {sz:Nat} {ys:List Value} {xs:List V} (hx:RepL E xs ys):∀ {es:List V} {idx off:Nat} {e e':V} {zs:List Value},(∀ e∈es,e.cells.length=sz)→RepL E (flatV es) zs→es[idx]?=some e→splice e.cells off xs=some e'.cells →
 idx * sz + off + ys.length≤zs.length∧off + ys.length≤sz∧RepL E (flatV (es.set idx e')) (zs.take (idx * sz + off)++ys++zs.drop (idx * sz + off + ys.length))
 | [],idx,off,e,e',zs,hl,h,he,hs=>by simp at he
 | u::es,0,off,e,e',zs,hl,h,he,hs=>by
   simp at he;subst he
   simp only [flatV,List.flatMap_cons] at h
   obtain ⟨z1,z2,rfl,h1,h2⟩:=h.split
   obtain ⟨k1,k2⟩:=splice_sound h1 hx hs
   have hz:z1.length=sz:=by rw [h1.length];exact hl u (by simp)
   refine ⟨by simp;omega,by omega,?_⟩
   simp only [List.set_cons_zero,flatV,List.flatMap_cons,Nat.zero_mul,Nat.zero_add]
   rw [List.take_append_of_le_length (by omega),List.drop_append_of_le_length (by omega),← List.append_assoc]
   exact k2.append h2
 | u::es,idx + 1,off,e,e',zs,hl,h,he,hs=>by
   simp only [flatV,List.flatMap_cons] at h
   obtain ⟨z1,z2,rfl,h1,h2⟩:=h.split
   have hz:z1.length=sz:=by rw [h1.length];exact hl u (by simp)
   obtain ⟨k1,k0,k2⟩:=flat_set hx (es:=es) (fun e he=>hl e (by simp [he])) h2 (by simpa using he) hs
   have e1:(idx + 1) * sz + off=z1.length + (idx * sz + off):=by rw [hz,Nat.add_mul];omega
   refine ⟨by rw [e1];simp;omega,k0,?_⟩
   simp only [List.set_cons_succ,flatV,List.flatMap_cons]
   rw [e1,List.take_length_add_append,show z1.length + (idx * sz + off) + ys.length=z1.length + (idx * sz + off + ys.length) by omega,List.drop_length_add_append]
   simpa [flatV,List.append_assoc] using h1.append k2
theorem set_cells {sz:Nat} {es:List V} {idx:Nat} {e':V} (hl:∀ e∈es,e.cells.length=sz) (he':e'.cells.length=sz):∀ e∈es.set idx e',e.cells.length=sz:=by
 intro e he
 rcases List.mem_or_eq_of_mem_set he with h|h
 ·exact hl e h
 ·rw [h];exact he'
theorem run_storeAt {t:TypeId} {d:TD} (ht:tdOf P t=some d) {w w':World} {b o:Nat} {y:Value} (hy:y.cells.toList.length=d.size)
 (hs:(storeCells ⟨b,o,none⟩ y.cells.toList).run P w=.ok () w'):(Instr.storeAt t (.pointer (some ⟨b,o,none⟩)) y).run P w=.ok () w':=by
 obtain ⟨i,ds,z,h1,h2,h3,_,rfl⟩:=tdOf_some ht
 have:y.cells.size=i.size:=by simpa using hy
 simp [Instr.storeAt,Instr.sureAddr,storeVar,sizeOf,typeInfo,h1,this,hs]
theorem storeV_sound (hE:EOK G w0 M0 E) {t:TypeId} {d:TD} (ht:tdOf P t=some d) {p:V} {px y:Value} {vs:List V} {u:Upd} (hp:Rep E p px) (hv:RepL E vs y.cells.toList) (h1:vs.all oneV=true) (hl:vs.length=d.size)
 (h:storeV E.H vs p=some u):∃ E',(Instr.storeAt t px y).run P E.w=.ok () E'.w∧u.new=none∧E'.H=setH E.H u.sets∧E.le E'∧EOK G w0 M0 E':=by
 have hone:=RepL.one h1 hv
 have hyl:y.cells.toList.length=d.size:=by rw [hv.length];exact hl
 cases p<;>simp only [storeV] at h<;>try (cases h;done)
 ·rename_i i off
  split at h
  ·rename_i cs hi
   simp only [Option.map_eq_some_iff] at h
   obtain ⟨cs',hsp,rfl⟩:=h
   simp only [Rep] at hp
   obtain ⟨b,hb,rfl⟩:=hp
   obtain ⟨b',C,ty,k1,k2,k3,k4⟩:=hE.blk i _ hi
   rw [hb] at k1;injection k1 with k1;subst k1
   obtain ⟨k5,k6⟩:=splice_sound k3 hv hsp
   have hst:=run_storeCells_at P b off ty y.cells.toList 0 C E.w k2 (by simpa using k5) hone
   simp only [Nat.add_zero] at hst
   obtain ⟨g1,g2⟩:=hE.write (E.w.setRow b (C.toList.take off++y.cells.toList++C.toList.drop (off + y.cells.toList.length)).toArray) i b _ (.var cs') hb hi (by simp) rfl rfl rfl
    (fun k hk=>setRow_other E.w b k _ hk) (fun o u hs=>absurd (k4 o) hs.2) (fun _ _ _ _ e=>by cases e) (by simp) (by simp)
    (fun hle=>⟨b,_,ty,hb,setRow_heap E.w b C _ ty (0,0) k2,RepL.mono _ hle (by simpa using k6),k4⟩)
   exact ⟨_,run_storeAt ht hyl hst,rfl,rfl,g2,g1⟩
  ·cases h
 ·rename_i i ver idx sz off
  split at h
  ·rename_i sz' es v' hi
   split at h
   ·rename_i hver
    obtain ⟨rfl,rfl⟩:=hver
    simp only [Option.bind_eq_some_iff] at h
    obtain ⟨xs',hfz,e,he,cs',hsp,h⟩:=h
    have hx':=fzL_sound hE _ hv hfz
    simp only [Rep,hi] at hp
    obtain ⟨_,_,hp⟩:=hp
    obtain ⟨b,hb,rfl⟩:=hp trivial
    obtain ⟨a',n,c,k1,k2,k3,k4,k5,k6⟩:=hE.blk i _ hi
    rcases k6 with ⟨k6,_⟩|⟨b',C,ty,k6,k7,k8,k9,k10,k11,k12⟩
    ·have:es=[]:=List.eq_nil_of_length_eq_zero (by omega)
     subst this;simp at he
    ·rw [hb] at k6;injection k6 with k6;subst k6
     have key:∃ e',cs'=e'.cells∧u=⟨[(i,.row sz (es.set idx e') ver false)],none⟩:=by
      split at h
      ·injection h with h;exact ⟨.agg cs',rfl,h.symm⟩
      ·cases h
      ·rename_i c' _ _
       injection h with h
       exact ⟨c',by cases c'<;>first|rfl|(exfalso;simp_all),h.symm⟩
      ·cases h
     obtain ⟨e',rfl,rfl⟩:=key
     obtain ⟨m1,m0,m2⟩:=flat_set hx' k5.1 k10 he hsp
     have hel:e'.cells.length=sz:=by rw [splice_length hsp];exact k5.1 e (List.mem_of_getElem? he)
     have hCl:C.toList.length=c * sz:=by simpa using k9
     have hzl:(C.toList.take (n * sz)).length=n * sz:=by
      rw [List.length_take,hCl];exact Nat.min_eq_left (Nat.mul_le_mul_right _ k3)
     rw [hzl] at m1
     have hle2:n * sz≤c * sz:=Nat.mul_le_mul_right _ k3
     have hys:y.cells.toList.length=y.cells.size:=Array.length_toList
     have hCs:C.toList.length=C.size:=Array.length_toList
     have hst:=run_storeCells_at P b (idx * sz + off) ty y.cells.toList 0 C E.w k8 (by omega) hone
     simp only [Nat.add_zero] at hst
     have hM:∀ o,E.M b o:=fun o=>by
      rcases Nat.lt_or_ge o (n * sz) with ho|ho
      ·exact (k12 o ho).2 rfl
      ·exact k11 o ho
     have hC':((C.toList.take (idx * sz + off)++y.cells.toList++C.toList.drop (idx * sz + off + y.cells.toList.length)).take (n * sz)) =
      ((C.toList.take (n * sz)).take (idx * sz + off)++y.cells.toList++(C.toList.take (n * sz)).drop (idx * sz + off + y.cells.toList.length)):=by
      rw [List.append_assoc,List.append_assoc,List.take_append,List.take_append,List.length_take,Nat.min_eq_left (by omega),List.take_of_length_le (l:=List.take _ _) (by simp;omega),
       List.take_of_length_le (l:=y.cells.toList) (by omega),List.take_take,Nat.min_eq_left (by omega),List.drop_take]
      congr 3;omega
     obtain ⟨g1,g2⟩:=hE.write (E.w.setRow b (C.toList.take (idx * sz + off)++y.cells.toList++C.toList.drop (idx * sz + off + y.cells.toList.length)).toArray) i b _ (.row sz (es.set idx e') ver false) hb hi (by simp) rfl rfl rfl
      (fun k hk=>setRow_other E.w b k _ hk) (fun o u hs=>absurd (hM o) hs.2) (fun sz1 es1 v1 m1 e=>by injection e with e1 e2 e3 e4;exact ⟨sz,_,false,by rw [e3]⟩) (by simp) (by simp)
      (fun hle=>⟨a',n,c,k1,by simpa using k2,k3,k4,⟨set_cells k5.1 hel,k5.2⟩,.inr ⟨b,_,ty,hb,k7,setRow_heap E.w b C _ ty (0,0) k8,by simp only [List.size_toArray,List.length_append,List.length_take,List.length_drop];omega,
        by rw [List.toList_toArray,hC'];exact RepL.mono _ hle.bare m2,fun o _=>hM o,fun o _=>⟨fun _=>rfl,fun _=>hM o⟩⟩⟩)
     exact ⟨_,run_storeAt ht hyl hst,rfl,rfl,g2,g1⟩
   ·cases h
  ·cases h
end
end Go.Ab
namespace Go.Ab
open Go Go.RowKit
section
variable {P:Program} {G:Glob} {w0:World} {M0:Nat→Nat→Prop} {E:Env} {a:Act} {fr:List V}
theorem partV_sound {E:Env} {t:TypeId} {agg:Bool} {n:Nat} {cs:List V} {xs:Array Value} {off:Nat} {v:V} {w:World} {i:TypeInfo} (hi:P.info? t=some i) (hn:n=i.size) (hu:aggOf P t=agg) (hun:(P.underlying t).isSome=true)
 (hr:RepL E cs xs.toList) (h:partV agg n (cs.drop off)=some v):∃ x,(part t xs off).run P w=.ok x w∧Rep E v x:=by
 obtain ⟨ds,hds⟩:=Option.isSome_iff_exists.1 hun
 have hd:=hr.drop off
 cases agg with
 | true =>
   simp only [partV,if_true,Option.map_eq_some_iff] at h
   obtain ⟨es,h1,rfl⟩:=h
   obtain ⟨rfl,h2⟩:=takeN_eq h1
   have hag:(isAgg t).run P w=.ok true w:=by
    unfold isAgg;rw [Sem.run_bind,run_underlying hds w]
    unfold aggOf at hu;rw [hds] at hu
    cases ds<;>simp_all
   have hsz:(sizeOf t).run P w=.ok i.size w:=by simp [sizeOf,typeInfo,hi]
   refine ⟨.agg (xs.extract off (off + n)),by simp [part,hag,hsz,hn],?_⟩
   simp only [Rep]
   refine ⟨(xs.toList.drop off).take n,?_,hd.take n⟩
   congr 1
   apply Array.ext'
   simp [List.take_drop,Array.toList_extract]
 | false =>
   simp only [partV,Bool.false_eq_true,if_false] at h
   have hag:(isAgg t).run P w=.ok false w:=by
    unfold isAgg;rw [Sem.run_bind,run_underlying hds w]
    unfold aggOf at hu;rw [hds] at hu
    cases ds<;>simp_all
   cases hc:cs.drop off with
   | nil=>rw [hc] at h;simp at h
   | cons c ds =>
     rw [hc] at h hd;simp at h;subst h
     simp only [RepL] at hd
     obtain ⟨y,ys,h1,h2,h3⟩:=hd
     have:xs[off]?=some y:=by
      have h4:(xs.toList.drop off)[0]?=some y:=by rw [h1];rfl
      rw [List.getElem?_drop] at h4;simpa using h4
     exact ⟨y,by simp [part,hag,this],h2⟩
theorem foldl_set_list (off:Nat):∀ (xs:List Value) (k:Nat) (cs:Array Value),off + k + xs.length≤cs.size →
 ((xs.zipIdx k).foldl (fun cs (x:Value×Nat)=>cs.setIfInBounds (off + x.2) x.1) cs).toList=cs.toList.take (off + k)++xs++cs.toList.drop (off + k + xs.length)
 | [],k,cs,h=>by simp
 | x::xs,k,cs,h=>by
   simp only [List.length_cons] at h
   simp only [List.zipIdx_cons,List.foldl_cons]
   rw [foldl_set_list off xs (k + 1) (cs.setIfInBounds (off + k) x) (by simp;omega)]
   simp only [Array.toList_setIfInBounds,List.length_cons]
   rw [List.take_set,List.drop_set]
   have h1:off + k < cs.toList.length:=by simp;omega
   rw [if_pos (by omega)]
   rw [show off + (k + 1)=off + k + 1 by omega,List.take_succ_eq_append_getElem h1]
   rw [List.set_append_right _ _ (by simp;omega)]
   simp only [List.length_take,Nat.min_eq_left (Nat.le_of_lt h1),Nat.sub_self,List.set_cons_zero,List.append_assoc,List.cons_append,List.nil_append]
   rw [show off + k + 1 + xs.length=off + k + (xs.length + 1) by omega]
theorem fill_sound {E:Env} (fs:List (Nat×Nat×Bool)) (place:Nat→Option (Nat×Nat)) (hp:∀ i f,fs[i]?=some f→place i=some (f.1,f.2.1)):∀ (ps:List (Nat×V)) (qs:List (Nat×Value)) (cs ds:List V) (xs:Array Value),
 RepL E cs xs.toList→qs.map (·.1)=ps.map (·.1)→RepL E (ps.map (·.2)) (qs.map (·.2))→buildV fs cs ps=some ds → ∃ ys,Instr.fill place xs qs=some ys∧RepL E ds ys.toList
 | [],qs,cs,ds,xs,h,hq,hr,hb=>by
   have:qs=[]:=by simpa using hq
   subst this
   simp only [buildV] at hb;injection hb with hb;subst hb
   exact ⟨xs,rfl,h⟩
 | (i,v)::ps,[],cs,ds,xs,h,hq,hr,hb=>by simp at hq
 | (i,v)::ps,(j,x)::qs,cs,ds,xs,h,hq,hr,hb=>by
   simp only [List.map_cons,List.cons.injEq] at hq
   obtain ⟨rfl,hq⟩:=hq
   simp only [List.map_cons,RepL.cons_iff] at hr
   simp only [buildV] at hb
   split at hb
   ·rename_i off sz ag hf
    split at hb
    ·rename_i hsz
     simp only [Option.bind_eq_some_iff] at hb
     obtain ⟨cs',hs,hb⟩:=hb
     have hc:=Rep.cells hr.1 (not_any_of_one hsz.2)
     obtain ⟨k1,k2⟩:=splice_sound h hc hs
     have hlen:x.cells.size=sz:=by
      have:=hc.length;rw [hsz.1] at this;simpa using this
     have hfold:=foldl_set_list off x.cells.toList 0 xs (by simpa using k1)
     have e1:(x.cells.zipIdx.foldl (fun cs (c:Value×Nat)=>cs.setIfInBounds (off + c.2) c.1) xs)=((x.cells.toList.zipIdx 0).foldl (fun cs (c:Value×Nat)=>cs.setIfInBounds (off + c.2) c.1) xs):=by
      rw [← Array.foldl_toList];simp
     have k2':RepL E cs' ((x.cells.zipIdx.foldl (fun cs (c:Value×Nat)=>cs.setIfInBounds (off + c.2) c.1) xs)).toList:=by
      rw [e1,hfold];simpa using k2
     obtain ⟨ys,h1,h2⟩:=fill_sound fs place hp ps qs cs' ds _ k2' hq hr.2 hb
     refine ⟨ys,?_,h2⟩
     unfold Instr.fill
     rw [hp j _ hf]
     simp only
     have k1':off + x.cells.size≤xs.size:=by simpa using k1
     rw [if_neg (by simp [hlen];omega)]
     exact h1
    ·cases hb
   ·cases hb
end
end Go.Ab
namespace Go.Ab
open Go Go.RowKit
section
variable {P:Program} {G:Glob} {w0:World} {M0:Nat→Nat→Prop} {E:Env} {a:Act} {fr:List V} {o:Oper} {nid:Nat} {v:V} {u:Upd} {H':List AB}
def After (H:List AB) (nid:Nat) (u:Upd) (H':List AB):Prop:=match u.new with
 | none=>H'=setH H u.sets
 | some b=>NewAt (setH H u.sets) nid b H'
theorem After.no {H H':List AB} {nid:Nat} (h:After H nid .no H'):H'=H:=h
theorem ok_move {x:Operand} (ho:o.op=.move x) (hE:EOK G w0 M0 E) (hfr:RepL E fr a.tmps.toList):Comes P G w0 M0 E a o (evalO G fr x) E.H :=
 Comes.pure hE (x:=a.eval x) (by simp [execOp,ho]) (evalO_sound hE hfr x)
theorem ok_assign {x:Operand} (ho:o.op=.assign x) (hE:EOK G w0 M0 E) (hfr:RepL E fr a.tmps.toList):Comes P G w0 M0 E a o (evalO G fr x) E.H :=
 Comes.pure hE (x:=a.eval x) (by simp [execOp,ho]) (evalO_sound hE hfr x)
theorem ok_pick {c x y:Operand} (ho:o.op=.pick c x y) (hE:EOK G w0 M0 E) (hfr:RepL E fr a.tmps.toList) {t:Bool} (hc:evalO G fr c=.val (.bool t)) :
 Comes P G w0 M0 E a o (bif t then evalO G fr x else evalO G fr y) E.H:=by
 have h:=evalO_sound hE hfr c
 rw [hc] at h;simp only [Rep] at h
 refine Comes.pure hE (x:=if t then a.eval x else a.eval y) (by simp [execOp,ho,h.1,asBool]) ?_
 cases t
 ·exact evalO_sound hE hfr y
 ·exact evalO_sound hE hfr x
theorem newVar_run (t:TypeId) (y:Value) (w:World):(newVar t y).run P w=.ok ⟨w.heap.size,0,none⟩ (w.alloc (.cells y.cells t)):=by
 simp [newVar,newRow]
theorem alloc_at (w:World) (o:Obj):(w.alloc o).heap[w.heap.size]?=some o:=by
 show (w.heap.push o)[_]?=_
 simp
theorem ok_var {o:Oper} (hE:EOK G w0 M0 E) {t:TypeId} {y:Value} {cs:List V} (hr:RepL E cs y.cells.toList) (hrun:(execOp a.eval o).run P E.w=.ok (.value (.pointer (some ⟨E.w.heap.size,0,none⟩))) (E.w.alloc (.cells y.cells t)))
 (hn:NewAt E.H nid (.var cs) H'):Comes P G w0 M0 E a o (.ptr nid 0) H':=by
 obtain ⟨h1,h2⟩:=hE.allocOwn (.cells y.cells t) hn (.bool false) (fun _=>True) (by simp)
  (fun hle=>⟨E.w.heap.size,y.cells,t,by simp [Env.allocOwn],alloc_at _ _,RepL.mono _ hle hr,fun o=>.inr ⟨rfl,trivial⟩⟩)
 refine ⟨_,_,.inl hrun,rfl,h2,h1,?_⟩
 simp only [Rep]
 exact ⟨E.w.heap.size,by simp [Env.allocOwn],rfl⟩
theorem ok_alloc {t:TypeId} (ho:o.op=.alloc t) (hE:EOK G w0 M0 E) {d:TD} (ht:tdOf P t=some d) (hn:NewAt E.H nid (.var d.zero) H'):Comes P G w0 M0 E a o (.ptr nid 0) H':=by
 obtain ⟨i,ds,z,h1,h2,h3,h4,rfl⟩:=tdOf_some ht
 refine ok_var hE (t:=t) (y:=z) (RepL.ofCells E _ h4) ?_ hn
 simp [execOp,ho,Instr.alloc,zeroValue,typeInfo,h1,h3,newVar_run]
theorem ok_box {t:TypeId} {x:Operand} (ho:o.op=.box t x) (hE:EOK G w0 M0 E) (hfr:RepL E fr a.tmps.toList) (hv:evalO G fr x≠.any) (hn:NewAt E.H nid (.var (evalO G fr x).cells) H') :
 Comes P G w0 M0 E a o (.ptr nid 0) H':=by
 refine ok_var hE (t:=t) (y:=a.eval x) (Rep.cells (evalO_sound hE hfr x) hv) ?_ hn
 simp [execOp,ho,Instr.box,newVar_run]
theorem ok_build {t:TypeId} {ps:Array (Nat×Operand)} (ho:o.op=.build t ps) (hE:EOK G w0 M0 E) (hfr:RepL E fr a.tmps.toList) {d:TD} (ht:tdOf P t=some d) {fs:List (Nat×Nat×Bool)} (hd:d.sh=.struct fs)
 {cs:List V} (h:buildV fs d.zero (ps.toList.map fun p=>(p.1,evalO G fr p.2))=some cs):Comes P G w0 M0 E a o (.agg cs) E.H:=by
 obtain ⟨i,ds,z,h1,h2,h3,h4,rfl⟩:=tdOf_some ht
 cases ds<;>simp only [shOf] at hd<;>try (first|cases hd;done|(split at hd<;>cases hd;done))
 rename_i fields
 split at hd
 ·rename_i hall
  injection hd with hd;subst hd
  have hpl:fields.toList.mapM (fun f=>(P.info? f.type).map fun i=>(f.offset,i.size))=some (fields.toList.map fun f=>(f.offset,szOf P f.type)):=by
   generalize fields.toList=l at hall
   induction l with
   | nil=>rfl
   | cons f l ih =>
     simp at hall
     obtain ⟨j,hj⟩:=Option.isSome_iff_exists.1 hall.1.1
     have ih:=ih (by simpa using hall.2)
     simp [List.mapM_cons,hj,ih,szOf]
  obtain ⟨ys,k1,k2⟩:=fill_sound (E:=E) (fields.toList.map fun f=>(f.offset,szOf P f.type,aggOf P f.type)) ((fields.toList.map fun f=>(f.offset,szOf P f.type)).toArray[·]?)
   (fun i f hf=>by simp only [List.getElem?_map,Option.map_eq_some_iff] at hf;obtain ⟨x,hx,rfl⟩:=hf;simp [hx]) (ps.toList.map fun p=>(p.1,evalO G fr p.2)) (ps.toList.map fun p=>(p.1,a.eval p.2)) _ _ z.cells (RepL.ofCells E _ h4)
   (by simp) (by simpa [Function.comp_def] using evalL_sound hE hfr (ps.toList.map (·.2))) h
  have hb:P.built t (ps.toList.map fun p=>(p.1,a.eval p.2))=some ys:=by
   simp only [Program.built,h1,h2,h3,hpl,k1]
  refine Comes.pure hE (x:=.agg ys) ?_ (by simp only [Rep];exact ⟨ys.toList,by simp,k2⟩)
  have:=run_build E.w t (ps.map fun p=>(p.1,a.eval p.2)) ys (by simpa using hb)
  simp [execOp,ho,this]
 ·cases hd
theorem arrFs_get (ea:Bool) (esz:Nat):∀ (n off i:Nat) (f:Nat×Nat×Bool),(arrFs n off esz ea)[i]?=some f→(off + i * esz,esz)=(f.1,f.2.1)
 | 0,off,i,f,h=>by simp [arrFs] at h
 | n + 1,off,0,f,h=>by simp [arrFs] at h;subst h;simp
 | n + 1,off,i + 1,f,h=>by
   simp only [arrFs,List.getElem?_cons_succ] at h
   rw [← arrFs_get ea esz n (off + esz) i f h,Nat.succ_mul];simp;omega
theorem ok_buildA {t:TypeId} {ps:Array (Nat×Operand)} (ho:o.op=.build t ps) (hE:EOK G w0 M0 E) (hfr:RepL E fr a.tmps.toList) {d:TD} (ht:tdOf P t=some d) {k esz:Nat} {ea:Bool} (hd:d.sh=.array k esz ea)
 {cs:List V} (h:buildV (arrFs k 0 esz ea) d.zero (ps.toList.map fun p=>(p.1,evalO G fr p.2))=some cs):Comes P G w0 M0 E a o (.agg cs) E.H:=by
 obtain ⟨i,ds,z,h1,h2,h3,h4,rfl⟩:=tdOf_some ht
 cases ds<;>simp only [shOf] at hd<;>try (first|cases hd;done|(split at hd<;>cases hd;done))
 rename_i n e
 split at hd
 ·rename_i hall
  injection hd with q1 q2 q3;subst q1;subst q2;subst q3
  obtain ⟨ie,hie⟩:=Option.isSome_iff_exists.1 (Bool.and_eq_true _ _ ▸ hall).1
  have hsz:szOf P e=ie.size:=by simp [szOf,hie]
  obtain ⟨ys,k1,k2⟩:=fill_sound (E:=E) (arrFs n 0 (szOf P e) (aggOf P e)) (fun i=>some (i * ie.size,ie.size))
   (fun i f hf=>by have:=arrFs_get _ _ _ _ _ _ hf;rw [← this,hsz];simp) (ps.toList.map fun p=>(p.1,evalO G fr p.2)) (ps.toList.map fun p=>(p.1,a.eval p.2)) _ _ z.cells (RepL.ofCells E _ h4)
   (by simp) (by simpa [Function.comp_def] using evalL_sound hE hfr (ps.toList.map (·.2))) h
  have hb:P.built t (ps.toList.map fun p=>(p.1,a.eval p.2))=some ys:=by
   simp only [Program.built,h1,h2,h3,hie,k1]
  refine Comes.pure hE (x:=.agg ys) ?_ (by simp only [Rep];exact ⟨ys.toList,by simp,k2⟩)
  have:=run_build E.w t (ps.map fun p=>(p.1,a.eval p.2)) ys (by simpa using hb)
  simp [execOp,ho,this]
 ·cases hd
theorem ok_load {t:TypeId} {x:Operand} (ho:o.op=.load t x) (hE:EOK G w0 M0 E) (hfr:RepL E fr a.tmps.toList) {d:TD} (ht:tdOf P t=some d) (h:loadV E.H d (evalO G fr x)=some v):Comes P G w0 M0 E a o v E.H:=by
 obtain ⟨b,of,y,hx,hrun,hv⟩:=loadV_sound hE ht (evalO_sound hE hfr x) h
 exact Comes.pure hE (x:=y) (by simp [execOp,ho,hx,Instr.loadAt,Instr.sureAddr,hrun]) hv
theorem ok_store {t:TypeId} {p x:Operand} (ho:o.op=.store t p x) (hE:EOK G w0 M0 E) (hfr:RepL E fr a.tmps.toList) {d:TD} (ht:tdOf P t=some d) (hl:(evalO G fr x).cells.length=d.size) (h1:(evalO G fr x).cells.all oneV=true)
 (h:storeV E.H (evalO G fr x).cells (evalO G fr p)=some u) (hA:After E.H nid u H'):Comes P G w0 M0 E a o undefV H':=by
 obtain ⟨E',k1,k2,k3,k4,k5⟩:=storeV_sound hE ht (evalO_sound hE hfr p) (Rep.cells (evalO_sound hE hfr x) (not_any_of_one h1)) h1 hl h
 refine ⟨undef,E',.inr ⟨by simp [execOp,ho,k1],rfl⟩,?_,k4,k5,Rep.undef E'⟩
 simp only [After,k2] at hA;rw [k3,hA]
theorem ok_nilCheck {x:Operand} (ho:o.op=.nilCheck x) (hE:EOK G w0 M0 E) (hfr:RepL E fr a.tmps.toList)
 (h:(∃ i k,evalO G fr x=.ptr i k)∨(∃ cs,evalO G fr x=.cp cs)∨(∃ t y,evalO G fr x=.iface t y)∨(∃ f b c,evalO G fr x=.fn (.func f) b c)):Comes P G w0 M0 E a o (evalO G fr x) E.H:=by
 have hr:=evalO_sound hE hfr x
 refine Comes.pure hE (x:=a.eval x) ?_ hr
 rcases h with ⟨i,k,h⟩|⟨cs,h⟩|⟨t,y,h⟩|⟨f,b,c,h⟩<;>rw [h] at hr<;>simp only [Rep] at hr
 ·obtain ⟨b,_,hr⟩:=hr;simp [execOp,ho,hr]
 ·obtain ⟨b,_,hr,_⟩:=hr;simp [execOp,ho,hr]
 ·obtain ⟨b,hr,_⟩:=hr;simp [execOp,ho,hr]
 ·obtain ⟨xs,ys,hr,_⟩:=hr;simp [execOp,ho,hr]
theorem shOf_struct {ds:TypeDesc} {fs:List (Nat×Nat×Bool)} (h:shOf P ds=.struct fs):∃ fields,ds=.struct fields∧fs=(fields.toList.map fun f=>(f.offset,szOf P f.type,aggOf P f.type))∧fields.toList.all (fun f=>(P.info? f.type).isSome && (P.underlying f.type).isSome)=true:=by
 cases ds<;>simp only [shOf] at h<;>try (first|(cases h;done)|(split at h<;>cases h;done))
 rename_i fields
 split at h
 ·rename_i hall;injection h with h;exact ⟨fields,rfl,h.symm,hall⟩
 ·cases h
theorem shOf_array {ds:TypeDesc} {n esz:Nat} {ea:Bool} (h:shOf P ds=.array n esz ea):∃ e i,ds=.array n e∧P.info? e=some i∧esz=i.size∧ea=aggOf P e∧(P.underlying e).isSome=true:=by
 cases ds<;>simp only [shOf] at h<;>try (first|(cases h;done)|(split at h<;>cases h;done))
 rename_i n' e
 split at h
 ·rename_i hs
  simp only [Bool.and_eq_true] at hs
  obtain ⟨i,hi⟩:=Option.isSome_iff_exists.1 hs.1
  injection h with h1 h2 h3;exact ⟨e,i,by rw [h1],hi,by rw [← h2];simp [szOf,hi],h3.symm,hs.2⟩
 ·cases h
theorem shOf_slice {ds:TypeDesc} {e esz by_:Nat} (h:shOf P ds=.slice e esz by_):∃ i,ds=.slice e∧P.info? e=some i∧esz=i.size∧by_=i.bytes:=by
 cases ds<;>simp only [shOf] at h<;>try (first|(cases h;done)|(split at h<;>cases h;done))
 rename_i e'
 split at h
 ·rename_i i hi
  injection h with h1 h2 h3;subst h1;exact ⟨i,rfl,hi,h2.symm,h3.symm⟩
 ·cases h
theorem shOf_str {ds:TypeDesc} (h:shOf P ds=.str):ds=.string:=by
 cases ds<;>simp only [shOf] at h<;>first|rfl|(cases h;done)|(split at h<;>cases h;done)
theorem struct_field {fields:Array Field} {f:Nat} {fd:Nat×Nat×Bool} (h:(fields.toList.map fun f=>(f.offset,szOf P f.type,aggOf P f.type))[f]?=some fd):∃ g,fields[f]?=some g∧fd=(g.offset,szOf P g.type,aggOf P g.type):=by
 rw [List.getElem?_map] at h
 simp only [Option.map_eq_some_iff] at h
 obtain ⟨g,h1,h2⟩:=h
 exact ⟨g,by simpa using h1,h2.symm⟩
theorem Addr.add_none (b o n:Nat):(⟨b,o,none⟩:Addr).add n=⟨b,o + n,none⟩:=Addr.add_mid b o n
theorem ok_fieldAddr {t:TypeId} {x:Operand} {f:Nat} (ho:o.op=.fieldAddr t x f) (hE:EOK G w0 M0 E) (hfr:RepL E fr a.tmps.toList) {d:TD} (ht:tdOf P t=some d) {fs:List (Nat×Nat×Bool)} (hd:d.sh=.struct fs)
 {fd:Nat×Nat×Bool} (hf:fs[f]?=some fd) (h0:fd.2.1≠0) (h:fieldAddrV E.H fd (evalO G fr x)=some v):Comes P G w0 M0 E a o v E.H:=by
 obtain ⟨i,ds,z,h1,h2,h3,h4,rfl⟩:=tdOf_some ht
 obtain ⟨fields,rfl,rfl,hall⟩:=shOf_struct hd
 obtain ⟨g,hg,rfl⟩:=struct_field hf
 have hr:=evalO_sound hE hfr x
 have hsz:∃ j,P.info? g.type=some j∧j.size≠0:=by
  simp only [szOf] at h0
  split at h0
  ·rename_i j hj;exact ⟨j,hj,h0⟩
  ·exact absurd rfl h0
 obtain ⟨j,hj,hj0⟩:=hsz
 have hrun:∀ b k,a.eval x=.pointer (some ⟨b,k,none⟩)→(execOp a.eval o).run P E.w=.ok (.value (.pointer (some ⟨b,k + g.offset,none⟩))) E.w:=by
  intro b k hx
  simp [execOp,ho,hx,Instr.fieldAt,run_underlying h2,hg,Instr.sureAddr,fieldPlace,sizeOf,typeInfo,hj,hj0,Addr.add_none]
 generalize evalO G fr x=y at hr h
 cases y<;>simp only [fieldAddrV] at h<;>try (cases h;done)
 ·injection h with h;subst h
  simp only [Rep] at hr
  obtain ⟨b,k1,k2⟩:=hr
  exact Comes.pure hE (hrun b _ k2) (by simp only [Rep];exact ⟨b,k1,rfl⟩)
 ·rename_i i' ver idx sz off
  split at h
  ·rename_i hi
   split at h
   ·rename_i hv;subst hv
    injection h with h;subst h
    simp only [Rep,hi] at hr
    obtain ⟨_,_,hr⟩:=hr
    obtain ⟨b,k1,k2⟩:=hr trivial
    exact Comes.pure hE (hrun b _ k2) (by simp only [Rep,hi];exact ⟨⟨_,rfl⟩,Nat.le_refl _,fun _=>⟨b,k1,by rw [Nat.add_assoc]⟩⟩)
   ·cases h
  ·cases h
 ·injection h with h;subst h
  simp only [Rep] at hr
  obtain ⟨b,k,k1,k2⟩:=hr
  exact Comes.pure hE (hrun b k k1) (by simp only [Rep];exact ⟨b,_,rfl,k2.drop _⟩)
end
end Go.Ab
namespace Go.Ab
open Go Go.RowKit
section
variable {P:Program} {G:Glob} {w0:World} {M0:Nat→Nat→Prop} {E:Env} {a:Act} {fr:List V} {o:Oper} {nid:Nat} {v:V} {u:Upd} {H':List AB}
theorem ok_field {t:TypeId} {x:Operand} {f:Nat} (ho:o.op=.field t x f) (hE:EOK G w0 M0 E) (hfr:RepL E fr a.tmps.toList) {d:TD} (ht:tdOf P t=some d) {fs:List (Nat×Nat×Bool)} (hd:d.sh=.struct fs)
 {cs:List V} (hx:evalO G fr x=.agg cs) {fd:Nat×Nat×Bool} (hf:fs[f]?=some fd) (h:partV fd.2.2 fd.2.1 (cs.drop fd.1)=some v):Comes P G w0 M0 E a o v E.H:=by
 obtain ⟨i,ds,z,h1,h2,h3,h4,rfl⟩:=tdOf_some ht
 obtain ⟨fields,rfl,rfl,hall⟩:=shOf_struct hd
 obtain ⟨g,hg,rfl⟩:=struct_field hf
 have hr:=evalO_sound hE hfr x
 rw [hx] at hr;simp only [Rep] at hr
 obtain ⟨xs,hax,hxs⟩:=hr
 have hgi:=(List.all_eq_true.1 hall) g (List.mem_of_getElem? (by simpa using hg))
 simp only [Bool.and_eq_true] at hgi
 obtain ⟨j,hj⟩:=Option.isSome_iff_exists.1 hgi.1
 obtain ⟨y,k1,k2⟩:=partV_sound (P:=P) (t:=g.type) (xs:=xs.toArray) (w:=E.w) hj (by simp [szOf,hj]) rfl hgi.2 (by simpa using hxs) h
 exact Comes.pure hE (x:=y) (by simp [execOp,ho,hax,Instr.field,run_underlying h2,hg,asAgg,k1]) k2
theorem idxN_some {n:Int} {k:Nat} (h:idxN n=some k):0≤n∧n=k∧n.toNat=k:=by
 unfold idxN at h
 split at h
 ·injection h with h;exact ⟨by assumption,by omega,h⟩
 ·cases h
theorem ok_index {t:TypeId} {x ix:Operand} (ho:o.op=.index t x ix) (hE:EOK G w0 M0 E) (hfr:RepL E fr a.tmps.toList) {d:TD} (ht:tdOf P t=some d) {n esz:Nat} {ea:Bool} (hd:d.sh=.array n esz ea)
 {cs:List V} (hx:evalO G fr x=.agg cs) {k:IntKind} {m:Int} (hi:evalO G fr ix=.val (.int k m)) {j:Nat} (hj:idxN m=some j) (hlt:j < n) (h:partV ea esz (cs.drop (j * esz))=some v)
 : Comes P G w0 M0 E a o v E.H:=by
 obtain ⟨i,ds,z,h1,h2,h3,h4,rfl⟩:=tdOf_some ht
 obtain ⟨e,ie,rfl,hie,rfl,rfl,hun⟩:=shOf_array hd
 have hr:=evalO_sound hE hfr x
 have hr2:=evalO_sound hE hfr ix
 rw [hx] at hr;simp only [Rep] at hr
 rw [hi] at hr2;simp only [Rep] at hr2
 obtain ⟨xs,hax,hxs⟩:=hr
 obtain ⟨g1,g2,g3⟩:=idxN_some hj
 obtain ⟨y,k1,k2⟩:=partV_sound (P:=P) (t:=e) (xs:=xs.toArray) (w:=E.w) hie rfl rfl hun (by simpa using hxs) h
 refine Comes.pure hE (x:=y) ?_ k2
 have hb:0≤m∧m < (n:Int):=⟨g1,by omega⟩
 simp [execOp,ho,hax,hr2.1,Instr.index,asIntOf,run_underlying h2,hb,sizeOf,typeInfo,hie,g3,k1]
theorem ok_indexStr {t:TypeId} {x ix:Operand} (ho:o.op=.index t x ix) (hE:EOK G w0 M0 E) (hfr:RepL E fr a.tmps.toList) {d:TD} (ht:tdOf P t=some d) (hd:d.sh=.str)
 {s:ByteArray} (hx:evalO G fr x=.val (.string s)) {k:IntKind} {m:Int} (hi:evalO G fr ix=.val (.int k m)) {j:Nat} (hj:idxN m=some j) (h:strAt s j=some v)
 : Comes P G w0 M0 E a o v E.H:=by
 obtain ⟨i,ds,z,h1,h2,h3,h4,rfl⟩:=tdOf_some ht
 have hun:=shOf_str hd
 subst hun
 have hr:=evalO_sound hE hfr x
 have hr2:=evalO_sound hE hfr ix
 rw [hx] at hr;simp only [Rep] at hr
 rw [hi] at hr2;simp only [Rep] at hr2
 obtain ⟨g1,g2,g3⟩:=idxN_some hj
 simp only [strAt,Option.map_eq_some_iff] at h
 obtain ⟨b,hb,rfl⟩:=h
 refine Comes.pure hE (x:=.int .u8 b.toNat) ?_ (by simp [Rep,V.int,Value.oneCell'])
 simp [execOp,ho,hr.1,hr2.1,Instr.index,asIntOf,run_underlying h2,g1,g3,hb]
theorem ok_indexAddr {t:TypeId} {x ix:Operand} (ho:o.op=.indexAddr t x ix) (hE:EOK G w0 M0 E) (hfr:RepL E fr a.tmps.toList) {d:TD} (ht:tdOf P t=some d)
 {k:IntKind} {m:Int} (hi:evalO G fr ix=.val (.int k m)) {j:Nat} (hj:idxN m=some j) (h:indexAddrV E.H d.sh j (evalO G fr x)=some v):Comes P G w0 M0 E a o v E.H:=by
 obtain ⟨i,ds,z,h1,h2,h3,h4,rfl⟩:=tdOf_some ht
 have hr:=evalO_sound hE hfr x
 have hr2:=evalO_sound hE hfr ix
 rw [hi] at hr2;simp only [Rep] at hr2
 obtain ⟨g1,g2,g3⟩:=idxN_some hj
 have hsl:∀ {e:TypeId} {ie:TypeInfo} {b k' n c:Nat},ds=.slice e→P.info? e=some ie→a.eval x=.slice (some ⟨b,k',none⟩) n c→j < n →
  (execOp a.eval o).run P E.w=.ok (.value (.pointer (some ⟨b,k' + j * ie.size,none⟩))) E.w:=by
  intro e ie b k' n c hds hie hx hlt
  subst hds
  have hb:0≤m∧m < (n:Int):=⟨g1,by omega⟩
  simp [execOp,ho,hx,hr2.1,Instr.indexAt,asIntOf,run_underlying h2,hb,sizeOf,typeInfo,hie,g3,Addr.add_none]
 have har:∀ {e:TypeId} {ie:TypeInfo} {b k' n:Nat},ds=.array n e→P.info? e=some ie→a.eval x=.pointer (some ⟨b,k',none⟩)→j < n →
  (execOp a.eval o).run P E.w=.ok (.value (.pointer (some ⟨b,k' + j * ie.size,none⟩))) E.w:=by
  intro e ie b k' n hds hie hx hlt
  subst hds
  have hb:0≤m∧m < (n:Int):=⟨g1,by omega⟩
  simp [execOp,ho,hx,hr2.1,Instr.indexAt,Instr.sureAddr,asIntOf,run_underlying h2,hb,sizeOf,typeInfo,hie,g3,Addr.add_none]
 generalize evalO G fr x=y at hr h
 cases y<;>simp only [indexAddrV] at h<;>try (cases h;done)
 ·
  rename_i i' off
  split at h
  ·rename_i n esz ea hsh
   obtain ⟨e,ie,rfl,hie,rfl,rfl,_⟩:=shOf_array hsh
   split at h
   ·rename_i hlt
    injection h with h;subst h
    simp only [Rep] at hr
    obtain ⟨b,k1,k2⟩:=hr
    exact Comes.pure hE (har rfl hie k2 hlt) (by simp only [Rep];exact ⟨b,k1,rfl⟩)
   ·cases h
  ·cases h
 ·rename_i cs
  split at h
  ·rename_i n esz ea hsh
   obtain ⟨e,ie,rfl,hie,rfl,rfl,_⟩:=shOf_array hsh
   split at h
   ·rename_i hlt
    injection h with h;subst h
    simp only [Rep] at hr
    obtain ⟨b,k',k1,k2⟩:=hr
    exact Comes.pure hE (har rfl hie k1 hlt) (by simp only [Rep];exact ⟨b,_,rfl,k2.drop _⟩)
   ·cases h
  ·cases h
 ·rename_i es mk
  split at h
  ·rename_i e esz by_ hsh
   obtain ⟨ie,rfl,hie,rfl,rfl⟩:=shOf_slice hsh
   simp only [Option.bind_eq_some_iff] at h
   obtain ⟨e',he',h⟩:=h
   split at h
   ·rename_i hsz
    injection h with h;subst h
    simp only [Rep] at hr
    obtain ⟨ad,n,c,q1,q2,q3,q4,q5,q6,q7⟩:=hr
    have hjl:j < es.length:=by
     rcases Nat.lt_or_ge j es.length with hh|hh
     ·exact hh
     ·rw [List.getElem?_eq_none hh] at he';cases he'
    obtain ⟨sz,b,k',rfl,q9⟩:=q7 (by intro hh;subst hh;simp at hjl)
    obtain ⟨q10,q11⟩:=q9.get j e' he'
    have:sz=ie.size:=by omega
    subst this
    exact Comes.pure hE (hsl rfl hie q1 (by omega)) (by simp only [Rep];exact ⟨b,_,rfl,q11⟩)
   ·cases h
  ·cases h
 ·rename_i i' ver
  split at h
  ·rename_i e esz by_ sz es v' imm hsh hH
   obtain ⟨ie,rfl,hie,rfl,rfl⟩:=shOf_slice hsh
   split at h
   ·rename_i hc
    obtain ⟨rfl,rfl,hlt⟩:=hc
    injection h with h;subst h
    simp only [Rep,hH] at hr
    obtain ⟨_,_,hr⟩:=hr
    have hr:=hr trivial
    obtain ⟨a',n,c,q1,q2,q3,q4,q5,q6⟩:=hE.blk _ _ hH
    rcases q6 with ⟨q6,_⟩|⟨b,C,ty,q6,q7,q8,q9,q10,q11,q12⟩
    ·omega
    ·subst q7
     have hp:(⟨b,0 + j * ie.size,none⟩:Addr)=⟨b,j * ie.size + 0,none⟩:=by simp
     exact Comes.pure hE (hsl rfl hie (hr.trans q1) (by omega)) (by simp only [Rep,hH];exact ⟨⟨_,rfl⟩,Nat.le_refl _,fun _=>⟨b,q6,by rw [hp]⟩⟩)
   ·cases h
  ·cases h
 ·rename_i i' off n sz
  split at h
  ·rename_i e esz by_ hsh
   obtain ⟨ie,rfl,hie,rfl,rfl⟩:=shOf_slice hsh
   split at h
   ·rename_i hc
    obtain ⟨rfl,hlt⟩:=hc
    injection h with h;subst h
    simp only [Rep] at hr
    obtain ⟨b,c,q1,q2,q3⟩:=hr
    exact Comes.pure hE (hsl rfl hie q2 hlt) (by simp only [Rep];exact ⟨b,q1,rfl⟩)
   ·cases h
  ·cases h
theorem ok_unOp {op:UnOp} {t:TypeId} {x:Operand} (ho:o.op=.unOp op t x) (hE:EOK G w0 M0 E) (hfr:RepL E fr a.tmps.toList)
 (h:(op=.not ∧ ∃ b,evalO G fr x=.val (.bool b)∧v=.bool (!b))∨(op=.neg ∧ ∃ k n,evalO G fr x=.val (.int k n)∧v=.int k (k.wrap (0 - n)))):Comes P G w0 M0 E a o v E.H:=by
 have hr:=evalO_sound hE hfr x
 rcases h with ⟨rfl,b,h,rfl⟩|⟨rfl,k,n,h,rfl⟩<;>rw [h] at hr<;>simp only [Rep] at hr
 ·exact Comes.pure hE (x:=.bool (!b)) (by simp [execOp,ho,hr.1,Op.unary]) (by simp [Rep,Value.oneCell'])
 ·exact Comes.pure hE (x:=.int k (k.wrap (0 - n))) (by simp [execOp,ho,hr.1,Op.unary,Op.intArith]) (by simp [Rep,Value.oneCell'])
theorem ok_convert {s t:TypeId} {x:Operand} (ho:o.op=.convert s t x) (hE:EOK G w0 M0 E) (hfr:RepL E fr a.tmps.toList) {ds d:TD} (hs:tdOf P s=some ds) (ht:tdOf P t=some d) {j k k':IntKind} {n:Int} (hsh:ds.sh=.int j) (hd:d.sh=.int k)
 (hx:evalO G fr x=.val (.int k' n)):Comes P G w0 M0 E a o (.int k (k.wrap n)) E.H:=by
 obtain ⟨i,dds,z,h1,h2,h3,h4,rfl⟩:=tdOf_some ht
 obtain ⟨i',dds',z',h1',h2',h3',h4',rfl⟩:=tdOf_some hs
 have hr:=evalO_sound hE hfr x
 rw [hx] at hr;simp only [Rep] at hr
 have e1:dds=.int k:=by
  cases dds<;>simp only [shOf] at hd<;>try (first|(cases hd;done)|(split at hd<;>cases hd;done))
  injection hd with hd;rw [hd]
 have e2:dds'=.int j:=by
  cases dds'<;>simp only [shOf] at hsh<;>try (first|(cases hsh;done)|(split at hsh<;>cases hsh;done))
  injection hsh with hsh;rw [hsh]
 subst e1;subst e2
 refine Comes.pure hE (x:=.int k (k.wrap n)) ?_ (by simp [Rep,Value.oneCell'])
 simp [execOp,ho,hr.1,convert,run_underlying h2,run_underlying h2',Conv.intToInt]
theorem ok_makeFunc {f:Fn} {first cap:Array Operand} (ho:o.op=.makeFunc f first cap) (hE:EOK G w0 M0 E) (hfr:RepL E fr a.tmps.toList) :
 Comes P G w0 M0 E a o (.fn f (first.toList.map (evalO G fr)) (cap.toList.map (evalO G fr))) E.H:=by
 refine Comes.pure hE (x:=.func f (first.map a.eval) (cap.map a.eval)) (by simp [execOp,ho,Instr.makeFunc]) ?_
 simp only [Rep]
 exact ⟨first.toList.map a.eval,cap.toList.map a.eval,by congr 1<;>(apply Array.ext';simp),evalL_sound hE hfr _,evalL_sound hE hfr _⟩
theorem ok_extract {x:Operand} {i:Nat} (ho:o.op=.extract x i) (hE:EOK G w0 M0 E) (hfr:RepL E fr a.tmps.toList) {vs:List V} (hx:evalO G fr x=.tup vs) (h:vs[i]?=some v):Comes P G w0 M0 E a o v E.H:=by
 have hr:=evalO_sound hE hfr x
 rw [hx] at hr;simp only [Rep] at hr
 obtain ⟨xs,h1,h2⟩:=hr
 obtain ⟨y,h3,h4⟩:=h2.get i v h
 exact Comes.pure hE (x:=y) (by simp [execOp,ho,h1,Instr.extract,h3]) h4
theorem goInt_rep (n:Int):Rep E (.int .i64 n) (goInt n):=by simp [Rep,goInt,Value.oneCell']
theorem ok_len {t:TypeId} {x:Operand} {c:Call} (ho:o.op=.call c) (hc:c.callee=.builtin .len) (ha:c.args.toList=[x]) (ht:c.argTypes.toList=[t]) (hE:EOK G w0 M0 E) (hfr:RepL E fr a.tmps.toList)
 {e:TypeId} (hu:P.underlying t=some (.slice e)) {n:Nat} (h:∃ ad cp,a.eval x=.slice ad n cp):Comes P G w0 M0 E a o (.int .i64 n) E.H:=by
 obtain ⟨ad,cp,h⟩:=h
 refine Comes.pure hE (x:=goInt n) ?_ (goInt_rep _)
 have h1:c.args = #[x]:=by rw [← Array.toArray_toList (xs:=c.args),ha]
 have h2:c.argTypes = #[t]:=by rw [← Array.toArray_toList (xs:=c.argTypes),ht]
 simp [execOp,ho,resolve,hc,invoke,builtin,Builtin.len_,h1,h2,run_underlying hu,h]
theorem ok_binI {op:BinOp} {t yt:TypeId} {x y:Operand} (ho:o.op=.binOp op t x y yt) (hE:EOK G w0 M0 E) (hfr:RepL E fr a.tmps.toList) {k:IntKind} {m n:Int} (hx:evalO G fr x=.val (.int k m)) {j:IntKind} (hy:evalO G fr y=.val (.int j n)) (hkj:k=j∨isSh op=true)
 (h:binI op k m n=some v):Comes P G w0 M0 E a o v E.H:=by
 have hr:=evalO_sound hE hfr x
 have hr2:=evalO_sound hE hfr y
 rw [hx] at hr;rw [hy] at hr2;simp only [Rep] at hr hr2
 have key:∀ z:Value,v=.val z→z.oneCell'=true→(execOp a.eval o).run P E.w=.ok (.value z) E.w→Comes P G w0 M0 E a o v E.H:=by
  rintro z rfl hz hrun
  exact Comes.pure hE hrun (by simp [Rep,hz])
 have hg:(eqGuard op t x y (.int k m) (.int j n)).run P E.w=.ok () E.w:=by
  cases op<;>simp [eqGuard]
 have hkj':isSh op=false→k=j:=fun h0=>hkj.resolve_right (by rw [h0];simp)
 cases op<;>simp only [isSh,true_implies,Bool.true_eq_false,false_implies] at hkj'<;>try subst hkj'
 all_goals clear hkj
 all_goals simp only [binI,cmpI] at h
 all_goals first
  | (injection h with h;subst h
     refine key _ rfl rfl ?_
     simp [execOp,ho,hr.1,hr2.1,hg,binOp,Op.intArith,Op.intCmp,Op.intBits];done)
  | (split at h
     ·cases h
     ·injection h with h;subst h
      rename_i hne
      refine key _ rfl rfl ?_
      simp [execOp,ho,hr.1,hr2.1,hg,binOp,Op.intDiv,Op.shift,hne];done)
  | (cases h;done)
theorem run_equal_bool {t:TypeId} (ht:P.underlying t=some .bool) (m n:Bool) (w:World):(Op.equal t (.bool m) (.bool n)).run P w=.ok (m==n) w:=by
 unfold Op.equal Op.maxDepth
 rw [show (10000:Nat)=9999 + 1 from rfl,Op.equalIn]
 rw [Sem.run_bind,run_underlying ht]
 rfl
theorem ok_binB {op:BinOp} {t yt:TypeId} {x y:Operand} (ho:o.op=.binOp op t x y yt) (hE:EOK G w0 M0 E) (hfr:RepL E fr a.tmps.toList) {m n:Bool} (hx:evalO G fr x=.val (.bool m)) (hy:evalO G fr y=.val (.bool n)) (ht:P.underlying t=some .bool)
 (h:(op=.eql∧v=.bool (m==n))∨(op=.neq∧v=.bool (m != n))):Comes P G w0 M0 E a o v E.H:=by
 have hr:=evalO_sound hE hfr x
 have hr2:=evalO_sound hE hfr y
 rw [hx] at hr;rw [hy] at hr2;simp only [Rep] at hr hr2
 have e1:binOp .eql t (.bool m) (.bool n)=(do pure (.bool (← Op.equal t (.bool m) (.bool n)))):=rfl
 have e2:binOp .neq t (.bool m) (.bool n)=(do pure (.bool (!(← Op.equal t (.bool m) (.bool n))))):=rfl
 have g1:∀ op,(eqGuard op t x y (.bool m) (.bool n)).run P E.w=.ok () E.w:=by intro op;cases op<;>simp [eqGuard]
 have q:=fun w=>run_equal_bool ht m n w
 rcases h with ⟨rfl,rfl⟩|⟨rfl,rfl⟩
 ·refine Comes.pure hE (x:=.bool (m==n)) ?_ (by simp [Rep,Value.oneCell'])
  simp only [execOp,ho,hr.1,hr2.1,Sem.run_bind,g1,Result.andThen_ok,e1,q,Sem.run_pure]
 ·refine Comes.pure hE (x:=.bool (m != n)) ?_ (by simp [Rep,Value.oneCell'])
  simp only [execOp,ho,hr.1,hr2.1,Sem.run_bind,g1,Result.andThen_ok,e2,q,Sem.run_pure]
  rfl
theorem optN_sound (hE:EOK G w0 M0 E) (hfr:RepL E fr a.tmps.toList) {x:Option Operand} {r:Option Nat} (h:optN G fr x=some r) :
 (x=none∧r=none) ∨ ∃ y k n,x=some y∧r=some n∧a.eval y=.int k (n:Nat):=by
 cases x with
 | none=>simp only [optN] at h;injection h with h;exact .inl ⟨rfl,h.symm⟩
 | some y =>
   have hr:=evalO_sound hE hfr y
   simp only [optN] at h
   split at h
   ·rename_i k m heq
    rw [heq] at hr;simp only [Rep] at hr
    simp only [Option.map_eq_some_iff] at h
    obtain ⟨n,h1,rfl⟩:=h
    exact .inr ⟨y,k,n,rfl,rfl,by rw [hr.1,(idxN_some h1).2.1]⟩
   ·cases h
theorem run_sliceBound (k:IntKind) (n y:Nat) (c:BoundsCode) (h:n≤y) (w:World):(Instr.sliceBound (.int k (n:Nat)) y c).run P w=.ok n w:=by
 have:(0:Int)≤(n:Int)∧(n:Int)≤(y:Int):=by omega
 simp [Instr.sliceBound,asIntOf,this]
theorem ok_slice {t:TypeId} {x:Operand} {lo hi mx:Option Operand} (ho:o.op=.slice t x lo hi mx) (hE:EOK G w0 M0 E) (hfr:RepL E fr a.tmps.toList) {d:TD} (ht:tdOf P t=some d) {e esz by_:Nat} (hd:d.sh=.slice e esz by_)
 {l h m:Option Nat} (hl:optN G fr lo=some l) (hh:optN G fr hi=some h) (hm:optN G fr mx=some m) {es:List V} {mk:Mk} (hr:Rep E (.sl es mk) (a.eval x)) (hB:slcB es.length l h m=true) (hesz:∀ e∈es,e.cells.length=esz) :
 Comes P G w0 M0 E a o (.sl ((es.take (h.getD es.length)).drop (l.getD 0)) (slcM es.length h m)) E.H:=by
 obtain ⟨i,ds,z,h1,h2,h3,h4,rfl⟩:=tdOf_some ht
 obtain ⟨ie,rfl,hie,rfl,rfl⟩:=shOf_slice hd
 simp only [slcB,Bool.and_eq_true,Bool.or_eq_true,decide_eq_true_eq,Option.isNone_iff_eq_none] at hB
 obtain ⟨⟨⟨⟨c1,c2⟩,c3⟩,c4⟩,c5⟩:=hB
 have hmh:m=none∨h≠none:=c5.elim .inl (fun hc=>.inr (by intro h0;rw [h0] at hc;cases hc))
 have hmk:slcM es.length h m=.tight→m=some (h.getD es.length):=by
  intro hq
  unfold slcM at hq
  cases m with
  | none=>simp at hq
  | some mm =>
    cases hb:((some mm).isSome && (some mm==some (h.getD es.length))) with
    | true=>simpa using hb
    | false=>rw [hb] at hq;cases hq
 have hmn:slcM es.length h m≠.nil:=by
  unfold slcM
  cases (m.isSome && (m==some (h.getD es.length)))<;>simp
 simp only [Rep] at hr
 obtain ⟨ad,n,c,q1,q2,q3,q4,q5,q6,q7⟩:=hr
 subst q2
 have hbounds:∃ mm,(Instr.sliceBounds true es.length c (lo.map a.eval) (hi.map a.eval) (mx.map a.eval)).run P E.w=.ok (l.getD 0,h.getD es.length,mm) E.w∧h.getD es.length≤mm∧mm≤c∧(m=some (h.getD es.length)→mm=h.getD es.length):=by
  rcases optN_sound hE hfr hm with ⟨rfl,rfl⟩|⟨my,mk',mn,rfl,rfl,hme⟩
  ·rcases optN_sound hE hfr hh with ⟨rfl,rfl⟩|⟨hy,hk,hn,rfl,rfl,hhe⟩
   ·rcases optN_sound hE hfr hl with ⟨rfl,rfl⟩|⟨ly,lk,ln,rfl,rfl,hle⟩
    ·simp only [Option.getD_none] at *
     exact ⟨c,by simp [Instr.sliceBounds],by omega,by omega,by simp⟩
    ·simp only [Option.getD_none,Option.getD_some] at *
     exact ⟨c,by simp [Instr.sliceBounds,hle,run_sliceBound _ _ _ _ c1],by omega,by omega,by simp⟩
   ·rcases optN_sound hE hfr hl with ⟨rfl,rfl⟩|⟨ly,lk,ln,rfl,rfl,hle⟩
    ·simp only [Option.getD_none,Option.getD_some] at *
     exact ⟨c,by simp [Instr.sliceBounds,hhe,run_sliceBound (P:=P) _ hn c _ (by omega)],by omega,by omega,by simp⟩
    ·simp only [Option.getD_none,Option.getD_some] at *
     exact ⟨c,by simp [Instr.sliceBounds,hhe,hle,run_sliceBound (P:=P) _ hn c _ (by omega),run_sliceBound (P:=P) _ ln hn _ (by omega)],by omega,by omega,by simp⟩
  ·rcases optN_sound hE hfr hh with ⟨rfl,rfl⟩|⟨hy,hk,hn,rfl,rfl,hhe⟩
   ·simp at hmh
   ·rcases optN_sound hE hfr hl with ⟨rfl,rfl⟩|⟨ly,lk,ln,rfl,rfl,hle⟩
    ·simp only [Option.getD_none,Option.getD_some] at *
     exact ⟨mn,by simp [Instr.sliceBounds,hhe,hme,run_sliceBound (P:=P) _ mn c _ (by omega),run_sliceBound (P:=P) _ hn mn _ (by omega)],by omega,by omega,by simp⟩
    ·simp only [Option.getD_none,Option.getD_some] at *
     exact ⟨mn,by simp [Instr.sliceBounds,hhe,hme,hle,run_sliceBound (P:=P) _ mn c _ (by omega),run_sliceBound (P:=P) _ hn mn _ (by omega),run_sliceBound (P:=P) _ ln hn _ (by omega)],by omega,by omega,by simp⟩
 obtain ⟨mm,hb,m1,m2,m3⟩:=hbounds
 refine Comes.pure hE (x:=.slice (if mm=l.getD 0 then ad else ad.map (·.add (l.getD 0 * ie.size))) (h.getD es.length - l.getD 0) (mm - l.getD 0)) ?_ ?_
 ·have:(sizeOf e).run P E.w=.ok ie.size E.w:=by simp [sizeOf,typeInfo,hie]
  simp [execOp,ho,q1,Instr.sliceAt,run_underlying h2,Instr.slice,hb,this]
 ·simp only [Rep]
  refine ⟨_,_,_,rfl,by simp;omega,by omega,by omega,?_,?_,fun hne=>?_⟩
  ·intro hq;exact absurd hq hmn
  ·intro hq;have:=m3 (hmk hq);omega
  ·have hlt:l.getD 0 < h.getD es.length:=by
    rcases Nat.lt_or_ge (l.getD 0) (h.getD es.length) with k|k
    ·exact k
    ·exfalso;apply hne;apply List.eq_nil_of_length_eq_zero;simp;omega
   have hes:es≠[]:=by rintro rfl;simp only [List.length_nil] at *;omega
   obtain ⟨sz,b,k,rfl,q9⟩:=q7 hes
   have hsz:sz=ie.size:=by
    obtain ⟨u,us,rfl⟩:=List.exists_cons_of_ne_nil hes
    have:=(q9.get 0 u (by simp)).1
    have:=hesz u (by simp)
    omega
   subst hsz
   rw [if_neg (by omega)]
   refine ⟨ie.size,b,k + l.getD 0 * ie.size,by simp [Addr.add_none],?_⟩
   exact (q9.take _).drop _ (by simp;omega)
end
end Go.Ab
