import Derived.Test.YtaebkmmjjabnaaaGreatDoorW18
import Derived.Deep.RegionLaw
set_option maxRecDepth 100000
set_option maxHeartbeats 4000000
set_option linter.unusedSimpArgs false
set_option linter.unusedVariables false
namespace Ch
open Go Go.RowKit Go.Ab
theorem step_append_row {P:Program} {ops:Array Oper} {o:Oper} {a:Act} {w:Go.World} {K:Act→Go.World→Prop} {Q:Exit→Act→Go.World→Prop} {E:Prop}
 (hg:o.guard=none) (s x:Operand) (t:TypeId) (hop:o.op=Op.call { callee:=Callee.builtin Builtin.append,args := #[s,x],argTypes := #[t,t] })
 (e:TypeId) (i:TypeInfo) (size:Nat) (h1:P.underlying t=some (.slice e)) (h2:P.info? e=some i) (h4:i.size=size)
 (b n cap:Nat) (hs:a.eval s=.slice (some ⟨b,0,none⟩) n cap)
 (ad:Addr) (m c:Nat) (news:List Value) (hx:a.eval x=.slice (some ad) m c) (hn:news.length=m * size) (hc:∀ j u,news[j]?=some u→w.cell? (ad.add j)=some u) (h1c:∀ u∈news,u.oneCell'=true)
 (hroom:n + m≤cap) (C:Array Value) (et:TypeId) (hb:w.heap[b]?=some (.cells C et (0,0))) (hC:C.size=cap * size)
 (hK:K (a.put o.dst (.slice (some ⟨b,0,none⟩) (n + m) cap)) (w.setRow b (C.toList.take (n * size)++news++C.toList.drop (n * size + news.length)).toArray)) :
 if Region.wanted o (yielded ops a.tmps)=true then Oper.wp P o a w K Q else E:=by
 have hw:Region.wanted o (yielded ops a.tmps)=true:=by simp [Region.wanted,hg]
 rw [if_pos hw]
 subst h4
 have hfc:=run_firstCells_some (P:=P) w i.size m ad m c news hn hc
 have hmul:(n + m) * i.size≤cap * i.size:=Nat.mul_le_mul_right _ hroom
 have hadd:(n + m) * i.size=n * i.size + m * i.size:=Nat.add_mul _ _ _
 have hst:=run_storeCells_at P b (n * i.size) et news 0 C w hb (by omega) h1c
 simp only [Nat.add_zero] at hst
 generalize w.setRow b (C.toList.take (n * i.size)++news++C.toList.drop (n * i.size + news.length)).toArray=W at hst hK
 have hrun:(Builtin.append_ #[t,t] o.type #[.slice (some ⟨b,0,none⟩) n cap,.slice (some ad) m c]).run P w=.ok (.slice (some ⟨b,0,none⟩) (n + m) cap) W:=by
  simp [Builtin.append_,run_underlying h1,Go.sizeOf,typeInfo,h2,Builtin.lenOf,hroom,hfc,Addr.add_lit,hst]
 unfold Oper.wp
 simp [execOp,hop,resolve,invoke,builtin,hs,hx,hrun,Result.andThen]
 exact hK
theorem gram_info:(PP.info? 105).map (fun i=>(i.zero,i.size,i.bytes))=some (some (.agg #[.int .u32 0,.slice none 0 0]),2,32):=by kernel_rfl
set_option maxHeartbeats 4000000 in
theorem Del_gram:DelC PP 224 2:=by
 intro w b cap nn j C ty hb hC hn hm hj hone
 obtain ⟨j2,hj2⟩:∃ j2,j2=j + 1:=⟨_,rfl⟩
 rw [← hj2]
 obtain ⟨i0,hi0,hz0,hz1,hz2⟩:=info_parts gram_info
 obtain ⟨news,hnews⟩:∃ news,news=(C.toList.take (nn * 2)).drop (j2 * 2):=⟨_,rfl⟩
 have hCl:C.toList.length=cap * 2:=by simpa using hC
 have hlen:news.length=(nn - j2) * 2:=by rw [hnews,List.length_drop,List.length_take,hCl];omega
 have hcell:∀ k u,C.toList[k]?=some u→w.drew.cell? ⟨b,k,none⟩=some u:=fun k u hu=>by
  show w.cell? _=_
  rw [cell_of_row w b _ C ty (0,0) hb];simpa using hu
 obtain ⟨A,hA,hsrc⟩:∃ A:Addr,(if cap=j2 then some (⟨b,0,none⟩:Addr) else some ⟨b,j2 * 2,none⟩)=some A∧Hid (∀ t u,news[t]?=some u→w.drew.cell? (A.add t)=some u):=by
  by_cases h:cap=j2
  ·refine ⟨⟨b,0,none⟩,by simp [h],fun t u hu=>?_⟩
   have h0:news.length=0:=by rw [hlen];omega
   rw [List.length_eq_zero_iff.1 h0] at hu
   simp at hu
  ·refine ⟨⟨b,j2 * 2,none⟩,by simp [h],fun t u hu=>?_⟩
   rw [hnews,List.getElem?_drop] at hu
   rw [Addr.add_lit]
   rw [List.getElem?_take] at hu
   split at hu
   ·exact hcell _ _ hu
   ·cases hu
 have s1:Hid (news.length=(nn - j2) * 2):=hlen
 have s2:Hid (∀ u∈news,u.oneCell'=true):=fun u hu=>hone u (by rw [hnews] at hu;exact List.mem_of_mem_drop hu)
 have hbd:Hid (w.drew.heap[b]?=some (.cells C ty (0,0))):=hb
 obtain ⟨C1,hC1⟩:∃ C1:Array Value,C1=(C.toList.take (j * 2)++news++C.toList.drop (j * 2 + news.length)).toArray:=⟨_,rfl⟩
 obtain ⟨W1,hW1⟩:∃ W1:Go.World,W1=w.drew.setRow b C1:=⟨_,rfl⟩
 have hC1s:C1.size=cap * 2:=by
  rw [hC1];simp only [List.size_toArray,List.length_append,List.length_take,List.length_drop,hCl,hlen];omega
 have hb1:W1.heap[b]?=some (.cells C1 ty (0,0)):=by rw [hW1];exact setRow_heap w.drew b C _ ty (0,0) hb
 obtain ⟨z,hz⟩:∃ z:Value,z=.agg #[.int .u32 0,.slice none 0 0]:=⟨_,rfl⟩
 have hW:Hid (W1=w.drew.setRow b (C.toList.take (j * 2)++news++C.toList.drop (j * 2 + news.length)).toArray):=by rw [← hC1];exact hW1
 obtain ⟨vs,hv1,hv2⟩:=run_clear_row (P:=PP) (ty:=0) Go.Proofs.Tryz.underlying32 hi0 hz0 (by rw [hz1];rfl) (fun v hv=>by have h2:v∈[Value.int .u32 0,.slice none 0 0]:=hv;simp only [List.mem_cons,List.not_mem_nil,or_false] at h2;rcases h2 with rfl|rfl<;>rfl) W1 b ((j + (nn - j2)) * 2) 1 (cap - (j + (nn - j2))) (by decide) hb1 (by rw [hC1s,hz1];omega)
 have hcl:∀ t2,(Builtin.clear_ #[32] t2 #[.slice (some ⟨b,(j + (nn - j2)) * 2,none⟩) (nn - (j + (nn - j2))) (cap - (j + (nn - j2)))]).run PP W1=.ok (.tuple #[]) (W1.setRow b (C1.toList.take ((j + (nn - j2)) * 2)++vs++C1.toList.drop ((j + (nn - j2)) * 2 + vs.length)).toArray):=by
  intro t2
  rw [show nn - (j + (nn - j2))=1 by omega]
  exact hv2
 have hic:j≤cap:=by omega
 have hjc:j2≤cap:=by omega
 have hj3:j2≤nn:=by omega
 have hj4:j≤nn:=by omega
 have hj5:¬ (j:Int)=(j2:Int):=by omega
 have hj6:j≤j2:=by omega
 have hfin:Hid (j + (nn - j2)=nn - 1∧DelP 2 b nn j C ty w (W1.setRow b (C1.toList.take ((j + (nn - j2)) * 2)++(vs++C1.toList.drop ((j + (nn - j2)) * 2 + 2))).toArray)):=by
  refine ⟨by omega,⟨⟨_,?_,?_,setRow_heap W1 b C1 _ ty (0,0) hb1⟩,?_,?_,?_⟩⟩
  ·have hvl:vs.length=2:=by rw [hv1,hz1]
   have:C1.toList.length=cap * 2:=by simpa using hC1s
   simp only [List.size_toArray,List.length_append,List.length_take,List.length_drop,hvl,hC,this]
   omega
  ·have hvl:vs.length=2:=by rw [hv1,hz1]
   have hl1:C1.toList.length=cap * 2:=by simpa using hC1s
   rw [List.toList_toArray,show (nn - 1) * 2=(j + (nn - j2)) * 2 by omega,List.take_left' (by rw [List.length_take,hl1];omega),hC1,List.toList_toArray]
   rw [List.take_append_of_le_length (by simp only [List.length_append,List.length_take,hCl,hlen];omega),List.take_of_length_le (by simp only [List.length_append,List.length_take,hCl,hlen];omega),hnews,hj2]
  ·rw [hW1]
   exact ⟨rfl,rfl,rfl,by simp,fun k hk=>by rw [setRow_other _ b k _ (by omega),setRow_other _ b k _ (by omega)];rfl⟩
  ·rw [hW1];simp
  ·intro k hk
   rw [setRow_other _ b k _ hk,hW1,setRow_other _ b k _ hk];rfl
 clear hj2 hv2 hb1 hW1 hC1s hcell hnews hlen hC1
 go_enter Go.Proofs.Tryz.func224,Go.Proofs.Tryz.ntmps224
 go_wp2_with fail
 go_region_law (refine step_append_row rfl (.tmp 22) (.tmp 25) 32 rfl 105 i0 2 Go.Proofs.Tryz.underlying32 hi0 hz1 b j cap (by simp [Act.eval,Act.put]) A (nn - j2) (cap - j2) news (by simp [Act.eval,Act.put,hA]) s1.out hsrc.out s2.out (by omega) C ty hbd.out hC ?_;rw [← hW.out])
 go_wp2
 go_ret
 obtain ⟨f1,f2⟩:=hfin.out
 exact ⟨by rw [f1];rfl,f2⟩
end Ch
namespace Ch
open Go Go.Ab Go.Proofs.Tryz
def netIn (n:Net) (i:Int):Bool:=decide (i≥0) && decide (i < (n.grams.length:Int))
def gramN (n:Net) (i:Int):Gram:=(n.grams[i.toNat]?).getD ⟨0,[]⟩
def netTake (n:Net) (i:Int):Net×Gram×Int:=bif netIn n i then (⟨n.room,n.grams.eraseIdx i.toNat,n.seen⟩,gramN n i,0) else (n,⟨0,[]⟩,1)
def netDouble (n:Net) (i:Int):Net×Int:=bif netIn n i then (bif decide (n.room - (n.grams.length:Int) < 1) then (n,10) else (⟨n.room,n.grams++[gramN n i],n.seen⟩,0)) else (n,1)
theorem take_no {n:Net} {i:Int} (h:decide (i < 0)=true∨decide (i≥(n.grams.length:Int))=true):netTake n i=(n,⟨0,[]⟩,1):=by
 have e:netIn n i=false:=by
  unfold netIn
  rw [Bool.and_eq_false_iff]
  rcases h with h|h
  ·exact .inl (decide_eq_false (by have:=of_decide_eq_true h;omega))
  ·exact .inr (decide_eq_false (by have:=of_decide_eq_true h;omega))
 unfold netTake
 rw [e];rfl
theorem double_no {n:Net} {i:Int} (h:decide (i < 0)=true∨decide (i≥(n.grams.length:Int))=true):netDouble n i=(n,1):=by
 have e:netIn n i=false:=by
  unfold netIn
  rw [Bool.and_eq_false_iff]
  rcases h with h|h
  ·exact .inl (decide_eq_false (by have:=of_decide_eq_true h;omega))
  ·exact .inr (decide_eq_false (by have:=of_decide_eq_true h;omega))
 unfold netDouble
 rw [e];rfl
theorem take_at {n:Net} {i:Nat} (h:i < n.grams.length):netTake n i=(⟨n.room,n.grams.eraseIdx i,n.seen⟩,n.grams[i],0):=by
 have e:netIn n i=true:=by unfold netIn;rw [Bool.and_eq_true];exact ⟨decide_eq_true (by omega),decide_eq_true (by omega)⟩
 unfold netTake gramN
 rw [e,Int.toNat_natCast,List.getElem?_eq_getElem h];rfl
theorem double_at {n:Net} {i:Nat} (h:i < n.grams.length):netDouble n i=bif decide (n.room - (n.grams.length:Int) < 1) then (n,10) else (⟨n.room,n.grams++[n.grams[i]],n.seen⟩,0):=by
 have e:netIn n i=true:=by unfold netIn;rw [Bool.and_eq_true];exact ⟨decide_eq_true (by omega),decide_eq_true (by omega)⟩
 unfold netDouble gramN
 rw [e,Int.toNat_natCast,List.getElem?_eq_getElem h];rfl
theorem nDouble_spec (n:Net) (i:Int) (hr:0≤n.room∧n.room≤1099511627776) (hl:n.grams.length≤1000000000000):Spec PP GG 191 [n.v,i64 i] (.tup [(netDouble n i).1.v,i64 (netDouble n i).2]) []:=by
 have hF:=nFree_spec n hr (by omega)
 cases c1:decide (i≥0) with
 | false =>
   rw [double_no (.inl (decide_eq_true (by have:=of_decide_eq_false c1;omega)))]
   refine Qs func191 ?_
   intro w0 M0
   simp only [f191,lf,z,seval]
   (refine qc func223 ?_;simp only [f223,lf,z,seval])
   simp only [c1,z,seval]
   (refine Qf ?_;simp only [z,seval])
   try rfl
 | true =>
 obtain ⟨i,rfl⟩:=Int.eq_ofNat_of_zero_le (of_decide_eq_true c1)
 cases c2:decide ((i:Int) < (n.grams.length:Int)) with
 | false =>
   rw [double_no (.inr (decide_eq_true (by have:=of_decide_eq_false c2;omega)))]
   refine Qs func191 ?_
   intro w0 M0
   simp only [f191,lf,z,seval]
   (refine qc func223 ?_;simp only [f223,lf,z,seval])
   simp only [c1,c2,z,seval]
   (refine Qf ?_;simp only [z,seval])
   try rfl
 | true =>
   have hlt:i < n.grams.length:=by have:=of_decide_eq_true c2;omega
   have gi:=getMap Gram.v n.grams hlt
   simp only [mv] at gi
   rw [double_at hlt]
   have hW:=nWith_spec n n.grams[i] (by omega)
   cases c3:decide (n.room - (n.grams.length:Int) < 1) with
   | true =>
     refine Qs func191 ?_
     intro w0 M0
     simp only [f191,lf,z,seval]
     (refine qc func223 ?_;simp only [f223,lf,z,seval])
     simp only [c1,c2,z,seval]
     (refine CU hF (h:=?_);simp only [z,seval])
     simp only [c3,z,seval]
     (refine Qf ?_;simp only [z,seval])
   | false =>
     refine Qs func191 ?_
     intro w0 M0
     simp only [f191,lf,z,seval]
     (refine qc func223 ?_;simp only [f223,lf,z,seval])
     simp only [c1,c2,z,seval]
     (refine CU hF (h:=?_);simp only [z,seval])
     simp only [c3,gi,z,seval]
     (refine Qw 0 ?_;simp only [z,seval])
     simp only [gi,z,seval]
     (refine DU hW (h:=?_);simp only [z,seval])
     (refine ⟨by kernel_rfl,?_⟩)
     (refine Qf ?_;simp only [z,seval])
theorem nTake_spec (n:Net) (i:Int) (hl:n.grams.length≤1099511627776):Spec PP GG 189 [n.v,i64 i] (.tup [(netTake n i).1.v,(netTake n i).2.1.v,i64 (netTake n i).2.2]) []:=by
 cases c1:decide (i≥0) with
 | false =>
   rw [take_no (.inl (decide_eq_true (by have:=of_decide_eq_false c1;omega)))]
   refine Qs func189 ?_
   intro w0 M0
   simp only [f189,lf,z,seval]
   (refine qc func223 ?_;simp only [f223,lf,z,seval])
   simp only [c1,z,seval]
   (refine Qf ?_;simp only [z,seval])
   rfl
 | true =>
 obtain ⟨i,rfl⟩:=Int.eq_ofNat_of_zero_le (of_decide_eq_true c1)
 cases c2:decide ((i:Int) < (n.grams.length:Int)) with
 | false =>
   rw [take_no (.inr (decide_eq_true (by have:=of_decide_eq_false c2;omega)))]
   refine Qs func189 ?_
   intro w0 M0
   simp only [f189,lf,z,seval]
   (refine qc func223 ?_;simp only [f223,lf,z,seval])
   simp only [c1,c2,z,seval]
   (refine Qf ?_;simp only [z,seval])
   rfl
 | true =>
   have hlt:i < n.grams.length:=by have:=of_decide_eq_true c2;omega
   have gi:=getMap Gram.v n.grams hlt
   simp only [mv] at gi
   have hC:=CloneGram_spec n.grams hl
   have w1:IntKind.i64.wrap ((i:Int) + 1)=((i + 1:Nat):Int):=w64s (by omega)
   have he:(n.grams.map Gram.v).eraseIdx i=(n.grams.eraseIdx i).map Gram.v:=by rw [List.eraseIdx_eq_take_drop_succ,List.eraseIdx_eq_take_drop_succ,List.map_append,List.map_take,List.map_drop]
   rw [take_at hlt]
   refine Qs func189 ?_
   intro w0 M0
   simp only [f189,lf,z,seval]
   (refine qc func223 ?_;simp only [f223,lf,z,seval])
   simp only [c1,c2,gi,z,seval]
   (refine CH (hC) (h:=?_);simp only [z,seval])
   simp only [w1,z,seval]
   refine CALLS_del Del_gram (by kernel_rfl) (by rfl) (by rfl) ?_ ?_ ?_
   ·simp [List.all_eq_true];intro g _;rfl
   ·simp;exact hlt
   simp only [he,z,seval]
   (refine RUNs_freeze 5 1 ?_ (by rfl) ?_ ?_;rotate_left 1;(simp only [z,seval];exact rfl);simp only [z,seval])
   (refine Qw 0 ?_;simp only [z,seval])
   (refine ⟨by kernel_rfl,?_⟩)
   (refine Qf ?_;simp only [z,seval])
theorem cutM_some {l s:List Int} {a b:Int} (h:cutM l a b=some s):0≤a∧a≤b∧b≤l.length∧s=(l.take b.toNat).drop a.toNat:=by
 unfold cutM at h
 cases c:(decide (a < 0) || (decide (b < a) || decide (b > (l.length:Int))))
 ·rw [c] at h
  simp only [cond_false,Option.some.injEq] at h
  simp only [Bool.or_eq_false_iff,decide_eq_false_iff_not] at c
  exact ⟨by omega,by omega,by omega,h.symm⟩
 ·rw [c] at h;cases h
theorem cutM_ok {l s:List Int} {a b:Int} {N:Nat} (hl:LL U l) (hn:l.length≤N) (h:cutM l a b=some s):LL U s∧s.length≤N:=by
 obtain ⟨_,_,_,rfl⟩:=cutM_some h
 exact ⟨hl.cut _ _,by simp only [List.length_drop,List.length_take];omega⟩
theorem LL.one {x:Int} (h:U x):LL U [x]:=⟨by simp,fun y hy=>by simp only [List.mem_singleton] at hy;subst hy;exact h⟩
theorem LL.both {a b:List Int} (ha:LL U a) (hb:LL U b) (h:a.length + b.length≤1000000):LL U (a++b) :=
 ⟨by rw [List.length_append];omega,fun x hx=>by
   rcases List.mem_append.1 hx with h1|h1
   ·exact ha.2 x h1
   ·exact hb.2 x h1⟩
theorem open_plain {b:Box} {k l h:Int} {p:List Int} (ho:boxOpen b k l h=some p):∃ s∈b.rows,s.plain=p∧s.handle=h∧s.key=k∧s.label=l:=by
 unfold boxOpen at ho
 cases hf:boxFind b h with
 | none=>rw [hf] at ho;cases ho
 | some s =>
   rw [hf] at ho
   simp only at ho
   cases c:(s.key==k && s.label==l) with
   | false=>rw [c] at ho;cases ho
   | true =>
     rw [c] at ho
     simp only [cond_true,Option.some.injEq] at ho
     rw [Bool.and_eq_true,beq_iff_eq,beq_iff_eq] at c
     have h2:=List.find?_some hf
     exact ⟨s,List.mem_of_find?_eq_some hf,ho,by simpa using h2,c.1,c.2⟩
theorem fit_leaks {w:World} {N:Nat} (hw:w.fit N) (hN:N≤500000000000) {e:Leak} (he:e.ok):World.fit { w with leaks:=w.leaks++[e] } (N + 1):=by
 have h':=hw.mono (Nat.le_succ N)
 exact { h' with
  ok:=⟨hw.ok.1,hw.ok.2.1,hw.ok.2.2.1,hw.ok.2.2.2.1,hw.ok.2.2.2.2.1,hw.ok.2.2.2.2.2.1,hw.ok.2.2.2.2.2.2.1,LL.app hw.ok.2.2.2.2.2.2.2 hw.leaks (by omega) he⟩
  leaks:=by show (w.leaks++[e]).length≤_;have:=hw.leaks;rw [List.length_append,List.length_singleton];omega }
theorem advM_fit {w:World} {N:Nat} (hw:w.fit N) (h5:64≤N) (hN:N≤400000000000) {o:Op} (ho:o.ok):(advM w o).1.fit (N + 1):=by
 have h0:=hw.mono (show N≤N + 1 by omega)
 unfold advM
 cases hc:(isAdv o && (regM w o.a).isSome)
 ·exact h0
 simp only [cond_true]
 cases (o.kind==0)
 rotate_left 1
 ·unfold lit0
  cases hd:decide ((o.words.length:Int) > 64)
  ·exact fit_reg h0 (by omega) _ ho.2.2.2.2.2 (by have:=of_decide_eq_false hd;omega)
  ·exact h0
 simp only [cond_false]
 cases (o.kind==1)
 rotate_left 1
 ·unfold seen1
  cases hd:(decide (o.b < 0) || decide (o.b≥(w.net.seen.length:Int)))
  ·simp only [cond_true,cond_false]
   cases hu:cutM ((w.net.seen[o.b.toNat]?).getD []) o.c o.d with
   | none=>exact h0
   | some l =>
     have hs:LL U ((w.net.seen[o.b.toNat]?).getD [])∧((w.net.seen[o.b.toNat]?).getD []).length≤N:=by
      cases hg:w.net.seen[o.b.toNat]? with
      | none=>exact ⟨⟨by simp,fun x hx=>by cases hx⟩,by simp⟩
      | some s=>exact ⟨hw.ok.2.2.2.1.2.2.2 s (List.mem_of_getElem? hg),hw.seens s (List.mem_of_getElem? hg)⟩
     have:=cutM_ok hs.1 hs.2 hu
     exact fit_reg h0 (by omega) _ this.1 (by omega)
  ·exact h0
 simp only [cond_false]
 cases (o.kind==2)
 rotate_left 1
 ·unfold cut2
  simp only [cond_true]
  cases hr:regM w o.b with
  | none=>exact h0
  | some s =>
    simp only
    cases hu:cutM s o.c o.d with
    | none=>exact h0
    | some l =>
      have h1:=regM_ok hw hr
      have:=cutM_ok h1.1 h1.2 hu
      exact fit_reg h0 (by omega) _ this.1 (by omega)
 simp only [cond_false]
 cases (o.kind==3)
 rotate_left 1
 ·unfold cat3
  simp only [cond_true]
  cases hr:regM w o.b with
  | none=>exact h0
  | some x =>
    cases hs:regM w o.c with
    | none=>exact h0
    | some y =>
      simp only
      cases hd:decide ((x.length:Int) + (y.length:Int) > 64)
      ·have hd':=of_decide_eq_false hd
       exact fit_reg h0 (by omega) _ ((regM_ok hw hr).1.both (regM_ok hw hs).1 (by omega)) (by rw [List.length_append];omega)
      ·exact h0
 simp only [cond_false]
 cases (o.kind==4)
 rotate_left 1
 ·unfold seal4
  simp only [cond_true]
  cases hx:firstM w o.b with
  | none=>exact h0
  | some x =>
    cases hy:firstM w o.c with
    | none=>exact h0
    | some y =>
      cases hz:regM w o.d with
      | none=>exact h0
      | some z =>
        simp only
        cases hs:((boxSeal w.box (drawW w).2 x y z).2==0)
        ·exact h0
        ·have h1:=fit_draw hw (by omega)
         have h2:=fit_box hw (by omega) (hh:=(drawW w).2) (key:=x) (label:=y) (l:=z) (drawW_U hw) (firstM_U hw hx) (firstM_U hw hy) (regM_ok hw hz).1.2 (by have:=(regM_ok hw hz).2;omega)
         have h3:World.fit { (drawW w).1 with box:=(boxSeal w.box (drawW w).2 x y z).1 } (N + 1):={ h1 with ok:=⟨h1.ok.1,h1.ok.2.1,h2.ok.2.2.1,h1.ok.2.2.2⟩,broom:=h2.broom,rows:=h2.rows,plain:=h2.plain }
         exact fit_reg h3 (by omega) _ (LL.one (drawW_U hw)) (by simp)
 simp only [cond_false]
 cases (o.kind==5)
 rotate_left 1
 ·unfold open5
  simp only [cond_true]
  cases hx:firstM w o.b with
  | none=>exact h0
  | some x =>
    cases hy:firstM w o.c with
    | none=>exact h0
    | some y =>
      cases hz:firstM w o.d with
      | none=>exact h0
      | some z =>
        simp only
        cases hs:boxOpen w.box x y z with
        | none=>exact h0
        | some p =>
          obtain ⟨s,hm,rfl,_⟩:=open_plain hs
          exact fit_reg h0 (by omega) _ (hw.ok.2.2.1.2.2 s hm).2.2.2 (by have:=hw.plain s hm;omega)
 simp only [cond_false]
 cases (o.kind==6)
 rotate_left 1
 ·unfold corrupt6
  cases (decide (o.b < 1) || decide (o.b≥(w.people.length:Int)))
  ·have hp:=personW_ok hw o.b
   exact fit_reg (fit_with h0 (p:={ personW w o.b with corrupt:=true }) hp (by have:=personW_used hw o.b;show (personW w o.b).used.length≤_;omega) (by have:=personW_runs hw o.b;show (personW w o.b).runs.length≤_;omega)) (by omega) _ (LL.one hp.2.1) (by simp)
  ·exact h0
 ·simp only [cond_false]
  unfold leak7
  cases (decide (o.b < 0) || decide (o.b≥(w.log.length:Int)))
  ·simp only [cond_false]
   cases hg:w.log[o.b.toNat]? with
   | none=>exact h0
   | some e =>
     simp only
     cases (e.kind==2)
     ·exact h0
     ·have he:=hw.ok.2.2.2.2.2.1.2 e (List.mem_of_getElem? hg)
      exact fit_reg (fit_leaks hw (by omega) ⟨he.2.2.2.2.2.1,(personW_ok hw e.b).2.2.1⟩) (by omega) _ (LL.one he.2.2.2.2.2.1) (by simp)
  ·exact h0
theorem gramAt_ok {w:World} {N:Nat} (hw:w.fit N) (i:Int):(gramAt w i).ok∧(gramAt w i).words.length≤N:=by
 unfold gramAt
 cases hg:w.net.grams[i.toNat]? with
 | none=>exact ⟨⟨by decide,by decide,fun x hx=>by cases hx⟩,by simp⟩
 | some g=>exact ⟨hw.ok.2.2.2.1.2.1.2 g (List.mem_of_getElem? hg),hw.words g (List.mem_of_getElem? hg)⟩
theorem gone_fit {w:World} {N:Nat} (hw:w.fit N) (i:Int):(gone w i).fit N:=by
 have hl:(w.net.grams.eraseIdx i.toNat).length≤w.net.grams.length:=List.length_eraseIdx_le _ _
 have hm:∀ g∈w.net.grams.eraseIdx i.toNat,g∈w.net.grams:=fun g hg=>List.mem_of_mem_eraseIdx hg
 exact { hw with
  ok:=⟨hw.ok.1,hw.ok.2.1,hw.ok.2.2.1,⟨hw.ok.2.2.2.1.1,⟨by have:=hw.ok.2.2.2.1.2.1.1;show (w.net.grams.eraseIdx i.toNat).length≤_;omega,fun g hg=>hw.ok.2.2.2.1.2.1.2 g (hm g hg)⟩,hw.ok.2.2.2.1.2.2⟩,hw.ok.2.2.2.2⟩
  grams:=Nat.le_trans hl hw.grams
  words:=fun g hg=>hw.words g (hm g hg) }
theorem twice_fit {w:World} {N:Nat} (hw:w.fit N) (hN:N≤500000000000) (i:Int):(twice w i).fit (N + 1):=by
 have h':=hw.mono (Nat.le_succ N)
 have hg:=gramAt_ok hw i
 exact { h' with
  ok:=⟨hw.ok.1,hw.ok.2.1,hw.ok.2.2.1,⟨hw.ok.2.2.2.1.1,LL.app hw.ok.2.2.2.1.2.1 hw.grams (by omega) hg.1,hw.ok.2.2.2.1.2.2⟩,hw.ok.2.2.2.2⟩
  grams:=by show (w.net.grams++[gramAt w i]).length≤_;have:=hw.grams;rw [List.length_append,List.length_singleton];omega
  words:=fun g hx=>by
   rcases List.mem_append.1 hx with h1|h1
   ·exact h'.words g h1
   ·simp only [List.mem_singleton] at h1;subst h1;have:=hg.2;omega }
theorem nameB_U {n:Int} (h:nameB n=true):U n:=by
 simp only [nameB,Bool.and_eq_true,decide_eq_true_eq] at h
 exact ⟨by omega,by omega⟩
theorem tick_U {c b:Int} (hc:U c) (hb:0≤b):U (tickM c (capT b)):=by
 have h1:=hc.1
 have h2:=hc.2
 unfold tickM capT
 split<;>split<;>exact ⟨by omega,by omega⟩
theorem stepM_fit {w:World} {N:Nat} (hw:w.fit N) (h5:64≤N) (hN:N≤400000000000) {o:Op} (ho:o.ok):(stepM w o).1.fit (N + 5):=by
 have h0:=hw.mono (show N≤N + 5 by omega)
 have mono:∀ {K:Nat} {v:World},v.fit K→K≤N + 5→v.fit (N + 5):=fun h1 h2=>h1.mono h2
 unfold stepM
 cases isAdv o
 rotate_left 1
 ·exact mono (advM_fit hw h5 hN ho) (by omega)
 simp only [cond_false]
 cases (o.kind==8)
 rotate_left 1
 ·unfold tick8
  cases (decide (o.a < 0) || decide (o.a≥(w.people.length:Int)))
  ·simp only [cond_true,cond_false]
   cases hb:decide (o.b < 0)
   ·have hp:=personW_ok hw o.a
    exact fit_with h0 (p:={ personW w o.a with clock:=tickM (personW w o.a).clock (capT o.b) }) ⟨hp.1,hp.2.1,tick_U hp.2.2.1 (by have:=of_decide_eq_false hb;omega),hp.2.2.2⟩ (by have:=personW_used hw o.a;show (personW w o.a).used.length≤_;omega) (by have:=personW_runs hw o.a;show (personW w o.a).runs.length≤_;omega)
   ·exact h0
  ·exact h0
 simp only [cond_false]
 cases (o.kind==9 || o.kind==10)
 rotate_left 1
 ·unfold begin9
  cases hn:(nameB o.a && nameB o.b)
  ·exact h0
  ·rw [Bool.and_eq_true] at hn
   simp only [cond_true]
   cases (o.kind==9)
   ·exact startO_fit hw (by omega) hN (nameB_U hn.1) (nameB_U hn.2)
   ·exact mono (startN_fit hw (by omega) hN (nameB_U hn.1) (nameB_U hn.2)) (by omega)
 simp only [cond_false]
 cases (o.kind==11)
 rotate_left 1
 ·unfold deliver11
  cases inNet w o.a
  ·exact h0
  ·have hg:=(gramAt_ok hw o.a).1
   exact deliverM_fit (gone_fit hw o.a) (by omega) hN hg.1 hg.2.2
 simp only [cond_false]
 cases (o.kind==12)
 rotate_left 1
 ·unfold drop12
  cases inNet w o.a
  ·exact h0
  ·exact mono (gone_fit hw o.a) (by omega)
 simp only [cond_false]
 cases (o.kind==13)
 rotate_left 1
 ·unfold double13
  cases inNet w o.a
  ·exact h0
  ·simp only [cond_true]
   cases decide (w.net.room - (w.net.grams.length:Int) < 1)
   ·exact mono (twice_fit hw (by omega) o.a) (by omega)
   ·exact h0
 simp only [cond_false]
 cases (o.kind==14)
 ·exact h0
 ·unfold inject14
  simp only [cond_true]
  cases hr:regM w o.a with
  | none=>exact h0
  | some l =>
    simp only
    cases hb:nameB o.b
    ·exact h0
    ·exact deliverM_fit hw (by omega) hN (nameB_U hb) (regM_ok hw hr).1.2
theorem form_reg {w:World} (h:w.form) (i:Int) {l:List Int} (hl:l.length≤64):(setReg w i l).form :=
 { h with
   nregs:=by show ((w.regs.set i.toNat l).length:Int)=_;rw [List.length_set];exact h.nregs
   regs:=fun x hx=>by
    rcases List.mem_or_eq_of_mem_set hx with h1|rfl
    ·exact h.regs x h1
    ·exact hl }
theorem allIx_all {α:Type} {f:List α→α→Bool} {q:α→Prop} (hq:∀ pre x,f pre x=true→q x):∀ (n:Nat) (l:List α),l.length=n→allIx f l=true → ∀ x∈l,q x:=by
 intro n
 induction n with
 | zero=>intro l hn _ x hx;rw [List.eq_nil_of_length_eq_zero hn] at hx;cases hx
 | succ n ih =>
   intro l hn h x hx
   have hne:l≠[]:=by rintro rfl;cases hn
   have e:=(List.dropLast_concat_getLast hne).symm
   rw [e,allIx_snoc,Bool.and_eq_true] at h
   rw [e] at hx
   rcases List.mem_append.1 hx with h1|h1
   ·exact ih _ (by rw [List.length_dropLast,hn];rfl) h.1 x h1
   ·simp only [List.mem_singleton] at h1;subst h1;exact hq _ _ h.2
theorem plain_le {b:Box} (h:Right07 b=true) {s:Sld} (hs:s∈b.rows):s.plain.length≤64:=by
 simp only [Right07,Bool.and_eq_true] at h
 exact allIx_all (q:=fun s=>s.plain.length≤64) (fun pre x hx=>by rw [Bool.and_eq_true] at hx;exact of_decide_eq_true hx.1) _ _ rfl h.2 s hs
theorem advM_form {w:World} (h:w.form) (hn:w.draws.next < 1048576) (o:Op) {N:Nat} (hw:w.fit N):(advM w o).1.form:=by
 have hr:∀ {i:Int} {l:List Int},regM w i=some l→l.length≤64:=fun hi=>h.regs _ (List.mem_of_getElem? (regM_mem hi).2.2)
 have hc:∀ {l s:List Int} {a b:Int},l.length≤64→cutM l a b=some s→s.length≤64:=fun h1 h2=>by
  obtain ⟨_,_,_,rfl⟩:=cutM_some h2
  simp only [List.length_drop,List.length_take];omega
 unfold advM
 cases hc0:(isAdv o && (regM w o.a).isSome)
 ·exact h
 simp only [cond_true]
 cases (o.kind==0)
 rotate_left 1
 ·unfold lit0
  cases hd:decide ((o.words.length:Int) > 64)
  ·exact form_reg h _ (by have:=of_decide_eq_false hd;omega)
  ·exact h
 simp only [cond_false]
 cases (o.kind==1)
 rotate_left 1
 ·unfold seen1
  cases hd:(decide (o.b < 0) || decide (o.b≥(w.net.seen.length:Int)))
  ·simp only [cond_true,cond_false]
   cases hu:cutM ((w.net.seen[o.b.toNat]?).getD []) o.c o.d with
   | none=>exact h
   | some l =>
     refine form_reg h _ (hc ?_ hu)
     cases hg:w.net.seen[o.b.toNat]? with
     | none=>simp
     | some s=>exact h.seen s (List.mem_of_getElem? hg)
  ·exact h
 simp only [cond_false]
 cases (o.kind==2)
 rotate_left 1
 ·unfold cut2
  simp only [cond_true]
  cases hr1:regM w o.b with
  | none=>exact h
  | some s =>
    simp only
    cases hu:cutM s o.c o.d with
    | none=>exact h
    | some l=>exact form_reg h _ (hc (hr hr1) hu)
 simp only [cond_false]
 cases (o.kind==3)
 rotate_left 1
 ·unfold cat3
  simp only [cond_true]
  cases hr1:regM w o.b with
  | none=>exact h
  | some x =>
    cases hs:regM w o.c with
    | none=>exact h
    | some y =>
      simp only
      cases hd:decide ((x.length:Int) + (y.length:Int) > 64)
      ·have hd':=of_decide_eq_false hd
       exact form_reg h _ (by rw [List.length_append];omega)
      ·exact h
 simp only [cond_false]
 cases (o.kind==4)
 rotate_left 1
 ·unfold seal4
  simp only [cond_true]
  cases hx:firstM w o.b with
  | none=>exact h
  | some x =>
    cases hy:firstM w o.c with
    | none=>exact h
    | some y =>
      cases hz:regM w o.d with
      | none=>exact h
      | some z =>
        simp only
        cases hs:((boxSeal w.box (drawW w).2 x y z).2==0)
        ·exact h
        ·exact form_reg (form_box (form_draw h hn) _ _ _ _) _ (by simp)
 simp only [cond_false]
 cases (o.kind==5)
 rotate_left 1
 ·unfold open5
  simp only [cond_true]
  cases hx:firstM w o.b with
  | none=>exact h
  | some x =>
    cases hy:firstM w o.c with
    | none=>exact h
    | some y =>
      cases hz:firstM w o.d with
      | none=>exact h
      | some z =>
        simp only
        cases hs:boxOpen w.box x y z with
        | none=>exact h
        | some p =>
          obtain ⟨s,hm,rfl,_⟩:=open_plain hs
          exact form_reg h _ (plain_le h.box hm)
 simp only [cond_false]
 cases (o.kind==6)
 rotate_left 1
 ·unfold corrupt6
  cases hb:(decide (o.b < 1) || decide (o.b≥(w.people.length:Int)))
  ·simp only [Bool.or_eq_false_iff,decide_eq_false_iff_not] at hb
   have hk:=okP_get h (n:=o.b) (by omega)
   exact form_reg (form_with h (p:={ personW w o.b with corrupt:=true }) (personW_ok hw o.b).1 hk) _ (by simp)
  ·exact h
 ·simp only [cond_false]
  unfold leak7
  cases (decide (o.b < 0) || decide (o.b≥(w.log.length:Int)))
  ·simp only [cond_false]
   cases hg:w.log[o.b.toNat]? with
   | none=>exact h
   | some e =>
     simp only
     cases (e.kind==2)
     ·exact h
     ·exact form_reg (w:={ w with leaks:=w.leaks++[⟨e.k,(personW w e.b).clock⟩] }) { h with } _ (by simp)
  ·exact h
theorem gone_form {w:World} (h:w.form) (i:Int):(gone w i).form:=by
 have hl:(w.net.grams.eraseIdx i.toNat).length≤w.net.grams.length:=List.length_eraseIdx_le _ _
 have hn:=h.net
 simp only [Right06,Bool.and_eq_true,decide_eq_true_eq] at hn
 exact { h with
  net:=by
   show Right06 ⟨w.net.room,w.net.grams.eraseIdx i.toNat,w.net.seen⟩=true
   simp only [Right06,Bool.and_eq_true,decide_eq_true_eq]
   exact ⟨hn.1,by omega⟩
  grams:=fun g hg=>h.grams g (List.mem_of_mem_eraseIdx hg) }
theorem gramAt_le {w:World} (h:w.form) (i:Int):(gramAt w i).words.length≤64:=by
 unfold gramAt
 cases hg:w.net.grams[i.toNat]? with
 | none=>simp
 | some g=>exact h.grams g (List.mem_of_getElem? hg)
theorem twice_form {w:World} (h:w.form) (i:Int) (hr:¬ w.net.room - (w.net.grams.length:Int) < 1):(twice w i).form:=by
 have hn:=h.net
 simp only [Right06,Bool.and_eq_true,decide_eq_true_eq] at hn
 exact { h with
  net:=by
   show Right06 ⟨w.net.room,w.net.grams++[gramAt w i],w.net.seen⟩=true
   simp only [Right06,Bool.and_eq_true,decide_eq_true_eq]
   exact ⟨hn.1,by rw [List.length_append,List.length_singleton];omega⟩
  grams:=fun g hg=>by
   rcases List.mem_append.1 hg with h1|h1
   ·exact h.grams g h1
   ·simp only [List.mem_singleton] at h1;subst h1;exact gramAt_le h i }
theorem deliverM_form {w:World} {to:Int} {l:List Int} (h:w.form) (ht:U to) (hn:w.draws.next + 3≤1048576):(deliverM w to l).1.form:=by
 by_cases he:(deliverM w to l).2=0
 ·obtain ⟨k,sl,gs,p,e,T⟩:=deliverM_took h ht he
  exact took_form T h (by have:=T.k3;omega)
 ·rw [deliverM_err he];exact h
theorem startN_form {w:World} {a b:Int} (h:w.form) (ha:U a) (hn:w.draws.next + 3≤1048576):(startN w a b).1.form:=by
 by_cases he:(startN w a b).2=0
 ·obtain ⟨h1,h2,h3⟩:=startN_T h.right ha he
  have hin:=(pair_in h1).2.2.2.1
  have hro:roomW w 0 1=true:=by
   cases c:roomW w 0 1
   ·exfalso
    revert he
    unfold startN
    rw [h1,h2,c]
    simp
   ·rfl
  have T:Took w a.toNat (startN w a b).1 1 [] [⟨0,msgWs ⟨1,0,a,b,dAt w 0,0,0⟩⟩] (pushRun (personW w a) ⟨1,1,b,dAt w 0,0,0,0,0,1⟩) ⟨1,1,1,a,b,0,0,0,dAt w 0,(personW w a).clock⟩:=by
   rw [h3]
   exact ⟨rfl,by decide,by decide,by simp,hin,rfl,rfl,rfl,rfl,push_okp (may_run (by decide) (by decide) (by decide) _ _ _ _ _ _) h2,nil_right,room_1 hro,words_le _ _⟩
  exact took_form T h (by omega)
 ·rw [startN_err he];exact h
theorem startO_form {w:World} {a b:Int} (h:w.form) (ha:U a) (hn:w.draws.next + 3≤1048576):(startO w a b).1.form:=by
 by_cases he:(startO w a b).2=0
 ·obtain ⟨h1,h2,h4,h3⟩:=startO_T h.right ha he
  have hin:=(pair_in h1).2.2.2.1
  have hro:roomW w 1 1=true:=by
   cases c:roomW w 1 1
   ·exfalso
    revert he
    unfold startO
    rw [h1,h2,c]
    simp
   ·rfl
  have T:Took w a.toNat (startO w a b).1 3 [sld w 2 (personW w a).key 6 ⟨dAt w 1,dAt w 0,a,b,0,0,0⟩] [⟨b,msgWs ⟨6,dAt w 0,a,b,0,dAt w 2,0⟩⟩] (pushRun (personW w a) ⟨2,1,b,dAt w 1,0,dAt w 0,0,0,1⟩) ⟨1,2,1,a,b,0,0,dAt w 0,dAt w 1,(personW w a).clock⟩:=by
   rw [h3]
   exact ⟨rfl,by decide,by decide,by simp,hin,rfl,rfl,rfl,rfl,push_okp (may_run (by decide) (by decide) (by decide) _ _ _ _ _ _) h2,base_right1 h4,room_1 hro,words_le _ _⟩
  exact took_form T h (by omega)
 ·rw [startO_err he];exact h
theorem tick_le (c b:Int):tickM c b≤1073741824:=by unfold tickM;split<;>omega
theorem stepM_form {w:World} {N:Nat} (hw:w.fit N) (h:w.form) (hn:w.draws.next + 3≤1048576) (o:Op):(stepM w o).1.form:=by
 unfold stepM
 cases isAdv o
 rotate_left 1
 ·exact advM_form h (by omega) o hw
 simp only [cond_false]
 cases (o.kind==8)
 rotate_left 1
 ·unfold tick8
  cases ha:(decide (o.a < 0) || decide (o.a≥(w.people.length:Int)))
  ·simp only [cond_true,cond_false]
   cases hb:decide (o.b < 0)
   ·simp only [Bool.or_eq_false_iff,decide_eq_false_iff_not] at ha
    have hk:=okP_get h (n:=o.a) (by omega)
    refine form_with h (p:={ personW w o.a with clock:=tickM (personW w o.a).clock (capT o.b) }) (personW_ok hw o.a).1 ?_
    simp only [okP,Bool.and_eq_true] at hk ⊢
    exact ⟨hk.1,decide_eq_true (tick_le _ _)⟩
   ·exact h
  ·exact h
 simp only [cond_false]
 cases (o.kind==9 || o.kind==10)
 rotate_left 1
 ·unfold begin9
  cases hb:(nameB o.a && nameB o.b)
  ·exact h
  ·rw [Bool.and_eq_true] at hb
   simp only [cond_true]
   cases (o.kind==9)
   ·exact startO_form h (nameB_U hb.1) hn
   ·exact startN_form h (nameB_U hb.1) hn
 simp only [cond_false]
 cases (o.kind==11)
 rotate_left 1
 ·unfold deliver11
  cases inNet w o.a
  ·exact h
  ·exact deliverM_form (gone_form h o.a) (gramAt_ok hw o.a).1.1 hn
 simp only [cond_false]
 cases (o.kind==12)
 rotate_left 1
 ·unfold drop12
  cases inNet w o.a
  ·exact h
  ·exact gone_form h o.a
 simp only [cond_false]
 cases (o.kind==13)
 rotate_left 1
 ·unfold double13
  cases inNet w o.a
  ·exact h
  ·simp only [cond_true]
   cases hd:decide (w.net.room - (w.net.grams.length:Int) < 1)
   ·exact twice_form h o.a (of_decide_eq_false hd)
   ·exact h
 simp only [cond_false]
 cases (o.kind==14)
 ·exact h
 ·unfold inject14
  simp only [cond_true]
  cases hr:regM w o.a with
  | none=>exact h
  | some l =>
    simp only
    cases hb:nameB o.b
    ·exact h
    ·exact deliverM_form h (nameB_U hb) hn
structure PK (x y:Person):Prop where
 clock:x.clock≤y.clock
 key:y.key=x.key
 name:y.name=x.name
 corrupt:x.corrupt=true→y.corrupt=true
 used:∃ u,y.used=x.used++u
 runs:x.runs.length≤y.runs.length
theorem PK.refl (x:Person):PK x x:=⟨Int.le_refl _,rfl,rfl,id,⟨[],by simp⟩,Nat.le_refl _⟩
theorem PK.trans {x y z:Person} (h:PK x y) (g:PK y z):PK x z:=by
 obtain ⟨u,hu⟩:=h.used
 obtain ⟨v,hv⟩:=g.used
 exact ⟨Int.le_trans h.clock g.clock,g.key.trans h.key,g.name.trans h.name,fun c=>g.corrupt (h.corrupt c),⟨u++v,by rw [hv,hu,List.append_assoc]⟩,Nat.le_trans h.runs g.runs⟩
structure Kept (w v:World):Prop where
 conf:v.conf=w.conf
 plen:v.people.length=w.people.length
 rlen:v.regs.length=w.regs.length
 rooms:v.box.room=w.box.room∧v.net.room=w.net.room
 rows:∃ s,v.box.rows=w.box.rows++s
 seen:∃ s,v.net.seen=w.net.seen++s
 log:∃ e,v.log=w.log++e
 leaks:∃ l,v.leaks=w.leaks++l
 ppl:∀ i,PK (getP w.people i) (getP v.people i)
 list:v.draws.list=w.draws.list
 next0:w.draws.next≤v.draws.next
theorem Kept.refl (w:World):Kept w w:=⟨rfl,rfl,rfl,⟨rfl,rfl⟩,⟨[],by simp⟩,⟨[],by simp⟩,⟨[],by simp⟩,⟨[],by simp⟩,fun i=>PK.refl _,rfl,Int.le_refl _⟩
theorem pre_trans {α:Type} {a b c:List α} (h:∃ s,b=a++s) (g:∃ s,c=b++s):∃ s,c=a++s:=by
 obtain ⟨s,rfl⟩:=h
 obtain ⟨t,rfl⟩:=g
 exact ⟨s++t,by rw [List.append_assoc]⟩
theorem Kept.trans {u v w:World} (h:Kept u v) (g:Kept v w):Kept u w :=
 ⟨g.conf.trans h.conf,g.plen.trans h.plen,g.rlen.trans h.rlen,⟨g.rooms.1.trans h.rooms.1,g.rooms.2.trans h.rooms.2⟩,pre_trans h.rows g.rows,pre_trans h.seen g.seen,pre_trans h.log g.log,pre_trans h.leaks g.leaks,fun i=>(h.ppl i).trans (g.ppl i),g.list.trans h.list,Int.le_trans h.next0 g.next0⟩
theorem getP_set {l:List Person} {n:Nat} {p:Person} (hin:n < l.length) (i:Nat):getP (l.set n p) i=if i=n then p else getP l i:=by
 unfold getP
 by_cases h:i=n
 ·subst h;rw [List.getElem?_set_self hin,if_pos rfl];rfl
 ·rw [List.getElem?_set_ne (fun e=>h e.symm),if_neg h]
theorem ppl_set {l:List Person} {n:Nat} {p:Person} (hin:n < l.length) (hp:PK (getP l n) p):∀ i,PK (getP l i) (getP (l.set n p) i):=by
 intro i
 rw [getP_set hin]
 split
 ·rename_i h;subst h;exact hp
 ·exact PK.refl _
theorem mkT_kept {w:World} {k:Int} {sl:List Sld} {gs:List Gram} {n:Nat} {p:Person} {e:Event} (hin:n < w.people.length) (h0:0≤k) (hp:PK (getP w.people n) p):Kept w (mkT w k sl gs n p e) :=
 ⟨rfl,by show (w.people.set n p).length=_;rw [List.length_set],rfl,⟨rfl,rfl⟩,⟨sl,rfl⟩,⟨_,rfl⟩,⟨_,rfl⟩,⟨[],by show w.leaks=_;simp⟩,ppl_set hin hp,rfl,by show w.draws.next≤w.draws.next + k;omega⟩
theorem pk_set (p:Person) (i:Nat) (r:Run):PK p (setRun p i r):=⟨Int.le_refl _,rfl,rfl,id,⟨[],by simp [setRun]⟩,by simp [setRun]⟩
theorem pk_push (p:Person) (r:Run):PK p (pushRun p r):=⟨Int.le_refl _,rfl,rfl,id,⟨[],by simp [pushRun]⟩,by simp [pushRun]⟩
theorem pk_used (p:Person) (x:Int):PK p { p with used:=p.used++[x] }:=⟨Int.le_refl _,rfl,rfl,id,⟨[x],rfl⟩,Nat.le_refl _⟩
theorem grantN_kept {w:World} {me:Int} {m:Msg} (hr:Right10 w.people=true) (hme:U me):Kept w (grantN w me m).1:=by
 by_cases he:(grantN w me m).2=0
 ·obtain ⟨i,_,_,_,hin,h⟩:=grantN_T hr hme he
  rw [h];exact mkT_kept hin (by decide) (pk_set _ _ _)
 ·rw [grantN_err he];exact Kept.refl w
theorem echoN_kept {w:World} {me:Int} {m:Msg} (hr:Right10 w.people=true) (hme:U me):Kept w (echoN w me m).1:=by
 by_cases he:(echoN w me m).2=0
 ·obtain ⟨i,_,_,hin,_,h⟩:=echoN_T hr hme he
  rw [h];exact mkT_kept hin (by decide) (pk_set _ _ _)
 ·rw [echoN_err he];exact Kept.refl w
theorem ticketB_kept {w:World} {me:Int} {m:Msg} (hr:Right10 w.people=true) (hme:U me):Kept w (ticketB w me m).1:=by
 by_cases he:(ticketB w me m).2=0
 ·obtain ⟨_,h2,_,_,_,_,h⟩:=ticketB_T hr hme he
  rw [h];exact mkT_kept (pair_in h2).2.2.2.2 (by decide) ((pk_used _ _).trans (pk_push _ _))
 ·rw [ticketB_err he];exact Kept.refl w
theorem backB_kept {w:World} {me:Int} {m:Msg} (hr:Right10 w.people=true) (hme:U me):Kept w (backB w me m).1:=by
 by_cases he:(backB w me m).2=0
 ·obtain ⟨i,_,_,hin,h⟩:=backB_T hr hme he
  rw [h];exact mkT_kept hin (by decide) (pk_set _ _ _)
 ·rw [backB_err he];exact Kept.refl w
theorem shareO_kept {w:World} {me:Int} {m:Msg} (hr:Right10 w.people=true) (hme:U me):Kept w (shareO w me m).1:=by
 by_cases he:(shareO w me m).2=0
 ·obtain ⟨i,_,_,_,hin,h⟩:=shareO_T hr hme he
  rw [h];exact mkT_kept hin (by decide) (pk_set _ _ _)
 ·rw [shareO_err he];exact Kept.refl w
theorem firstB_kept {w:World} {me:Int} {m:Msg} (hr:Right10 w.people=true) (hme:U me):Kept w (firstB w me m).1:=by
 by_cases he:(firstB w me m).2=0
 ·obtain ⟨_,h2,_,_,_,h⟩:=firstB_T hr hme he
  rw [h];exact mkT_kept (pair_in h2).2.2.2.2 (by decide) ((pk_used _ _).trans (pk_push _ _))
 ·rw [firstB_err he];exact Kept.refl w
theorem shareB_kept {w:World} {me:Int} {m:Msg} (hr:Right10 w.people=true) (hme:U me):Kept w (shareB w me m).1:=by
 by_cases he:(shareB w me m).2=0
 ·obtain ⟨i,_,_,_,hin,h⟩:=shareB_T hr hme he
  rw [h];exact mkT_kept hin (by decide) (pk_set _ _ _)
 ·rw [shareB_err he];exact Kept.refl w
theorem grantM_kept {w:World} {m:Msg} (hr:Right10 w.people=true):Kept w (grantM w m).1:=by
 by_cases he:(grantM w m).2=0
 ·obtain ⟨_,_,_,_,_,h⟩:=grantM_T hr he
  rw [h];exact mkT_kept (by have:=(right_len hr).1;omega) (by decide) (pk_used _ _)
 ·rw [grantM_err he];exact Kept.refl w
theorem shareM_kept {w:World} {m:Msg} (hr:Right10 w.people=true):Kept w (shareM w m).1:=by
 by_cases he:(shareM w m).2=0
 ·obtain ⟨_,_,_,_,_,_,h⟩:=shareM_T hr he
  rw [h];exact mkT_kept (by have:=(right_len hr).1;omega) (by decide) (pk_used _ _)
 ·rw [shareM_err he];exact Kept.refl w
theorem startN_kept {w:World} {a b:Int} (hr:Right10 w.people=true) (ha:U a):Kept w (startN w a b).1:=by
 by_cases he:(startN w a b).2=0
 ·obtain ⟨h1,_,h⟩:=startN_T hr ha he
  rw [h];exact mkT_kept (pair_in h1).2.2.2.1 (by decide) (pk_push _ _)
 ·rw [startN_err he];exact Kept.refl w
theorem startO_kept {w:World} {a b:Int} (hr:Right10 w.people=true) (ha:U a):Kept w (startO w a b).1:=by
 by_cases he:(startO w a b).2=0
 ·obtain ⟨h1,_,_,h⟩:=startO_T hr ha he
  rw [h];exact mkT_kept (pair_in h1).2.2.2.1 (by decide) (pk_push _ _)
 ·rw [startO_err he];exact Kept.refl w
theorem takeM_kept {w:World} {to:Int} {m:Msg} (hr:Right10 w.people=true) (ht:U to):Kept w (takeM w to m).1:=by
 unfold takeM
 cases (to==0)
 ·simp only [cond_false]
  cases (m.kind==2)
  ·cases (m.kind==3)
   ·cases (m.kind==4)
    ·cases (m.kind==5)
     ·cases (m.kind==6)
      ·cases (m.kind==8)
       ·cases (m.kind==9)
        ·exact Kept.refl w
        ·exact shareO_kept hr ht
       ·exact shareB_kept hr ht
      ·exact firstB_kept hr ht
     ·exact backB_kept hr ht
    ·exact echoN_kept hr ht
   ·exact ticketB_kept hr ht
  ·exact grantN_kept hr ht
 ·simp only [cond_true]
  cases (m.kind==1)
  ·cases (m.kind==7)
   ·exact Kept.refl w
   ·exact shareM_kept hr
  ·exact grantM_kept hr
theorem deliverM_kept {w:World} {to:Int} {l:List Int} (hr:Right10 w.people=true) (ht:U to):Kept w (deliverM w to l).1:=by
 unfold deliverM
 cases decide (to.toNat < w.people.length)
 ·exact Kept.refl w
 cases ((msgGet l).2==0)
 ·exact Kept.refl w
 ·exact takeM_kept hr ht
theorem setReg_kept {w v:World} (h:Kept w v) (i:Int) (l:List Int):Kept w (setReg v i l) :=
 { h with rlen:=by show (v.regs.set i.toNat l).length=_;rw [List.length_set];exact h.rlen }
theorem with_kept {w:World} {p:Person} {n:Nat} (hn:p.name.toNat=n) (hin:n < w.people.length) (hp:PK (getP w.people n) p):Kept w (withW w p):=by
 have e:(withW w p).people=w.people.set n p:=set_T hn hin
 exact { Kept.refl w with
  plen:=by rw [e,List.length_set]
  ppl:=by rw [e];exact ppl_set hin hp }
theorem box_kept {w:World} (hh key label:Int) (l:List Int):(boxSeal w.box hh key label l).1.room=w.box.room ∧ ∃ s,(boxSeal w.box hh key label l).1.rows=w.box.rows++s:=by
 refine ⟨room_seal _ _ _ _ _,?_⟩
 unfold boxSeal
 cases decide ((l.length:Int) > 64)
 ·cases (boxFind w.box hh).isSome
  ·cases decide (w.box.room - (w.box.rows.length:Int) < 1)
   ·exact ⟨_,rfl⟩
   ·exact ⟨[],by simp⟩
  ·exact ⟨[],by simp⟩
 ·exact ⟨[],by simp⟩
theorem advM_kept {w:World} {N:Nat} (hw:w.fit N) (hr:Right10 w.people=true) (o:Op):Kept w (advM w o).1:=by
 have h0:=Kept.refl w
 unfold advM
 cases hc0:(isAdv o && (regM w o.a).isSome)
 ·exact h0
 simp only [cond_true]
 cases (o.kind==0)
 rotate_left 1
 ·unfold lit0
  cases hd:decide ((o.words.length:Int) > 64)
  ·exact setReg_kept h0 _ _
  ·exact h0
 simp only [cond_false]
 cases (o.kind==1)
 rotate_left 1
 ·unfold seen1
  cases hd:(decide (o.b < 0) || decide (o.b≥(w.net.seen.length:Int)))
  ·simp only [cond_true,cond_false]
   cases hu:cutM ((w.net.seen[o.b.toNat]?).getD []) o.c o.d with
   | none=>exact h0
   | some l=>exact setReg_kept h0 _ _
  ·exact h0
 simp only [cond_false]
 cases (o.kind==2)
 rotate_left 1
 ·unfold cut2
  simp only [cond_true]
  cases hr1:regM w o.b with
  | none=>exact h0
  | some s =>
    simp only
    cases hu:cutM s o.c o.d with
    | none=>exact h0
    | some l=>exact setReg_kept h0 _ _
 simp only [cond_false]
 cases (o.kind==3)
 rotate_left 1
 ·unfold cat3
  simp only [cond_true]
  cases hr1:regM w o.b with
  | none=>exact h0
  | some x =>
    cases hs:regM w o.c with
    | none=>exact h0
    | some y =>
      simp only
      cases hd:decide ((x.length:Int) + (y.length:Int) > 64)
      ·exact setReg_kept h0 _ _
      ·exact h0
 simp only [cond_false]
 cases (o.kind==4)
 rotate_left 1
 ·unfold seal4
  simp only [cond_true]
  cases hx:firstM w o.b with
  | none=>exact h0
  | some x =>
    cases hy:firstM w o.c with
    | none=>exact h0
    | some y =>
      cases hz:regM w o.d with
      | none=>exact h0
      | some z =>
        simp only
        cases hs:((boxSeal w.box (drawW w).2 x y z).2==0)
        ·exact h0
        ·have hb:=box_kept (w:=w) (drawW w).2 x y z
         exact setReg_kept (w:=w) (v:={ (drawW w).1 with box:=(boxSeal w.box (drawW w).2 x y z).1 }) ⟨rfl,rfl,rfl,⟨hb.1,rfl⟩,hb.2,h0.seen,h0.log,h0.leaks,h0.ppl,rfl,by show w.draws.next≤w.draws.next + 1;omega⟩ _ _
 simp only [cond_false]
 cases (o.kind==5)
 rotate_left 1
 ·unfold open5
  simp only [cond_true]
  cases hx:firstM w o.b with
  | none=>exact h0
  | some x =>
    cases hy:firstM w o.c with
    | none=>exact h0
    | some y =>
      cases hz:firstM w o.d with
      | none=>exact h0
      | some z =>
        simp only
        cases hs:boxOpen w.box x y z with
        | none=>exact h0
        | some p=>exact setReg_kept h0 _ _
 simp only [cond_false]
 cases (o.kind==6)
 rotate_left 1
 ·unfold corrupt6
  cases hb:(decide (o.b < 1) || decide (o.b≥(w.people.length:Int)))
  ·simp only [Bool.or_eq_false_iff,decide_eq_false_iff_not] at hb
   have hin:o.b.toNat < w.people.length:=by omega
   have hU:U o.b:=⟨by omega,by have:=(right_len hr).2;omega⟩
   exact setReg_kept (with_kept (p:={ personW w o.b with corrupt:=true }) (n:=o.b.toNat) (by exact nm_T hr hU hin) hin ⟨Int.le_refl _,rfl,rfl,fun _=>rfl,⟨[],by simp [personW]⟩,Nat.le_refl _⟩) _ _
  ·exact h0
 ·simp only [cond_false]
  unfold leak7
  cases (decide (o.b < 0) || decide (o.b≥(w.log.length:Int)))
  ·simp only [cond_false]
   cases hg:w.log[o.b.toNat]? with
   | none=>exact h0
   | some e =>
     simp only
     cases (e.kind==2)
     ·exact h0
     ·exact setReg_kept (w:=w) (v:={ w with leaks:=w.leaks++[⟨e.k,(personW w e.b).clock⟩] }) ⟨rfl,rfl,rfl,⟨rfl,rfl⟩,h0.rows,h0.seen,h0.log,⟨_,rfl⟩,h0.ppl,rfl,Int.le_refl _⟩ _ _
  ·exact h0
theorem gone_kept (w:World) (i:Int):Kept w (gone w i):={ Kept.refl w with }
theorem twice_kept (w:World) (i:Int):Kept w (twice w i):={ Kept.refl w with }
theorem tick_up {c b:Int} (hc:U c) (h:c≤1073741824) (hb:0≤b):c≤tickM c (capT b):=by
 have:=hc.1
 unfold tickM capT
 split<;>split<;>omega
theorem stepM_kept {w:World} {N:Nat} (hw:w.fit N) (h:w.form) (o:Op):Kept w (stepM w o).1:=by
 have h0:=Kept.refl w
 unfold stepM
 cases isAdv o
 rotate_left 1
 ·exact advM_kept hw h.right o
 simp only [cond_false]
 cases (o.kind==8)
 rotate_left 1
 ·unfold tick8
  cases ha:(decide (o.a < 0) || decide (o.a≥(w.people.length:Int)))
  ·simp only [cond_true,cond_false]
   cases hb:decide (o.b < 0)
   ·simp only [Bool.or_eq_false_iff,decide_eq_false_iff_not] at ha
    have hin:o.a.toNat < w.people.length:=by omega
    have hU:U o.a:=⟨by omega,by have:=(right_len h.right).2;omega⟩
    have hk:=okP_get h (n:=o.a) hin
    simp only [okP,Bool.and_eq_true] at hk
    exact with_kept (p:={ personW w o.a with clock:=tickM (personW w o.a).clock (capT o.b) }) (n:=o.a.toNat) (by exact nm_T h.right hU hin) hin ⟨tick_up (personW_ok hw o.a).2.2.1 (of_decide_eq_true hk.2) (by have:=of_decide_eq_false hb;omega),rfl,rfl,id,⟨[],by simp [personW]⟩,Nat.le_refl _⟩
   ·exact h0
  ·exact h0
 simp only [cond_false]
 cases (o.kind==9 || o.kind==10)
 rotate_left 1
 ·unfold begin9
  cases hb:(nameB o.a && nameB o.b)
  ·exact h0
  ·rw [Bool.and_eq_true] at hb
   simp only [cond_true]
   cases (o.kind==9)
   ·exact startO_kept h.right (nameB_U hb.1)
   ·exact startN_kept h.right (nameB_U hb.1)
 simp only [cond_false]
 cases (o.kind==11)
 rotate_left 1
 ·unfold deliver11
  cases inNet w o.a
  ·exact h0
  ·exact (gone_kept w o.a).trans (deliverM_kept h.right (gramAt_ok hw o.a).1.1)
 simp only [cond_false]
 cases (o.kind==12)
 rotate_left 1
 ·unfold drop12
  cases inNet w o.a
  ·exact h0
  ·exact gone_kept w o.a
 simp only [cond_false]
 cases (o.kind==13)
 rotate_left 1
 ·unfold double13
  cases inNet w o.a
  ·exact h0
  ·simp only [cond_true]
   cases hd:decide (w.net.room - (w.net.grams.length:Int) < 1)
   ·exact twice_kept w o.a
   ·exact h0
 simp only [cond_false]
 cases (o.kind==14)
 ·exact h0
 ·unfold inject14
  simp only [cond_true]
  cases hr:regM w o.a with
  | none=>exact h0
  | some l =>
    simp only
    cases hb:nameB o.b
    ·exact h0
    ·exact deliverM_kept h.right (nameB_U hb)
theorem deliverM_next {w:World} {to:Int} {l:List Int} (h:w.form) (ht:U to):(deliverM w to l).1.draws.next≤w.draws.next + 3:=by
 by_cases he:(deliverM w to l).2=0
 ·obtain ⟨k,sl,gs,p,e,T⟩:=deliverM_took h ht he
  rw [T.eq];have:=T.k3;show w.draws.next + k≤_;omega
 ·rw [deliverM_err he];omega
theorem startN_next {w:World} {a b:Int} (h:w.form) (ha:U a):(startN w a b).1.draws.next≤w.draws.next + 3:=by
 by_cases he:(startN w a b).2=0
 ·obtain ⟨_,_,e⟩:=startN_T h.right ha he
  rw [e];show w.draws.next + 1≤_;omega
 ·rw [startN_err he];omega
theorem startO_next {w:World} {a b:Int} (h:w.form) (ha:U a):(startO w a b).1.draws.next≤w.draws.next + 3:=by
 by_cases he:(startO w a b).2=0
 ·obtain ⟨_,_,_,e⟩:=startO_T h.right ha he
  rw [e];show w.draws.next + 3≤_;omega
 ·rw [startO_err he];omega
theorem advM_next (w:World) (o:Op):(advM w o).1.draws.next≤w.draws.next + 3:=by
 have hz:w.draws.next≤w.draws.next + 3:=by omega
 unfold advM
 cases (isAdv o && (regM w o.a).isSome)
 ·exact hz
 simp only [cond_true]
 cases (o.kind==0)
 rotate_left 1
 ·unfold lit0;cases decide ((o.words.length:Int) > 64)<;>exact hz
 simp only [cond_false]
 cases (o.kind==1)
 rotate_left 1
 ·unfold seen1
  cases (decide (o.b < 0) || decide (o.b≥(w.net.seen.length:Int)))
  ·simp only [cond_true,cond_false]
   cases cutM ((w.net.seen[o.b.toNat]?).getD []) o.c o.d<;>exact hz
  ·exact hz
 simp only [cond_false]
 cases (o.kind==2)
 rotate_left 1
 ·unfold cut2
  simp only [cond_true]
  cases regM w o.b with
  | none=>exact hz
  | some s=>simp only;cases cutM s o.c o.d<;>exact hz
 simp only [cond_false]
 cases (o.kind==3)
 rotate_left 1
 ·unfold cat3
  simp only [cond_true]
  cases regM w o.b with
  | none=>exact hz
  | some x =>
    cases regM w o.c with
    | none=>exact hz
    | some y=>simp only;cases decide ((x.length:Int) + (y.length:Int) > 64)<;>exact hz
 simp only [cond_false]
 cases (o.kind==4)
 rotate_left 1
 ·unfold seal4
  simp only [cond_true]
  cases firstM w o.b with
  | none=>exact hz
  | some x =>
    cases firstM w o.c with
    | none=>exact hz
    | some y =>
      cases regM w o.d with
      | none=>exact hz
      | some z =>
        simp only
        cases ((boxSeal w.box (drawW w).2 x y z).2==0)
        ·exact hz
        ·show w.draws.next + 1≤_;omega
 simp only [cond_false]
 cases (o.kind==5)
 rotate_left 1
 ·unfold open5
  simp only [cond_true]
  cases firstM w o.b with
  | none=>exact hz
  | some x =>
    cases firstM w o.c with
    | none=>exact hz
    | some y =>
      cases firstM w o.d with
      | none=>exact hz
      | some z=>simp only;cases boxOpen w.box x y z<;>exact hz
 simp only [cond_false]
 cases (o.kind==6)
 rotate_left 1
 ·unfold corrupt6;cases (decide (o.b < 1) || decide (o.b≥(w.people.length:Int)))<;>exact hz
 ·simp only [cond_false]
  unfold leak7
  cases (decide (o.b < 0) || decide (o.b≥(w.log.length:Int)))
  ·simp only [cond_false]
   cases w.log[o.b.toNat]? with
   | none=>exact hz
   | some e=>simp only;cases (e.kind==2)<;>exact hz
  ·exact hz
theorem stepM_next {w:World} {N:Nat} (hw:w.fit N) (h:w.form) (o:Op):(stepM w o).1.draws.next≤w.draws.next + 3:=by
 have hz:w.draws.next≤w.draws.next + 3:=by omega
 unfold stepM
 cases isAdv o
 rotate_left 1
 ·exact advM_next w o
 simp only [cond_false]
 cases (o.kind==8)
 rotate_left 1
 ·unfold tick8
  cases (decide (o.a < 0) || decide (o.a≥(w.people.length:Int)))
  ·simp only [cond_true,cond_false];cases decide (o.b < 0)<;>exact hz
  ·exact hz
 simp only [cond_false]
 cases (o.kind==9 || o.kind==10)
 rotate_left 1
 ·unfold begin9
  cases hb:(nameB o.a && nameB o.b)
  ·exact hz
  ·rw [Bool.and_eq_true] at hb
   simp only [cond_true]
   cases (o.kind==9)
   ·exact startO_next h (nameB_U hb.1)
   ·exact startN_next h (nameB_U hb.1)
 simp only [cond_false]
 cases (o.kind==11)
 rotate_left 1
 ·unfold deliver11
  cases inNet w o.a
  ·exact hz
  ·exact deliverM_next (gone_form h o.a) (gramAt_ok hw o.a).1.1
 simp only [cond_false]
 cases (o.kind==12)
 rotate_left 1
 ·unfold drop12;cases inNet w o.a<;>exact hz
 simp only [cond_false]
 cases (o.kind==13)
 rotate_left 1
 ·unfold double13
  cases inNet w o.a
  ·exact hz
  ·simp only [cond_true];cases decide (w.net.room - (w.net.grams.length:Int) < 1)<;>exact hz
 simp only [cond_false]
 cases (o.kind==14)
 ·exact hz
 ·unfold inject14
  simp only [cond_true]
  cases regM w o.a with
  | none=>exact hz
  | some l =>
    simp only
    cases hb:nameB o.b
    ·exact hz
    ·exact deliverM_next h (nameB_U hb)
theorem run_inv:∀ (l:List Op) (w:World) (N:Nat),w.fit N→w.form→(∀ o∈l,o.ok)→64≤N→w.draws.next + 3 * l.length≤1048576→N + 5 * l.length≤400000000000 →
 (runM w l).1.fit (N + 5 * l.length)∧(runM w l).1.form∧Kept w (runM w l).1∧(runM w l).1.draws.next≤w.draws.next + 3 * l.length
 | [],w,N,hw,hf,_,_,_,_=>⟨show w.fit (N + 5 * 0) from hw,hf,Kept.refl w,show w.draws.next≤w.draws.next + 3 * ((0:Nat):Int) by omega⟩
 | o::l,w,N,hw,hf,ho,h5,hn,hN=>by
   simp only [List.length_cons] at hn hN
   have h1:=stepM_fit hw h5 (by omega) (ho o (List.mem_cons_self))
   have h2:=stepM_form hw hf (by omega) o
   have h3:=stepM_kept hw hf o
   have h4:=stepM_next hw hf o
   obtain ⟨k1,k2,k3,k4⟩:=run_inv l (stepM w o).1 (N + 5) h1 h2 (fun x hx=>ho x (List.mem_cons_of_mem _ hx)) (by omega) (by omega) (by omega)
   refine ⟨?_,k2,h3.trans k3,?_⟩
   ·have e:N + 5 * (o::l).length=N + 5 + 5 * l.length:=by simp only [List.length_cons];omega
    rw [e];exact k1
   ·show (runM (stepM w o).1 l).1.draws.next≤_
    simp only [List.length_cons];omega
theorem regM_none {w:World} {i:Int} (h:(decide (i < 0) || decide (i≥(w.regs.length:Int)))=true):regM w i=none:=by unfold regM;rw [h];rfl
theorem regM_at {w:World} {i:Nat} (h:i < w.regs.length):regM w i=some w.regs[i]:=by
 unfold regM
 rw [show (decide ((i:Int) < 0) || decide ((i:Int)≥(w.regs.length:Int)))=false by rw [Bool.or_eq_false_iff];exact ⟨decide_eq_false (by omega),decide_eq_false (by omega)⟩,cond_false,Int.toNat_natCast,List.getElem?_eq_getElem h,Option.getD_some]
end Ch
