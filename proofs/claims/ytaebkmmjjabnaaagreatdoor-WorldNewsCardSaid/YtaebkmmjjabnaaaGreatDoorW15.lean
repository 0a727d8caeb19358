import Derived.Test.YtaebkmmjjabnaaaGreatDoorW14
set_option maxRecDepth 100000
set_option maxHeartbeats 4000000
set_option linter.unusedSimpArgs false
set_option linter.unusedVariables false
namespace Ch
open Go Go.Ab Go.Proofs.Tryz
theorem okMapA {α:Type} {f:α→V} {sz:Nat} (l:List α) (xs:List V) (h:∀ a,okE sz (f a)=true) (hx:xs.all (okE sz)=true) {p:Bool} (hp:p=true):((l.map f++xs).all (okE sz) && p)=true:=by
 rw [List.all_append,hx,hp,Bool.and_true,Bool.and_true,List.all_eq_true]
 intro x hx;obtain ⟨a,_,rfl⟩:=List.mem_map.1 hx;exact h a
def zSld:Sld:=⟨0,0,0,[]⟩
theorem idxP_find {α:Type} (p:α→Bool) (l:List α):(idxP p l = -1∧l.find? p=none) ∨ ∃ i,∃ h:i < l.length,idxP p l=i∧l.find? p=some l[i]:=by
 rcases idxP_cases p l with ⟨h1,h2⟩|⟨i,h,h1,h2,h3⟩
 ·exact .inl ⟨h1,by rw [List.find?_eq_none];intro x hx;have:=List.any_eq_false.1 h2 x hx;simpa using this⟩
 ·refine .inr ⟨i,h,h1,?_⟩
  have e:l=l.take i++l.drop i:=(List.take_append_drop i l).symm
  conv=>lhs;rw [e]
  rw [List.find?_append,List.find?_eq_none.2 (by intro x hx;have:=List.any_eq_false.1 h2 x hx;simpa using this),Option.none_or,List.drop_eq_getElem_cons h,List.find?_cons,h3]
theorem find_spec (b:Box) (h:Int) (hl:b.rows.length≤1099511627776):Spec PP GG 237 [b.v,u32 h] (.tup [((boxFind b h).getD zSld).v,.bool (boxFind b h).isSome]) []:=by
 refine Qs func237 ?_
 intro w0 M0
 simp only [f237,lf,z,seval]
 have hc:∀ s∈b.rows,PureFn PP GG (.fn (.func 259) [] [.ptr 1 0]) [.var [i64 b.room,.sl (b.rows.map Sld.v) .plain],.var [u32 h],.var [u32 0,u32 0,u32 0,.sl [] .nil]] [s.v] (.bool (s.handle==h)):=by
  intro s hs
  refine PureFn.of (fn:=f259) func259 rfl (by kernel_rfl) rfl rfl ?_
  intro w0 M0 R dst all l' k fr st h1 h2
  simp only [f259,lf,z,seval]
  exact RUNs_pure h1 h2 rfl rfl (he:=rfl)
 refine PureFn.use (IndexFuncSealed_pure b.rows (fun s=>s.handle==h) _ _ hl rfl rfl hc) (hR:=?_)
 simp only [z,seval]
 rcases idxP_find (fun s:Sld=>s.handle==h) b.rows with ⟨e1,e2⟩|⟨i,hi,e1,e2⟩
 ·have e3:boxFind b h=none:=e2
  simp only [e1,z,seval]
  (refine Qf ?_;simp only [z,seval])
  rw [e3];rfl
 ·have e3:boxFind b h=some b.rows[i]:=e2
  have hn:decide ((i:Int) < 0)=false:=by simp
  simp only [e1,hn,getMap Sld.v b.rows hi,z,seval]
  (refine Qf ?_;simp only [z,seval])
  rw [e3];rfl
theorem bFree_spec (b:Box) (hr:0≤b.room∧b.room≤1099511627776) (hl:b.rows.length≤1099511627776):Spec PP GG 146 [b.v] (i64 (b.room - b.rows.length)) []:=by
 refine Qs func146 ?_
 intro w0 M0
 simp only [f146,lf,z,seval]
 simp only [w64 (n:=b.room - b.rows.length) (by omega) (by omega),z,seval]
 (refine Qf ?_;simp only [z,seval])
theorem bSeal_spec (b:Box) (hh key label:Int) (plain:List Int) (hr:0≤b.room∧b.room≤1099511627776) (hl:b.rows.length≤1000000000000) (hp:plain.length≤1099511627776):Spec PP GG 213 [b.v,u32 hh,u32 key,u32 label,wordsV plain] (.tup [(boxSeal b hh key label plain).1.v,i64 (boxSeal b hh key label plain).2]) []:=by
 refine Qs func213 ?_
 intro w0 M0
 simp only [f213,lf,z,seval]
 repeat' (first|(refine CU (find_spec b hh (by omega)) (h:=?_);simp only [z,seval])|(refine CU (bFree_spec b hr (by omega)) (h:=?_);simp only [z,seval])|((first|refine brk (fun h=>?_) (fun h=>?_)|fail)<;>simp only [h,z,seval]))
 all_goals try ((refine Qf ?_;simp only [z,seval]);(first|(simp only [boxSeal, *,cond_true,cond_false,Bool.true_and,Bool.and_true,Bool.false_and,Bool.and_false,Bool.true_or,Bool.or_true,Bool.false_or,Bool.or_false,Bool.not_true,Bool.not_false,beq_self_eq_true,Option.getD_some,Option.getD_none,Option.isSome_some,Option.isSome_none,List.map_nil];done)|(simp only [boxSeal, *,cond_true,cond_false,Bool.true_and,Bool.and_true,Bool.false_and,Bool.and_false,Bool.true_or,Bool.or_true,Bool.false_or,Bool.or_false,Bool.not_true,Bool.not_false,beq_self_eq_true,Option.getD_some,Option.getD_none,Option.isSome_some,Option.isSome_none,List.map_nil];rfl)|(simp [boxSeal, *];done)|(simp_all [boxSeal];done));done)
 (refine CU (CloneW_fz plain hp) (h:=?_);simp only [z,seval])
 (refine CU (ConcatSealed_2 b.rows [⟨hh,key,label,plain⟩] (by simp;omega)) (h:=?_);simp only [z,seval])
 (refine Qf ?_;simp only [z,seval])
 (first|(simp only [boxSeal, *,cond_true,cond_false,Bool.true_and,Bool.and_true,Bool.false_and,Bool.and_false,Bool.true_or,Bool.or_true,Bool.false_or,Bool.or_false,Bool.not_true,Bool.not_false,beq_self_eq_true,Option.getD_some,Option.getD_none,Option.isSome_some,Option.isSome_none,List.map_nil];done)|(simp only [boxSeal, *,cond_true,cond_false,Bool.true_and,Bool.and_true,Bool.false_and,Bool.and_false,Bool.true_or,Bool.or_true,Bool.false_or,Bool.or_false,Bool.not_true,Bool.not_false,beq_self_eq_true,Option.getD_some,Option.getD_none,Option.isSome_some,Option.isSome_none,List.map_nil];rfl)|(simp [boxSeal, *];done)|(simp_all [boxSeal];done))
theorem bOpen_spec (b:Box) (key label hh:Int) (hl:b.rows.length≤1099511627776) (hp:∀ s∈b.rows,s.plain.length≤1099511627776):Spec PP GG 214 [b.v,u32 key,u32 label,u32 hh] (.tup [wordsV ((boxOpen b key label hh).getD []),.bool (boxOpen b key label hh).isSome]) []:=by
 refine Qs func214 ?_
 intro w0 M0
 simp only [f214,lf,z,seval]
 (refine CU (find_spec b hh hl) (h:=?_);simp only [z,seval])
 cases hf:boxFind b hh with
 | none =>
   simp only [hf,Option.isSome_none,Option.getD_none,zSld,z,seval]
   (refine Qf ?_;simp only [z,seval])
   simp [boxOpen,hf]
 | some s =>
   have hs:s∈b.rows:=List.mem_of_find?_eq_some hf
   have hm:boxOpen b key label hh=bif s.key==key && s.label==label then some s.plain else none:=by simp only [boxOpen,hf]
   rw [hm]
   cases h1:(s.key==key)<;>cases h2:(s.label==label)
   all_goals
    simp only [hf,h1,h2,Option.isSome_some,Option.getD_some,Option.isSome_none,Option.getD_none,Bool.and_true,Bool.and_false,cond_true,cond_false,List.map_nil,z,seval]
    try (refine CU (CloneW_fz s.plain (hp s hs)) (h:=?_);simp only [z,seval])
    (refine Qf ?_;simp only [z,seval])
theorem nFree_spec (n:Net) (hr:0≤n.room∧n.room≤1099511627776) (hl:n.grams.length≤1099511627776):Spec PP GG 147 [n.v] (i64 (n.room - n.grams.length)) []:=by
 refine Qs func147 ?_
 intro w0 M0
 simp only [f147,lf,z,seval]
 simp only [w64 (n:=n.room - n.grams.length) (by omega) (by omega),z,seval]
 (refine Qf ?_;simp only [z,seval])
theorem nWith_spec (n:Net) (g:Gram) (hl:n.grams.length≤1000000000000):Spec PP GG 228 [n.v,g.v] (Net.v ⟨n.room,n.grams++[g],n.seen⟩) []:=by
 refine Qs func228 ?_
 intro w0 M0
 simp only [f228,lf,z,seval]
 (refine Qw 1 ?_;simp only [z,seval])
 refine DOC_ok (by simp [slcB,lenE',Gram.v,V.cells]) ?_
 simp only [List.take_length,z,seval]
 refine DOC_ok (okMapA _ _ (fun a=>rfl) rfl (by simp;omega)) ?_
 simp only [z,seval]
 (refine ⟨by kernel_rfl,?_⟩)
 have e:n.grams.map Gram.v++[Gram.v g]=(n.grams++[g]).map Gram.v:=by simp
 simp only [mv] at e
 simp only [e,z,seval]
 (refine Qf ?_;simp only [z,seval])
theorem uMay_spec (l:List Int) (room w:Int) (hl:l.length≤1099511627776):Spec PP GG 291 [wordsV l,i64 room,u32 w] (i64 (usedMay l room w)) []:=by
 refine Qs func291 ?_
 intro w0 M0
 simp only [f291,lf,z,seval]
 repeat' (first|(refine CU (Contains_spec l w hl) (h:=?_);simp only [z,seval])|((first|refine brk (fun h=>?_) (fun h=>?_)|fail)<;>simp only [h,z,seval]))
 all_goals (refine Qf ?_;simp only [z,seval])
 all_goals (first|(simp only [usedMay, *,cond_true,cond_false,Bool.true_and,Bool.and_true,Bool.false_and,Bool.and_false,Bool.true_or,Bool.or_true,Bool.false_or,Bool.or_false,Bool.not_true,Bool.not_false,beq_self_eq_true,Option.getD_some,Option.getD_none,Option.isSome_some,Option.isSome_none,List.map_nil];done)|(simp only [usedMay, *,cond_true,cond_false,Bool.true_and,Bool.and_true,Bool.false_and,Bool.and_false,Bool.true_or,Bool.or_true,Bool.false_or,Bool.or_false,Bool.not_true,Bool.not_false,beq_self_eq_true,Option.getD_some,Option.getD_none,Option.isSome_some,Option.isSome_none,List.map_nil];rfl)|(simp [usedMay, *];done)|(simp_all [usedMay];done))
theorem uNote_spec (l:List Int) (room w:Int) (hl:l.length≤1000000000000):Spec PP GG 273 [wordsV l,i64 room,u32 w] (.tup [wordsV (usedNote l room w).1,i64 (usedNote l room w).2]) []:=by
 refine Qs func273 ?_
 intro w0 M0
 simp only [f273,lf,z,seval]
 (refine CU (uMay_spec l room w (by omega)) (h:=?_);simp only [z,seval])
 first|refine brk (fun h=>?_) (fun h=>?_)|fail
 ·simp only [h,z,seval]
  (refine CU (ConcatW_2 l [w] (by simp;omega)) (h:=?_);simp only [z,seval])
  (refine Qf ?_;simp only [z,seval])
  (first|(simp only [usedNote, *,cond_true,cond_false,Bool.true_and,Bool.and_true,Bool.false_and,Bool.and_false,Bool.true_or,Bool.or_true,Bool.false_or,Bool.or_false,Bool.not_true,Bool.not_false,beq_self_eq_true,Option.getD_some,Option.getD_none,Option.isSome_some,Option.isSome_none,List.map_nil];done)|(simp only [usedNote, *,cond_true,cond_false,Bool.true_and,Bool.and_true,Bool.false_and,Bool.and_false,Bool.true_or,Bool.or_true,Bool.false_or,Bool.or_false,Bool.not_true,Bool.not_false,beq_self_eq_true,Option.getD_some,Option.getD_none,Option.isSome_some,Option.isSome_none,List.map_nil];rfl)|(simp [usedNote, *];done)|(simp_all [usedNote];done))
 ·simp only [h,z,seval]
  (refine Qf ?_;simp only [z,seval])
  (first|(simp only [usedNote, *,cond_true,cond_false,Bool.true_and,Bool.and_true,Bool.false_and,Bool.and_false,Bool.true_or,Bool.or_true,Bool.false_or,Bool.or_false,Bool.not_true,Bool.not_false,beq_self_eq_true,Option.getD_some,Option.getD_none,Option.isSome_some,Option.isSome_none,List.map_nil];done)|(simp only [usedNote, *,cond_true,cond_false,Bool.true_and,Bool.and_true,Bool.false_and,Bool.and_false,Bool.true_or,Bool.or_true,Bool.false_or,Bool.or_false,Bool.not_true,Bool.not_false,beq_self_eq_true,Option.getD_some,Option.getD_none,Option.isSome_some,Option.isSome_none,List.map_nil];rfl)|(simp [usedNote, *];done)|(simp_all [usedNote];done))
theorem nSend_spec (n:Net) (g:Gram) (hr:0≤n.room∧n.room≤1099511627776) (hl:n.grams.length≤1000000000000) (hs:n.seen.length≤1000000000000):Spec PP GG 221 [n.v,g.v] (.tup [(netSend n g).1.v,i64 (netSend n g).2]) []:=by
 refine Qs func221 ?_
 intro w0 M0
 simp only [f221,lf,z,seval]
 (refine CU (nFree_spec n hr (by omega)) (h:=?_);simp only [z,seval])
 cases hb:decide (n.room - (n.grams.length:Int) < 1) with
 | true =>
   simp only [hb,z,seval]
   (refine Qf ?_;simp only [z,seval])
   (first|(simp only [netSend, *,cond_true,cond_false,Bool.true_and,Bool.and_true,Bool.false_and,Bool.and_false,Bool.true_or,Bool.or_true,Bool.false_or,Bool.or_false,Bool.not_true,Bool.not_false,beq_self_eq_true,Option.getD_some,Option.getD_none,Option.isSome_some,Option.isSome_none,List.map_nil];done)|(simp only [netSend, *,cond_true,cond_false,Bool.true_and,Bool.and_true,Bool.false_and,Bool.and_false,Bool.true_or,Bool.or_true,Bool.false_or,Bool.or_false,Bool.not_true,Bool.not_false,beq_self_eq_true,Option.getD_some,Option.getD_none,Option.isSome_some,Option.isSome_none,List.map_nil];rfl)|(simp [netSend, *];done)|(simp_all [netSend];done))
 | false =>
   simp only [hb,z,seval]
   (refine CU (nWith_spec n g hl) (h:=?_);simp only [z,seval])
   (refine CU (ConcatR_2 n.seen [g.words] (by simp;omega)) (h:=?_);simp only [z,seval])
   (refine Qf ?_;simp only [z,seval])
   (first|(simp only [netSend, *,cond_true,cond_false,Bool.true_and,Bool.and_true,Bool.false_and,Bool.and_false,Bool.true_or,Bool.or_true,Bool.false_or,Bool.or_false,Bool.not_true,Bool.not_false,beq_self_eq_true,Option.getD_some,Option.getD_none,Option.isSome_some,Option.isSome_none,List.map_nil];done)|(simp only [netSend, *,cond_true,cond_false,Bool.true_and,Bool.and_true,Bool.false_and,Bool.and_false,Bool.true_or,Bool.or_true,Bool.false_or,Bool.or_false,Bool.not_true,Bool.not_false,beq_self_eq_true,Option.getD_some,Option.getD_none,Option.isSome_some,Option.isSome_none,List.map_nil];rfl)|(simp [netSend, *];done)|(simp_all [netSend];done))
theorem pPair_spec (l:List Person) (a b:Int) (ha:U a) (hb:U b) (hl:l.length≤1099511627776):Spec PP GG 84 [peopleV l,u32 a,u32 b] (.bool (pairM l a b)) []:=by
 obtain ⟨a,rfl⟩:=Int.eq_ofNat_of_zero_le ha.1
 obtain ⟨b,rfl⟩:=Int.eq_ofNat_of_zero_le hb.1
 have ha2:=ha.2;have hb2:=hb.2
 refine Qs func84 ?_
 intro w0 M0
 simp only [f84,lf,z,seval]
 repeat' (first|(refine CU (in_spec l a (by omega) hl) (h:=?_);simp only [z,seval])|(refine CU (in_spec l b (by omega) hl) (h:=?_);simp only [z,seval])|((first|refine brk (fun h=>?_) (fun h=>?_)|fail)<;>simp only [h,z,seval]))
 all_goals (refine Qf ?_;simp only [z,seval])
 all_goals (first|(simp only [pairM,Int.toNat_natCast, *,cond_true,cond_false,Bool.true_and,Bool.and_true,Bool.false_and,Bool.and_false,Bool.true_or,Bool.or_true,Bool.false_or,Bool.or_false,Bool.not_true,Bool.not_false,beq_self_eq_true,Option.getD_some,Option.getD_none,Option.isSome_some,Option.isSome_none,List.map_nil];done)|(simp only [pairM,Int.toNat_natCast, *,cond_true,cond_false,Bool.true_and,Bool.and_true,Bool.false_and,Bool.and_false,Bool.true_or,Bool.or_true,Bool.false_or,Bool.or_false,Bool.not_true,Bool.not_false,beq_self_eq_true,Option.getD_some,Option.getD_none,Option.isSome_some,Option.isSome_none,List.map_nil];rfl)|(simp [pairM,Int.toNat_natCast, *];done)|(simp_all [pairM,Int.toNat_natCast];done))
theorem pSet_spec (l:List Person) (p:Person) (hp:U p.name) (hl:l.length≤1099511627776):Spec PP GG 216 [peopleV l,p.v] (.tup [peopleV (setM l p).1,i64 (setM l p).2]) []:=by
 obtain ⟨nm,key,clock,used,runs,cor⟩:=p
 obtain ⟨nm,rfl⟩:=Int.eq_ofNat_of_zero_le hp.1
 have hp2:=hp.2
 refine Qs func216 ?_
 intro w0 M0
 simp only [f216,lf,z,seval]
 (refine CU (in_spec l nm (by simp only at hp2;omega) hl) (h:=?_);simp only [z,seval])
 first|refine brk (fun h=>?_) (fun h=>?_)|fail
 ·simp only [h,z,seval]
  have hlt:nm < l.length:=of_decide_eq_true h
  (refine CH (ClonePerson_spec l hl) (h:=?_);simp only [z,seval])
  simp only [hlt,getMap Person.v l hlt,if_true,z,seval]
  have e:(l.map Person.v).set nm (Person.v ⟨nm,key,clock,used,runs,cor⟩)=(l.set nm ⟨nm,key,clock,used,runs,cor⟩).map Person.v:=by rw [List.map_set]
  simp only [mv] at e
  simp only [e,z,seval]
  (refine Qf ?_;simp only [z,seval])
  (first|(simp only [setM,Int.toNat_natCast, *,cond_true,cond_false,Bool.true_and,Bool.and_true,Bool.false_and,Bool.and_false,Bool.true_or,Bool.or_true,Bool.false_or,Bool.or_false,Bool.not_true,Bool.not_false,beq_self_eq_true,Option.getD_some,Option.getD_none,Option.isSome_some,Option.isSome_none,List.map_nil];done)|(simp only [setM,Int.toNat_natCast, *,cond_true,cond_false,Bool.true_and,Bool.and_true,Bool.false_and,Bool.and_false,Bool.true_or,Bool.or_true,Bool.false_or,Bool.or_false,Bool.not_true,Bool.not_false,beq_self_eq_true,Option.getD_some,Option.getD_none,Option.isSome_some,Option.isSome_none,List.map_nil];rfl)|(simp [setM,Int.toNat_natCast, *];done)|(simp_all [setM,Int.toNat_natCast];done))
 ·simp only [h,z,seval]
  (refine Qf ?_;simp only [z,seval])
  (first|(simp only [setM,Int.toNat_natCast, *,cond_true,cond_false,Bool.true_and,Bool.and_true,Bool.false_and,Bool.and_false,Bool.true_or,Bool.or_true,Bool.false_or,Bool.or_false,Bool.not_true,Bool.not_false,beq_self_eq_true,Option.getD_some,Option.getD_none,Option.isSome_some,Option.isSome_none,List.map_nil];done)|(simp only [setM,Int.toNat_natCast, *,cond_true,cond_false,Bool.true_and,Bool.and_true,Bool.false_and,Bool.and_false,Bool.true_or,Bool.or_true,Bool.false_or,Bool.or_false,Bool.not_true,Bool.not_false,beq_self_eq_true,Option.getD_some,Option.getD_none,Option.isSome_some,Option.isSome_none,List.map_nil];rfl)|(simp [setM,Int.toNat_natCast, *];done)|(simp_all [setM,Int.toNat_natCast];done))
structure World.fit (w:World) (N:Nat):Prop where
 ok:w.ok
 next0:0≤w.draws.next
 nextN:w.draws.next≤N
 broom:0≤w.box.room∧w.box.room≤1099511627776
 nroom:0≤w.net.room∧w.net.room≤1099511627776
 list:w.draws.list.length≤N
 rows:w.box.rows.length≤N
 plain:∀ s∈w.box.rows,s.plain.length≤N
 grams:w.net.grams.length≤N
 words:∀ g∈w.net.grams,g.words.length≤N
 seen:w.net.seen.length≤N
 seens:∀ l∈w.net.seen,l.length≤N
 people:w.people.length≤N
 used:∀ p∈w.people,p.used.length≤N
 runs:∀ p∈w.people,p.runs.length≤N
 log:w.log.length≤N
 regs:w.regs.length≤N
 reg:∀ l∈w.regs,l.length≤N
 leaks:w.leaks.length≤N
theorem World.fit.ulist {w:World} {N:Nat} (h:w.fit N):∀ x∈w.draws.list,U x:=h.ok.2.1.1.2
theorem LL.app {α:Type} {p:α→Prop} {l:List α} {x:α} {N:Nat} (h:LL p l) (hl:l.length≤N) (hN:N≤1000000000000) (hx:p x):LL p (l++[x]) :=
 ⟨by simp;omega,fun y hy=>by
   rcases List.mem_append.1 hy with h1|h1
   ·exact h.2 y h1
   ·simp only [List.mem_singleton] at h1;subst h1;exact hx⟩
theorem LL.set {α:Type} {p:α→Prop} {l:List α} {x:α} (h:LL p l) (n:Nat) (hx:p x):LL p (l.set n x) :=
 ⟨by rw [List.length_set];exact h.1,fun y hy=>by
   rcases List.mem_or_eq_of_mem_set hy with h1|rfl
   ·exact h.2 y h1
   ·exact hx⟩
theorem drawAt_U {l:List Int} (hl:∀ x∈l,U x) (i:Nat):U (drawAt l i):=by
 unfold drawAt
 have hw:∀ x:Int,U (IntKind.u32.wrap x):=fun x=>by rw [IntKind.wrap_u32];exact ⟨by omega,by omega⟩
 cases h:l[i]? with
 | none =>
   simp only
   split
   ·exact hw _
   ·exact ⟨by simp only [dflt,orI,IntKind.wrap_u32];omega,by simp only [dflt,orI,IntKind.wrap_u32];omega⟩
 | some x =>
   simp only
   split
   ·exact hw _
   ·exact hl x (List.mem_of_getElem? h)
theorem World.fit.mono {w:World} {N M:Nat} (h:w.fit N) (hM:N≤M):w.fit M :=
 ⟨h.ok,h.next0,by have:=h.nextN;omega,h.broom,h.nroom,Nat.le_trans h.list hM,Nat.le_trans h.rows hM,fun s hs=>Nat.le_trans (h.plain s hs) hM,Nat.le_trans h.grams hM,fun s hs=>Nat.le_trans (h.words s hs) hM,Nat.le_trans h.seen hM,fun s hs=>Nat.le_trans (h.seens s hs) hM,Nat.le_trans h.people hM,
   fun s hs=>Nat.le_trans (h.used s hs) hM,fun s hs=>Nat.le_trans (h.runs s hs) hM,Nat.le_trans h.log hM,Nat.le_trans h.regs hM,fun s hs=>Nat.le_trans (h.reg s hs) hM,Nat.le_trans h.leaks hM⟩
theorem fit_draw {w:World} {N:Nat} (h:w.fit N) (hN:N≤500000000000):(drawW w).1.fit (N + 1):=by
 have h':=h.mono (Nat.le_succ N)
 exact { h' with ok:=⟨h.ok.1,⟨h.ok.2.1.1,⟨by have:=h.next0;show _≤w.draws.next + 1;omega,by have:=h.nextN;show w.draws.next + 1≤_;omega⟩⟩,h.ok.2.2⟩,next0:=by show 0≤w.draws.next + 1;have:=h.next0;omega,nextN:=by show w.draws.next + 1≤_;have:=h.nextN;omega }
theorem partWs_len (label:Int) (p:Part):(partWs label p).length≤5:=by
 unfold partWs
 cases (label==2)<;>cases (label==3)<;>cases (label==4 || label==5)<;>cases (label==6 || label==7)<;>cases (label==8 || label==9)<;>simp
theorem partPut_len (label:Int) (p:Part):(partPut label p).1.length≤5:=by
 unfold partPut
 cases (label? label && eqPart p (partRd label (partWs label p)))
 ·simp
 ·exact partWs_len label p
theorem fit_box {w:World} {N:Nat} (h:w.fit N) (hN:N≤500000000000) {hh key label:Int} {l:List Int} (h1:U hh) (h2:U key) (h3:U label) (h4:∀ x∈l,U x) (hl:l.length≤N + 1):({ w with box:=(boxSeal w.box hh key label l).1 }:World).fit (N + 1):=by
 have h':=h.mono (Nat.le_succ N)
 unfold boxSeal
 cases decide ((l.length:Int) > 64)
 ·cases (boxFind w.box hh).isSome
  ·cases decide (w.box.room - w.box.rows.length < 1)
   ·exact { h' with
     ok:=⟨h.ok.1,h.ok.2.1,⟨h.ok.2.2.1.1,LL.app h.ok.2.2.1.2 h.rows (by omega) ⟨h1,h2,h3,by show l.length≤_;omega,h4⟩⟩,h.ok.2.2.2⟩
     rows:=by show (w.box.rows++_).length≤_;have:=h.rows;simp;omega
     plain:=fun s hs=>by
      rcases List.mem_append.1 hs with hs|hs
      ·exact h'.plain s hs
      ·simp only [List.mem_singleton] at hs;subst hs;exact hl }
   ·exact h'
  ·exact h'
 ·exact h'
theorem partWs_U {label:Int} {p:Part} (h:p.ok):∀ x∈partWs label p,U x:=by
 obtain ⟨h1,h2,h3,h4,h5,h6,h7⟩:=h
 unfold partWs
 cases (label==2)<;>cases (label==3)<;>cases (label==4 || label==5)<;>cases (label==6 || label==7)<;>cases (label==8 || label==9)<;>simp [*]
theorem partPut_U {label:Int} {p:Part} (h:p.ok):∀ x∈(partPut label p).1,U x:=by
 unfold partPut
 cases (label? label && eqPart p (partRd label (partWs label p)))
 ·simp
 ·exact partWs_U h
theorem drawW_U {w:World} {N:Nat} (h:w.fit N):U (drawW w).2:=drawAt_U h.ulist _
theorem sealW_U {w:World} {N:Nat} (h:w.fit N) (key label:Int) (p:Part):U (sealW w key label p).2.1:=by
 unfold sealW
 cases ((partPut label p).2==0)
 ·exact (by decide:U 0)
 ·cases ((boxSeal w.box (drawW w).2 key label (partPut label p).1).2==0)
  ·exact (by decide:U 0)
  ·exact drawW_U h
theorem fit_seal {w:World} {N:Nat} (h:w.fit N) (hN:5≤N) (hM:N≤500000000000) {key label:Int} {p:Part} (hk:U key) (hl:U label) (hp:p.ok):(sealW w key label p).1.fit (N + 1):=by
 unfold sealW
 cases ((partPut label p).2==0)
 ·exact h.mono (Nat.le_succ N)
 ·cases ((boxSeal w.box (drawW w).2 key label (partPut label p).1).2==0)
  ·exact h.mono (Nat.le_succ N)
  ·have h1:=fit_draw h hM
   have h2:=fit_box h hM (hh:=(drawW w).2) (key:=key) (label:=label) (l:=(partPut label p).1) (drawW_U h) hk hl (partPut_U hp) (by have:=partPut_len label p;omega)
   exact { h1 with ok:=⟨h1.ok.1,h1.ok.2.1,h2.ok.2.2.1,h1.ok.2.2.2⟩,broom:=h2.broom,rows:=h2.rows,plain:=h2.plain }
theorem msgWs_len (m:Msg):(msgWs m).length≤21:=by
 simp only [msgWs,tags,List.flatMap_cons,List.flatMap_nil,List.length_cons,List.length_append,List.length_nil]
 have:∀ (c:Bool) (a b d:Int),(bif c then [a,b,d] else []).length≤3:=by intro c a b d;cases c<;>simp
 have h2:=this (hasM m.kind 2) 2 1 (msgWord m 2)
 have h3:=this (hasM m.kind 3) 3 1 (msgWord m 3)
 have h4:=this (hasM m.kind 4) 4 1 (msgWord m 4)
 have h5:=this (hasM m.kind 5) 5 1 (msgWord m 5)
 have h6:=this (hasM m.kind 6) 6 1 (msgWord m 6)
 have h7:=this (hasM m.kind 7) 7 1 (msgWord m 7)
 omega
theorem msgPut_len (m:Msg):(msgPut m).1.length≤21:=by
 unfold msgPut
 cases msgMay m
 ·simp
 ·exact msgWs_len m
theorem msgWord_U {m:Msg} (h:m.ok) (t:Int):U (msgWord m t):=by
 obtain ⟨h1,h2,h3,h4,h5,h6,h7⟩:=h
 unfold msgWord
 cases (t==2)<;>cases (t==3)<;>cases (t==4)<;>cases (t==5)<;>cases (t==6)<;>simp [*]
theorem msgPut_U {m:Msg} (h:m.ok):∀ x∈(msgPut m).1,U x:=by
 unfold msgPut
 cases msgMay m
 ·simp
 ·intro x hx
  simp only [cond_true,msgWs,List.mem_append,List.mem_flatMap] at hx
  rcases hx with hx|⟨t,ht,hx⟩
  ·simp only [List.mem_cons,List.not_mem_nil,or_false] at hx
   rcases hx with rfl|rfl|rfl
   ·decide
   ·decide
   ·exact h.1
  ·cases hM:hasM m.kind t with
   | false=>rw [hM] at hx;simp at hx
   | true =>
     rw [hM] at hx
     simp only [cond_true,List.mem_cons,List.not_mem_nil,or_false] at hx
     rcases hx with rfl|rfl|rfl
     ·have ht':x=2∨x=3∨x=4∨x=5∨x=6∨x=7:=by simpa [tags] using ht
      rcases ht' with rfl|rfl|rfl|rfl|rfl|rfl<;>decide
     ·decide
     ·exact msgWord_U h t
theorem fit_net {w:World} {N:Nat} (h:w.fit N) (hN:N≤500000000000) {g:Gram} (ht:U g.to) (hu:∀ x∈g.words,U x) (hg:g.words.length≤N + 1):({ w with net:=(netSend w.net g).1 }:World).fit (N + 1):=by
 have h':=h.mono (Nat.le_succ N)
 unfold netSend
 cases decide (w.net.room - (w.net.grams.length:Int) < 1)
 ·exact { h' with
   ok:=⟨h.ok.1,h.ok.2.1,h.ok.2.2.1,⟨h.ok.2.2.2.1.1,LL.app h.ok.2.2.2.1.2.1 h.grams (by omega) ⟨ht,by show g.words.length≤_;omega,hu⟩,LL.app h.ok.2.2.2.1.2.2 h.seen (by omega) ⟨by show g.words.length≤_;omega,hu⟩⟩,h.ok.2.2.2.2⟩
   grams:=by show (w.net.grams++[g]).length≤_;have:=h.grams;simp;omega
   words:=fun s hs=>by
    rcases List.mem_append.1 hs with hs|hs
    ·exact h'.words s hs
    ·simp only [List.mem_singleton] at hs;subst hs;exact hg
   seen:=by show (w.net.seen++[g.words]).length≤_;have:=h.seen;simp;omega
   seens:=fun s hs=>by
    rcases List.mem_append.1 hs with hs|hs
    ·exact h'.seens s hs
    ·simp only [List.mem_singleton] at hs;subst hs;exact hg }
 ·exact h'
theorem fit_send {w:World} {N:Nat} (h:w.fit N) (hN:21≤N) (hM:N≤500000000000) {to:Int} {m:Msg} (ht:U to) (hm:m.ok):(sendW w to m).1.fit (N + 1):=by
 unfold sendW
 cases ((msgPut m).2==0)
 ·exact h.mono (Nat.le_succ N)
 ·cases ((netSend w.net ⟨to,(msgPut m).1⟩).2==0)
  ·exact h.mono (Nat.le_succ N)
  ·exact fit_net h hM ht (msgPut_U hm) (by have:=msgPut_len m;show (msgPut m).1.length≤_;omega)
theorem fit_log {w:World} {N:Nat} (h:w.fit N) (hN:N≤500000000000) {e:Event} (he:e.ok):(logW w e).fit (N + 1):=by
 have h':=h.mono (Nat.le_succ N)
 exact { h' with ok:=⟨h.ok.1,h.ok.2.1,h.ok.2.2.1,h.ok.2.2.2.1,h.ok.2.2.2.2.1,LL.app h.ok.2.2.2.2.2.1 h.log (by omega) he,h.ok.2.2.2.2.2.2⟩,log:=by show (w.log++[e]).length≤_;have:=h.log;simp;omega }
theorem setM_len (l:List Person) (p:Person):(setM l p).1.length=l.length:=by
 unfold setM;cases decide (p.name.toNat < l.length)<;>simp
theorem setM_mem {l:List Person} {p q:Person} (h:q∈(setM l p).1):q∈l∨q=p:=by
 unfold setM at h
 cases hd:decide (p.name.toNat < l.length) with
 | false=>rw [hd] at h;exact .inl h
 | true=>rw [hd] at h;exact List.mem_or_eq_of_mem_set h
theorem setM_ok {l:List Person} {p:Person} (h:LL Person.ok l) (hp:p.ok):LL Person.ok (setM l p).1:=by
 unfold setM
 cases decide (p.name.toNat < l.length)
 ·exact h
 ·exact LL.set h _ hp
theorem fit_with {w:World} {N:Nat} (h:w.fit N) {p:Person} (hp:p.ok) (hu:p.used.length≤N) (hr:p.runs.length≤N):(withW w p).fit N :=
 { h with
   ok:=⟨h.ok.1,h.ok.2.1,h.ok.2.2.1,h.ok.2.2.2.1,setM_ok h.ok.2.2.2.2.1 hp,h.ok.2.2.2.2.2⟩
   people:=by show (setM w.people p).1.length≤_;rw [setM_len];exact h.people
   used:=fun q hq=>by
    rcases setM_mem hq with h1|rfl
    ·exact h.used q h1
    ·exact hu
   runs:=fun q hq=>by
    rcases setM_mem hq with h1|rfl
    ·exact h.runs q h1
    ·exact hr }
theorem getP_ok {w:World} {N:Nat} (h:w.fit N) (n:Nat):(getP w.people n).ok:=by
 unfold getP
 cases hn:w.people[n]? with
 | none=>exact ⟨by decide,by decide,by decide,⟨by decide,by simp [zeroP]⟩,⟨by decide,by simp [zeroP]⟩⟩
 | some p=>exact h.ok.2.2.2.2.1.2 p (List.mem_of_getElem? hn)
theorem getP_used {w:World} {N:Nat} (h:w.fit N) (n:Nat):(getP w.people n).used.length≤N:=by
 unfold getP
 cases hn:w.people[n]? with
 | none=>simp [zeroP]
 | some p=>exact h.used p (List.mem_of_getElem? hn)
theorem getP_runs {w:World} {N:Nat} (h:w.fit N) (n:Nat):(getP w.people n).runs.length≤N:=by
 unfold getP
 cases hn:w.people[n]? with
 | none=>simp [zeroP]
 | some p=>exact h.runs p (List.mem_of_getElem? hn)
theorem dTake_spec (d:Draws) (hl:∀ x∈d.list,U x) (h0:0≤d.next) (h1:d.next≤1000000000000):Spec PP GG 217 [d.v] (.tup [Draws.v ⟨d.list,d.next + 1⟩,u32 (drawAt d.list d.next.toNat)]) []:=by
 obtain ⟨l,nx⟩:=d
 obtain ⟨n,rfl⟩:=Int.eq_ofNat_of_zero_le h0
 simp only at h1 hl
 refine Qs func217 ?_
 intro w0 M0
 simp only [f217,lf,z,seval]
 have hA:=at_specU ⟨l,n⟩ hl n
 simp only [mv] at hA
 (refine CU hA (h:=?_);simp only [z,seval])
 simp only [w64 (n:=(n:Int) + 1) (by omega) (by omega),Int.toNat_natCast,z,seval]
 (refine Qf ?_;simp only [z,seval])
theorem draw_spec (w:World) {N:Nat} (hw:w.fit N) (hN:N≤500000000000):Spec PP GG 182 [w.v] (.tup [(drawW w).1.v,u32 (drawW w).2]) []:=by
 have hT:=dTake_spec w.draws hw.ulist hw.next0 (by have:=hw.nextN;omega)
 refine Qs func182 ?_
 intro w0 M0
 simp only [f182,lf,z,seval]
 (refine CU hT (h:=?_);simp only [z,seval])
 (refine Qf ?_;simp only [z,seval])
 simp only [drawW]
theorem seal_spec (w:World) {N:Nat} (hw:w.fit N) (hN:N≤500000000000) (key label:Int) (p:Part):Spec PP GG 187 [w.v,u32 key,u32 label,p.v] (.tup [(sealW w key label p).1.v,u32 (sealW w key label p).2.1,i64 (sealW w key label p).2.2]) []:=by
 have hr:=hw.rows
 have hp:=partPut_len label p
 refine Qs func187 ?_
 intro w0 M0
 simp only [f187,lf,z,seval]
 (refine CU (pPut_spec label p) (h:=?_);simp only [z,seval])
 cases h1:((partPut label p).2==0) with
 | false =>
   simp only [h1,z,seval]
   (refine Qf ?_;simp only [z,seval])
   simp only [sealW,h1,cond_false]
 | true =>
   simp only [h1,z,seval]
   (refine CU (draw_spec w hw hN) (h:=?_);simp only [z,seval])
   (refine CU (bSeal_spec w.box (drawW w).2 key label (partPut label p).1 hw.broom (by omega) (by omega)) (h:=?_);simp only [z,seval])
   cases h2:((boxSeal w.box (drawW w).2 key label (partPut label p).1).2==0) with
   | false =>
     simp only [h2,z,seval]
     (refine Qf ?_;simp only [z,seval])
     simp only [sealW,h1,h2,cond_true,cond_false]
   | true =>
     simp only [h2,z,seval]
     (refine Qf ?_;simp only [z,seval])
     simp only [sealW,h1,h2,cond_true]
theorem open_spec (w:World) {N:Nat} (hw:w.fit N) (hN:N≤500000000000) (key label hh:Int):Spec PP GG 278 [w.v,u32 key,u32 label,u32 hh] (.tup [(openW w key label hh).1.v,.bool (openW w key label hh).2]) []:=by
 have hr:=hw.rows
 refine Qs func278 ?_
 intro w0 M0
 simp only [f278,lf,z,seval]
 (refine CU (bOpen_spec w.box key label hh (by omega) (fun s hs=>by have:=hw.plain s hs;omega)) (h:=?_);simp only [z,seval])
 cases hb:boxOpen w.box key label hh with
 | none =>
   simp only [hb,Option.isSome_none,Option.getD_none,z,seval]
   (refine Qf ?_;simp only [z,seval])
   simp only [openW,hb,zPart]
 | some l =>
   simp only [hb,Option.isSome_some,Option.getD_some,z,seval]
   (refine CU (pGet_spec label l) (h:=?_);simp only [z,seval])
   (refine Qf ?_;simp only [z,seval])
   simp only [openW,hb]
theorem send_spec (w:World) {N:Nat} (hw:w.fit N) (hN:N≤500000000000) (to:Int) (m:Msg) (hm:m.ok):Spec PP GG 186 [w.v,u32 to,m.v] (.tup [(sendW w to m).1.v,i64 (sendW w to m).2]) []:=by
 have hr:=hw.grams
 have hs:=hw.seen
 refine Qs func186 ?_
 intro w0 M0
 simp only [f186,lf,z,seval]
 (refine CU (mPut_spec m hm) (h:=?_);simp only [z,seval])
 cases h1:((msgPut m).2==0) with
 | false =>
   simp only [h1,z,seval]
   (refine Qf ?_;simp only [z,seval])
   simp only [sendW,h1,cond_false]
 | true =>
   simp only [h1,z,seval]
   (refine CU (nSend_spec w.net ⟨to,(msgPut m).1⟩ hw.nroom (by omega) (by omega)) (h:=?_);simp only [z,seval])
   cases h2:((netSend w.net ⟨to,(msgPut m).1⟩).2==0) with
   | false =>
     simp only [h2,z,seval]
     (refine Qf ?_;simp only [z,seval])
     simp only [sendW,h1,h2,cond_true,cond_false]
   | true =>
     simp only [h2,z,seval]
     (refine Qf ?_;simp only [z,seval])
     simp only [sendW,h1,h2,cond_true]
theorem log_spec (w:World) {N:Nat} (hw:w.fit N) (hN:N≤500000000000) (e:Event):Spec PP GG 184 [w.v,e.v] (logW w e).v []:=by
 have hr:=hw.log
 refine Qs func184 ?_
 intro w0 M0
 simp only [f184,lf,z,seval]
 (refine CU (ConcatEvent_2 w.log [e] (by simp;omega)) (h:=?_);simp only [z,seval])
 (refine Qf ?_;simp only [z,seval])
 simp only [logW]
theorem room_spec' (w:World) {N:Nat} (hw:w.fit N) (hN:N≤500000000000) (b f:Int):Spec PP GG 85 [w.v,i64 b,i64 f] (.bool (roomW w b f)) []:=by
 have hr:=hw.rows
 have hg:=hw.grams
 refine Qs func85 ?_
 intro w0 M0
 simp only [f85,lf,z,seval]
 (refine CU (bFree_spec w.box hw.broom (by omega)) (h:=?_);simp only [z,seval])
 repeat' (first|(refine CU (nFree_spec w.net hw.nroom (by omega)) (h:=?_);simp only [z,seval])|((first|refine brk (fun h=>?_) (fun h=>?_)|fail)<;>simp only [h,z,seval]))
 all_goals (refine Qf ?_;simp only [z,seval])
 all_goals (first|(simp only [roomW, *,cond_true,cond_false,Bool.true_and,Bool.and_true,Bool.false_and,Bool.and_false,Bool.true_or,Bool.or_true,Bool.false_or,Bool.or_false,Bool.not_true,Bool.not_false,beq_self_eq_true,Option.getD_some,Option.getD_none,Option.isSome_some,Option.isSome_none,List.map_nil];done)|(simp only [roomW, *,cond_true,cond_false,Bool.true_and,Bool.and_true,Bool.false_and,Bool.and_false,Bool.true_or,Bool.or_true,Bool.false_or,Bool.or_false,Bool.not_true,Bool.not_false,beq_self_eq_true,Option.getD_some,Option.getD_none,Option.isSome_some,Option.isSome_none,List.map_nil];rfl)|(simp [roomW, *];done)|(simp_all [roomW];done))
theorem person_spec (w:World) {N:Nat} (hw:w.fit N) (hN:N≤500000000000) (n:Int) (hn:U n):Spec PP GG 86 [w.v,u32 n] (personW w n).v []:=by
 obtain ⟨n,rfl⟩:=Int.eq_ofNat_of_zero_le hn.1
 have hn2:=hn.2
 exact Person_spec w n (by omega) (by have:=hw.people;omega)
theorem with_spec (w:World) {N:Nat} (hw:w.fit N) (hN:N≤500000000000) (p:Person) (hp:U p.name):Spec PP GG 180 [w.v,p.v] (withW w p).v []:=by
 have hr:=hw.people
 refine Qs func180 ?_
 intro w0 M0
 simp only [f180,lf,z,seval]
 (refine CU (pSet_spec w.people p hp (by omega)) (h:=?_);simp only [z,seval])
 (refine Qf ?_;simp only [z,seval])
 simp only [withW]
theorem over_spec (now t w:Int) (h1:U now) (h2:U t) (h3:U w):Spec PP GG 298 [u32 now,u32 t,u32 w] (.bool (overM now t w)) []:=by
 obtain ⟨a1,a2⟩:=h1
 obtain ⟨b1,b2⟩:=h2
 obtain ⟨c1,c2⟩:=h3
 refine Qs func298 ?_
 intro w0 M0
 simp only [f298,lf,z,seval]
 repeat' (first|(refine qc func200 ?_;simp only [f200,lf,z,seval])|((first|refine brk (fun h=>?_) (fun h=>?_)|fail)<;>simp only [h,z,seval]))
 all_goals try simp only [wu64 (n:=now) (by omega) (by omega),wu64 (n:=t) (by omega) (by omega),wu64 (n:=w) (by omega) (by omega),wu64 (n:=t + w) (by omega) (by omega),z,seval]
 all_goals (refine Qf ?_;simp only [z,seval])
 all_goals (first|(simp only [overM, *,cond_true,cond_false,Bool.true_and,Bool.and_true,Bool.false_and,Bool.and_false,Bool.true_or,Bool.or_true,Bool.false_or,Bool.or_false,Bool.not_true,Bool.not_false,beq_self_eq_true,Option.getD_some,Option.getD_none,Option.isSome_some,Option.isSome_none,List.map_nil];done)|(simp only [overM, *,cond_true,cond_false,Bool.true_and,Bool.and_true,Bool.false_and,Bool.and_false,Bool.true_or,Bool.or_true,Bool.false_or,Bool.or_false,Bool.not_true,Bool.not_false,beq_self_eq_true,Option.getD_some,Option.getD_none,Option.isSome_some,Option.isSome_none,List.map_nil];rfl)|(simp [overM, *];done)|(simp_all [overM];done))
theorem Same01 (l:List Int) (hl:l.length≤1099511627776):Spec PP GG 79 [wordsV l,wordsV l] (.bool true) []:=by
 refine Qs func79 ?_
 intro w0 M0
 simp only [f79,lf,z,seval]
 refine RUNs_rangeS (l.length) (fun _ (_:Unit)=>True) (fun i _=>[(5,i64 i)]) (fun i _=>[]) () ?_ (by simp only [z,seval];exact wk) rfl ?_
 ·trivial
 rintro ⟨i,_,hi,_⟩
 simp only [z,seval]
 first|refine brk (fun h=>?_) (fun h=>?_)|fail
 ·have hlt:i < l.length:=by have:=of_decide_eq_true h;omega
  simp only [h,z,seval]
  (refine Qw 0 ?_;simp only [z,seval])
  simp only [getMap u32 l hlt,z,seval]
  (refine ⟨by kernel_rfl,?_⟩)
  simp only [w64s (i:=i) (by omega),z,seval]
  (refine NX () ?_ (by rfl) hlt ?_;simp only [z,seval];exact wk)
  trivial
 ·simp only [h,z,seval]
  (refine Qf ?_;simp only [z,seval])
theorem Rows01 (l:List (List Int)) (hl:l.length≤1099511627776) (hw:∀ x∈l,x.length≤1099511627776):Spec PP GG 30 [rowsV l,rowsV l] (.bool true) []:=by
 refine Qs func30 ?_
 intro w0 M0
 simp only [f30,lf,z,seval]
 refine RUNs_rangeS (l.length) (fun _ (_:Unit)=>True) (fun i _=>[(5,i64 i)]) (fun i _=>[]) () ?_ (by simp only [z,seval];exact wk) rfl ?_
 ·trivial
 rintro ⟨i,_,hi,_⟩
 simp only [z,seval]
 first|refine brk (fun h=>?_) (fun h=>?_)|fail
 ·have hlt:i < l.length:=by have:=of_decide_eq_true h;omega
  simp only [h,z,seval]
  (refine Qw 0 ?_;simp only [z,seval])
  simp only [getMap wordsV l hlt,z,seval]
  (refine DU (Same01 l[i] (hw _ (List.getElem_mem hlt))) (h:=?_);simp only [z,seval])
  (refine ⟨by kernel_rfl,?_⟩)
  simp only [w64s (i:=i) (by omega),z,seval]
  (refine NX () ?_ (by rfl) hlt ?_;simp only [z,seval];exact wk)
  trivial
 ·simp only [h,z,seval]
  (refine Qf ?_;simp only [z,seval])
theorem Same04 (d:Draws) (hl:d.list.length≤1099511627776):Spec PP GG 55 [d.v,d.v] (.bool true) []:=by
 refine Qs func55 ?_
 intro w0 M0
 simp only [f55,lf,z,seval]
 (refine CU (Same01 d.list hl) (h:=?_);simp only [z,seval])
 (refine Qf ?_;simp only [z,seval])
theorem Same07 (b:Box) (hl:b.rows.length≤1099511627776) (hw:∀ s∈b.rows,s.plain.length≤1099511627776):Spec PP GG 56 [b.v,b.v] (.bool true) []:=by
 refine Qs func56 ?_
 intro w0 M0
 simp only [f56,lf,z,seval]
 refine RUNs_rangeS (b.rows.length) (fun _ (_:Unit)=>True) (fun i _=>[(5,i64 i)]) (fun i _=>[]) () ?_ (by simp only [z,seval];exact wk) rfl ?_
 ·trivial
 rintro ⟨i,_,hi,_⟩
 simp only [z,seval]
 first|refine brk (fun h=>?_) (fun h=>?_)|fail
 ·have hlt:i < b.rows.length:=by have:=of_decide_eq_true h;omega
  simp only [h,getMap Sld.v b.rows hlt,z,seval]
  (refine CU (Same01 b.rows[i].plain (hw _ (List.getElem_mem hlt))) (h:=?_);simp only [z,seval])
  simp only [w64s (i:=i) (by omega),z,seval]
  (refine NX () ?_ (by rfl) hlt ?_;simp only [z,seval];exact wk)
  trivial
 ·simp only [h,z,seval]
  (refine Qf ?_;simp only [z,seval])
theorem One06 (g:Gram) (hl:g.words.length≤1099511627776):Spec PP GG 96 [g.v,g.v] (.bool true) []:=by
 refine Qs func96 ?_
 intro w0 M0
 simp only [f96,lf,z,seval]
 (refine CU (Same01 g.words hl) (h:=?_);simp only [z,seval])
 (refine Qf ?_;simp only [z,seval])
theorem Same06 (n:Net) (hl:n.grams.length≤1099511627776) (hw:∀ g∈n.grams,g.words.length≤1099511627776) (hs:n.seen.length≤1099511627776) (hss:∀ l∈n.seen,l.length≤1099511627776):Spec PP GG 39 [n.v,n.v] (.bool true) []:=by
 refine Qs func39 ?_
 intro w0 M0
 simp only [f39,lf,z,seval]
 (refine CU (Rows01 n.seen hs hss) (h:=?_);simp only [z,seval])
 refine RUNs_rangeS (n.grams.length) (fun _ (_:Unit)=>True) (fun i _=>[(5,i64 i)]) (fun i _=>[]) () ?_ (by simp only [z,seval];exact wk) rfl ?_
 ·trivial
 rintro ⟨i,_,hi,_⟩
 simp only [z,seval]
 first|refine brk (fun h=>?_) (fun h=>?_)|fail
 ·have hlt:i < n.grams.length:=by have:=of_decide_eq_true h;omega
  simp only [h,z,seval]
  (refine Qw 0 ?_;simp only [z,seval])
  simp only [getMap Gram.v n.grams hlt,z,seval]
  (refine DU (One06 n.grams[i] (hw _ (List.getElem_mem hlt))) (h:=?_);simp only [z,seval])
  (refine ⟨by kernel_rfl,?_⟩)
  simp only [w64s (i:=i) (by omega),z,seval]
  (refine NX () ?_ (by rfl) hlt ?_;simp only [z,seval];exact wk)
  trivial
 ·simp only [h,z,seval]
  (refine Qf ?_;simp only [z,seval])
theorem Same09 (l:List Run) (hl:l.length≤1099511627776):Spec PP GG 169 [runsV l,runsV l] (.bool true) []:=by
 refine Qs func169 ?_
 intro w0 M0
 simp only [f169,lf,z,seval]
 refine RUNs_rangeS (l.length) (fun _ (_:Unit)=>True) (fun i _=>[(5,i64 i)]) (fun i _=>[]) () ?_ (by simp only [z,seval];exact wk) rfl ?_
 ·trivial
 rintro ⟨i,_,hi,_⟩
 simp only [z,seval]
 first|refine brk (fun h=>?_) (fun h=>?_)|fail
 ·have hlt:i < l.length:=by have:=of_decide_eq_true h;omega
  simp only [h,z,seval]
  (refine Qw 0 ?_;simp only [z,seval])
  simp only [getMap Run.v l hlt,Run.v,z,seval]
  (refine ⟨by kernel_rfl,?_⟩)
  simp only [w64s (i:=i) (by omega),z,seval]
  (refine NX () ?_ (by rfl) hlt ?_;simp only [z,seval];exact wk)
  trivial
 ·simp only [h,z,seval]
  (refine Qf ?_;simp only [z,seval])
theorem One10 (p:Person) (hl:p.used.length≤1099511627776) (hr:p.runs.length≤1099511627776):Spec PP GG 109 [p.v,p.v] (.bool true) []:=by
 refine Qs func109 ?_
 intro w0 M0
 simp only [f109,lf,z,seval]
 (refine CU (Same01 p.used hl) (h:=?_);simp only [z,seval])
 (refine CU (Same09 p.runs hr) (h:=?_);simp only [z,seval])
 (refine Qf ?_;simp only [z,seval])
theorem Same10 (l:List Person) (hl:l.length≤1099511627776) (hu:∀ p∈l,p.used.length≤1099511627776) (hr:∀ p∈l,p.runs.length≤1099511627776):Spec PP GG 57 [peopleV l,peopleV l] (.bool true) []:=by
 refine Qs func57 ?_
 intro w0 M0
 simp only [f57,lf,z,seval]
 refine RUNs_rangeS (l.length) (fun _ (_:Unit)=>True) (fun i _=>[(5,i64 i)]) (fun i _=>[]) () ?_ (by simp only [z,seval];exact wk) rfl ?_
 ·trivial
 rintro ⟨i,_,hi,_⟩
 simp only [z,seval]
 first|refine brk (fun h=>?_) (fun h=>?_)|fail
 ·have hlt:i < l.length:=by have:=of_decide_eq_true h;omega
  simp only [h,z,seval]
  (refine Qw 0 ?_;simp only [z,seval])
  simp only [getMap Person.v l hlt,z,seval]
  (refine DU (One10 l[i] (hu _ (List.getElem_mem hlt)) (hr _ (List.getElem_mem hlt))) (h:=?_);simp only [z,seval])
  (refine ⟨by kernel_rfl,?_⟩)
  simp only [w64s (i:=i) (by omega),z,seval]
  (refine NX () ?_ (by rfl) hlt ?_;simp only [z,seval];exact wk)
  trivial
 ·simp only [h,z,seval]
  (refine Qf ?_;simp only [z,seval])
theorem Events_same (l:List Event) (hl:l.length≤9223372036854775807):Spec PP GG 31 [eventsV l,eventsV l] (.bool true) []:=by
 refine Qs func31 ?_
 intro w0 M0
 simp only [f31,lf,z,seval]
 refine RUNs_rangeF l.length (fun i (_:Unit)=>True) (fun i _=>[.sl (l.map Event.v) .plain,.sl (l.map Event.v) .plain,.any,.any,.bool false,i64 i,.any,.any,.any,.any,.any,.any,.any,.any,.any,.any,.any,.any,.any,.any,.any,.any,.any,.any,.any,.any]) () trivial wk rfl ?_
 rintro ⟨i,_,hi,hw⟩
 simp only [z,seval]
 refine CONDS_split (fun h=>?_) (fun h=>?_)
 ·have hlt:i < l.length:=by simpa using h
  simp only [z,seval]
  (refine Qw 0 ?_;simp only [z,seval])
  simp only [getMap Event.v l hlt,Event.v,z,seval]
  (refine ⟨by kernel_rfl,?_⟩)
  simp only [w64s (i:=i) (by omega),z,seval]
  refine NX () (hi:=hlt) (hinv:=?_)
  trivial
 ·simp only [z,seval]
  (refine Qf ?_;simp only [z,seval])
theorem Same12 (w:World) (hw:w.lim):Spec PP GG 21 [w.v,w.v] (.bool true) []:=by
 have hl:=hw.leaks
 refine Qs func21 ?_
 intro w0 M0
 simp only [f21,lf,z,seval]
 (refine CU (Same04 w.draws hw.draws) (h:=?_);simp only [z,seval])
 (refine CU (Same07 w.box hw.rows hw.plain) (h:=?_);simp only [z,seval])
 (refine CU (Same06 w.net hw.grams hw.words hw.seen hw.seens) (h:=?_);simp only [z,seval])
 (refine CU (Same10 w.people hw.people hw.used hw.runs) (h:=?_);simp only [z,seval])
 (refine CU (Events_same w.log (by have:=hw.log;omega)) (h:=?_);simp only [z,seval])
 (refine CU (Rows01 w.regs hw.regs hw.reg) (h:=?_);simp only [z,seval])
 refine RUNs_rangeS (w.leaks.length) (fun _ (_:Unit)=>True) (fun i _=>[(5,i64 i)]) (fun i _=>[]) () ?_ (by simp only [z,seval];exact wk) rfl ?_
 ·trivial
 rintro ⟨i,_,hi,_⟩
 simp only [z,seval]
 first|refine brk (fun h=>?_) (fun h=>?_)|fail
 ·have hlt:i < w.leaks.length:=by have:=of_decide_eq_true h;omega
  simp only [h,z,seval]
  (refine Qw 0 ?_;simp only [z,seval])
  simp only [getMap Leak.v w.leaks hlt,Leak.v,z,seval]
  (refine ⟨by kernel_rfl,?_⟩)
  simp only [w64s (i:=i) (by omega),z,seval]
  (refine NX () ?_ (by rfl) hlt ?_;simp only [z,seval];exact wk)
  trivial
 ·simp only [h,z,seval]
  (refine Qf ?_;simp only [z,seval])
theorem there_find (b:Box) (h:Int):There07 b.rows h=(boxFind b h).isSome:=by
 rw [There07,boxFind];exact (List.isSome_find? ..).symm
theorem names_of_right {l:List Person} (h:Right10 l=true):∀ i (hi:i < l.length),l[i].name=i:=by
 simp only [Right10,Bool.and_eq_true,decide_eq_true_eq] at h
 obtain ⟨⟨h1,h2⟩,h3⟩:=h
 intro i hi
 cases hc:l[i].name==IntKind.u32.wrap ((l.take i).length:Int) with
 | true =>
   have e:(l.take i).length=i:=by rw [List.length_take];omega
   rw [e] at hc
   have:=of_decide_eq_true hc
   rw [this,IntKind.wrap_u32]
   omega
 | false =>
   rw [allIx_false hi hc] at h1;cases h1
def gTk (w:World) (m:Msg):World×Int×Int:=sealW (drawW w).1 (personW w m.b).key 3 ⟨0,0,m.a,0,(drawW w).2,(personW w 0).clock,0⟩
def gGr (w:World) (m:Msg):World×Int×Int:=sealW (gTk w m).1 (personW w m.a).key 2 ⟨m.nonce,0,0,m.b,(drawW w).2,(personW w 0).clock,(gTk w m).2.1⟩
def gP (w:World) (m:Msg):Person:={ personW w 0 with used:=(usedNote (personW w 0).used w.conf.used m.nonce).1 }
def gEv (w:World) (m:Msg):Event:=⟨2,1,0,m.a,m.b,(drawW w).2,(personW w 0).clock,0,m.nonce,(personW w 0).clock⟩
def gY (w:World) (m:Msg):World:=logW (withW (gGr w m).1 (gP w m)) (gEv w m)
def gZ (w:World) (m:Msg):World×Int:=sendW (gY w m) m.a ⟨2,0,0,0,0,(gGr w m).2.1,0⟩
def grantM (w:World) (m:Msg):World×Int :=
 bif pairM w.people m.a m.b then (bif decide ((personW w 0).clock≥1073741824) then (w,7) else (bif usedMay (personW w 0).used w.conf.used m.nonce==0 then (bif roomW w 2 1 then
  (bif (gTk w m).2.2==0 then (bif (gGr w m).2.2==0 then (bif (gZ w m).2==0 then ((gZ w m).1,0) else (w,(gZ w m).2)) else (w,(gGr w m).2.2)) else (w,(gTk w m).2.2)) else (w,10))
  else (w,usedMay (personW w 0).used w.conf.used m.nonce))) else (w,5)
theorem U0:U 0:=by decide
theorem U2:U 2:=by decide
theorem personW_ok {w:World} {N:Nat} (hw:w.fit N) (n:Int):(personW w n).ok:=getP_ok hw _
theorem usedMay_le {l:List Int} {room w:Int}:(usedNote l room w).1.length≤l.length + 1:=by
 unfold usedNote;cases (usedMay l room w==0)<;>simp
theorem gP_ok {w:World} {N:Nat} (hw:w.fit N) (hN:N≤400000000000) {m:Msg} (hm:m.ok):(gP w m).ok:=by
 obtain ⟨h1,h2,h3,h4,h5⟩:=personW_ok hw 0
 refine ⟨h1,h2,h3,?_,h5⟩
 simp only [gP,usedNote]
 cases (usedMay (personW w 0).used w.conf.used m.nonce==0)
 ·exact h4
 ·exact LL.app h4 (getP_used hw _) (by omega) hm.2.2.2.2.1
theorem gTk_fit {w:World} {N:Nat} (hw:w.fit N) (h5:21≤N) (hN:N≤400000000000) {m:Msg} (hm:m.ok):(gTk w m).1.fit (N + 2):=by
 refine fit_seal (fit_draw hw (by omega)) (by omega) (by omega) (personW_ok hw _).2.1 (by decide) ?_
 exact ⟨U0,U0,hm.2.2.1,U0,drawW_U hw,(personW_ok hw 0).2.2.1,U0⟩
theorem gTk_U {w:World} {N:Nat} (hw:w.fit N) (hN:N≤400000000000) (m:Msg):U (gTk w m).2.1:=sealW_U (fit_draw hw (by omega)) _ _ _
theorem gGr_fit {w:World} {N:Nat} (hw:w.fit N) (h5:21≤N) (hN:N≤400000000000) {m:Msg} (hm:m.ok):(gGr w m).1.fit (N + 3):=by
 refine fit_seal (gTk_fit hw h5 hN hm) (by omega) (by omega) (personW_ok hw _).2.1 (by decide) ?_
 exact ⟨hm.2.2.2.2.1,U0,U0,hm.2.2.2.1,drawW_U hw,(personW_ok hw 0).2.2.1,gTk_U hw hN m⟩
theorem gGr_U {w:World} {N:Nat} (hw:w.fit N) (h5:21≤N) (hN:N≤400000000000) {m:Msg} (hm:m.ok):U (gGr w m).2.1:=sealW_U (gTk_fit hw h5 hN hm) _ _ _
theorem gP_used {w:World} {N:Nat} (hw:w.fit N) (m:Msg):(gP w m).used.length≤N + 1:=by
 have:=getP_used hw (0:Int).toNat
 have h2 := @usedMay_le (personW w 0).used w.conf.used m.nonce
 simp only [gP,personW] at h2 ⊢
 omega
theorem gP_runs {w:World} {N:Nat} (hw:w.fit N) (m:Msg):(gP w m).runs.length≤N:=getP_runs hw _
theorem gW_fit {w x:World} {N K:Nat} (hw:w.fit N) (hx:x.fit K) (hK:N + 1≤K) (hN:N≤400000000000) {m:Msg} (hm:m.ok):(withW x (gP w m)).fit K :=
 fit_with hx (gP_ok hw hN hm) (by have:=gP_used hw m;omega) (by have:=gP_runs hw m;omega)
theorem gEv_ok {w:World} {N:Nat} (hw:w.fit N) {m:Msg} (hm:m.ok):(gEv w m).ok:=by
 refine ⟨?_,?_,?_,?_,?_,?_,?_,?_,?_,?_⟩<;>first|exact U0|exact (by decide:I 0)|exact (by decide:I 1)|exact (by decide:I 2)|exact hm.2.2.1|exact hm.2.2.2.1|exact drawW_U hw|exact (personW_ok hw 0).2.2.1|exact hm.2.2.2.2.1
theorem gY_fit {w:World} {N:Nat} (hw:w.fit N) (h5:21≤N) (hN:N≤400000000000) {m:Msg} (hm:m.ok):(gY w m).fit (N + 4) :=
 fit_log (gW_fit hw (gGr_fit hw h5 hN hm) (by omega) hN hm) (by omega) (gEv_ok hw hm)
theorem over_end {c:Int}:overM c 1073741824 0=decide (c≥1073741824):=by
 rw [overM,Bool.eq_iff_iff];simp;omega
theorem Grant_spec (w:World) (m:Msg) {N:Nat} (hw:w.fit N) (h5:21≤N) (hN:N≤400000000000) (hm:m.ok):Spec PP GG 249 [w.v,m.v] (.tup [(grantM w m).1.v,i64 (grantM w m).2]) []:=by
 have hP0:=person_spec w hw (by omega) 0 (by decide)
 have hPa:=person_spec w hw (by omega) m.a hm.2.2.1
 have hPb:=person_spec w hw (by omega) m.b hm.2.2.2.1
 have hPr:=pPair_spec w.people m.a m.b hm.2.2.1 hm.2.2.2.1 (by have:=hw.people;omega)
 have hU:(personW w 0).used.length≤N:=getP_used hw _
 have hMy:=uMay_spec (personW w 0).used w.conf.used m.nonce (by omega)
 have hNo:=uNote_spec (personW w 0).used w.conf.used m.nonce (by omega)
 have hOv:=over_spec (personW w 0).clock 1073741824 0 (personW_ok hw 0).2.2.1 (by decide) (by decide)
 rw [over_end] at hOv
 have hRm:=room_spec' w hw (by omega) 2 1
 have hDr:=draw_spec w hw (by omega)
 have hS1:=seal_spec (drawW w).1 (fit_draw hw (by omega)) (by omega) (personW w m.b).key 3 ⟨0,0,m.a,0,(drawW w).2,(personW w 0).clock,0⟩
 have hS2:=seal_spec (gTk w m).1 (gTk_fit hw h5 hN hm) (by omega) (personW w m.a).key 2 ⟨m.nonce,0,0,m.b,(drawW w).2,(personW w 0).clock,(gTk w m).2.1⟩
 have hW:=with_spec (gGr w m).1 (gGr_fit hw h5 hN hm) (by omega) (gP w m) (gP_ok hw hN hm).1
 have hW1:=with_spec (gTk w m).1 (gTk_fit hw h5 hN hm) (by omega) (gP w m) (gP_ok hw hN hm).1
 have hL:=log_spec (withW (gGr w m).1 (gP w m)) (gW_fit hw (gGr_fit hw h5 hN hm) (by omega) hN hm) (by omega) (gEv w m)
 have hL1:=log_spec (withW (gTk w m).1 (gP w m)) (gW_fit hw (gTk_fit hw h5 hN hm) (by omega) hN hm) (by omega) (gEv w m)
 have hSn:=send_spec (gY w m) (gY_fit hw h5 hN hm) (by omega) m.a ⟨2,0,0,0,0,(gGr w m).2.1,0⟩ ⟨U2,U0,U0,U0,U0,gGr_U hw h5 hN hm,U0⟩
 rw [← gTk] at hS1
 rw [← gGr] at hS2
 rw [← gY] at hL
 rw [← gZ] at hSn
 clear hw hm
 cases c1:pairM w.people m.a m.b with
 | false =>
   rw [c1] at hPr
   have e:grantM w m=(w,5):=by simp only [grantM,c1,cond_false]
   rw [e]
   refine Qs func249 ?_
   intro w0 M0
   simp only [f249,lf,z,seval]
   (refine CU hP0 (h:=?_);simp only [z,seval])
   (refine qc func270 ?_;simp only [f270,lf,z,seval])
   (refine CU hPr (h:=?_);simp only [z,seval])
   (refine Qf ?_;simp only [z,seval])
 | true =>
 rw [c1] at hPr
 cases c2:decide ((personW w 0).clock≥1073741824) with
 | true =>
   rw [c2] at hOv
   have e:grantM w m=(w,7):=by simp only [grantM,c1,c2,cond_true]
   rw [e]
   refine Qs func249 ?_
   intro w0 M0
   simp only [f249,lf,z,seval]
   (refine CU hP0 (h:=?_);simp only [z,seval])
   (refine qc func270 ?_;simp only [f270,lf,z,seval])
   (refine CU hPr (h:=?_);simp only [z,seval])
   (refine CU hOv (h:=?_);simp only [z,seval])
   (refine Qf ?_;simp only [z,seval])
 | false =>
 rw [c2] at hOv
 cases c3:(usedMay (personW w 0).used w.conf.used m.nonce==0) with
 | false =>
   have e:grantM w m=(w,usedMay (personW w 0).used w.conf.used m.nonce):=by simp only [grantM,c1,c2,c3,cond_true,cond_false]
   rw [e]
   refine Qs func249 ?_
   intro w0 M0
   simp only [f249,lf,z,seval]
   (refine CU hP0 (h:=?_);simp only [z,seval])
   (refine qc func270 ?_;simp only [f270,lf,z,seval])
   (refine CU hPr (h:=?_);simp only [z,seval])
   (refine CU hOv (h:=?_);simp only [z,seval])
   (refine CU hMy (h:=?_);simp only [z,seval])
   simp only [c3,z,seval]
   (refine Qf ?_;simp only [z,seval])
 | true =>
 cases c4:roomW w 2 1 with
 | false =>
   rw [c4] at hRm
   have e:grantM w m=(w,10):=by simp only [grantM,c1,c2,c3,c4,cond_true,cond_false]
   rw [e]
   refine Qs func249 ?_
   intro w0 M0
   simp only [f249,lf,z,seval]
   (refine CU hP0 (h:=?_);simp only [z,seval])
   (refine qc func270 ?_;simp only [f270,lf,z,seval])
   (refine CU hPr (h:=?_);simp only [z,seval])
   (refine CU hOv (h:=?_);simp only [z,seval])
   (refine CU hMy (h:=?_);simp only [z,seval])
   simp only [c3,z,seval]
   (refine CU hRm (h:=?_);simp only [z,seval])
   (refine Qf ?_;simp only [z,seval])
 | true =>
 rw [c4] at hRm
 have e0:grantM w m=(bif (gTk w m).2.2==0 then (bif (gGr w m).2.2==0 then (bif (gZ w m).2==0 then ((gZ w m).1,0) else (w,(gZ w m).2)) else (w,(gGr w m).2.2)) else (w,(gTk w m).2.2)):=by simp only [grantM,c1,c2,c3,c4,cond_true,cond_false]
 rw [e0]
 clear e0
 refine Qs func249 ?_
 intro w0 M0
 simp only [f249,lf,z,seval]
 (refine CU hP0 (h:=?_);simp only [z,seval])
 (refine qc func270 ?_;simp only [f270,lf,z,seval])
 (refine CU hPr (h:=?_);simp only [z,seval])
 (refine CU hOv (h:=?_);simp only [z,seval])
 (refine CU hMy (h:=?_);simp only [z,seval])
 simp only [c3,z,seval]
 (refine CU hRm (h:=?_);simp only [z,seval])
 (refine Qw 2 ?_;simp only [z,seval])
 (refine DU hPa (h:=?_);simp only [z,seval])
 (refine DU hPb (h:=?_);simp only [z,seval])
 (refine ⟨by kernel_rfl,?_⟩)
 (refine CU hDr (h:=?_);simp only [z,seval])
 (refine qc func271 ?_;simp only [f271,lf,z,seval])
 (refine Qw 1 ?_;simp only [z,seval])
 (refine DU hS1 (h:=?_);simp only [z,seval])
 (refine ⟨by kernel_rfl,?_⟩)
 (refine qc func271 ?_;simp only [f271,lf,z,seval])
 cases c5:((gTk w m).2.2==0) with
 | false =>
   simp only [c5,z,seval]
   (refine CU hNo (h:=?_);simp only [z,seval])
   (refine Qw 0 ?_;simp only [z,seval])
   (refine DU hW1 (h:=?_);simp only [z,seval])
   (refine DU hL1 (h:=?_);simp only [z,seval])
   (refine ⟨by kernel_rfl,?_⟩)
   (refine qc func272 ?_;simp only [f272,lf,z,seval])
   simp only [c5,z,seval]
   (refine Qw 0 ?_;simp only [z,seval])
   (refine ⟨by kernel_rfl,?_⟩)
   (refine Qf ?_;simp only [z,seval])
 | true =>
 simp only [c5,z,seval]
 (refine Qw 1 ?_;simp only [z,seval])
 (refine DU hS2 (h:=?_);simp only [z,seval])
 (refine ⟨by kernel_rfl,?_⟩)
 (refine CU hNo (h:=?_);simp only [z,seval])
 (refine Qw 0 ?_;simp only [z,seval])
 (refine DU hW (h:=?_);simp only [z,seval])
 (refine DU hL (h:=?_);simp only [z,seval])
 (refine ⟨by kernel_rfl,?_⟩)
 (refine qc func272 ?_;simp only [f272,lf,z,seval])
 cases c6:((gGr w m).2.2==0) with
 | false =>
   simp only [c6,z,seval]
   (refine Qw 0 ?_;simp only [z,seval])
   (refine ⟨by kernel_rfl,?_⟩)
   (refine Qf ?_;simp only [z,seval])
 | true =>
 simp only [c6,z,seval]
 (refine Qw 0 ?_;simp only [z,seval])
 (refine DU hSn (h:=?_);simp only [z,seval])
 (refine ⟨by kernel_rfl,?_⟩)
 cases c7:((gZ w m).2==0) with
 | false =>
   simp only [c7,z,seval]
   (refine Qw 0 ?_;simp only [z,seval])
   (refine ⟨by kernel_rfl,?_⟩)
   (refine Qf ?_;simp only [z,seval])
 | true =>
   simp only [c7,z,seval]
   (refine Qf ?_;simp only [z,seval])
theorem World.fit.toLim {w:World} {N:Nat} (h:w.fit N) (hN:N≤1099511627776):w.lim :=
 ⟨by have:=h.list;omega,by have:=h.rows;omega,fun s hs=>by have:=h.plain s hs;omega,by have:=h.grams;omega,fun s hs=>by have:=h.words s hs;omega,by have:=h.seen;omega,fun s hs=>by have:=h.seens s hs;omega,by have:=h.people;omega,fun s hs=>by have:=h.used s hs;omega,fun s hs=>by have:=h.runs s hs;omega,
   by have:=h.log;omega,by have:=h.regs;omega,fun s hs=>by have:=h.reg s hs;omega,by have:=h.leaks;omega⟩
theorem grantM_fit {w:World} {N:Nat} (hw:w.fit N) (h5:21≤N) (hN:N≤400000000000) {m:Msg} (hm:m.ok):(grantM w m).1.fit (N + 5):=by
 have h0:=hw.mono (show N≤N + 5 by omega)
 have hz:(gZ w m).1.fit (N + 5):=fit_send (gY_fit hw h5 hN hm) (by omega) (by omega) hm.2.2.1 ⟨U2,U0,U0,U0,U0,gGr_U hw h5 hN hm,U0⟩
 unfold grantM
 cases pairM w.people m.a m.b
 ·exact h0
 cases decide ((personW w 0).clock≥1073741824)
 ·cases (usedMay (personW w 0).used w.conf.used m.nonce==0)
  ·exact h0
  cases roomW w 2 1
  ·exact h0
  cases ((gTk w m).2.2==0)
  ·exact h0
  cases ((gGr w m).2.2==0)
  ·exact h0
  cases ((gZ w m).2==0)
  ·exact h0
  ·exact hz
 ·exact h0
namespace L13
def c0:Conf:=⟨5,2,4,4,4,4,2⟩
def ww:World:=newWorld c0 [11,12,13,14,15,16,17] 2 2
def m0:Msg:=⟨1,0,1,2,9,0,0⟩
def m1:Msg:=⟨1,0,1,1,9,0,0⟩
def wa:World:=(grantM ww m0).1
instance {α:Type} {p:α→Prop} [DecidablePred p] (l:List α):Decidable (LL p l):=inferInstanceAs (Decidable (_∧_))
instance:DecidablePred Sld.ok:=fun s=>inferInstanceAs (Decidable (U s.handle∧U s.key∧U s.label∧LL U s.plain))
instance:DecidablePred Gram.ok:=fun s=>inferInstanceAs (Decidable (U s.to∧LL U s.words))
instance:DecidablePred Run.ok:=fun r=>inferInstanceAs (Decidable (I r.proto∧I r.role∧U r.peer∧U r.mine∧U r.their∧U r.m∧U r.k∧U r.t∧I r.state))
instance:DecidablePred Person.ok:=fun p=>inferInstanceAs (Decidable (U p.name∧U p.key∧U p.clock∧LL U p.used∧LL Run.ok p.runs))
theorem g0:grantM ww m0=(wa,0):=by
 have:(grantM ww m0).2=0:=by decide +kernel
 rw [← this];rfl
theorem g1:(grantM wa m0).2=8:=by decide +kernel
theorem g2:(grantM ww m1).2=5:=by decide +kernel
end L13
end Ch
