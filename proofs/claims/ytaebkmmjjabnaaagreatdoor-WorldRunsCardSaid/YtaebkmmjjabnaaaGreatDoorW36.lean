import Derived.Test.YtaebkmmjjabnaaaGreatDoorW28
set_option maxRecDepth 100000
set_option maxHeartbeats 4000000
set_option linter.unusedSimpArgs false
set_option linter.unusedVariables false
namespace Ch
open Go Go.Ab Go.Proofs.Tryz
theorem Has_spec (l:List Int) (w:Int) (hl:l.length≤9223372036854775807):Spec PP GG 95 [wordsV l,u32 w] (.bool (decide (w∈l))) []:=by
 refine Qs func95 ?_
 intro w0 M0
 simp only [f95,lf,wordsV,z,seval]
 refine RUNs_range l.length (fun i (_:Unit)=>w ∉ l.take i) (fun i _=>([.sl (l.map u32) .plain,u32 w,.any,.any,.bool false,i64 i,.any,.any,.any,.any,.any,.any,.any,.any,.any,.any,.any,.any],[])) () (by simp) wk rfl ?_
 rintro ⟨i,_,hi,hw⟩
 simp only [z,seval]
 refine CONDS_split (fun h=>?_) (fun h=>?_)
 ·have hlt:i < l.length:=by simpa using h
  simp only [z,seval,getMap u32 l hlt]
  refine CONDS_split (fun h=>?_) (fun h=>?_)
  ·simp only [z,seval]
   (refine Qf ?_;simp only [z,seval])
   have:w∈l:=by have:=List.getElem_mem hlt;simp at h;simp_all
   simp [this]
  ·simp only [z,seval,w64s (i:=i) (by omega)]
   refine NX () (hi:=hlt) (hinv:=?_)
   have h':l[i]≠w:=by simpa using h
   simp only [List.take_succ_eq_append_getElem hlt,List.mem_append,List.mem_singleton]
   rintro (h1|h1)
   ·exact hw h1
   ·exact h' h1.symm
 ·simp only [z,seval]
  (refine Qf ?_;simp only [z,seval])
  have:i=l.length:=by simp at h;omega
  subst this
  simp at hw;simp [hw]
theorem rHas_spec (kind tag:Int):Spec PP GG 196 [u32 kind,u32 tag] (.bool (hasM kind tag)) []:=by
 refine Qs func196 ?_
 intro w0 M0
 simp only [f196,lf,z,seval]
 repeat' ((first|refine brk (fun h=>?_) (fun h=>?_)|fail)<;>simp only [h,z,seval])
 all_goals (refine Qf ?_;simp only [z,seval])
 all_goals (first|(simp only [hasM, *,cond_true,cond_false,Bool.true_and,Bool.and_true,Bool.false_and,Bool.and_false,Bool.true_or,Bool.or_true,Bool.false_or,Bool.or_false,Bool.not_true,Bool.not_false,beq_self_eq_true,Option.getD_some,Option.getD_none,Option.isSome_some,Option.isSome_none,List.map_nil];done)|(simp only [hasM, *,cond_true,cond_false,Bool.true_and,Bool.and_true,Bool.false_and,Bool.and_false,Bool.true_or,Bool.or_true,Bool.false_or,Bool.or_false,Bool.not_true,Bool.not_false,beq_self_eq_true,Option.getD_some,Option.getD_none,Option.isSome_some,Option.isSome_none,List.map_nil];rfl)|(simp [hasM, *];done)|(simp_all [hasM];done))
theorem rword_spec (m:Msg) (tag:Int):Spec PP GG 230 [m.v,u32 tag] (u32 (msgWord m tag)) []:=by
 refine Qs func230 ?_
 intro w0 M0
 simp only [f230,lf,z,seval]
 repeat' ((first|refine brk (fun h=>?_) (fun h=>?_)|fail)<;>simp only [h,z,seval])
 all_goals (refine Qf ?_;simp only [z,seval])
 all_goals (first|(simp only [msgWord, *,cond_true,cond_false,Bool.true_and,Bool.and_true,Bool.false_and,Bool.and_false,Bool.true_or,Bool.or_true,Bool.false_or,Bool.or_false,Bool.not_true,Bool.not_false,beq_self_eq_true,Option.getD_some,Option.getD_none,Option.isSome_some,Option.isSome_none,List.map_nil];done)|(simp only [msgWord, *,cond_true,cond_false,Bool.true_and,Bool.and_true,Bool.false_and,Bool.and_false,Bool.true_or,Bool.or_true,Bool.false_or,Bool.or_false,Bool.not_true,Bool.not_false,beq_self_eq_true,Option.getD_some,Option.getD_none,Option.isSome_some,Option.isSome_none,List.map_nil];rfl)|(simp [msgWord, *];done)|(simp_all [msgWord];done))
theorem kind_cases {k:Int} (h:1≤k∧k≤9):k=1∨k=2∨k=3∨k=4∨k=5∨k=6∨k=7∨k=8∨k=9:=by omega
theorem rMay_spec (m:Msg) (hm:m.ok):Spec PP GG 229 [m.v] (.bool (msgMay m)) []:=by
 by_cases hk:1≤m.kind∧m.kind≤9
 ·have hc:=kind_cases hk
  clear hm hk
  obtain ⟨kind,run,a,b,nonce,box,more⟩:=m
  simp only at hc
  rcases hc with rfl|rfl|rfl|rfl|rfl|rfl|rfl|rfl|rfl
  all_goals
   refine Qs func229 ?_
   intro w0 M0
   simp only [f229,lf,z,seval]
   (refine RUNs_unroll 7 ?_;simp only [z,seval])
   (refine CU (rHas_spec _ 2) (h:=?_);simp only [z,seval])
   simp only [hasM,Int.reduceBEq,Bool.or_false,Bool.false_or,Bool.or_true,Bool.true_or,cond_true,cond_false,z,seval]
   try
    (refine CU (rword_spec ⟨_,run,a,b,nonce,box,more⟩ 2) (h:=?_);simp only [z,seval])
    simp only [msgWord,Int.reduceBEq,cond_true,cond_false,z,seval]
    refine brk (fun h2=>?_) (fun h2=>?_)
    rotate_left 1
    ·simp only [z,seval]
     (refine Qf ?_;simp only [z,seval])
     simp_all [msgMay,tags,hasM,msgWord]
    simp only [z,seval]
   (refine RUNs_unr ?_;simp only [z,seval])
   (refine CU (rHas_spec _ 3) (h:=?_);simp only [z,seval])
   simp only [hasM,Int.reduceBEq,Bool.or_false,Bool.false_or,Bool.or_true,Bool.true_or,cond_true,cond_false,z,seval]
   try
    (refine CU (rword_spec ⟨_,run,a,b,nonce,box,more⟩ 3) (h:=?_);simp only [z,seval])
    simp only [msgWord,Int.reduceBEq,cond_true,cond_false,z,seval]
    refine brk (fun h3=>?_) (fun h3=>?_)
    rotate_left 1
    ·simp only [z,seval]
     (refine Qf ?_;simp only [z,seval])
     simp_all [msgMay,tags,hasM,msgWord]
    simp only [z,seval]
   (refine RUNs_unr ?_;simp only [z,seval])
   (refine CU (rHas_spec _ 4) (h:=?_);simp only [z,seval])
   simp only [hasM,Int.reduceBEq,Bool.or_false,Bool.false_or,Bool.or_true,Bool.true_or,cond_true,cond_false,z,seval]
   try
    (refine CU (rword_spec ⟨_,run,a,b,nonce,box,more⟩ 4) (h:=?_);simp only [z,seval])
    simp only [msgWord,Int.reduceBEq,cond_true,cond_false,z,seval]
    refine brk (fun h4=>?_) (fun h4=>?_)
    rotate_left 1
    ·simp only [z,seval]
     (refine Qf ?_;simp only [z,seval])
     simp_all [msgMay,tags,hasM,msgWord]
    simp only [z,seval]
   (refine RUNs_unr ?_;simp only [z,seval])
   (refine CU (rHas_spec _ 5) (h:=?_);simp only [z,seval])
   simp only [hasM,Int.reduceBEq,Bool.or_false,Bool.false_or,Bool.or_true,Bool.true_or,cond_true,cond_false,z,seval]
   try
    (refine CU (rword_spec ⟨_,run,a,b,nonce,box,more⟩ 5) (h:=?_);simp only [z,seval])
    simp only [msgWord,Int.reduceBEq,cond_true,cond_false,z,seval]
    refine brk (fun h5=>?_) (fun h5=>?_)
    rotate_left 1
    ·simp only [z,seval]
     (refine Qf ?_;simp only [z,seval])
     simp_all [msgMay,tags,hasM,msgWord]
    simp only [z,seval]
   (refine RUNs_unr ?_;simp only [z,seval])
   (refine CU (rHas_spec _ 6) (h:=?_);simp only [z,seval])
   simp only [hasM,Int.reduceBEq,Bool.or_false,Bool.false_or,Bool.or_true,Bool.true_or,cond_true,cond_false,z,seval]
   try
    (refine CU (rword_spec ⟨_,run,a,b,nonce,box,more⟩ 6) (h:=?_);simp only [z,seval])
    simp only [msgWord,Int.reduceBEq,cond_true,cond_false,z,seval]
    refine brk (fun h6=>?_) (fun h6=>?_)
    rotate_left 1
    ·simp only [z,seval]
     (refine Qf ?_;simp only [z,seval])
     simp_all [msgMay,tags,hasM,msgWord]
    simp only [z,seval]
   (refine RUNs_unr ?_;simp only [z,seval])
   (refine CU (rHas_spec _ 7) (h:=?_);simp only [z,seval])
   simp only [hasM,Int.reduceBEq,Bool.or_false,Bool.false_or,Bool.or_true,Bool.true_or,cond_true,cond_false,z,seval]
   try
    (refine CU (rword_spec ⟨_,run,a,b,nonce,box,more⟩ 7) (h:=?_);simp only [z,seval])
    simp only [msgWord,Int.reduceBEq,cond_true,cond_false,z,seval]
    refine brk (fun h7=>?_) (fun h7=>?_)
    rotate_left 1
    ·simp only [z,seval]
     (refine Qf ?_;simp only [z,seval])
     simp_all [msgMay,tags,hasM,msgWord]
    simp only [z,seval]
   (refine RUNs_unr ?_;simp only [z,seval])
   (refine Qf ?_;simp only [z,seval])
   simp_all [msgMay,tags,hasM,msgWord]
 ·have hM:msgMay m=false:=by
   rw [msgMay]
   rcases Int.lt_or_le m.kind 1 with h|h
   ·rw [decide_eq_false (show ¬ m.kind≥1 by omega)];rfl
   ·rw [decide_eq_false (show ¬ m.kind≤9 by omega)];simp
  rw [hM]
  refine Qs func229 ?_
  intro w0 M0
  simp only [f229,lf,z,seval]
  repeat' ((first|refine brk (fun h=>?_) (fun h=>?_)|fail)<;>simp only [h,z,seval])
  all_goals first|((refine Qf ?_;simp only [z,seval]);done)|(simp at *;omega)
theorem rPut_spec (m:Msg) (hm:m.ok):Spec PP GG 192 [m.v] (.tup [wordsV (msgPut m).1,i64 (msgPut m).2]) []:=by
 have hM:=rMay_spec m hm
 cases hmay:msgMay m with
 | true =>
   have hk:1≤m.kind∧m.kind≤9:=by
    simp only [msgMay,Bool.and_eq_true,decide_eq_true_eq] at hmay;exact ⟨hmay.1,hmay.2.1⟩
   have hc:=kind_cases hk
   rw [msgPut,hmay]
   rw [hmay] at hM
   clear hm hk hmay
   obtain ⟨kind,run,a,b,nonce,box,more⟩:=m
   simp only at hc
   rcases hc with rfl|rfl|rfl|rfl|rfl|rfl|rfl|rfl|rfl
   all_goals
    refine Qs func192 ?_
    intro w0 M0
    simp only [f192,lf,z,seval]
    (refine CU hM (h:=?_);simp only [z,seval])
    (refine RUNs_unroll 7 ?_;simp only [z,seval])
    (refine CU (rHas_spec _ 2) (h:=?_);simp only [z,seval])
    simp only [hasM,Int.reduceBEq,Bool.or_false,Bool.false_or,Bool.or_true,Bool.true_or,cond_true,cond_false,z,seval]
    try
     (refine CU (rword_spec ⟨_,run,a,b,nonce,box,more⟩ 2) (h:=?_);simp only [z,seval])
     simp only [msgWord,Int.reduceBEq,cond_true,cond_false,z,seval]
    (refine RUNs_unr ?_;simp only [z,seval])
    (refine CU (rHas_spec _ 3) (h:=?_);simp only [z,seval])
    simp only [hasM,Int.reduceBEq,Bool.or_false,Bool.false_or,Bool.or_true,Bool.true_or,cond_true,cond_false,z,seval]
    try
     (refine CU (rword_spec ⟨_,run,a,b,nonce,box,more⟩ 3) (h:=?_);simp only [z,seval])
     simp only [msgWord,Int.reduceBEq,cond_true,cond_false,z,seval]
    (refine RUNs_unr ?_;simp only [z,seval])
    (refine CU (rHas_spec _ 4) (h:=?_);simp only [z,seval])
    simp only [hasM,Int.reduceBEq,Bool.or_false,Bool.false_or,Bool.or_true,Bool.true_or,cond_true,cond_false,z,seval]
    try
     (refine CU (rword_spec ⟨_,run,a,b,nonce,box,more⟩ 4) (h:=?_);simp only [z,seval])
     simp only [msgWord,Int.reduceBEq,cond_true,cond_false,z,seval]
    (refine RUNs_unr ?_;simp only [z,seval])
    (refine CU (rHas_spec _ 5) (h:=?_);simp only [z,seval])
    simp only [hasM,Int.reduceBEq,Bool.or_false,Bool.false_or,Bool.or_true,Bool.true_or,cond_true,cond_false,z,seval]
    try
     (refine CU (rword_spec ⟨_,run,a,b,nonce,box,more⟩ 5) (h:=?_);simp only [z,seval])
     simp only [msgWord,Int.reduceBEq,cond_true,cond_false,z,seval]
    (refine RUNs_unr ?_;simp only [z,seval])
    (refine CU (rHas_spec _ 6) (h:=?_);simp only [z,seval])
    simp only [hasM,Int.reduceBEq,Bool.or_false,Bool.false_or,Bool.or_true,Bool.true_or,cond_true,cond_false,z,seval]
    try
     (refine CU (rword_spec ⟨_,run,a,b,nonce,box,more⟩ 6) (h:=?_);simp only [z,seval])
     simp only [msgWord,Int.reduceBEq,cond_true,cond_false,z,seval]
    (refine RUNs_unr ?_;simp only [z,seval])
    (refine CU (rHas_spec _ 7) (h:=?_);simp only [z,seval])
    simp only [hasM,Int.reduceBEq,Bool.or_false,Bool.false_or,Bool.or_true,Bool.true_or,cond_true,cond_false,z,seval]
    try
     (refine CU (rword_spec ⟨_,run,a,b,nonce,box,more⟩ 7) (h:=?_);simp only [z,seval])
     simp only [msgWord,Int.reduceBEq,cond_true,cond_false,z,seval]
    (refine RUNs_unr ?_;simp only [z,seval])
    (refine Qf ?_;simp only [z,seval])
    rfl
 | false =>
   rw [hmay] at hM
   refine Qs func192 ?_
   intro w0 M0
   simp only [f192,lf,z,seval]
   (refine CU hM (h:=?_);simp only [z,seval])
   (refine Qf ?_;simp only [z,seval])
   simp [msgPut,hmay]
theorem rTake_spec (d:Draws) (h0:0≤d.next) (h1:d.next≤1000000000000):Spec PP GG 110 [d.v] (.tup [Draws.v ⟨d.list,d.next + 1⟩,u32 (drawAt d.list d.next.toNat)]) []:=by
 have h:=Take04_spec d d.next.toNat (by omega)
 have e:IntKind.i64.wrap (d.next + 1)=d.next + 1:=w64 (n:=d.next + 1) (by omega) (by omega)
 rw [e] at h
 exact h
theorem rNSend_spec (n:Net) (g:Gram) (hl:n.grams.length≤1000000000000) (hs:n.seen.length≤1000000000000):Spec PP GG 193 [n.v,g.v] (.tup [(netSend n g).1.v,i64 (netSend n g).2]) []:=by
 refine Qs func193 ?_
 intro w0 M0
 simp only [f193,lf,z,seval]
 first|refine brk (fun h=>?_) (fun h=>?_)|fail
 ·have e:decide (n.room - (n.grams.length:Int) < 1)=true:=by have:=of_decide_eq_true h;exact decide_eq_true (by omega)
  simp only [h,z,seval]
  (refine Qf ?_;simp only [z,seval])
  simp only [netSend,e,cond_true]
 ·have e:decide (n.room - (n.grams.length:Int) < 1)=false:=by have:=of_decide_eq_false h;exact decide_eq_false (by omega)
  simp only [h,z,seval]
  (refine Qw 4 ?_;simp only [z,seval])
  refine DOC_ok ?_ ?_
  ·exact okMap _ (fun a=>rfl) (by omega)
  simp only [z,seval]
  refine DOC_ok ?_ ?_
  ·simp;omega
  simp only [z,seval]
  (refine ⟨by kernel_rfl,?_⟩)
  (refine Qw 4 ?_;simp only [z,seval])
  refine DOC_ok ?_ ?_
  ·exact okMap _ (fun a=>rfl) (by omega)
  simp only [z,seval]
  refine DOC_ok ?_ ?_
  ·simp;omega
  simp only [z,seval]
  (refine ⟨by kernel_rfl,?_⟩)
  (refine Qf ?_;simp only [z,seval])
  simp only [netSend,e,cond_false,List.map_append,List.map_cons,List.map_nil,z,seval]
theorem rSeal07_spec (b:Box) (hh key label:Int) (plain:List Int) (hl:b.rows.length≤1000000000000) (hp:plain.length≤1099511627776):Spec PP GG 127 [b.v,u32 hh,u32 key,u32 label,wordsV plain] (.tup [(boxSeal b hh key label plain).1.v,i64 (boxSeal b hh key label plain).2]) []:=by
 refine Qs func127 ?_
 intro w0 M0
 simp only [f127,lf,z,seval]
 cases e1:decide ((plain.length:Int) > 64) with
 | true =>
   simp only [e1,z,seval]
   (refine Qf ?_;simp only [z,seval])
   simp only [boxSeal,e1,cond_true]
 | false =>
   simp only [e1,z,seval]
   (refine CU (There07_spec b hh (by omega)) (h:=?_);simp only [z,seval])
   rw [there_find]
   cases e2:(boxFind b hh).isSome with
   | true =>
     simp only [z,seval]
     (refine Qf ?_;simp only [z,seval])
     simp only [boxSeal,e1,e2,cond_true,cond_false]
   | false =>
     simp only [z,seval]
     first|refine brk (fun h=>?_) (fun h=>?_)|fail
     ·have e:decide (b.room - (b.rows.length:Int) < 1)=true:=by have:=of_decide_eq_true h;exact decide_eq_true (by omega)
      simp only [h,z,seval]
      (refine Qf ?_;simp only [z,seval])
      simp only [boxSeal,e1,e2,e,cond_true,cond_false]
     ·have e:decide (b.room - (b.rows.length:Int) < 1)=false:=by have:=of_decide_eq_false h;exact decide_eq_false (by omega)
      simp only [h,z,seval]
      refine OPC_ok ?_ ?_
      ·exact okMap _ (fun a=>rfl) hp
      simp only [z,seval]
      (refine Qw 4 ?_;simp only [z,seval])
      refine DOC_ok ?_ ?_
      ·exact okMap _ (fun a=>rfl) (by omega)
      simp only [z,seval]
      refine DOC_ok ?_ ?_
      ·simp;omega
      simp only [z,seval]
      (refine ⟨by kernel_rfl,?_⟩)
      (refine Qf ?_;simp only [z,seval])
      simp only [boxSeal,e1,e2,e,cond_true,cond_false,List.map_append,List.map_cons,List.map_nil,z,seval]
theorem rMay08_spec (l:List Int) (room w:Int) (hl:l.length≤1099511627776):Spec PP GG 197 [wordsV l,i64 room,u32 w] (i64 (usedMay l room w)) []:=by
 refine Qs func197 ?_
 intro w0 M0
 simp only [f197,lf,z,seval]
 repeat' (first|(refine CU (Has_spec l w (by omega)) (h:=?_);simp only [z,seval])|((first|refine brk (fun h=>?_) (fun h=>?_)|fail)<;>simp only [h,z,seval]))
 all_goals (refine Qf ?_;simp only [z,seval])
 all_goals (first|(simp only [usedMay, *,cond_true,cond_false,Bool.true_and,Bool.and_true,Bool.false_and,Bool.and_false,Bool.true_or,Bool.or_true,Bool.false_or,Bool.or_false,Bool.not_true,Bool.not_false,beq_self_eq_true,Option.getD_some,Option.getD_none,Option.isSome_some,Option.isSome_none,List.map_nil];done)|(simp only [usedMay, *,cond_true,cond_false,Bool.true_and,Bool.and_true,Bool.false_and,Bool.and_false,Bool.true_or,Bool.or_true,Bool.false_or,Bool.or_false,Bool.not_true,Bool.not_false,beq_self_eq_true,Option.getD_some,Option.getD_none,Option.isSome_some,Option.isSome_none,List.map_nil];rfl)|(simp [usedMay, *];done)|(simp_all [usedMay];done))
def rGet (l:List Person) (n:Int):Option Person:=l.find? fun p=>p.name==n
theorem find_none_succ {α:Type} {l:List α} {f:α→Bool} {i:Nat} (h:i < l.length) (h1:(l.take i).find? f=none) (h2:f l[i]=false):(l.take (i + 1)).find? f=none:=by
 rw [List.take_succ_eq_append_getElem h,List.find?_append,h1];simp [h2]
theorem find_at {α:Type} {l:List α} {f:α→Bool} {i:Nat} (h:i < l.length) (h1:(l.take i).find? f=none) (h2:f l[i]=true):l.find? f=some l[i]:=by
 have:l=l.take i++l.drop i:=(List.take_append_drop i l).symm
 conv=>lhs;rw [this]
 rw [List.find?_append,h1,Option.none_or,List.drop_eq_getElem_cons h,List.find?_cons,h2]
theorem rGet_spec (l:List Person) (n:Int) (hl:l.length≤1099511627776):Spec PP GG 133 [peopleV l,u32 n] (.tup [((rGet l n).getD zeroP).v,.bool (rGet l n).isSome]) []:=by
 refine Qs func133 ?_
 intro w0 M0
 simp only [f133,lf,z,seval]
 refine RUNs_rangeF l.length (fun i (_:Unit)=>rGet (l.take i) n=none) (fun i _=>[.sl (l.map Person.v) .plain,u32 n,.any,.any,.ptr 0 0,.bool false,i64 i,.any,.any,.any,.any,.any,.any,.any,.any,.any,.any,.any,.any,.any,.any,.any,.any,.any,.any]) () (by simp [rGet]) wk rfl ?_
 rintro ⟨i,_,hi,hw⟩
 simp only [z,seval]
 refine CONDS_split (fun h=>?_) (fun h=>?_)
 ·have hlt:i < l.length:=by simpa using h
  simp only [z,seval,getMap Person.v l hlt]
  refine CONDS_split (fun h=>?_) (fun h=>?_)
  ·simp only [z,seval,getMap Person.v l hlt]
   (refine Qf ?_;simp only [z,seval])
   rw [rGet,find_at hlt hw (by simpa using h)]
   simp
  ·simp only [z,seval,w64s (i:=i) (by omega)]
   refine NX () (hi:=hlt) (hinv:=?_)
   exact find_none_succ hlt hw (by simpa using h)
 ·have hi':i=l.length:=by simp at h;omega
  subst hi'
  rw [List.take_length] at hw
  simp only [z,seval]
  (refine Qf ?_;simp only [z,seval])
  rw [hw];simp [zeroP]
theorem rGet_right {l:List Person} (h:Right10 l=true) (n:Nat):rGet l n=l[n]?:=by
 have hn:=names_of_right h
 rw [rGet]
 by_cases hl:n < l.length
 ·rw [List.getElem?_eq_getElem hl]
  refine find_at hl ?_ (by rw [hn n hl];simp)
  rw [List.find?_eq_none]
  intro p hp
  obtain ⟨j,hj,rfl⟩:=List.mem_take_iff_getElem.1 hp
  have:=hn j (by omega)
  simp only [this,beq_iff_eq]
  omega
 ·rw [List.getElem?_eq_none (by omega),List.find?_eq_none]
  intro p hp
  obtain ⟨j,hj,rfl⟩:=List.mem_iff_getElem.1 hp
  have:=hn j hj
  simp only [this,beq_iff_eq]
  omega
theorem rGetD_right {l:List Person} (h:Right10 l=true) {n:Int} (hn:U n):(rGet l n).getD zeroP=getP l n.toNat:=by
 obtain ⟨n,rfl⟩:=Int.eq_ofNat_of_zero_le hn.1
 rw [rGet_right h,Int.toNat_natCast];rfl
theorem rGetS_right {l:List Person} (h:Right10 l=true) {n:Int} (hn:U n):(rGet l n).isSome=decide (n.toNat < l.length):=by
 obtain ⟨n,rfl⟩:=Int.eq_ofNat_of_zero_le hn.1
 rw [rGet_right h,Int.toNat_natCast]
 by_cases hl:n < l.length
 ·rw [List.getElem?_eq_getElem hl];simp [hl]
 ·rw [List.getElem?_eq_none (by omega)];simp [hl]
theorem rPair_spec (l:List Person) (hl:l.length≤1099511627776) (h:Right10 l=true) (a b:Int) (ha:U a) (hb:U b):Spec PP GG 88 [peopleV l,u32 a,u32 b] (.bool (pairM l a b)) []:=by
 have h1:=rGet_spec l a hl
 have h2:=rGet_spec l b hl
 rw [rGetS_right h ha] at h1
 rw [rGetS_right h hb] at h2
 obtain ⟨ha0,_⟩:=ha
 obtain ⟨hb0,_⟩:=hb
 have za:decide (a > 0) = !(a==0):=by cases hz:(a==0)<;>simp_all<;>omega
 have zb:decide (b > 0) = !(b==0):=by cases hz:(b==0)<;>simp_all<;>omega
 clear h
 refine Qs func88 ?_
 intro w0 M0
 simp only [f88,lf,z,seval]
 (refine CU h1 (h:=?_);simp only [z,seval])
 refine CU h2 (h:=?_)
 simp only [za,zb,z,seval]
 repeat' ((first|refine brk (fun h=>?_) (fun h=>?_)|fail)<;>simp only [h,z,seval])
 all_goals (refine Qf ?_;simp only [z,seval])
 all_goals first|((first|(simp only [pairM, *,cond_true,cond_false,Bool.true_and,Bool.and_true,Bool.false_and,Bool.and_false,Bool.true_or,Bool.or_true,Bool.false_or,Bool.or_false,Bool.not_true,Bool.not_false,beq_self_eq_true,Option.getD_some,Option.getD_none,Option.isSome_some,Option.isSome_none,List.map_nil];done)|(simp only [pairM, *,cond_true,cond_false,Bool.true_and,Bool.and_true,Bool.false_and,Bool.and_false,Bool.true_or,Bool.or_true,Bool.false_or,Bool.or_false,Bool.not_true,Bool.not_false,beq_self_eq_true,Option.getD_some,Option.getD_none,Option.isSome_some,Option.isSome_none,List.map_nil];rfl)|(simp [pairM, *];done)|(simp_all [pairM];done));done)|(simp_all [pairM];done)|(simp_all [pairM];rw [Bool.eq_iff_iff];simp;omega)
def setL (l:List Person) (p:Person):List Person:=l.map fun q=>bif q.name==p.name then p else q
def setE (l:List Person) (p:Person):Int:=bif l.any (fun q=>q.name==p.name) then 0 else 1
theorem setL_succ {l:List Person} {p:Person} {i:Nat} (h:i < l.length):(setL (l.take i) p).map Person.v++[(bif l[i].name==p.name then p else l[i]).v]=(setL (l.take (i + 1)) p).map Person.v:=by
 rw [List.take_succ_eq_append_getElem h,setL,setL,List.map_append,List.map_append];rfl
theorem setE_succ {l:List Person} {p:Person} {i:Nat} (h:i < l.length):setE (l.take (i + 1)) p=bif l[i].name==p.name then 0 else setE (l.take i) p:=by
 rw [List.take_succ_eq_append_getElem h,setE,setE,List.any_append,List.any_cons,List.any_nil]
 cases (l[i].name==p.name)<;>cases (List.any (List.take i l) fun q=>q.name==p.name)<;>rfl
theorem rSet_spec (l:List Person) (p:Person) (hl:l.length≤1099511627776):Spec PP GG 129 [peopleV l,p.v] (.tup [.row 1 l.length,i64 (setE l p)]) [.dead,.row 6 ((setL l p).map Person.v) l.length false]:=by
 refine Qs func129 ?_
 intro w0 M0
 simp only [f129,lf,z,seval]
 (refine RUNs_row0 6 6 (h:=?_);simp only [z,seval])
 refine RUNs_rangeS (l.length) (fun _ (_:Unit)=>True) (fun i _=>[(6,.row 1 i),(7,i64 (setE (l.take i) p)),(8,i64 i)]) (fun i _=>[(1,.row 6 ((setL (l.take i) p).map Person.v) i false)]) () ?_ (by simp only [z,seval];exact wk) rfl ?_
 ·trivial
 rintro ⟨i,_,hi,_⟩
 simp only [z,seval]
 first|refine brk (fun h=>?_) (fun h=>?_)|fail
 ·have hlt:i < l.length:=by have:=of_decide_eq_true h;omega
  simp only [h,z,seval]
  (refine Qw 0 ?_;simp only [z,seval])
  simp only [getMap Person.v l hlt,z,seval]
  (refine ⟨by kernel_rfl,?_⟩)
  have e:=setL_succ (p:=p) hlt
  have e2:=setE_succ (p:=p) hlt
  cases hc:(l[i].name==p.name) with
  | true =>
    rw [hc] at e e2
    simp only [hc,z,seval]
    refine OPC_ok (by simp [setL];omega) ?_
    simp only [mv,cond_true,cond_false] at e e2
    simp only [e,w64s (i:=i) (by omega),z,seval]
    (refine NX () ?_ (by rfl) hlt ?_;simp only [e2,z,seval];exact wk)
    trivial
  | false =>
    rw [hc] at e e2
    simp only [hc,getMap Person.v l hlt,z,seval]
    refine OPC_ok (by simp [setL];omega) ?_
    simp only [mv,cond_true,cond_false] at e e2
    simp only [e,w64s (i:=i) (by omega),z,seval]
    (refine NX () ?_ (by rfl) hlt ?_;simp only [e2,z,seval];exact wk)
    trivial
 ·simp only [h,z,seval]
  obtain rfl:i=l.length:=by have:=of_decide_eq_false h;omega
  clear hi h
  simp only [List.take_length,z,seval]
  (refine FINS_keep [1] (by simp only [List.filter_cons,List.filter_nil,List.contains_cons,List.contains_nil,beq_self_eq_true,Bool.or_false,Bool.false_or,Bool.or_true,Bool.true_or,Bool.not_true,Bool.not_false,Bool.false_eq_true,if_false,if_true,z,seval,z,seval]) ?_;simp only [List.filter_cons,List.filter_nil,List.contains_cons,List.contains_nil,beq_self_eq_true,Bool.or_false,Bool.false_or,Bool.or_true,Bool.true_or,Bool.not_true,Bool.not_false,Bool.false_eq_true,if_false,if_true,z,seval,z,seval];exact wk)
theorem rwords_spec (label:Int) (p:Part):Spec PP GG 231 [u32 label,p.v] (wordsV (partWs label p)) []:=by
 refine Qs func231 ?_
 intro w0 M0
 simp only [f231,lf,z,seval]
 repeat' ((first|refine brk (fun h=>?_) (fun h=>?_)|fail)<;>simp only [h,z,seval])
 all_goals (refine Qf ?_;simp only [z,seval])
 all_goals (first|(simp only [partWs, *,cond_true,cond_false,Bool.true_and,Bool.and_true,Bool.false_and,Bool.and_false,Bool.true_or,Bool.or_true,Bool.false_or,Bool.or_false,Bool.not_true,Bool.not_false,beq_self_eq_true,Option.getD_some,Option.getD_none,Option.isSome_some,Option.isSome_none,List.map_nil];done)|(simp only [partWs, *,cond_true,cond_false,Bool.true_and,Bool.and_true,Bool.false_and,Bool.and_false,Bool.true_or,Bool.or_true,Bool.false_or,Bool.or_false,Bool.not_true,Bool.not_false,beq_self_eq_true,Option.getD_some,Option.getD_none,Option.isSome_some,Option.isSome_none,List.map_nil];rfl)|(simp [partWs, *];done)|(simp_all [partWs];done))
theorem rGet11_spec (label:Int) (l:List Int):Spec PP GG 232 [u32 label,wordsV l] (.tup [(partGet label l).1.v,i64 (partGet label l).2]) []:=by
 cases hl:label? label with
 | true =>
   have hW:=rwords_spec label zPart
   have hl':=hl
   rcases label_cases hl with rfl|rfl|rfl|rfl|rfl|rfl|rfl|rfl
   all_goals
    refine Qs func232 ?_
    intro w0 M0
    simp only [f232,lf,z,seval]
    (refine CU hW (h:=?_);simp only [z,seval])
    simp only [partWs,Int.reduceBEq,cond_true,cond_false,Bool.true_or,Bool.or_true,Bool.or_false,Bool.false_or,z,seval]
    first|refine brk (fun h=>?_) (fun h=>?_)|fail
    ·have hq:=h
     rcases l with _|⟨x0,_|⟨x1,_|⟨x2,_|⟨x3,_|⟨x4,_|⟨x5,l⟩⟩⟩⟩⟩⟩
     all_goals first
      | (exfalso;simp at hq;done)
      | (exfalso;simp at hq;omega)
      | (simp only [h,List.map_cons,List.map_nil,z,seval]
         try ((refine Qw 0 ?_;simp only [z,seval]);(refine ⟨by kernel_rfl,?_⟩))
         (refine Qf ?_;simp only [z,seval])
         simp only [partGet,hl,partRd,partWs,Int.reduceBEq,cond_true,cond_false,beq_self_eq_true,Bool.true_and,Bool.or_true,Bool.or_false,Bool.true_or,List.getD_cons_zero,List.getD_cons_succ,List.length_cons,List.length_nil,z,seval])
    ·simp only [h,z,seval]
     (refine Qf ?_;simp only [z,seval])
     have hq:=h
     rw [partGet_ne hl' (by intro hh;simp [partWs] at hh;simp [hh] at hq)];rfl
 | false =>
   have e:partGet label l=(zPart,1):=by simp [partGet,hl]
   rw [e]
   refine Qs func232 ?_
   intro w0 M0
   simp only [f232,lf,z,seval]
   repeat' ((first|refine brk (fun h=>?_) (fun h=>?_)|fail)<;>simp only [h,z,seval])
   all_goals first|((refine Qf ?_;simp only [z,seval]);rfl)|(exfalso;simp [label?] at hl;simp at *;omega)
theorem rPut11_spec (label:Int) (p:Part):Spec PP GG 194 [u32 label,p.v] (.tup [wordsV (partPut label p).1,i64 (partPut label p).2]) []:=by
 have hl0:(partWs label p).length=(partWs label zPart).length:=by
  unfold partWs
  cases (label==2)<;>cases (label==3)<;>cases (label==4 || label==5)<;>cases (label==6 || label==7)<;>cases (label==8 || label==9)<;>rfl
 have hG:partGet label (partWs label p)=bif label? label then (partRd label (partWs label p),0) else (zPart,1):=by
  rw [partGet,hl0];simp
 have hS:=rGet11_spec label (partWs label p)
 rw [hG] at hS
 refine Qs func194 ?_
 intro w0 M0
 simp only [f194,lf,z,seval]
 (refine CU (rwords_spec label p) (h:=?_);simp only [z,seval])
 (refine CU hS (h:=?_);simp only [z,seval])
 cases hl:label? label with
 | false =>
   simp only [hl,cond_false,z,seval]
   (refine Qf ?_;simp only [z,seval])
   simp [partPut,hl]
 | true =>
   simp only [hl,cond_true,z,seval]
   have hs:∀ q:Part,(q.n==p.n && (q.m==p.m && (q.a==p.a && (q.b==p.b && (q.k==p.k && (q.t==p.t && q.h==p.h))))))=eqPart p q:=by
    intro q
    have hb:∀ x y:Int,(x==y)=(y==x):=fun x y=>by rw [Bool.eq_iff_iff];simp;exact eq_comm
    simp only [eqPart,hb q.n,hb q.m,hb q.a,hb q.b,hb q.k,hb q.t,hb q.h]
   first|refine brk (fun h=>?_) (fun h=>?_)|fail
   ·have h2:=h
    rw [hs] at h2
    simp only [h,z,seval]
    (refine Qf ?_;simp only [z,seval])
    simp only [partPut,hl,h2,Bool.true_and,cond_true]
   ·have h2:=h
    rw [hs] at h2
    simp only [h,z,seval]
    (refine Qf ?_;simp only [z,seval])
    simp only [partPut,hl,h2,Bool.true_and,cond_false,List.map_nil]
theorem rDraw_spec (w:World) {N:Nat} (hw:w.fit N) (hN:N≤500000000000):Spec PP GG 126 [w.v] (.tup [(drawW w).1.v,u32 (drawW w).2]) []:=by
 have hT:=rTake_spec w.draws hw.next0 (by have:=hw.nextN;omega)
 refine Qs func126 ?_
 intro w0 M0
 simp only [f126,lf,z,seval]
 (refine CU hT (h:=?_);simp only [z,seval])
 (refine Qf ?_;simp only [z,seval])
 simp only [drawW]
theorem rSeal_spec (w:World) {N:Nat} (hw:w.fit N) (hN:N≤500000000000) (key label:Int) (p:Part):Spec PP GG 132 [w.v,u32 key,u32 label,p.v] (.tup [(sealW w key label p).1.v,u32 (sealW w key label p).2.1,i64 (sealW w key label p).2.2]) []:=by
 have hr:=hw.rows
 have hp:=partPut_len label p
 refine Qs func132 ?_
 intro w0 M0
 simp only [f132,lf,z,seval]
 (refine CU (rPut11_spec label p) (h:=?_);simp only [z,seval])
 cases h1:((partPut label p).2==0) with
 | false =>
   simp only [h1,z,seval]
   (refine Qf ?_;simp only [z,seval])
   simp only [sealW,h1,cond_false]
 | true =>
   simp only [h1,z,seval]
   (refine CU (rDraw_spec w hw hN) (h:=?_);simp only [z,seval])
   (refine CU (rSeal07_spec w.box (drawW w).2 key label (partPut label p).1 (by omega) (by omega)) (h:=?_);simp only [z,seval])
   cases h2:((boxSeal w.box (drawW w).2 key label (partPut label p).1).2==0) with
   | false =>
     simp only [h2,z,seval]
     (refine Qf ?_;simp only [z,seval])
     simp only [sealW,h1,h2,cond_true,cond_false]
   | true =>
     simp only [h2,z,seval]
     (refine Qf ?_;simp only [z,seval])
     simp only [sealW,h1,h2,cond_true]
theorem rSend_spec (w:World) {N:Nat} (hw:w.fit N) (hN:N≤500000000000) (to:Int) (m:Msg) (hm:m.ok):Spec PP GG 131 [w.v,u32 to,m.v] (.tup [(sendW w to m).1.v,i64 (sendW w to m).2]) []:=by
 have hr:=hw.grams
 have hs:=hw.seen
 refine Qs func131 ?_
 intro w0 M0
 simp only [f131,lf,z,seval]
 (refine CU (rPut_spec m hm) (h:=?_);simp only [z,seval])
 cases h1:((msgPut m).2==0) with
 | false =>
   simp only [h1,z,seval]
   (refine Qf ?_;simp only [z,seval])
   simp only [sendW,h1,cond_false]
 | true =>
   simp only [h1,z,seval]
   (refine CU (rNSend_spec w.net ⟨to,(msgPut m).1⟩ (by omega) (by omega)) (h:=?_);simp only [z,seval])
   (refine Qf ?_;simp only [z,seval])
   cases d:decide (w.net.room - (w.net.grams.length:Int) < 1)<;>simp [sendW,h1,netSend,d]
theorem rLog_spec (w:World) {N:Nat} (hw:w.fit N) (hN:N≤500000000000) (e:Event):Spec PP GG 130 [w.v,e.v] (logW w e).v []:=by
 have hr:=hw.log
 refine Qs func130 ?_
 intro w0 M0
 simp only [f130,lf,z,seval]
 (refine Qw 4 ?_;simp only [z,seval])
 refine DOC_ok ?_ ?_
 ·exact okMap _ (fun a=>rfl) (by omega)
 simp only [z,seval]
 refine DOC_ok ?_ ?_
 ·simp;omega
 simp only [z,seval]
 (refine ⟨by kernel_rfl,?_⟩)
 (refine Qf ?_;simp only [z,seval])
 simp only [logW,List.map_append,List.map_cons,List.map_nil,z,seval]
theorem rRoom_spec (w:World) (b f:Int) (hb:0≤w.box.room∧w.box.room≤1099511627776) (hn:0≤w.net.room∧w.net.room≤1099511627776) (h1:w.box.rows.length≤500000000000) (h2:w.net.grams.length≤500000000000):Spec PP GG 89 [w.v,i64 b,i64 f] (.bool (roomW w b f)) []:=by
 refine Qs func89 ?_
 intro w0 M0
 simp only [f89,lf,z,seval]
 simp only [w64 (n:=w.box.room - w.box.rows.length) (by omega) (by omega),w64 (n:=w.net.room - w.net.grams.length) (by omega) (by omega),z,seval]
 repeat' ((first|refine brk (fun h=>?_) (fun h=>?_)|fail)<;>simp only [h,w64 (n:=w.net.room - w.net.grams.length) (by omega) (by omega),z,seval])
 all_goals (refine Qf ?_;simp only [z,seval])
 all_goals (first|(simp only [roomW, *,cond_true,cond_false,Bool.true_and,Bool.and_true,Bool.false_and,Bool.and_false,Bool.true_or,Bool.or_true,Bool.false_or,Bool.or_false,Bool.not_true,Bool.not_false,beq_self_eq_true,Option.getD_some,Option.getD_none,Option.isSome_some,Option.isSome_none,List.map_nil];done)|(simp only [roomW, *,cond_true,cond_false,Bool.true_and,Bool.and_true,Bool.false_and,Bool.and_false,Bool.true_or,Bool.or_true,Bool.false_or,Bool.or_false,Bool.not_true,Bool.not_false,beq_self_eq_true,Option.getD_some,Option.getD_none,Option.isSome_some,Option.isSome_none,List.map_nil];rfl)|(simp [roomW, *];done)|(simp_all [roomW];done))
theorem rPerson_spec (w:World) {N:Nat} (hw:w.fit N) (hN:N≤500000000000) (hr:Right10 w.people=true) (n:Int) (hn:U n):Spec PP GG 90 [w.v,u32 n] (personW w n).v []:=by
 have hl:=hw.people
 have h1:=rGet_spec w.people n (by omega)
 rw [rGetD_right hr hn] at h1
 clear hr
 refine Qs func90 ?_
 intro w0 M0
 simp only [f90,lf,z,seval]
 (refine CU h1 (h:=?_);simp only [z,seval])
 (refine Qf ?_;simp only [z,seval])
 simp only [personW]
theorem setL_right {l:List Person} (h:Right10 l=true) {p:Person} (hp:U p.name) (hlt:p.name.toNat < l.length):setL l p=(setM l p).1:=by
 have hn:=names_of_right h
 rw [setM,decide_eq_true hlt,cond_true]
 apply List.ext_getElem
 ·simp [setL]
 intro i h1 h2
 simp only [setL,List.getElem_map,List.getElem_set]
 simp only [setL,List.length_map] at h1
 have:=hn i h1
 have:=hp.1
 by_cases hi:p.name.toNat=i
 ·rw [if_pos hi,show (l[i].name==p.name)=true by simp;omega];rfl
 ·rw [if_neg hi,show (l[i].name==p.name)=false by simp;omega];rfl
theorem setE_right {l:List Person} (h:Right10 l=true) {p:Person} (hp:U p.name):setE l p=bif decide (p.name.toNat < l.length) then 0 else 1:=by
 have hn:=names_of_right h
 have:=hp.1
 rw [setE]
 congr 1
 rw [Bool.eq_iff_iff,List.any_eq_true,decide_eq_true_eq]
 constructor
 ·rintro ⟨q,hq,hqe⟩
  obtain ⟨i,hi,rfl⟩:=List.mem_iff_getElem.1 hq
  have:=hn i hi
  simp only [beq_iff_eq] at hqe
  omega
 ·intro hlt
  exact ⟨_,List.getElem_mem hlt,by have:=hn _ hlt;simp only [beq_iff_eq];omega⟩
theorem rWith_spec (w:World) {N:Nat} (hw:w.fit N) (hN:N≤500000000000) (hr:Right10 w.people=true) (p:Person) (hp:U p.name):Spec PP GG 72 [w.v,p.v] (withW w p).v []:=by
 have hl:=hw.people
 have hE:=setE_right hr hp
 have hS:=fun h=>setL_right hr hp h
 have h1:=rSet_spec w.people p (by omega)
 rw [hE] at h1
 cases hlt:decide (p.name.toNat < w.people.length) with
 | true =>
   rw [hlt,cond_true,hS (of_decide_eq_true hlt)] at h1
   have h2:=h1.fz (r':=.tup [peopleV (setM w.people p).1,i64 0]) (by simp only [z,seval])
   clear h1 hS hE hr
   refine Qs func72 ?_
   intro w0 M0
   simp only [f72,lf,z,seval]
   (refine CU h2 (h:=?_);simp only [z,seval])
   (refine Qf ?_;simp only [z,seval])
   simp only [withW]
 | false =>
   rw [hlt,cond_false] at h1
   have h2:=h1.fz (r':=.tup [peopleV (setL w.people p),i64 1]) (by simp only [z,seval])
   clear h1 hS hE hr
   refine Qs func72 ?_
   intro w0 M0
   simp only [f72,lf,z,seval]
   (refine CU h2 (h:=?_);simp only [z,seval])
   (refine Qf ?_;simp only [z,seval])
   simp only [withW,setM,hlt,cond_false]
theorem people_draw (w:World):(drawW w).1.people=w.people:=rfl
theorem people_seal (w:World) (k l:Int) (p:Part):(sealW w k l p).1.people=w.people:=by
 unfold sealW
 cases ((partPut l p).2==0)
 ·rfl
 ·cases ((boxSeal w.box (drawW w).2 k l (partPut l p).1).2==0)<;>rfl
theorem gGr_people (w:World) (m:Msg):(gGr w m).1.people=w.people:=by rw [gGr,people_seal,gTk,people_seal,people_draw]
theorem rGrant_spec (w:World) (m:Msg) {N:Nat} (hw:w.fit N) (h5:21≤N) (hN:N≤400000000000) (hm:m.ok) (hr:Right10 w.people=true):Spec PP GG 135 [w.v,m.v] (.tup [(grantM w m).1.v,i64 (grantM w m).2]) []:=by
 have hP0:=rPerson_spec w hw (by omega) hr 0 (by decide)
 have hPa:=rPerson_spec w hw (by omega) hr m.a hm.2.2.1
 have hPb:=rPerson_spec w hw (by omega) hr m.b hm.2.2.2.1
 have hPr:=rPair_spec w.people (by have:=hw.people;omega) hr m.a m.b hm.2.2.1 hm.2.2.2.1
 have hMy:=rMay08_spec (personW w 0).used w.conf.used m.nonce (by have:=getP_used hw (0:Int).toNat;simp only [personW];omega)
 have hRm:=rRoom_spec w 2 1 hw.broom hw.nroom (by have:=hw.rows;omega) (by have:=hw.grams;omega)
 have hDr:=rDraw_spec w hw (by omega)
 have hS1:=rSeal_spec (drawW w).1 (fit_draw hw (by omega)) (by omega) (personW w m.b).key 3 ⟨0,0,m.a,0,(drawW w).2,(personW w 0).clock,0⟩
 have hS2:=rSeal_spec (gTk w m).1 (gTk_fit hw h5 hN hm) (by omega) (personW w m.a).key 2 ⟨m.nonce,0,0,m.b,(drawW w).2,(personW w 0).clock,(gTk w m).2.1⟩
 have hW:=rWith_spec (gGr w m).1 (gGr_fit hw h5 hN hm) (by omega) (by rw [gGr_people];exact hr) (gP w m) (gP_ok hw hN hm).1
 have hL:=rLog_spec (withW (gGr w m).1 (gP w m)) (gW_fit hw (gGr_fit hw h5 hN hm) (by omega) hN hm) (by omega) (gEv w m)
 have hSn:=rSend_spec (gY w m) (gY_fit hw h5 hN hm) (by omega) m.a ⟨2,0,0,0,0,(gGr w m).2.1,0⟩ ⟨U2,U0,U0,U0,U0,gGr_U hw h5 hN hm,U0⟩
 rw [← gTk] at hS1
 rw [← gGr] at hS2
 rw [← gY] at hL
 rw [← gZ] at hSn
 have hU:(personW w 0).used.length≤N:=getP_used hw _
 clear hw hr hm
 cases c1:pairM w.people m.a m.b with
 | false =>
   rw [c1] at hPr
   have e:grantM w m=(w,5):=by simp only [grantM,c1,cond_false]
   rw [e]
   refine Qs func135 ?_
   intro w0 M0
   simp only [f135,lf,z,seval]
   (refine CU hP0 (h:=?_);simp only [z,seval])
   (refine CU hPr (h:=?_);simp only [z,seval])
   (refine Qf ?_;simp only [z,seval])
 | true =>
 rw [c1] at hPr
 cases c2:decide ((personW w 0).clock≥1073741824) with
 | true =>
   have e:grantM w m=(w,7):=by simp only [grantM,c1,c2,cond_true]
   rw [e]
   refine Qs func135 ?_
   intro w0 M0
   simp only [f135,lf,z,seval]
   (refine CU hP0 (h:=?_);simp only [z,seval])
   (refine CU hPr (h:=?_);simp only [z,seval])
   simp only [c2,z,seval]
   (refine Qf ?_;simp only [z,seval])
 | false =>
 cases c3:(usedMay (personW w 0).used w.conf.used m.nonce==0) with
 | false =>
   have e:grantM w m=(w,usedMay (personW w 0).used w.conf.used m.nonce):=by simp only [grantM,c1,c2,c3,cond_true,cond_false]
   rw [e]
   refine Qs func135 ?_
   intro w0 M0
   simp only [f135,lf,z,seval]
   (refine CU hP0 (h:=?_);simp only [z,seval])
   (refine CU hPr (h:=?_);simp only [z,seval])
   simp only [c2,z,seval]
   (refine CU hMy (h:=?_);simp only [z,seval])
   simp only [c3,z,seval]
   (refine Qf ?_;simp only [z,seval])
 | true =>
 cases c4:roomW w 2 1 with
 | false =>
   rw [c4] at hRm
   have e:grantM w m=(w,10):=by simp only [grantM,c1,c2,c3,c4,cond_true,cond_false]
   rw [e]
   refine Qs func135 ?_
   intro w0 M0
   simp only [f135,lf,z,seval]
   (refine CU hP0 (h:=?_);simp only [z,seval])
   (refine CU hPr (h:=?_);simp only [z,seval])
   simp only [c2,z,seval]
   (refine CU hMy (h:=?_);simp only [z,seval])
   simp only [c3,z,seval]
   (refine CU hRm (h:=?_);simp only [z,seval])
   (refine Qf ?_;simp only [z,seval])
 | true =>
 rw [c4] at hRm
 have e0:grantM w m=(bif (gTk w m).2.2==0 then (bif (gGr w m).2.2==0 then (bif (gZ w m).2==0 then ((gZ w m).1,0) else (w,(gZ w m).2)) else (w,(gGr w m).2.2)) else (w,(gTk w m).2.2)):=by simp only [grantM,c1,c2,c3,c4,cond_true,cond_false]
 rw [e0]
 clear e0
 have hg:(gP w m)=⟨(personW w 0).name,(personW w 0).key,(personW w 0).clock,(personW w 0).used++[m.nonce],(personW w 0).runs,(personW w 0).corrupt⟩:=by
  simp only [gP,usedNote,c3,cond_true]
 have hW2:Spec PP GG 72 [(gGr w m).1.v,Person.v ⟨(personW w 0).name,(personW w 0).key,(personW w 0).clock,(personW w 0).used++[m.nonce],(personW w 0).runs,(personW w 0).corrupt⟩] (withW (gGr w m).1 (gP w m)).v []:=by rw [← hg];exact hW
 have e:(personW w 0).used.map u32++[u32 m.nonce]=((personW w 0).used++[m.nonce]).map u32:=by simp
 refine Qs func135 ?_
 intro w0 M0
 simp only [f135,lf,z,seval]
 (refine CU hP0 (h:=?_);simp only [z,seval])
 (refine CU hPr (h:=?_);simp only [z,seval])
 simp only [c2,z,seval]
 (refine CU hMy (h:=?_);simp only [z,seval])
 simp only [c3,z,seval]
 (refine CU hRm (h:=?_);simp only [z,seval])
 (refine CU hDr (h:=?_);simp only [z,seval])
 (refine Qw 1 ?_;simp only [z,seval])
 (refine DU hPb (h:=?_);simp only [z,seval])
 (refine DU hS1 (h:=?_);simp only [z,seval])
 (refine ⟨by kernel_rfl,?_⟩)
 cases c5:((gTk w m).2.2==0) with
 | false =>
   simp only [c5,z,seval]
   (refine Qf ?_;simp only [z,seval])
 | true =>
 simp only [c5,z,seval]
 (refine Qw 1 ?_;simp only [z,seval])
 (refine DU hPa (h:=?_);simp only [z,seval])
 (refine DU hS2 (h:=?_);simp only [z,seval])
 (refine ⟨by kernel_rfl,?_⟩)
 cases c6:((gGr w m).2.2==0) with
 | false =>
   simp only [c6,z,seval]
   (refine Qf ?_;simp only [z,seval])
 | true =>
 simp only [c6,z,seval]
 (refine Qw 4 ?_;simp only [z,seval])
 refine DOC_ok ?_ ?_
 ·exact okMap _ (fun a=>rfl) (by omega)
 simp only [z,seval]
 refine DOC_ok ?_ ?_
 ·simp;omega
 simp only [z,seval]
 (refine ⟨by kernel_rfl,?_⟩)
 simp only [e,z,seval]
 (refine CU hW2 (h:=?_);simp only [z,seval])
 (refine CU hL (h:=?_);simp only [z,seval])
 (refine CU hSn (h:=?_);simp only [z,seval])
 cases c7:((gZ w m).2==0) with
 | false =>
   simp only [c7,z,seval]
   (refine Qf ?_;simp only [z,seval])
 | true =>
   simp only [c7,z,seval]
   (refine Qf ?_;simp only [z,seval])
def rOpenF (b:Box) (key label h:Int):Option Sld:=b.rows.find? fun s=>s.handle==h && (s.key==key && s.label==label)
theorem rOpen07_H (b:Box) (key label hh:Int) (hl:b.rows.length≤1099511627776) (hp:∀ s∈b.rows,s.plain.length≤1099511627776):Spec PP GG 128 [b.v,u32 key,u32 label,u32 hh] (.tup [wordsV (((rOpenF b key label hh).map Sld.plain).getD []),.bool (rOpenF b key label hh).isSome]) []:=by
 refine Qs func128 ?_
 intro w0 M0
 simp only [f128,lf,z,seval]
 refine RUNs_rangeS (b.rows.length) (fun i (_:Unit)=>(b.rows.take i).find? (fun s=>s.handle==hh && (s.key==key && s.label==label))=none) (fun i _=>[(10,i64 i)]) (fun i _=>[]) () ?_ (by simp only [z,seval];exact wk) rfl ?_
 ·simp
 rintro ⟨i,_,hi,hw⟩
 simp only [z,seval]
 first|refine brk (fun h=>?_) (fun h=>?_)|fail
 ·have hlt:i < b.rows.length:=by have:=of_decide_eq_true h;omega
  simp only [h,getMap Sld.v b.rows hlt,z,seval]
  cases c:(b.rows[i].handle==hh && (b.rows[i].key==key && b.rows[i].label==label)) with
  | true =>
    have e:rOpenF b key label hh=some b.rows[i]:=find_at hlt hw c
    rw [e]
    simp only [Bool.and_eq_true] at c
    simp only [c.1,c.2.1,c.2.2,z,seval]
    refine OPC_ok ?_ ?_
    ·exact okMap _ (fun a=>rfl) (hp _ (List.getElem_mem hlt))
    simp only [z,seval]
    (refine Qf ?_;simp only [z,seval])
    simp
  | false =>
    have hs:=find_none_succ hlt hw c
    cases c1:(b.rows[i].handle==hh)<;>cases c2:(b.rows[i].key==key)<;>cases c3:(b.rows[i].label==label)
    all_goals
     simp only [c1,c2,c3,z,seval]
     first
      | (exfalso;simp [c1,c2,c3] at c;done)
      | (simp only [w64s (i:=i) (by omega),z,seval]
         refine NX () ?_ (by rfl) hlt hs
         simp only [z,seval]
         exact wk)
 ·obtain rfl:i=b.rows.length:=by have:=of_decide_eq_false h;omega
  rw [List.take_length] at hw
  have e:rOpenF b key label hh=none:=hw
  rw [e]
  simp only [h,z,seval]
  (refine Qf ?_;simp only [z,seval])
  simp
theorem uniq07 {b:Box} (h:Right07 b=true) {i j:Nat} (hi:i < b.rows.length) (hj:j < b.rows.length) (e:b.rows[i].handle=b.rows[j].handle):i=j:=by
 simp only [Right07,Bool.and_eq_true] at h
 have key:∀ i j (hi:i < b.rows.length) (hj:j < b.rows.length),i < j→b.rows[i].handle≠b.rows[j].handle:=by
  intro i j hi hj hij e
  have hc:(decide (b.rows[j].plain.length≤64) && !There07 (b.rows.take j) b.rows[j].handle)=false:=by
   have:There07 (b.rows.take j) b.rows[j].handle=true:=by
    rw [There07,List.any_eq_true]
    exact ⟨b.rows[i],List.mem_take_iff_getElem.2 ⟨i,by omega,rfl⟩,by simpa using e⟩
   rw [this];simp
  have:=allIx_false (f:=fun l s=>decide (s.plain.length≤64) && !There07 l s.handle) hj hc
  rw [this] at h;exact absurd h.2 (by simp)
 rcases Nat.lt_trichotomy i j with h1|h1|h1
 ·exact absurd e (key i j hi hj h1)
 ·exact h1
 ·exact absurd e.symm (key j i hj hi h1)
theorem open_right {b:Box} (h:Right07 b=true) (key label hh:Int):(rOpenF b key label hh).map Sld.plain=boxOpen b key label hh:=by
 rw [boxOpen]
 cases hf:boxFind b hh with
 | none =>
   have:rOpenF b key label hh=none:=by
    rw [boxFind,List.find?_eq_none] at hf
    rw [rOpenF,List.find?_eq_none]
    intro s hs
    have:=hf s hs
    simp only [Bool.not_eq_true] at this ⊢
    rw [this];rfl
   rw [this];rfl
 | some s =>
   have hm:s∈b.rows:=List.mem_of_find?_eq_some hf
   have hs:(s.handle==hh)=true:=by have:=List.find?_some hf;simpa using this
   obtain ⟨i,hi,rfl⟩:=List.mem_iff_getElem.1 hm
   simp only
   cases c:(b.rows[i].key==key && b.rows[i].label==label) with
   | true =>
     have hno:(b.rows.take i).find? (fun s=>s.handle==hh && (s.key==key && s.label==label))=none:=by
      rw [List.find?_eq_none]
      intro t ht hc
      simp only [Bool.and_eq_true] at hc
      obtain ⟨j,hj,rfl⟩:=List.mem_take_iff_getElem.1 ht
      have:=uniq07 h hi (show j < b.rows.length by omega) (by have h1:=hc.1;simp only [beq_iff_eq] at h1 hs;omega)
      omega
     have:rOpenF b key label hh=some b.rows[i]:=find_at hi hno (by simp only [hs,c,Bool.and_true])
     rw [this];rfl
   | false =>
     have:rOpenF b key label hh=none:=by
      rw [rOpenF,List.find?_eq_none]
      intro t ht hc
      simp only [Bool.and_eq_true] at hc
      obtain ⟨j,hj,rfl⟩:=List.mem_iff_getElem.1 ht
      have:=uniq07 h hi hj (by have h1:=hc.1;simp only [beq_iff_eq] at h1 hs;omega)
      subst this
      simp [hc.2.1,hc.2.2] at c
     rw [this];rfl
theorem rOpen07_spec (b:Box) (hr:Right07 b=true) (key label hh:Int) (hl:b.rows.length≤1099511627776) (hp:∀ s∈b.rows,s.plain.length≤1099511627776):Spec PP GG 128 [b.v,u32 key,u32 label,u32 hh] (.tup [wordsV ((boxOpen b key label hh).getD []),.bool (boxOpen b key label hh).isSome]) []:=by
 have h:=rOpen07_H b key label hh hl hp
 rw [← Option.isSome_map (f:=Sld.plain),open_right hr] at h
 exact h
theorem rOpen_spec (w:World) {N:Nat} (hw:w.fit N) (hN:N≤500000000000) (hr:Right07 w.box=true) (key label hh:Int):Spec PP GG 198 [w.v,u32 key,u32 label,u32 hh] (.tup [(openW w key label hh).1.v,.bool (openW w key label hh).2]) []:=by
 have hl:=hw.rows
 have h1:=rOpen07_spec w.box hr key label hh (by omega) (fun s hs=>by have:=hw.plain s hs;omega)
 clear hr
 cases hb:boxOpen w.box key label hh with
 | none =>
   rw [hb] at h1
   simp only [Option.isSome_none,Option.getD_none] at h1
   have e:openW w key label hh=(zPart,false):=by simp only [openW,hb]
   rw [e]
   have h2:=rGet11_spec label []
   refine Qs func198 ?_
   intro w0 M0
   simp only [f198,lf,z,seval]
   (refine CU h1 (h:=?_);simp only [z,seval])
   (refine CU h2 (h:=?_);simp only [z,seval])
   (refine Qf ?_;simp only [z,seval])
   rfl
 | some l =>
   rw [hb] at h1
   have e:openW w key label hh=((partGet label l).1,(partGet label l).2==0):=by simp only [openW,hb]
   rw [e]
   have h2:=rGet11_spec label l
   cases c:((partGet label l).2==0) with
   | true =>
     refine Qs func198 ?_
     intro w0 M0
     simp only [f198,lf,z,seval]
     (refine CU h1 (h:=?_);simp only [z,seval])
     (refine CU h2 (h:=?_);simp only [z,seval])
     simp only [c,z,seval]
     (refine Qf ?_;simp only [z,seval])
   | false =>
     have e2:(partGet label l).1=zPart:=by
      revert c;unfold partGet
      cases label? label
      ·intro _;rfl
      ·cases (l.length==(partWs label zPart).length)
       ·intro _;rfl
       ·intro c;exact absurd c (by simp)
     rw [e2]
     refine Qs func198 ?_
     intro w0 M0
     simp only [f198,lf,z,seval]
     (refine CU h1 (h:=?_);simp only [z,seval])
     (refine CU h2 (h:=?_);simp only [z,seval])
     simp only [c,z,seval]
     (refine Qf ?_;simp only [z,seval])
     rfl
theorem s2_people (w:World) (m:Msg):(s2 w m).1.people=w.people:=by rw [s2,people_seal,s1,people_seal,people_draw]
theorem rWith15_spec (w:World) {N:Nat} (hw:w.fit N) (hN:N≤500000000000) (hr:Right10 w.people=true) (p:Person) (hp:U p.name) (i:Nat) (hi:i < p.runs.length) (hl:p.runs.length≤1099511627776) (r:Run):Spec PP GG 199 [w.v,p.v,i64 i,r.v] (withW w (setRun p i r)).v []:=by
 have hW:Spec PP GG 72 [w.v,Person.v ⟨p.name,p.key,p.clock,p.used,p.runs.set i r,p.corrupt⟩] (withW w (setRun p i r)).v []:=rWith_spec w hw hN hr (setRun p i r) hp
 have e:(p.runs.map Run.v).set i r.v=(p.runs.set i r).map Run.v:=by rw [List.map_set]
 simp only [mv] at e
 clear hw hr
 refine Qs func199 ?_
 intro w0 M0
 simp only [f199,lf,z,seval]
 refine OPC_ok ?_ ?_
 ·exact okMap _ (fun a=>rfl) hl
 simp only [hi,getMap Run.v p.runs hi,if_true,e,z,seval]
 (refine CU hW (h:=?_);simp only [z,seval])
 (refine Qf ?_;simp only [z,seval])
theorem rStartO_spec (w:World) (a b:Int) {N:Nat} (hw:w.fit N) (h5:21≤N) (hN:N≤400000000000) (ha:U a) (hb:U b) (hr:Right10 w.people=true):Spec PP GG 74 [w.v,u32 a,u32 b] (.tup [(startO w a b).1.v,i64 (startO w a b).2]) []:=by
 have hPr:=rPair_spec w.people (by have:=hw.people;omega) hr a b ha hb
 have hPa:=rPerson_spec w hw (by omega) hr a ha
 have hRm:=rRoom_spec w 1 1 hw.broom hw.nroom (by have:=hw.rows;omega) (by have:=hw.grams;omega)
 have hD1:=rDraw_spec w hw (by omega)
 have hD2:=rDraw_spec (drawW w).1 (fit_draw hw (by omega)) (by omega)
 have hS:Spec PP GG 132 _ (.tup [(oS w a b).1.v,u32 (oS w a b).2.1,i64 (oS w a b).2.2]) []:=rSeal_spec (drawW (drawW w).1).1 (fit_draw (fit_draw hw (by omega)) (by omega)) (by omega) (personW w a).key 6 ⟨(drawW (drawW w).1).2,(drawW w).2,a,b,0,0,0⟩
 have hU:(personW w a).runs.length≤N:=personW_runs hw a
 have hW:Spec PP GG 72 [(oS w a b).1.v,Person.v ⟨(personW w a).name,(personW w a).key,(personW w a).clock,(personW w a).used,(personW w a).runs++[oRun w b],(personW w a).corrupt⟩] (withW (oS w a b).1 (oP w a b)).v []:=rWith_spec (oS w a b).1 (oS_fit hw h5 hN ha hb) (by omega) (by rw [oS,people_seal];exact hr) (oP w a b) (oP_ok hw hN hb).1
 have hL:Spec PP GG 130 _ (oY w a b).v []:=rLog_spec (withW (oS w a b).1 (oP w a b)) (oW_fit hw h5 hN ha hb) (by omega) (oEv w a b)
 have hSn:Spec PP GG 131 _ (.tup [(oZ w a b).v,_]) []:=rSend_spec (oY w a b) (oY_fit hw h5 hN ha hb) (by omega) b (oMsg w a b) (oMsg_ok hw hN ha hb)
 have e:(personW w a).runs.map Run.v++[Run.v ⟨2,1,b,(drawW (drawW w).1).2,0,(drawW w).2,0,0,1⟩]=((personW w a).runs++[oRun w b]).map Run.v:=by simp [oRun]
 simp only [mv] at e
 clear hw hr
 cases c1:pairM w.people a b with
 | false =>
   rw [c1] at hPr
   have e:startO w a b=(w,5):=by simp only [startO,c1,cond_false]
   rw [e]
   refine Qs func74 ?_
   intro w0 M0
   simp only [f74,lf,z,seval]
   (refine CU hPr (h:=?_);simp only [z,seval])
   (refine Qf ?_;simp only [z,seval])
 | true =>
 rw [c1] at hPr
 cases c2:full w (personW w a) with
 | true =>
   have e:startO w a b=(w,10):=by simp only [startO,c1,c2,cond_true,cond_false,Bool.not_true,Bool.false_and]
   rw [e]
   simp only [full] at c2
   refine Qs func74 ?_
   intro w0 M0
   simp only [f74,lf,z,seval]
   (refine CU hPr (h:=?_);simp only [z,seval])
   (refine CU hPa (h:=?_);simp only [z,seval])
   simp only [c2,z,seval]
   (refine Qf ?_;simp only [z,seval])
 | false =>
 cases c3:roomW w 1 1 with
 | false =>
   rw [c3] at hRm
   have e:startO w a b=(w,10):=by simp only [startO,c1,c2,c3,cond_true,cond_false,Bool.not_false,Bool.true_and]
   rw [e]
   simp only [full] at c2
   refine Qs func74 ?_
   intro w0 M0
   simp only [f74,lf,z,seval]
   (refine CU hPr (h:=?_);simp only [z,seval])
   (refine CU hPa (h:=?_);simp only [z,seval])
   simp only [c2,z,seval]
   (refine CU hRm (h:=?_);simp only [z,seval])
   (refine Qf ?_;simp only [z,seval])
 | true =>
 rw [c3] at hRm
 have e0:startO w a b=(bif (oS w a b).2.2==0 then (oZ w a b,0) else (w,(oS w a b).2.2)):=by simp only [startO,c1,c2,c3,cond_true,Bool.not_false,Bool.true_and]
 rw [e0]
 clear e0
 simp only [full] at c2
 refine Qs func74 ?_
 intro w0 M0
 simp only [f74,lf,z,seval]
 (refine CU hPr (h:=?_);simp only [z,seval])
 (refine CU hPa (h:=?_);simp only [z,seval])
 simp only [c2,z,seval]
 (refine CU hRm (h:=?_);simp only [z,seval])
 (refine CU hD1 (h:=?_);simp only [z,seval])
 (refine CU hD2 (h:=?_);simp only [z,seval])
 (refine CU hS (h:=?_);simp only [z,seval])
 cases c4:((oS w a b).2.2==0) with
 | false =>
   simp only [c4,z,seval]
   (refine Qf ?_;simp only [z,seval])
 | true =>
 simp only [c4,z,seval]
 refine OPC_ok ?_ ?_
 ·exact okMap _ (fun a=>rfl) (by omega)
 simp only [z,seval]
 refine OPC_ok ?_ ?_
 ·simp;omega
 simp only [e,z,seval]
 (refine CU hW (h:=?_);simp only [z,seval])
 (refine CU hL (h:=?_);simp only [z,seval])
 (refine CU hSn (h:=?_);simp only [z,seval])
 (refine Qf ?_;simp only [z,seval])
theorem findIdx_none_take {l:List Run} {q:Run→Bool} {i:Nat} (h:i < l.length) (h1:∀ j,j < i→q (runAt l j)=false) (h2:q l[i]=false):∀ j,j < i + 1→q (runAt l j)=false:=by
 intro j hj
 rcases Nat.lt_or_ge j i with h3|h3
 ·exact h1 j h3
 ·obtain rfl:j=i:=by omega
  rw [runAt_get h];exact h2
theorem rShareO_spec (w:World) (me:Int) (m:Msg) {N:Nat} (hw:w.fit N) (hN:N≤400000000000) (hme:U me) (hr:Right10 w.people=true) (hb7:Right07 w.box=true):Spec PP GG 143 [w.v,u32 me,m.v] (.tup [(shareO w me m).1.v,i64 (shareO w me m).2]) []:=by
 have hP:=rPerson_spec w hw (by omega) hr me hme
 have hU:(personW w me).runs.length≤N:=personW_runs hw me
 have hO:=rOpen_spec w hw (by omega) hb7 (personW w me).key 9 m.box
 rw [← oO] at hO
 have hS:∀ i,(hi:i < (personW w me).runs.length)→Spec PP GG 199 [w.v,(personW w me).v,i64 i,Run.v ⟨(personW w me).runs[i].proto,(personW w me).runs[i].role,(personW w me).runs[i].peer,(personW w me).runs[i].mine,(personW w me).runs[i].their,(personW w me).runs[i].m,(oO w me m).1.k,(personW w me).runs[i].t,3⟩] (withW w (setRun (personW w me) i (doneR (runAt (personW w me).runs i) (oO w me m).1.k))).v []:=fun i hi=>by
  have:=rWith15_spec w hw (by omega) hr (personW w me) (personW_ok hw me).1 i hi (by omega) (doneR (runAt (personW w me).runs i) (oO w me m).1.k)
  rw [runAt_get hi] at this ⊢
  exact this
 have hL:∀ i,(hi:i < (personW w me).runs.length)→Spec PP GG 130 [(withW w (setRun (personW w me) i (doneR (runAt (personW w me).runs i) (oO w me m).1.k))).v,Event.v ⟨4,2,1,me,(personW w me).runs[i].peer,(oO w me m).1.k,0,(personW w me).runs[i].m,(personW w me).runs[i].mine,(personW w me).clock⟩] (oCom w me i (oO w me m).1.k).v []:=fun i hi=>by
  have hfit:(withW w (setRun (personW w me) i (doneR (runAt (personW w me).runs i) (oO w me m).1.k))).fit N:=set_fit hw me i (doneR_ok (runAt_ok hw me i) (openW_ok hw _ _ _).2.2.2.2.1)
  have:=rLog_spec _ hfit (by omega) ⟨4,2,1,me,(runAt (personW w me).runs i).peer,(oO w me m).1.k,0,(runAt (personW w me).runs i).m,(runAt (personW w me).runs i).mine,(personW w me).clock⟩
  rw [oCom]
  rw [runAt_get hi] at this ⊢
  exact this
 have hfa := @first_at (personW w me).runs (waitM 2 1 m.run)
 have hfn := @first_none (personW w me).runs (waitM 2 1 m.run)
 have hsh:shareO w me m=match (personW w me).runs.findIdx? (waitM 2 1 m.run) with
  | none=>(w,9)
  | some i=>bif (oO w me m).2 && (oO w me m).1.n==(runAt (personW w me).runs i).mine then (oCom w me i (oO w me m).1.k,0) else (w,6):=rfl
 clear hw hr hb7
 generalize hq:oO w me m=q at *
 generalize hp:personW w me=p at *
 obtain ⟨⟨qn,qm,qa,qb,qk,qt,qh⟩,q2⟩:=q
 refine Qs func143 ?_
 intro w0 M0
 simp only [f143,lf,z,seval]
 (refine CU hP (h:=?_);simp only [z,seval])
 refine RUNs_rangeS (p.runs.length) (fun i (_:Unit) => ∀ j,j < i→waitM 2 1 m.run (runAt p.runs j)=false) (fun i _=>[(9,i64 i)]) (fun i _=>[]) () ?_ (by simp only [z,seval];exact wk) rfl ?_
 ·intro j h;exact absurd h (Nat.not_lt_zero _)
 rintro ⟨i,_,hi,hw'⟩
 simp only [z,seval]
 first|refine brk (fun h=>?_) (fun h=>?_)|fail
 ·have hlt:i < p.runs.length:=by have:=of_decide_eq_true h;omega
  have hg:=runAt_get hlt
  have hS:=hS i hlt
  have hL:=hL i hlt
  simp only [h,getMap Run.v p.runs hlt,z,seval]
  cases c:waitM 2 1 m.run p.runs[i] with
  | true =>
    have e:=hfa hlt (by rw [hg];exact c) hw'
    rw [e] at hsh
    simp only [hg] at hsh
    simp only [waitM,isRun,Bool.and_eq_true] at c
    simp only [c.1.1,c.1.2.1,c.1.2.2,c.2,z,seval]
    (refine CU hO (h:=?_);simp only [z,seval])
    cases d1:q2 with
    | false =>
      rw [d1] at hsh
      simp only [d1,z,seval]
      (refine Qf ?_;simp only [z,seval])
      simp only [hsh,Bool.false_and,cond_false,z,seval]
    | true =>
    rw [d1] at hsh
    simp only [d1,z,seval]
    cases d2:(qn==p.runs[i].mine) with
    | false =>
      rw [d2] at hsh
      simp only [d2,z,seval]
      (refine Qf ?_;simp only [z,seval])
      simp only [hsh,Bool.true_and,cond_false,z,seval]
    | true =>
      rw [d2] at hsh
      simp only [d2,z,seval]
      (refine CU hS (h:=?_);simp only [z,seval])
      (refine CU hL (h:=?_);simp only [z,seval])
      (refine Qf ?_;simp only [z,seval])
      simp only [hsh,Bool.true_and,cond_true,z,seval]
  | false =>
    have hs:=findIdx_none_take hlt hw' c
    simp only [waitM,isRun] at c
    cases c1:(p.runs[i].proto==2)<;>cases c2:(p.runs[i].role==1)<;>cases c3:(p.runs[i].state==1)<;>cases c4:(p.runs[i].m==m.run)
    all_goals
     simp only [c1,c2,c3,c4,z,seval]
     first
      | (exfalso;rw [c1,c2,c3,c4] at c;exact absurd c (by decide))
      | (simp only [w64s (i:=i) (by omega),z,seval]
         refine NX () ?_ (by rfl) hlt hs
         first|exact wk|(simp only [z,seval];exact wk))
 ·have:i=p.runs.length:=by have:=of_decide_eq_false h;omega
  subst this
  simp only [h,z,seval]
  rw [hfn hw'] at hsh
  (refine Qf ?_;simp only [z,seval])
  simp only [hsh,z,seval]
end Ch
