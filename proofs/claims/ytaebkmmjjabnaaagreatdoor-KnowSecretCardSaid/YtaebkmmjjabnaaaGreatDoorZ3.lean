import Derived.Test.YtaebkmmjjabnaaaGreatDoorZ1
set_option maxRecDepth 100000
set_option maxHeartbeats 4000000
set_option linter.unusedSimpArgs false
set_option linter.unusedVariables false
namespace Ch
open Go Go.Ab Go.Proofs.Tryz
theorem Has_spec (l:List Int) (w:Int) (hl:l.length≤9223372036854775807):Spec PP GG 95 [wordsV l,u32 w] (.bool (decide (w∈l))) []:=by
 refine Qs func95 ?_
 intro w0 M0
 simp only [f95,lf,wordsV,z,seval]
 refine RUNs_range l.length (fun i (_:Unit)=>w ∉ l.take i) (fun i _=>([.sl (l.map u32) .plain,u32 w,.any,.any,.bool false,i64 i,.any,.any,.any,.any,.any,.any,.any,.any,.any,.any,.any,.any],[])) () (by simp) wk rfl ?_
 rintro ⟨i,_,hi,hw⟩
 simp only [z,seval]
 refine CONDS_split (fun h=>?_) (fun h=>?_)
 ·have hlt:i < l.length:=by simpa using h
  simp only [z,seval,getMap u32 l hlt]
  refine CONDS_split (fun h=>?_) (fun h=>?_)
  ·simp only [z,seval]
   (refine Qf ?_;simp only [z,seval])
   have:w∈l:=by have:=List.getElem_mem hlt;simp at h;simp_all
   simp [this]
  ·simp only [z,seval,w64s (i:=i) (by omega)]
   refine NX () (hi:=hlt) (hinv:=?_)
   have h':l[i]≠w:=by simpa using h
   simp only [List.take_succ_eq_append_getElem hlt,List.mem_append,List.mem_singleton]
   rintro (h1|h1)
   ·exact hw h1
   ·exact h' h1.symm
 ·simp only [z,seval]
  (refine Qf ?_;simp only [z,seval])
  have:i=l.length:=by simp at h;omega
  subst this
  simp at hw;simp [hw]
def rGet (l:List Person) (n:Int):Option Person:=l.find? fun p=>p.name==n
theorem find_none_succ {α:Type} {l:List α} {f:α→Bool} {i:Nat} (h:i < l.length) (h1:(l.take i).find? f=none) (h2:f l[i]=false):(l.take (i + 1)).find? f=none:=by
 rw [List.take_succ_eq_append_getElem h,List.find?_append,h1];simp [h2]
theorem find_at {α:Type} {l:List α} {f:α→Bool} {i:Nat} (h:i < l.length) (h1:(l.take i).find? f=none) (h2:f l[i]=true):l.find? f=some l[i]:=by
 have:l=l.take i++l.drop i:=(List.take_append_drop i l).symm
 conv=>lhs;rw [this]
 rw [List.find?_append,h1,Option.none_or,List.drop_eq_getElem_cons h,List.find?_cons,h2]
theorem rGet_spec (l:List Person) (n:Int) (hl:l.length≤1099511627776):Spec PP GG 133 [peopleV l,u32 n] (.tup [((rGet l n).getD zeroP).v,.bool (rGet l n).isSome]) []:=by
 refine Qs func133 ?_
 intro w0 M0
 simp only [f133,lf,z,seval]
 refine RUNs_rangeF l.length (fun i (_:Unit)=>rGet (l.take i) n=none) (fun i _=>[.sl (l.map Person.v) .plain,u32 n,.any,.any,.ptr 0 0,.bool false,i64 i,.any,.any,.any,.any,.any,.any,.any,.any,.any,.any,.any,.any,.any,.any,.any,.any,.any,.any]) () (by simp [rGet]) wk rfl ?_
 rintro ⟨i,_,hi,hw⟩
 simp only [z,seval]
 refine CONDS_split (fun h=>?_) (fun h=>?_)
 ·have hlt:i < l.length:=by simpa using h
  simp only [z,seval,getMap Person.v l hlt]
  refine CONDS_split (fun h=>?_) (fun h=>?_)
  ·simp only [z,seval,getMap Person.v l hlt]
   (refine Qf ?_;simp only [z,seval])
   rw [rGet,find_at hlt hw (by simpa using h)]
   simp
  ·simp only [z,seval,w64s (i:=i) (by omega)]
   refine NX () (hi:=hlt) (hinv:=?_)
   exact find_none_succ hlt hw (by simpa using h)
 ·have hi':i=l.length:=by simp at h;omega
  subst hi'
  rw [List.take_length] at hw
  simp only [z,seval]
  (refine Qf ?_;simp only [z,seval])
  rw [hw];simp [zeroP]
theorem rGet_right {l:List Person} (h:Right10 l=true) (n:Nat):rGet l n=l[n]?:=by
 have hn:=names_of_right h
 rw [rGet]
 by_cases hl:n < l.length
 ·rw [List.getElem?_eq_getElem hl]
  refine find_at hl ?_ (by rw [hn n hl];simp)
  rw [List.find?_eq_none]
  intro p hp
  obtain ⟨j,hj,rfl⟩:=List.mem_take_iff_getElem.1 hp
  have:=hn j (by omega)
  simp only [this,beq_iff_eq]
  omega
 ·rw [List.getElem?_eq_none (by omega),List.find?_eq_none]
  intro p hp
  obtain ⟨j,hj,rfl⟩:=List.mem_iff_getElem.1 hp
  have:=hn j hj
  simp only [this,beq_iff_eq]
  omega
theorem rUnlike_spec (l:List Int) (hl:l.length≤1099511627776):Spec PP GG 93 [wordsV l] (.bool (decide l.Nodup)) []:=by
 refine Qs func93 ?_
 intro w0 M0
 simp only [f93,lf,z,seval]
 refine RUNs_rangeF l.length (fun i (_:Unit)=>(l.take i).Nodup) (fun i _=>[.sl (l.map u32) .plain,.any,.bool false,i64 i,.any,.any,.any,.any,.any,.any,.any,.any,.any,.any,.any,.any,.any,.any]) () (by simp) wk rfl ?_
 rintro ⟨i,_,hi,hw⟩
 simp only [z,seval]
 refine CONDS_split (fun h=>?_) (fun h=>?_)
 ·have hlt:i < l.length:=by simpa using h
  simp only [z,seval]
  (refine Qw 0 ?_;simp only [z,seval])
  refine DOC_ok (slc_ok (Nat.le_of_lt hlt) (by intro a;rfl)) ?_
  simp only [getMap u32 l hlt,z,seval]
  have hlt2:(l.take i).length≤9223372036854775807:=by simp;omega
  (refine DU (Has_spec (l.take i) l[i] hlt2) (h:=?_);simp only [z,seval])
  (refine ⟨by kernel_rfl,?_⟩)
  refine CONDS_split (fun h=>?_) (fun h=>?_)
  ·simp only [h,z,seval]
   (refine Qf ?_;simp only [z,seval])
   have h':l[i]∈l.take i:=of_decide_eq_true h
   simp [not_nodup hlt h']
  ·simp only [h,w64s (i:=i) (by omega),z,seval]
   refine NX () (hi:=hlt) (hinv:=?_)
   exact nodup_succ hlt hw (of_decide_eq_false h)
 ·have hi':i=l.length:=by simp at h;omega
  subst hi'
  rw [List.take_length] at hw
  simp only [z,seval]
  (refine Qf ?_;simp only [z,seval])
  simp [hw]
end Ch
