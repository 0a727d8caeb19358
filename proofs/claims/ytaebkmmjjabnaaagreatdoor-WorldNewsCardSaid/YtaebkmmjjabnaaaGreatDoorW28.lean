import Derived.Test.YtaebkmmjjabnaaaGreatDoorW26
set_option maxRecDepth 100000
set_option maxHeartbeats 4000000
set_option linter.unusedSimpArgs false
set_option linter.unusedVariables false
namespace Go.Ab
open Go Go.RowKit
theorem any_true {α:Type} {l:List α} {p:α→Bool} {i:Nat} (h:i < l.length) (hp:p l[i]=true):l.any p=true :=
 List.any_eq_true.2 ⟨_,List.getElem_mem h,hp⟩
end Go.Ab
namespace Ch
open Go Go.Ab Go.Proofs.Tryz
theorem There07_spec (b:Box) (w:Int) (hl:b.rows.length≤9223372036854775807):Spec PP GG 94 [b.v,u32 w] (.bool (There07 b.rows w)) []:=by
 refine Qs func94 ?_
 intro w0 M0
 simp only [f94,lf,Box.v,sldsV,z,seval]
 refine RUNs_range b.rows.length (fun i (_:Unit)=>(b.rows.take i).all (fun s => !(s.handle==w))=true) (fun i _=>([b.v,u32 w,.ptr 0 0,.any,.bool false,i64 i,.any,.any,.any,.any,.any,.any,.any,.any,.any,.any,.any,.any,.any,.any,.any],[.var [i64 b.room,sldsV b.rows]])) () (by simp) wk rfl ?_
 rintro ⟨i,_,hi,hw⟩
 simp only [z,seval,sldsV]
 refine CONDS_split (fun h=>?_) (fun h=>?_)
 ·have hlt:i < b.rows.length:=by simpa using h
  simp only [z,seval,getMap Sld.v b.rows hlt,Sld.v]
  refine CONDS_split (fun h=>?_) (fun h=>?_)
  ·simp only [z,seval]
   (refine Qf ?_;simp only [z,seval])
   rw [There07,any_true hlt h]
  ·simp only [z,seval,w64s (i:=i) (by omega)]
   refine NX () (hi:=hlt) (hinv:=?_)
   rw [all_succ hlt,hw,h];rfl
 ·simp only [z,seval]
  (refine Qf ?_;simp only [z,seval])
  have:i=b.rows.length:=by simp at h;omega
  subst this
  rw [List.take_length] at hw
  rw [There07,List.any_eq_not_all_not,hw];rfl
end Ch
