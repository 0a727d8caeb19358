import Derived.Test.YtaebkmmjjabnaaaGreatDoorZ1
set_option maxRecDepth 100000
set_option maxHeartbeats 4000000
set_option linter.unusedSimpArgs false
set_option linter.unusedVariables false
namespace Ch
open Go Go.Ab Go.Proofs.Tryz
theorem setF_get (l:List Int) (x:Int):setF l [x]=if x∈l then some (.bool true) else none:=by
 have key:∀ (l:List Int) (f:List Int→Option V),(l.foldl (fun f x=>updF f [x] (.bool true)) f) [x]=if x∈l then some (.bool true) else f [x]:=by
  intro l
  induction l with
  | nil=>intro f;simp
  | cons a l ih =>
    intro f
    rw [List.foldl_cons,ih]
    by_cases h:x∈l
    ·simp [h]
    ·by_cases ha:x=a
     ·subst ha;simp [updF,eqIs]
     ·have:(x==a)=false:=by simp [ha]
      simp [h,ha,updF,eqIs,this]
 exact key l noF
theorem setF_look (l:List Int) (x:Int):lookR false (.bool false) (setF l [x])=.bool (decide (x∈l)):=by
 rw [setF_get];by_cases h:x∈l<;>simp [h,lookR]
theorem setF_succ {l:List Int} {i:Nat} (h:i < l.length):setF (l.take (i + 1))=updF (setF (l.take i)) [l[i]] (.bool true):=by
 rw [List.take_succ_eq_append_getElem h,setF,List.foldl_append];rfl
theorem Unlike_spec (l:List Int) (hl:l.length≤1099511627776):Spec PP GG 150 [wordsV l] (.bool (decide l.Nodup)) []:=by
 refine Qs func150 ?_
 intro w0 M0
 simp only [f150,lf,z,seval]
 refine RUNs_range l.length (fun i (_:Unit)=>(l.take i).Nodup) (fun i _=>([.sl (l.map u32) .plain,.any,.bool false,.mp 0,.any,.any,.any,.sl (l.map u32) .plain,i64 l.length,i64 i,.any,.any,.any,.any,.any,.any,.any,.any,.any],[.map false (false,[.u32]) (setF (l.take i))])) () (by simp) wk rfl ?_
 rintro ⟨i,_,hi,hw⟩
 simp only [z,seval]
 refine CONDS_split (fun h=>?_) (fun h=>?_)
 ·have hlt:i < l.length:=by simpa using h
  simp only [getMap u32 l hlt,z,seval]
  simp only [setF_look,z,seval]
  refine CONDS_split (fun h=>?_) (fun h=>?_)
  ·simp only [h,z,seval]
   (refine Qf ?_;simp only [z,seval])
   have h':l[i]∈l.take i:=of_decide_eq_true h
   simp [not_nodup hlt h']
  ·simp only [h,← setF_succ hlt,w64s (i:=i) (by omega),z,seval]
   refine NX () (hi:=hlt) (hinv:=?_)
   exact nodup_succ hlt hw (of_decide_eq_false h)
 ·have hi':i=l.length:=by simp at h;omega
  subst hi'
  rw [List.take_length] at hw
  simp only [z,seval]
  (refine Qf ?_;simp only [z,seval])
  simp [hw]
end Ch
