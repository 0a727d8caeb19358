import Derived.Test.YtaebkmmjjabnaaaGreatDoorW29
set_option maxRecDepth 100000
set_option maxHeartbeats 4000000
set_option linter.unusedSimpArgs false
set_option linter.unusedVariables false
namespace Ch
open Go Go.Ab Go.Proofs.Tryz
def Few22 (l:List Op):Bool:=(l.take 300).all (fun o=>decide (o.words.length≤80)) && decide (l.length≤200)
theorem Few22_spec (l:List Op) (hl:l.length≤9223372036854775807):Spec PP GG 78 [opsV l] (.bool (Few22 l)) []:=by
 refine Qs func78 ?_
 intro w0 M0
 simp only [f78,lf,z,seval]
 refine RUNs_rangeF (min l.length 300) (fun i (_:Unit)=>(l.take i).all (fun o=>decide (o.words.length≤80))=true) (fun i _=>[.sl (l.map Op.v) .plain,.any,.bool false,i64 i,.any,.any,.any,.any,.any,.any,.any,.any,.any,.any,.any,.any,.any,.any,.any,.any,.any,.any,.any,.any]) () (by simp) wk rfl ?_
 rintro ⟨i,_,hi,hw⟩
 simp only [z,seval]
 have hend:¬ i < min l.length 300→i=min l.length 300:=fun h=>by omega
 first|refine brk (fun h=>?_) (fun h=>?_)|fail
 ·have hlt:i < l.length:=by simpa using h
  simp only [h,z,seval]
  first|refine brk (fun h=>?_) (fun h=>?_)|fail
  ·have h3:i < 300:=by have:=of_decide_eq_true h;omega
   simp only [h,z,seval,getMap Op.v l hlt]
   refine CONDS_split (fun h=>?_) (fun h=>?_)
   ·simp only [z,seval]
    (refine Qf ?_;simp only [z,seval])
    have hx:¬ l[i].words.length≤80:=by have:=of_decide_eq_true h;omega
    have:Few22 l=false:=by
     simp only [Few22,Bool.and_eq_false_iff]
     left
     rw [List.all_eq_false]
     exact ⟨l[i],List.mem_take_iff_getElem.2 ⟨i,by omega,rfl⟩,by simpa using hx⟩
    simp [this]
   ·simp only [z,seval,w64s (i:=i) (by omega)]
    have hlt2:i < min l.length 300:=by omega
    refine NX () (hi:=hlt2) (hinv:=?_)
    have hx:l[i].words.length≤80:=by have:=of_decide_eq_false h;omega
    simp only [List.take_succ_eq_append_getElem hlt,List.all_append,hw,List.all_cons,List.all_nil,Bool.and_true,Bool.true_and,decide_eq_true_eq]
    exact hx
  ·have h3:¬ i < 300:=by have:=of_decide_eq_false h;omega
   have:=hend (by omega)
   have:i=300:=by omega
   subst this
   simp only [h,z,seval]
   (refine Qf ?_;simp only [z,seval])
   simp only [Few22,hw,Bool.true_and]
   simp;omega
 ·have hlt:¬ i < l.length:=by simpa using h
  simp only [h,z,seval]
  (refine Qf ?_;simp only [z,seval])
  have hi2:i=l.length:=by omega
  subst hi2
  rw [List.take_length] at hw
  simp only [Few22]
  rw [List.take_of_length_le (by omega),hw]
  simp;omega
def fits22 (c:Conf) (ls:List Int) (l:List Op):Bool:=May12 c && (decide ((ls.length:Int)≤1000) && Few22 l)
theorem few22_len {l:List Op} (h:Few22 l=true):l.length≤200:=by
 simp only [Few22,Bool.and_eq_true,decide_eq_true_eq] at h
 exact h.2
theorem fits22_spec (c:Conf) (ls:List Int) (l:List Op) (hl:l.length≤9223372036854775807):Spec PP GG 27 [c.v,wordsV ls,opsV l] (.bool (fits22 c ls l)) []:=by
 have h1:=May12_spec c
 have h2:=Few22_spec l hl
 unfold fits22
 cases c1:May12 c with
 | false =>
   rw [c1] at h1
   refine Qs func27 ?_
   intro w0 M0
   simp only [f27,lf,z,seval]
   (refine CU h1 (h:=?_);simp only [z,seval])
   (refine Qf ?_;simp only [z,seval])
   try rfl
 | true =>
 rw [c1] at h1
 cases c2:decide ((ls.length:Int)≤1000) with
 | false =>
   refine Qs func27 ?_
   intro w0 M0
   simp only [f27,lf,z,seval]
   (refine CU h1 (h:=?_);simp only [z,seval])
   simp only [c2,z,seval]
   (refine Qf ?_;simp only [z,seval])
   try rfl
 | true =>
   refine Qs func27 ?_
   intro w0 M0
   simp only [f27,lf,z,seval]
   (refine CU h1 (h:=?_);simp only [z,seval])
   simp only [c2,z,seval]
   (refine CU h2 (h:=?_);simp only [z,seval])
   (refine Qf ?_;simp only [z,seval])
   try rfl
theorem runs22 {c:Conf} {ls:List Int} {l:List Op} {n m:Nat} (hf:(newWorld c ls n m).fit 1100) (hg:(newWorld c ls n m).form) (hn:n≤6) (hl:LL Op.ok l) (h2:l.length≤200):Runs (newWorld c ls n m) l 1100 :=
 ⟨hf,hg,hl.2,by decide,by show (n:Int) + 3 * l.length≤1048576;omega,by omega⟩
end Ch
namespace Ch
open Go Go.Ab
theorem enc_ops (x:(Ty.slice tOp true).den):elV false (encC (.slice tOp true) x)=opsV (List.map opOf x) :=
 congrArg (V.sl · .plain) (enc_list enc_op (show List tOp.den from x))
theorem lim_ops (x:(Ty.slice tOp true).den) (h:lim (.slice tOp true) x):LL Op.ok (List.map opOf x):=lim_list lim_op h
end Ch
