import Derived.Test.YtaebkmmjjabnaaaGreatDoorW28
set_option maxRecDepth 100000
set_option maxHeartbeats 4000000
set_option linter.unusedSimpArgs false
set_option linter.unusedVariables false
namespace Go.Ab
open Go Go.RowKit
section
variable {P:Program} {G:Glob} {w0:World} {M0:Nat→Nat→Prop} {R:Value→World→Prop}
theorem RUNs_cut {σ:Type} (I:σ→List V×List AB) (ok:σ→Prop) {c:Code} {id:Nat} {k:List It} {fr:List V} {st:List (List V)} {H:List AB}
 (h:RUNs P G w0 M0 R ⟨.code c::.blk id::.inv (CUT P G w0 M0 R I ok st)::k,fr,st,H⟩) (hk:∀ s,ok s→RUNs P G w0 M0 R ⟨k,(I s).1,st,(I s).2⟩) (hs:step P G ⟨.code c::.blk id::k,fr,st,H⟩=none) :
 RUNs P G w0 M0 R ⟨.code c::.blk id::k,fr,st,H⟩:=by
 refine RUNs_stop hs ?_
 have hr:=RUN_of_RUNs h
 intro sa a E hH hR hD
 have:=hr sa a E hH hR (by simpa only [DF] using hD)
 simp only [post,rd] at this ⊢
 refine wpIn_mono this (fun e a' w' q=>?_)
 have key:∀ a' w',CUT P G w0 M0 R I ok st sa a' w'∧DF k a'.defers sa→post P R k sa .normal a' w':=by
  rintro a' w' ⟨⟨s,E',h1,rfl,h2,h3⟩,h4⟩
  exact RUN_of_RUNs (hk s h1) sa a' E' h2 h3 h4
 cases e with
 | normal=>exact key a' w' q
 | exit id' =>
   simp only [post] at q ⊢
   split
   ·rename_i hi;rw [if_pos hi] at q;exact key a' w' q
   ·rename_i hi;rw [if_neg hi] at q;exact q
 | _=>exact q
end
theorem allIx_nil {α:Type} (f:List α→α→Bool):allIx f []=true:=rfl
theorem slc_ok {α:Type} {f:α→V} {l:List α} {i sz:Nat} (h:i≤l.length) (hf:∀ a,lenE' sz (f a)=true):(slcB l.length none (some i) none && (l.map f).all (lenE' sz))=true:=by
 simp [slcB,h,hf]
end Go.Ab
namespace Ch
open Go Go.Ab Go.Proofs.Tryz
theorem May09_spec (r:Run):Spec PP GG 111 [r.v] (.bool (May09 r)) []:=by
 refine Qs func111 ?_
 intro w0 M0
 simp only [f111,lf,Run.v,z,seval]
 repeat' ((first|refine brk (fun h=>?_) (fun h=>?_)|fail)<;>simp only [z,seval,h])
 all_goals (refine Qf ?_;simp only [z,seval])
 all_goals simp_all [May09]
theorem Right06_spec (n:Net):Spec PP GG 60 [n.v] (.bool (Right06 n)) []:=by
 refine Qs func60 ?_
 intro w0 M0
 simp only [f60,lf,Net.v,gramsV,z,seval]
 repeat' ((first|refine brk (fun h=>?_) (fun h=>?_)|fail)<;>simp only [z,seval,h])
 all_goals (refine Qf ?_;simp only [z,seval])
 all_goals (first|(simp_all [Right06];done)|(simp_all [Right06];intros;omega))
theorem Right07_spec (b:Box) (hl:b.rows.length≤9223372036854775807):Spec PP GG 59 [b.v] (.bool (Right07 b)) []:=by
 refine Qs func59 ?_
 intro w0 M0
 simp only [f59,lf,Box.v,sldsV,z,seval]
 repeat' ((first|refine brk (fun h=>?_) (fun h=>?_)|fail)<;>simp only [z,seval,h])
 rotate_left
 all_goals try ((refine Qf ?_;simp only [z,seval]);(simp_all [Right07];done))
 all_goals try ((refine Qf ?_;simp only [z,seval]);(simp_all [Right07];intros;omega))
 rename_i h1 h2
 refine RUNs_range b.rows.length (fun i (_:Unit)=>allIx (fun l s=>decide (s.plain.length≤64) && !There07 l s.handle) (b.rows.take i)=true) (fun i _=>([.any,.ptr 0 0,.bool false,i64 i,.any,.any,.any,.any,.any,.any,.any,.any,.any,.any,.any,.any,.any,.any,.any,.any,.any,.any,.any,.any,.any,.any,.any,.any,.any,.any,.any,.any,.any,.any,.any,.any,.any,.any,.any,.any,.any,.any,.any,.any,.any,.any,.any,.any,.any],[.var [i64 b.room,sldsV b.rows]])) () (by simp [allIx_nil]) wk rfl ?_
 rintro ⟨i,_,hi,hw⟩
 simp only [z,seval,sldsV]
 refine CONDS_split (fun h=>?_) (fun h=>?_)
 ·have hlt:i < b.rows.length:=by simpa using h
  simp only [z,seval]
  (refine Qw 0 ?_;simp only [z,seval])
  simp only [z,seval,getMap Sld.v b.rows hlt,Sld.v,wordsV]
  first|refine brk (fun h=>?_) (fun h=>?_)|fail
  ·simp only [z,seval,getMap Sld.v b.rows hlt,Sld.v,wordsV,h]
   refine DOC_ok (slc_ok hi (by intro a;rfl)) ?_
   simp only [z,seval,getMap Sld.v b.rows hlt,Sld.v,wordsV]
   (refine DU (There07_spec ⟨0,b.rows.take i⟩ _ (by simp;omega)) (h:=?_);simp only [z,seval])
   (refine ⟨by kernel_rfl,?_⟩)
   first|refine brk (fun h=>?_) (fun h=>?_)|fail
   ·simp only [z,seval,h]
    (refine Qf ?_;simp only [z,seval])
    rw [Right07,allIx_false hlt (by simp_all)];simp
   ·simp only [z,seval,h,w64s (i:=i) (by omega)]
    refine NX () (hi:=hlt) (hinv:=?_)
    rw [allIx_succ hlt,hw]
    simp_all;omega
  ·simp only [z,seval,getMap Sld.v b.rows hlt,Sld.v,wordsV,h]
   (refine ⟨by kernel_rfl,?_⟩)
   (refine Qf ?_;simp only [z,seval])
   rw [Right07,allIx_false hlt (by simp_all;intros;omega)];simp
 ·simp only [z,seval]
  (refine Qf ?_;simp only [z,seval])
  have:i=b.rows.length:=by simp at h;omega
  subst this
  rw [List.take_length] at hw
  rw [Right07,hw]
  simp_all
theorem Right09_spec (l:List Run) (room:Int) (hl:l.length≤9223372036854775807):Spec PP GG 63 [runsV l,i64 room] (.bool (Right09 l room)) []:=by
 refine Qs func63 ?_
 intro w0 M0
 simp only [f63,lf,runsV,z,seval]
 refine RUNs_range l.length (fun i (_:Unit)=>(l.take i).all May09=true) (fun i _=>([.sl (l.map Run.v) .plain,i64 room,.any,.any,.bool false,i64 i,.any,.any,.any,.any,.any,.any,.any,.any,.any,.any,.any,.any,.any,.any,.any,.any],[])) () (by simp) wk rfl ?_
 rintro ⟨i,_,hi,hw⟩
 simp only [z,seval]
 refine CONDS_split (fun h=>?_) (fun h=>?_)
 ·have hlt:i < l.length:=by simpa using h
  simp only [z,seval,getMap Run.v l hlt,Run.v]
  (refine CU (May09_spec l[i]) (h:=?_);simp only [z,seval])
  first|refine brk (fun h=>?_) (fun h=>?_)|fail
  ·simp only [z,seval,w64s (i:=i) (by omega)]
   refine NX () (hi:=hlt) (hinv:=?_)
   rw [all_succ hlt,hw,h];rfl
  ·simp only [z,seval]
   (refine Qf ?_;simp only [z,seval])
   rw [Right09,all_false hlt h];rfl
 ·simp only [z,seval]
  (refine Qf ?_;simp only [z,seval])
  have:i=l.length:=by simp at h;omega
  subst this
  rw [List.take_length] at hw
  rw [Right09,hw];rfl
theorem Right10_spec (l:List Person) (hl:l.length≤9223372036854775807):Spec PP GG 61 [peopleV l] (.bool (Right10 l)) []:=by
 refine Qs func61 ?_
 intro w0 M0
 simp only [f61,lf,peopleV,z,seval]
 refine RUNs_range l.length (fun i (_:Unit)=>allIx (fun pre p=>p.name==IntKind.u32.wrap pre.length) (l.take i)=true) (fun i _=>([.sl (l.map Person.v) .plain,.any,.bool false,i64 i,.any,.any,.any,.any,.any,.any,.any,.any,.any,.any,.any,.any,.any,.any,.any,.any,.any,.any,.any,.any,.any,.any],[])) () (by simp [allIx_nil]) wk rfl ?_
 rintro ⟨i,_,hi,hw⟩
 have hti:(l.take i).length=i:=by rw [List.length_take];omega
 simp only [z,seval]
 refine CONDS_split (fun h=>?_) (fun h=>?_)
 ·have hlt:i < l.length:=by simpa using h
  simp only [z,seval,getMap Person.v l hlt,Person.v]
  first|refine brk (fun h=>?_) (fun h=>?_)|fail
  ·simp only [z,seval,w64s (i:=i) (by omega)]
   refine NX () (hi:=hlt) (hinv:=?_)
   rw [allIx_succ hlt,hw,hti,h];rfl
  ·simp only [z,seval]
   (refine Qf ?_;simp only [z,seval])
   rw [Right10,allIx_false hlt (by rw [hti];exact h)];rfl
 ·simp only [z,seval]
  have:i=l.length:=by simp at h;omega
  subst this
  rw [List.take_length] at hw
  repeat' ((first|refine brk (fun h=>?_) (fun h=>?_)|fail)<;>simp only [z,seval,h])
  all_goals (refine Qf ?_;simp only [z,seval])
  all_goals (first|(simp_all [Right10];done)|(simp_all [Right10];intros;omega))
theorem Right08_spec (l:List Int) (room:Int) (hl:l.length≤9223372036854775807):Spec PP GG 62 [wordsV l,i64 room] (.bool (Right08 l room)) []:=by
 refine Qs func62 ?_
 intro w0 M0
 simp only [f62,lf,wordsV,z,seval]
 refine RUNs_range l.length (fun i (_:Unit)=>allIx (fun pre x => !decide (x∈pre)) (l.take i)=true) (fun i _=>([.sl (l.map u32) .plain,i64 room,.any,.any,.bool false,i64 i,.any,.any,.any,.any,.any,.any,.any,.any,.any,.any,.any,.any,.any,.any,.any,.any,.any,.any,.any,.any,.any,.any,.any,.any,.any],[])) () (by simp [allIx_nil]) wk rfl ?_
 rintro ⟨i,_,hi,hw⟩
 simp only [z,seval]
 refine CONDS_split (fun h=>?_) (fun h=>?_)
 ·have hlt:i < l.length:=by simpa using h
  simp only [z,seval]
  refine RUNs_range i (fun k (_:Unit)=>l[i] ∉ l.take k) (fun k _=>([.sl (l.map u32) .plain,i64 room,.any,.any,.bool false,i64 i,i64 k,.any,.any,.any,.any,.any,.any,.any,.any,.any,.any,.any,.any,.any,.any,.any,.any,.any,.any,.any,.any,.any,.any,.any,.any],[])) () (by simp) wk rfl ?_
  rintro ⟨k,_,hk,hwk⟩
  simp only [z,seval]
  refine CONDS_split (fun h=>?_) (fun h=>?_)
  ·have hlk:k < i:=by simpa using h
   simp only [z,seval]
   (refine Qw 0 ?_;simp only [z,seval])
   simp only [z,seval,getMap u32 l hlt,getMap u32 l (Nat.lt_trans hlk hlt)]
   (refine ⟨by kernel_rfl,?_⟩)
   first|refine brk (fun h=>?_) (fun h=>?_)|fail
   ·simp only [z,seval]
    (refine Qf ?_;simp only [z,seval])
    have hm:l[i]∈l.take i:=by
     rw [List.mem_iff_getElem]
     refine ⟨k,by rw [List.length_take];omega,?_⟩
     simp at h;simp [h]
    rw [Right08,allIx_false hlt (by simp [hm])];rfl
   ·simp only [z,seval,w64s (i:=k) (by omega)]
    refine NX () (hi:=hlk) (hinv:=?_)
    rw [List.take_succ_eq_append_getElem (Nat.lt_trans hlk hlt),List.mem_append,List.mem_singleton]
    rintro (hc|hc)
    ·exact hwk hc
    ·simp at h;exact h hc
  ·have:k=i:=by simp at h;omega
   subst this
   simp only [z,seval,w64s (i:=k) (by omega)]
   refine NX () (hi:=hlt) (hinv:=?_)
   rw [allIx_succ hlt,hw];simpa using hwk
 ·simp only [z,seval]
  (refine Qf ?_;simp only [z,seval])
  have:i=l.length:=by simp at h;omega
  subst this
  rw [List.take_length] at hw
  rw [Right08,hw];rfl
theorem Form12_spec (w:World) (hl:w.Lim):Spec PP GG 23 [w.v] (.bool (Form12 w)) []:=by
 obtain ⟨l1,l2,l3,l4,l5,l6,l7,l8,l9⟩:=hl
 refine Qs func23 ?_
 intro w0 M0
 simp only [f23,lf,World.v,World.cells,z,seval]
 repeat' (first|(refine CU (May12_spec w.conf) (h:=?_);simp only [z,seval])|(refine CU (Right07_spec w.box l2) (h:=?_);simp only [z,seval])|(refine CU (Right06_spec w.net) (h:=?_);simp only [z,seval])|(refine CU (Right10_spec w.people l5) (h:=?_);simp only [z,seval])|((first|refine brk (fun h=>?_) (fun h=>?_)|fail)<;>simp only [z,seval,h]))
 all_goals try ((refine Qf ?_;simp only [z,seval]);(first|(simp_all [Form12];done)|(simp_all [Form12];intros;omega));done)
 have hform:Form12 w=(w.people.all (okP w.conf) && w.regs.all at64 && w.net.seen.all at64 && w.net.grams.all (fun g=>at64 g.words)):=by
  simp_all [Form12,Bool.and_assoc]
 refine RUNs_cut (fun _:Unit=>([.any,.ptr 0 0,.bool false,.any,.any,.any,.any,.any,.any,.any,.any,.any,.any,.any,.any,.any,.any,.any,.any,.any,.any,.any,.any,.any,.any,.any,.any,.any,.any,.any,.any,.any,.any,.any,.any,.any,.any,.any,.any,.any,.any,.any,.any,.any,.any,.any,.any,.any,.any,.any,.any,.any,.any,.any,.any,.any,.any,.any,.any,.any,.any,.any,.any,.any,.any,.any,.any,.any,.any,.any,.any,.any,.any,.any,.any,.any,.any,.any,.any,.any,.any,.any,.any,.any,.any,.any,.any,.any,.any,.any,.any,.any,.any,.any,.any,.any,.any,.any,.any,.any,.any,.any,.any,.any,.any,.any,.any,.any,.any,.any,.any,.any,.any,.any,.any,.any,.any,.any,.any,.any,.any,.any,.any,.any,.any,.any,.any,.any,.any,.any,.any,.any,.any,.any,.any,.any,.any,.any,.any,.any,.any,.any,.any,.any,.any,.any,.any,.any,.any,.any,.any,.any,.any,.any,.any,.any,.any],[.var w.cells])) (fun _=>w.people.all (okP w.conf)=true) ?_ ?_ rfl
 ·refine RUNs_range w.people.length (fun i (_:Unit)=>(w.people.take i).all (okP w.conf)=true) (fun i _=>([.any,.ptr 0 0,.bool false,i64 i,.any,.any,.any,.any,.any,.any,.any,.any,.any,.any,.any,.any,.any,.any,.any,.any,.any,.any,.any,.any,.any,.any,.any,.any,.any,.any,.any,.any,.any,.any,.any,.any,.any,.any,.any,.any,.any,.any,.any,.any,.any,.any,.any,.any,.any,.any,.any,.any,.any,.any,.any,.any,.any,.any,.any,.any,.any,.any,.any,.any,.any,.any,.any,.any,.any,.any,.any,.any,.any,.any,.any,.any,.any,.any,.any,.any,.any,.any,.any,.any,.any,.any,.any,.any,.any,.any,.any,.any,.any,.any,.any,.any,.any,.any,.any,.any,.any,.any,.any,.any,.any,.any,.any,.any,.any,.any,.any,.any,.any,.any,.any,.any,.any,.any,.any,.any,.any,.any,.any,.any,.any,.any,.any,.any,.any,.any,.any,.any,.any,.any,.any,.any,.any,.any,.any,.any,.any,.any,.any,.any,.any,.any,.any,.any,.any,.any,.any,.any,.any,.any,.any,.any,.any],[.var w.cells])) () (by simp) wk rfl ?_
  rintro ⟨i,_,hi,hw⟩
  simp only [z,seval,World.cells]
  first|refine brk (fun h=>?_) (fun h=>?_)|fail
  ·have hlt:i < w.people.length:=by simpa using h
   obtain ⟨m1,m2⟩:=l6 w.people[i] (List.getElem_mem hlt)
   simp only [z,seval,h,getMap Person.v w.people hlt,Person.v]
   repeat' (first|(refine CU (Right08_spec w.people[i].used w.conf.used m1) (h:=?_);simp only [z,seval])|(refine CU (Right09_spec w.people[i].runs w.conf.runs m2) (h:=?_);simp only [z,seval])|((first|refine brk (fun h=>?_) (fun h=>?_)|fail)<;>simp only [z,seval,h]))
   all_goals try ((refine Qf ?_;simp only [z,seval]);(rw [hform,all_false hlt (by simp_all [okP])];simp);done)
   simp only [w64s (i:=i) (by omega)]
   refine NX () (hi:=hlt) (hinv:=?_)
   rw [all_succ hlt,hw];simp_all [okP]
  ·simp only [z,seval,h]
   refine CI () (h:=?_)
   have:i=w.people.length:=by simp at h;omega
   subst this
   rwa [List.take_length] at hw
 intro _ hA
 simp only [z,seval]
 refine RUNs_cut (fun _:Unit=>([.any,.ptr 0 0,.bool false,.any,.any,.any,.any,.any,.any,.any,.any,.any,.any,.any,.any,.any,.any,.any,.any,.any,.any,.any,.any,.any,.any,.any,.any,.any,.any,.any,.any,.any,.any,.any,.any,.any,.any,.any,.any,.any,.any,.any,.any,.any,.any,.any,.any,.any,.any,.any,.any,.any,.any,.any,.any,.any,.any,.any,.any,.any,.any,.any,.any,.any,.any,.any,.any,.any,.any,.any,.any,.any,.any,.any,.any,.any,.any,.any,.any,.any,.any,.any,.any,.any,.any,.any,.any,.any,.any,.any,.any,.any,.any,.any,.any,.any,.any,.any,.any,.any,.any,.any,.any,.any,.any,.any,.any,.any,.any,.any,.any,.any,.any,.any,.any,.any,.any,.any,.any,.any,.any,.any,.any,.any,.any,.any,.any,.any,.any,.any,.any,.any,.any,.any,.any,.any,.any,.any,.any,.any,.any,.any,.any,.any,.any,.any,.any,.any,.any,.any,.any,.any,.any,.any,.any,.any,.any],[.var w.cells])) (fun _=>w.regs.all at64=true) ?_ ?_ rfl
 ·refine RUNs_range w.regs.length (fun i (_:Unit)=>(w.regs.take i).all at64=true) (fun i _=>([.any,.ptr 0 0,.bool false,.any,.any,i64 i,.any,.any,.any,.any,.any,.any,.any,.any,.any,.any,.any,.any,.any,.any,.any,.any,.any,.any,.any,.any,.any,.any,.any,.any,.any,.any,.any,.any,.any,.any,.any,.any,.any,.any,.any,.any,.any,.any,.any,.any,.any,.any,.any,.any,.any,.any,.any,.any,.any,.any,.any,.any,.any,.any,.any,.any,.any,.any,.any,.any,.any,.any,.any,.any,.any,.any,.any,.any,.any,.any,.any,.any,.any,.any,.any,.any,.any,.any,.any,.any,.any,.any,.any,.any,.any,.any,.any,.any,.any,.any,.any,.any,.any,.any,.any,.any,.any,.any,.any,.any,.any,.any,.any,.any,.any,.any,.any,.any,.any,.any,.any,.any,.any,.any,.any,.any,.any,.any,.any,.any,.any,.any,.any,.any,.any,.any,.any,.any,.any,.any,.any,.any,.any,.any,.any,.any,.any,.any,.any,.any,.any,.any,.any,.any,.any,.any,.any,.any,.any,.any,.any],[.var w.cells])) () (by simp) wk rfl ?_
  rintro ⟨i,_,hi,hw⟩
  simp only [z,seval,World.cells]
  first|refine brk (fun h=>?_) (fun h=>?_)|fail
  ·have hlt:i < w.regs.length:=by simpa using h
   simp only [z,seval,h,getMap wordsV w.regs hlt,Gram.v]
   first|refine brk (fun h=>?_) (fun h=>?_)|fail
   ·simp only [z,seval,h]
    (refine Qf ?_;simp only [z,seval])
    rw [hform,all_false hlt (by simp [at64];simp at h;omega)];simp
   ·simp only [z,seval,h,w64s (i:=i) (by omega)]
    refine NX () (hi:=hlt) (hinv:=?_)
    rw [all_succ hlt,hw];simp [at64];simp at h;omega
  ·simp only [z,seval,h]
   have hend:i=w.regs.length:=by simp at h;omega
   subst hend
   rw [List.take_length] at hw
   refine CI () (h:=?_)
   exact hw
 intro _ hB
 simp only [z,seval]
 refine RUNs_cut (fun _:Unit=>([.any,.ptr 0 0,.bool false,.any,.any,.any,.any,.any,.any,.any,.any,.any,.any,.any,.any,.any,.any,.any,.any,.any,.any,.any,.any,.any,.any,.any,.any,.any,.any,.any,.any,.any,.any,.any,.any,.any,.any,.any,.any,.any,.any,.any,.any,.any,.any,.any,.any,.any,.any,.any,.any,.any,.any,.any,.any,.any,.any,.any,.any,.any,.any,.any,.any,.any,.any,.any,.any,.any,.any,.any,.any,.any,.any,.any,.any,.any,.any,.any,.any,.any,.any,.any,.any,.any,.any,.any,.any,.any,.any,.any,.any,.any,.any,.any,.any,.any,.any,.any,.any,.any,.any,.any,.any,.any,.any,.any,.any,.any,.any,.any,.any,.any,.any,.any,.any,.any,.any,.any,.any,.any,.any,.any,.any,.any,.any,.any,.any,.any,.any,.any,.any,.any,.any,.any,.any,.any,.any,.any,.any,.any,.any,.any,.any,.any,.any,.any,.any,.any,.any,.any,.any,.any,.any,.any,.any,.any,.any],[.var w.cells])) (fun _=>w.net.seen.all at64=true) ?_ ?_ rfl
 ·refine RUNs_range w.net.seen.length (fun i (_:Unit)=>(w.net.seen.take i).all at64=true) (fun i _=>([.any,.ptr 0 0,.bool false,.any,.any,.any,i64 i,.any,.any,.any,.any,.any,.any,.any,.any,.any,.any,.any,.any,.any,.any,.any,.any,.any,.any,.any,.any,.any,.any,.any,.any,.any,.any,.any,.any,.any,.any,.any,.any,.any,.any,.any,.any,.any,.any,.any,.any,.any,.any,.any,.any,.any,.any,.any,.any,.any,.any,.any,.any,.any,.any,.any,.any,.any,.any,.any,.any,.any,.any,.any,.any,.any,.any,.any,.any,.any,.any,.any,.any,.any,.any,.any,.any,.any,.any,.any,.any,.any,.any,.any,.any,.any,.any,.any,.any,.any,.any,.any,.any,.any,.any,.any,.any,.any,.any,.any,.any,.any,.any,.any,.any,.any,.any,.any,.any,.any,.any,.any,.any,.any,.any,.any,.any,.any,.any,.any,.any,.any,.any,.any,.any,.any,.any,.any,.any,.any,.any,.any,.any,.any,.any,.any,.any,.any,.any,.any,.any,.any,.any,.any,.any,.any,.any,.any,.any,.any,.any],[.var w.cells])) () (by simp) wk rfl ?_
  rintro ⟨i,_,hi,hw⟩
  simp only [z,seval,World.cells]
  first|refine brk (fun h=>?_) (fun h=>?_)|fail
  ·have hlt:i < w.net.seen.length:=by simpa using h
   simp only [z,seval,h,getMap wordsV w.net.seen hlt,Gram.v]
   first|refine brk (fun h=>?_) (fun h=>?_)|fail
   ·simp only [z,seval,h]
    (refine Qf ?_;simp only [z,seval])
    rw [hform,all_false hlt (by simp [at64];simp at h;omega)];simp
   ·simp only [z,seval,h,w64s (i:=i) (by omega)]
    refine NX () (hi:=hlt) (hinv:=?_)
    rw [all_succ hlt,hw];simp [at64];simp at h;omega
  ·simp only [z,seval,h]
   have hend:i=w.net.seen.length:=by simp at h;omega
   subst hend
   rw [List.take_length] at hw
   refine CI () (h:=?_)
   exact hw
 intro _ hC
 simp only [z,seval]
 ·refine RUNs_range w.net.grams.length (fun i (_:Unit)=>(w.net.grams.take i).all (fun g=>at64 g.words)=true) (fun i _=>([.any,.ptr 0 0,.bool false,.any,.any,.any,.any,i64 i,.any,.any,.any,.any,.any,.any,.any,.any,.any,.any,.any,.any,.any,.any,.any,.any,.any,.any,.any,.any,.any,.any,.any,.any,.any,.any,.any,.any,.any,.any,.any,.any,.any,.any,.any,.any,.any,.any,.any,.any,.any,.any,.any,.any,.any,.any,.any,.any,.any,.any,.any,.any,.any,.any,.any,.any,.any,.any,.any,.any,.any,.any,.any,.any,.any,.any,.any,.any,.any,.any,.any,.any,.any,.any,.any,.any,.any,.any,.any,.any,.any,.any,.any,.any,.any,.any,.any,.any,.any,.any,.any,.any,.any,.any,.any,.any,.any,.any,.any,.any,.any,.any,.any,.any,.any,.any,.any,.any,.any,.any,.any,.any,.any,.any,.any,.any,.any,.any,.any,.any,.any,.any,.any,.any,.any,.any,.any,.any,.any,.any,.any,.any,.any,.any,.any,.any,.any,.any,.any,.any,.any,.any,.any,.any,.any,.any,.any,.any,.any],[.var w.cells])) () (by simp) wk rfl ?_
  rintro ⟨i,_,hi,hw⟩
  simp only [z,seval,World.cells]
  first|refine brk (fun h=>?_) (fun h=>?_)|fail
  ·have hlt:i < w.net.grams.length:=by simpa using h
   simp only [z,seval,h,getMap Gram.v w.net.grams hlt,Gram.v]
   first|refine brk (fun h=>?_) (fun h=>?_)|fail
   ·simp only [z,seval,h]
    (refine Qf ?_;simp only [z,seval])
    rw [hform,all_false hlt (by simp [at64];simp at h;omega)];simp
   ·simp only [z,seval,h,w64s (i:=i) (by omega)]
    refine NX () (hi:=hlt) (hinv:=?_)
    rw [all_succ hlt,hw];simp [at64];simp at h;omega
  ·simp only [z,seval,h]
   have hend:i=w.net.grams.length:=by simp at h;omega
   subst hend
   rw [List.take_length] at hw
   (refine Qf ?_;simp only [z,seval])
   rw [hform,hA,hB,hC,hw];rfl
theorem Lim_of_ok {w:World} (h:w.ok):w.Lim:=by
 obtain ⟨h1,h2,h3,h4,h5,h6,h7,h8⟩:=h
 exact ⟨h2.1.1,h3.2.1,h4.2.1.1,h4.2.2.1,h5.1,fun p hp=>⟨(h5.2 p hp).2.2.2.1.1,(h5.2 p hp).2.2.2.2.1⟩,h6.1,h7.1,h8.1⟩
theorem may_ppl {c:Conf} (h:May12 c=true):1≤c.people∧c.people≤6:=by
 simp only [May12,Bool.and_eq_true,decide_eq_true_eq] at h
 obtain ⟨⟨⟨⟨⟨⟨⟨⟨_,h1⟩,h2⟩,_⟩,_⟩,_⟩,_⟩,_⟩,_⟩:=h
 exact ⟨h1,h2⟩
theorem at64_iff {l:List Int}:at64 l=true↔l.length≤64:=by simp only [at64,decide_eq_true_eq];omega
theorem form_iff {w:World}:Form12 w=true↔w.form:=by
 constructor
 ·intro h
  simp only [Form12,Bool.and_eq_true,List.all_eq_true,at64_iff,beq_iff_eq,decide_eq_true_eq] at h
  obtain ⟨⟨⟨⟨⟨⟨⟨⟨⟨⟨⟨⟨⟨h1,h2⟩,h3⟩,h4⟩,h5⟩,h6⟩,h7⟩,h8⟩,h9⟩,h10⟩,h11⟩,h12⟩,h13⟩,h14⟩:=h
  have:=may_ppl h1
  exact ⟨h1,h2,h3,h4,h5,h6,by rw [w64 (by omega) (by omega)] at h7;exact h7,h8,h9,h10,h11,h12,h13,h14⟩
 ·rintro ⟨h1,h2,h3,h4,h5,h6,h7,h8,h9,h10,h11,h12,h13,h14⟩
  have:=may_ppl h1
  simp only [Form12,Bool.and_eq_true,List.all_eq_true,at64_iff,beq_iff_eq,decide_eq_true_eq]
  exact ⟨⟨⟨⟨⟨⟨⟨⟨⟨⟨⟨⟨⟨h1,h2⟩,h3⟩,h4⟩,h5⟩,h6⟩,by rw [w64 (by omega) (by omega)];exact h7⟩,h8⟩,h9⟩,h10⟩,h11⟩,h12⟩,h13⟩,h14⟩
end Ch
