import Derived.Test.YtaebkmmjjabnaaaGreatDoorW29
import Derived.Test.YtaebkmmjjabnaaaGreatDoorW30
set_option maxRecDepth 100000
set_option maxHeartbeats 4000000
set_option linter.unusedSimpArgs false
set_option linter.unusedVariables false
namespace Go.Ab
open Go Go.RowKit
theorem take_end {α:Type} {l:List α} {i m:Nat} (hi:i≤l.length) (hm:i≤m) (h:¬ i < l.length ∨ ¬ i < m):l.take i=l.take m:=by
 rcases h with h|h
 ·have:i=l.length:=by omega
  subst this;rw [List.take_length,List.take_of_length_le (by omega)]
 ·have:i=m:=by omega
  rw [this]
theorem all_take_false {α:Type} {l:List α} {p:α→Bool} {i m:Nat} (h:i < l.length) (hm:i < m) (hp:p l[i]=false):(l.take m).all p=false:=by
 refine all_false (i:=i) (by rw [List.length_take];omega) ?_
 rw [List.getElem_take];exact hp
end Go.Ab
namespace Ch
open Go Go.Ab Go.Proofs.Tryz
def few (l:List Int):Bool:=decide ((l.length:Int)≤100)
def Few07 (b:Box):Bool:=(b.rows.take 100).all (fun s=>few s.plain) && decide ((b.rows.length:Int)≤70)
theorem Few07_spec (b:Box) (hl:b.rows.length≤9223372036854775807):Spec PP GG 64 [b.v] (.bool (Few07 b)) []:=by
 refine Qs func64 ?_
 intro w0 M0
 simp only [f64,lf,Box.v,sldsV,z,seval]
 refine RUNs_range b.rows.length (fun i (_:Unit)=>(b.rows.take i).all (fun s=>few s.plain)=true∧i≤100) (fun i _=>([.any,.ptr 0 0,.bool false,i64 i,.any,.any,.any,.any,.any,.any,.any,.any,.any,.any,.any,.any,.any,.any,.any,.any,.any,.any,.any,.any,.any,.any,.any],[.var [i64 b.room,sldsV b.rows]])) () (by simp) wk rfl ?_
 rintro ⟨i,_,hi,hw,hm⟩
 simp only [z,seval,sldsV]
 have hend:(¬ i < b.rows.length ∨ ¬ i < 100)→(b.rows.take 100).all (fun s=>few s.plain)=true:=fun h=>by rw [← take_end hi hm h];exact hw
 first|refine brk (fun h=>?_) (fun h=>?_)|fail
 ·have hlt:i < b.rows.length:=by simpa using h
  simp only [z,seval,h]
  first|refine brk (fun h=>?_) (fun h=>?_)|fail
  ·have hlm:i < 100:=by simp at h;omega
   simp only [z,seval,h,getMap Sld.v b.rows hlt,Sld.v,wordsV]
   first|refine brk (fun h=>?_) (fun h=>?_)|fail
   ·simp only [z,seval,h]
    (refine Qf ?_;simp only [z,seval])
    rw [Few07,all_take_false hlt hlm (by simp [few];simp at h;omega)];rfl
   ·simp only [z,seval,h,w64s (i:=i) (by omega)]
    refine NX () (hi:=hlt) (hinv:=?_)
    refine ⟨?_,by show i + 1≤100;omega⟩
    rw [all_succ hlt,hw];simp [few];simp at h;omega
  ·simp only [z,seval,h]
   (refine Qf ?_;simp only [z,seval])
   rw [Few07,hend (.inr (by simp at h;omega))];rfl
 ·simp only [z,seval,h]
  (refine Qf ?_;simp only [z,seval])
  rw [Few07,hend (.inl (by simp at h;omega))];rfl
def Few10 (l:List Person):Bool:=(l.take 20).all (fun p=>few p.used && decide ((p.runs.length:Int)≤100)) && decide ((l.length:Int)≤10)
theorem Few10_spec (l:List Person) (hl:l.length≤9223372036854775807):Spec PP GG 66 [peopleV l] (.bool (Few10 l)) []:=by
 refine Qs func66 ?_
 intro w0 M0
 simp only [f66,lf,peopleV,z,seval]
 refine RUNs_range l.length (fun i (_:Unit)=>(l.take i).all (fun p=>few p.used && decide ((p.runs.length:Int)≤100))=true∧i≤20) (fun i _=>([.sl (l.map Person.v) .plain,.any,.bool false,i64 i,.any,.any,.any,.any,.any,.any,.any,.any,.any,.any,.any,.any,.any,.any,.any,.any,.any,.any,.any,.any,.any,.any,.any,.any,.any,.any,.any,.any,.any],[])) () (by simp) wk rfl ?_
 rintro ⟨i,_,hi,hw,hm⟩
 simp only [z,seval]
 have hend:(¬ i < l.length ∨ ¬ i < 20)→(l.take 20).all (fun p=>few p.used && decide ((p.runs.length:Int)≤100))=true:=fun h=>by rw [← take_end hi hm h];exact hw
 first|refine brk (fun h=>?_) (fun h=>?_)|fail
 ·have hlt:i < l.length:=by simpa using h
  simp only [z,seval,h]
  first|refine brk (fun h=>?_) (fun h=>?_)|fail
  ·have hlm:i < 20:=by simp at h;omega
   simp only [z,seval,h,getMap Person.v l hlt,Person.v,wordsV,runsV]
   first|refine brk (fun h=>?_) (fun h=>?_)|fail
   ·rename_i h1
    simp only [z,seval,h,getMap Person.v l hlt,Person.v,wordsV,runsV]
    first|refine brk (fun h=>?_) (fun h=>?_)|fail
    ·simp only [z,seval,h]
     (refine Qf ?_;simp only [z,seval])
     rw [Few10,all_take_false hlt hlm (by simp [few] at *;intros;omega)];rfl
    ·simp only [z,seval,h,w64s (i:=i) (by omega)]
     refine NX () (hi:=hlt) (hinv:=?_)
     refine ⟨?_,by show i + 1≤20;omega⟩
     rw [all_succ hlt,hw];simp [few] at *;omega
   ·simp only [z,seval,h,getMap Person.v l hlt,Person.v,wordsV,runsV]
    (refine Qf ?_;simp only [z,seval])
    rw [Few10,all_take_false hlt hlm (by simp [few] at *;intros;omega)];rfl
  ·simp only [z,seval,h]
   (refine Qf ?_;simp only [z,seval])
   rw [Few10,hend (.inr (by simp at h;omega))];rfl
 ·simp only [z,seval,h]
  (refine Qf ?_;simp only [z,seval])
  rw [Few10,hend (.inl (by simp at h;omega))];rfl
def Few06 (n:Net):Bool:=(n.grams.take 100).all (fun g=>few g.words) && (n.seen.take 400).all few && decide ((n.grams.length:Int)≤64) && decide ((n.seen.length:Int)≤300)
theorem Few06_spec (b:Net) (hl:b.grams.length≤9223372036854775807) (hl2:b.seen.length≤9223372036854775807):Spec PP GG 65 [b.v] (.bool (Few06 b)) []:=by
 refine Qs func65 ?_
 intro w0 M0
 simp only [f65,lf,Net.v,gramsV,rowsV,z,seval]
 refine RUNs_cut (fun _:Unit=>([.any,.ptr 0 0,.bool false,.any,.any,.any,.any,.any,.any,.any,.any,.any,.any,.any,.any,.any,.any,.any,.any,.any,.any,.any,.any,.any,.any,.any,.any,.any,.any,.any,.any,.any,.any,.any,.any,.any,.any,.any,.any,.any,.any,.any,.any,.any,.any,.any,.any,.any,.any,.any,.any,.any],[.var [i64 b.room,gramsV b.grams,rowsV b.seen]])) (fun _=>(b.grams.take 100).all (fun s=>few s.words)=true) ?_ ?_ rfl
 ·refine RUNs_range b.grams.length (fun i (_:Unit)=>(b.grams.take i).all (fun s=>few s.words)=true∧i≤100) (fun i _=>([.any,.ptr 0 0,.bool false,i64 i,.any,.any,.any,.any,.any,.any,.any,.any,.any,.any,.any,.any,.any,.any,.any,.any,.any,.any,.any,.any,.any,.any,.any,.any,.any,.any,.any,.any,.any,.any,.any,.any,.any,.any,.any,.any,.any,.any,.any,.any,.any,.any,.any,.any,.any,.any,.any,.any],[.var [i64 b.room,gramsV b.grams,rowsV b.seen]])) () (by simp) wk rfl ?_
  rintro ⟨i,_,hi,hw,hm⟩
  simp only [z,seval,gramsV]
  have hend:(¬ i < b.grams.length ∨ ¬ i < 100)→(b.grams.take 100).all (fun s=>few s.words)=true:=fun h=>by rw [← take_end hi hm h];exact hw
  first|refine brk (fun h=>?_) (fun h=>?_)|fail
  ·have hlt:i < b.grams.length:=by simpa using h
   simp only [z,seval,h]
   first|refine brk (fun h=>?_) (fun h=>?_)|fail
   ·have hlm:i < 100:=by simp at h;omega
    simp only [z,seval,h,getMap Gram.v b.grams hlt,Gram.v,wordsV]
    first|refine brk (fun h=>?_) (fun h=>?_)|fail
    ·simp only [z,seval,h]
     (refine Qf ?_;simp only [z,seval])
     rw [Few06,all_take_false hlt hlm (by simp [few];simp at h;omega)];rfl
    ·simp only [z,seval,h,w64s (i:=i) (by omega)]
     refine NX () (hi:=hlt) (hinv:=?_)
     refine ⟨?_,by show i + 1≤100;omega⟩
     rw [all_succ hlt,hw];simp [few];simp at h;omega
   ·simp only [z,seval,h]
    refine CI () (h:=?_)
    exact hend (.inr (by simp at h;omega))
  ·simp only [z,seval,h]
   refine CI () (h:=?_)
   exact hend (.inl (by simp at h;omega))
 ·rintro _ h1
  simp only [z,seval]
  refine RUNs_range b.seen.length (fun i (_:Unit)=>(b.seen.take i).all few=true∧i≤400) (fun i _=>([.any,.ptr 0 0,.bool false,.any,i64 i,.any,.any,.any,.any,.any,.any,.any,.any,.any,.any,.any,.any,.any,.any,.any,.any,.any,.any,.any,.any,.any,.any,.any,.any,.any,.any,.any,.any,.any,.any,.any,.any,.any,.any,.any,.any,.any,.any,.any,.any,.any,.any,.any,.any,.any,.any,.any],[.var [i64 b.room,gramsV b.grams,rowsV b.seen]])) () (by simp) wk rfl ?_
  rintro ⟨i,_,hi,hw,hm⟩
  simp only [z,seval,rowsV,gramsV]
  have hend:(¬ i < b.seen.length ∨ ¬ i < 400)→(b.seen.take 400).all few=true:=fun h=>by rw [← take_end hi hm h];exact hw
  first|refine brk (fun h=>?_) (fun h=>?_)|fail
  ·have hlt:i < b.seen.length:=by simpa using h
   simp only [z,seval,h]
   first|refine brk (fun h=>?_) (fun h=>?_)|fail
   ·have hlm:i < 400:=by simp at h;omega
    simp only [z,seval,h,getMap wordsV b.seen hlt,wordsV]
    first|refine brk (fun h=>?_) (fun h=>?_)|fail
    ·simp only [z,seval,h]
     (refine Qf ?_;simp only [z,seval])
     rw [Few06,all_take_false hlt hlm (by simp [few];simp at h;omega)];simp
    ·simp only [z,seval,h,w64s (i:=i) (by omega)]
     refine NX () (hi:=hlt) (hinv:=?_)
     refine ⟨?_,by show i + 1≤400;omega⟩
     rw [all_succ hlt,hw];simp [few];simp at h;omega
   ·have h2:=hend (.inr (by simp at h;omega))
    simp only [z,seval,h]
    repeat' ((first|refine brk (fun h=>?_) (fun h=>?_)|fail)<;>simp only [z,seval,h])
    all_goals (refine Qf ?_;simp only [z,seval])
    all_goals (first|(simp_all [Few06];done)|(simp_all [Few06];intros;omega))
  ·have h2:=hend (.inl (by simp at h;omega))
   simp only [z,seval,h]
   repeat' ((first|refine brk (fun h=>?_) (fun h=>?_)|fail)<;>simp only [z,seval,h])
   all_goals (refine Qf ?_;simp only [z,seval])
   all_goals (first|(simp_all [Few06];done)|(simp_all [Few06];intros;omega))
def Few12 (w:World):Bool:=(w.regs.take 20).all few && Few07 w.box && Few06 w.net && Few10 w.people && decide ((w.regs.length:Int)≤10) && decide ((w.log.length:Int)≤300) && decide ((w.leaks.length:Int)≤300) && decide ((w.draws.list.length:Int)≤1000)
theorem Few12_spec (w:World) (hl:w.Lim):Spec PP GG 24 [w.v] (.bool (Few12 w)) []:=by
 obtain ⟨l1,l2,l3,l4,l5,l6,l7,l8,l9⟩:=hl
 refine Qs func24 ?_
 intro w0 M0
 simp only [f24,lf,z,seval]
 refine RUNs_cut (fun _:Unit=>([.any,.ptr 0 0,.bool false,.any,.any,.any,.any,.any,.any,.any,.any,.any,.any,.any,.any,.any,.any,.any,.any,.any,.any,.any,.any,.any,.any,.any,.any,.any,.any,.any,.any,.any,.any,.any,.any,.any,.any,.any,.any,.any,.any,.any,.any,.any,.any,.any,.any,.any,.any,.any,.any,.any,.any,.any,.any,.any,.any,.any,.any,.any],[.var w.cells])) (fun _=>(w.regs.take 20).all few=true) ?_ ?_ rfl
 ·refine RUNs_range w.regs.length (fun i (_:Unit)=>(w.regs.take i).all few=true∧i≤20) (fun i _=>([.any,.ptr 0 0,.bool false,i64 i,.any,.any,.any,.any,.any,.any,.any,.any,.any,.any,.any,.any,.any,.any,.any,.any,.any,.any,.any,.any,.any,.any,.any,.any,.any,.any,.any,.any,.any,.any,.any,.any,.any,.any,.any,.any,.any,.any,.any,.any,.any,.any,.any,.any,.any,.any,.any,.any,.any,.any,.any,.any,.any,.any,.any,.any],[.var w.cells])) () (by simp) wk rfl ?_
  rintro ⟨i,_,hi,hw,hm⟩
  simp only [z,seval]
  have hend:(¬ i < w.regs.length ∨ ¬ i < 20)→(w.regs.take 20).all few=true:=fun h=>by rw [← take_end hi hm h];exact hw
  first|refine brk (fun h=>?_) (fun h=>?_)|fail
  ·have hlt:i < w.regs.length:=by simpa using h
   simp only [z,seval,h]
   first|refine brk (fun h=>?_) (fun h=>?_)|fail
   ·have hlm:i < 20:=by simp at h;omega
    simp only [z,seval,h,getMap wordsV w.regs hlt]
    first|refine brk (fun h=>?_) (fun h=>?_)|fail
    ·simp only [z,seval,h]
     (refine Qf ?_;simp only [z,seval])
     rw [Few12,all_take_false hlt hlm (by simp [few];simp at h;omega)];rfl
    ·simp only [z,seval,h,w64s (i:=i) (by omega)]
     refine NX () (hi:=hlt) (hinv:=?_)
     refine ⟨?_,by show i + 1≤20;omega⟩
     rw [all_succ hlt,hw];simp [few];simp at h;omega
   ·simp only [z,seval,h]
    refine CI () (h:=?_)
    exact hend (.inr (by simp at h;omega))
  ·simp only [z,seval,h]
   refine CI () (h:=?_)
   exact hend (.inl (by simp at h;omega))
 ·rintro _ h1
  simp only [z,seval]
  repeat' (first|(refine CU (Few07_spec w.box l2) (h:=?_);simp only [z,seval])|(refine CU (Few06_spec w.net l3 l4) (h:=?_);simp only [z,seval])|(refine CU (Few10_spec w.people l5) (h:=?_);simp only [z,seval])|((first|refine brk (fun h=>?_) (fun h=>?_)|fail)<;>simp only [z,seval,h]))
  all_goals (refine Qf ?_;simp only [z,seval])
  all_goals (first|(simp_all [Few12];done)|(simp_all [Few12];intros;omega))
theorem few_len {α:Type} {l:List α} {p:α→Bool} {n:Nat} (h:(l.take n).all p=true) (hl:l.length≤n):∀ x∈l,p x=true:=by
 rw [List.take_of_length_le hl,List.all_eq_true] at h;exact h
theorem lim_of_few {w:World} (h:Few12 w=true):w.lim:=by
 simp only [Few12,Few07,Few06,Few10,Bool.and_eq_true,decide_eq_true_eq] at h
 obtain ⟨⟨⟨⟨⟨⟨⟨h1,h2,h3⟩,⟨⟨h4,h5⟩,h6⟩,h7⟩,h8,h9⟩,h10⟩,h11⟩,h12⟩,h13⟩:=h
 have L:∀ l:List Int,few l=true→l.length≤1099511627776:=fun l hl=>by simp only [few,decide_eq_true_eq] at hl;omega
 have P:=few_len h8 (by omega)
 simp only [Bool.and_eq_true,decide_eq_true_eq] at P
 exact ⟨by omega,by omega,fun s hs=>L _ (few_len h2 (by omega) s hs),by omega,fun s hs=>L _ (few_len h4 (by omega) s hs),by omega,fun s hs=>L _ (few_len h5 (by omega) s hs),by omega,
  fun p hp=>L _ (P p hp).1,fun p hp=>by have:=(P p hp).2;omega,by omega,by omega,fun s hs=>L _ (few_len h1 (by omega) s hs),by omega⟩
theorem fit_of_few {w:World} (hw:w.ok) (h1:Few12 w=true) (h2:Form12 w=true):w.fit 1048576:=by
 have h3:=lim_of_few h1
 simp only [Few12,Few07,Few06,Few10,Bool.and_eq_true,decide_eq_true_eq] at h1
 obtain ⟨⟨⟨⟨⟨⟨⟨f1,f2,f3⟩,⟨⟨f4,f5⟩,f6⟩,f7⟩,f8,f9⟩,f10⟩,f11⟩,f12⟩,f13⟩:=h1
 have L:∀ l:List Int,few l=true→l.length≤1048576:=fun l hl=>by simp only [few,decide_eq_true_eq] at hl;omega
 have Q:=few_len f8 (by omega)
 simp only [Bool.and_eq_true,decide_eq_true_eq] at Q
 simp only [Form12,Right07,Right06,Bool.and_eq_true,decide_eq_true_eq] at h2
 obtain ⟨⟨⟨⟨⟨⟨⟨⟨⟨⟨⟨⟨⟨_,g1⟩,_⟩,g2⟩,_⟩,_⟩,_⟩,_⟩,n1⟩,n2⟩,_⟩,_⟩,_⟩,_⟩:=h2
 exact ⟨hw,n1,by omega,⟨g1.1.1.1,by omega⟩,⟨g2.1.1,by omega⟩,by omega,by omega,fun s hs=>L _ (few_len f2 (by omega) s hs),by omega,fun s hs=>L _ (few_len f4 (by omega) s hs),by omega,fun s hs=>L _ (few_len f5 (by omega) s hs),by omega,
  fun p hp=>L _ (Q p hp).1,fun p hp=>by have:=(Q p hp).2;omega,by omega,by omega,fun s hs=>L _ (few_len f1 (by omega) s hs),by omega⟩
abbrev tR:Ty:=.slice tW false
abbrev tDraws:Ty:=.struct (.prod tW (.prod tI .unit))
abbrev tSld:Ty:=.struct (.prod tU (.prod tU (.prod tU (.prod tW .unit))))
abbrev tBox:Ty:=.struct (.prod tI (.prod (.slice tSld true) .unit))
abbrev tGram:Ty:=.struct (.prod tU (.prod tW .unit))
abbrev tNet:Ty:=.struct (.prod tI (.prod (.slice tGram true) (.prod tR .unit)))
abbrev tRun:Ty:=.struct (.prod tI (.prod tI (.prod tU (.prod tU (.prod tU (.prod tU (.prod tU (.prod tU (.prod tI .unit)))))))))
abbrev tPerson:Ty:=.struct (.prod tU (.prod tU (.prod tU (.prod tW (.prod (.slice tRun true) (.prod .bool .unit))))))
abbrev tEvent:Ty:=.struct (.prod tI (.prod tI (.prod tI (.prod tU (.prod tU (.prod tU (.prod tU (.prod tU (.prod tU (.prod tU .unit))))))))))
abbrev tLeak:Ty:=.struct (.prod tU (.prod tU .unit))
abbrev tWorld:Ty:=.struct (.prod tConf (.prod tDraws (.prod tBox (.prod tNet (.prod (.slice tPerson true) (.prod (.slice tEvent true) (.prod tR (.prod (.slice tLeak true) .unit))))))))
def sldOf:tSld.den→Sld|(a,b,c,d,_)=>⟨a,b,c,d⟩
def gramOf:tGram.den→Gram|(a,b,_)=>⟨a,b⟩
def runOf:tRun.den→Run|(a,b,c,d,e,f,g,h,i,_)=>⟨a,b,c,d,e,f,g,h,i⟩
def personOf:tPerson.den→Person|(a,b,c,d,e,f,_)=>⟨a,b,c,d,List.map runOf e,f⟩
def eventOf:tEvent.den→Event|(a,b,c,d,e,f,g,h,i,j,_)=>⟨a,b,c,d,e,f,g,h,i,j⟩
def leakOf:tLeak.den→Leak|(a,b,_)=>⟨a,b⟩
def worldOf:tWorld.den→World|(c,(d,n,_),(r,s,_),(m,g,l,_),p,e,q,k,_)=>⟨confOf c,⟨d,n⟩,⟨r,List.map sldOf s⟩,⟨m,List.map gramOf g,l⟩,List.map personOf p,List.map eventOf e,q,List.map leakOf k⟩
theorem enc_sld (x:tSld.den):elV true (encC tSld x)=(sldOf x).v:=by obtain ⟨a,b,c,d,_⟩:=x;rfl
theorem enc_gram (x:tGram.den):elV true (encC tGram x)=(gramOf x).v:=by obtain ⟨a,b,_⟩:=x;rfl
theorem enc_run (x:tRun.den):elV true (encC tRun x)=(runOf x).v:=by obtain ⟨a,b,c,d,e,f,g,h,i,_⟩:=x;rfl
theorem enc_event (x:tEvent.den):elV true (encC tEvent x)=(eventOf x).v:=by obtain ⟨a,b,c,d,e,f,g,h,i,j,_⟩:=x;rfl
theorem enc_leak (x:tLeak.den):elV true (encC tLeak x)=(leakOf x).v:=by obtain ⟨a,b,_⟩:=x;rfl
theorem enc_person (x:tPerson.den):elV true (encC tPerson x)=(personOf x).v:=by
 obtain ⟨a,b,c,d,e,f,_⟩:=x
 have:=enc_list enc_run e
 simp only [personOf,Person.v,runsV,← this]
 rfl
theorem enc_world (x:tWorld.den):encC tWorld x=(worldOf x).cells:=by
 obtain ⟨⟨c1,c2,c3,c4,c5,c6,c7,_⟩,⟨d,n,_⟩,⟨r,s,_⟩,⟨m,g,l,_⟩,p,e,q,k,_⟩:=x
 simp only [worldOf,World.cells,sldsV,gramsV,peopleV,eventsV,leaksV,← enc_list enc_sld s,← enc_list enc_gram g,← enc_list enc_person p,← enc_list enc_event e,← enc_list enc_leak k]
 rfl
theorem lim_rows {l:List (List Int)} (h:lim tR l):LL (LL U) l:=⟨h.1,fun x hx=>lim_words (h.2 x hx)⟩
theorem lim_sld (x:tSld.den) (h:lim tSld x):(sldOf x).ok:=by
 obtain ⟨a,b,c,d,_⟩:=x;obtain ⟨h1,h2,h3,h4,_⟩:=h;exact ⟨lim_u h1,lim_u h2,lim_u h3,lim_words h4⟩
theorem lim_gram (x:tGram.den) (h:lim tGram x):(gramOf x).ok:=by
 obtain ⟨a,b,_⟩:=x;obtain ⟨h1,h2,_⟩:=h;exact ⟨lim_u h1,lim_words h2⟩
theorem lim_run (x:tRun.den) (h:lim tRun x):(runOf x).ok:=by
 obtain ⟨a,b,c,d,e,f,g,k,i,_⟩:=x;obtain ⟨h1,h2,h3,h4,h5,h6,h7,h8,h9,_⟩:=h
 exact ⟨lim_i h1,lim_i h2,lim_u h3,lim_u h4,lim_u h5,lim_u h6,lim_u h7,lim_u h8,lim_i h9⟩
theorem lim_person (x:tPerson.den) (h:lim tPerson x):(personOf x).ok:=by
 obtain ⟨a,b,c,d,e,f,_⟩:=x;obtain ⟨h1,h2,h3,h4,h5,_⟩:=h
 exact ⟨lim_u h1,lim_u h2,lim_u h3,lim_words h4,lim_list lim_run h5⟩
theorem lim_event (x:tEvent.den) (h:lim tEvent x):(eventOf x).ok:=by
 obtain ⟨a,b,c,d,e,f,g,k,i,j,_⟩:=x;obtain ⟨h1,h2,h3,h4,h5,h6,h7,h8,h9,h10,_⟩:=h
 exact ⟨lim_i h1,lim_i h2,lim_i h3,lim_u h4,lim_u h5,lim_u h6,lim_u h7,lim_u h8,lim_u h9,lim_u h10⟩
theorem lim_leak (x:tLeak.den) (h:lim tLeak x):(leakOf x).ok:=by
 obtain ⟨a,b,_⟩:=x;obtain ⟨h1,h2,_⟩:=h;exact ⟨lim_u h1,lim_u h2⟩
theorem lim_world (x:tWorld.den) (h:lim tWorld x):(worldOf x).ok:=by
 obtain ⟨c,⟨d,n,_⟩,⟨r,s,_⟩,⟨m,g,l,_⟩,p,e,q,k,_⟩:=x
 obtain ⟨h1,⟨h2,h3,_⟩,⟨h4,h5,_⟩,⟨h6,h7,h8,_⟩,h9,h10,h11,h12,_⟩:=h
 exact ⟨lim_conf c h1,⟨lim_words h2,lim_i h3⟩,⟨lim_i h4,lim_list lim_sld h5⟩,⟨lim_i h6,lim_list lim_gram h7,lim_rows h8⟩,lim_list lim_person h9,lim_list lim_event h10,lim_rows h11,lim_list lim_leak h12⟩
end Ch
namespace Ch
open Go Go.Ab
theorem enc_worldA (x:tWorld.den):elV true (encC tWorld x)=(worldOf x).v:=by rw [enc_world];rfl
end Ch
