import Derived.Test.YtaebkmmjjabnaaaGreatDoorW31
import Derived.Test.YtaebkmmjjabnaaaGreatDoorW32
import Derived.Test.YtaebkmmjjabnaaaGreatDoorW35
set_option maxRecDepth 100000
set_option maxHeartbeats 4000000
set_option linter.unusedSimpArgs false
set_option linter.unusedVariables false
namespace Ch
open Go Go.Ab Go.Proofs.Tryz
theorem mapSucc {α:Type} {f:α→V} {l:List α} {i:Nat} (h:i < l.length):(l.take i).map f++[f l[i]]=(l.take (i + 1)).map f:=by
 rw [List.take_succ_eq_append_getElem h,List.map_append];rfl
def cpCells (w:World) (a b c d e f g:V):List V:=[u32 w.conf.window,i64 w.conf.people,i64 w.conf.box,i64 w.conf.used,i64 w.conf.runs,i64 w.conf.net,i64 w.conf.regs,wordsV w.draws.list,i64 w.draws.next,
 i64 w.box.room,a,i64 w.net.room,b,c,d,e,f,g]
def cpV (w:World):V:=.agg (cpCells w (sldsV w.box.rows) (gramsV w.net.grams) (rowsV w.net.seen) (.row 7 w.people.length) (eventsV w.log) (.row 9 w.regs.length) (leaksV w.leaks))
def cpH (w:World):List AB:=[.dead,.dead,.dead,.dead,.dead,.dead,.dead,.row 6 ((w.people).map Person.v) w.people.length false,.dead,.row 1 ((w.regs).map wordsV) w.regs.length false]
theorem Copied_H (w:World) (hL:w.lim):Spec PP GG 32 [w.v] (cpV w) (cpH w):=by
 refine Qs func32 ?_
 intro w0 M0
 simp only [f32,lf,z,seval]
 refine OPC_ok (okMap _ (fun a=>rfl) hL.draws) ?_
 simp only [z,seval]
 (refine RUNs_freeze 3 0 ?_ (by rfl) ?_ ?_;rotate_left 1;(simp only [z,seval];exact rfl);simp only [z,seval])
 (refine RUNs_row0H 2 10 4 (h:=?_);simp only [z,seval])
 refine RUNs_rangeS (w.box.rows.length) (fun _ (_:Unit)=>True) (fun i _=>[(4,i64 i)]) (fun i _=>[(2,.var (cpCells w (.row 4 i) (gramsV w.net.grams) (rowsV w.net.seen) (peopleV w.people) (eventsV w.log) (rowsV w.regs) (leaksV w.leaks))),(4,.row 4 ((w.box.rows.take i).map Sld.v) i false)]) () ?_ (by simp only [z,seval];exact wk) rfl ?_
 ·trivial
 rintro ⟨i,_,hi,_⟩
 have hll:w.box.rows.length≤1099511627776:=hL.rows
 simp only [cpCells,z,seval]
 first|refine brk (fun h=>?_) (fun h=>?_)|fail
 ·have hlt:i < w.box.rows.length:=by have:=of_decide_eq_true h;omega
  simp only [h,getMap Sld.v w.box.rows hlt,z,seval]
  refine OPC_ok (okMap _ (fun a=>rfl) (hL.plain _ (List.getElem_mem hlt))) ?_
  simp only [z,seval]
  refine OPC_ok (by simp;omega) ?_
  simp only [z,seval]
  have e:=mapSucc (f:=Sld.v) hlt
  simp only [mv] at e
  simp only [e,w64s (i:=i) (by omega),z,seval]
  (refine NX () ?_ (by rfl) hlt ?_;simp only [cpCells,z,seval];exact wk)
  trivial
 simp only [h,z,seval]
 obtain rfl:i=w.box.rows.length:=by have:=of_decide_eq_false h;omega
 clear hi h
 simp only [List.take_length,z,seval]
 (refine RUNs_freeze 4 w.box.rows.length ?_ (by rfl) ?_ ?_;rotate_left 1;(simp only [z,seval];exact rfl);simp only [z,seval])
 (refine RUNs_row0H 2 12 2 (h:=?_);simp only [z,seval])
 refine RUNs_rangeS (w.net.grams.length) (fun _ (_:Unit)=>True) (fun i _=>[(6,i64 i)]) (fun i _=>[(2,.var (cpCells w (sldsV w.box.rows) (.row 5 i) (rowsV w.net.seen) (peopleV w.people) (eventsV w.log) (rowsV w.regs) (leaksV w.leaks))),(5,.row 2 ((w.net.grams.take i).map Gram.v) i false)]) () ?_ (by simp only [z,seval];exact wk) rfl ?_
 ·trivial
 rintro ⟨i,_,hi,_⟩
 have hll:w.net.grams.length≤1099511627776:=hL.grams
 simp only [cpCells,z,seval]
 first|refine brk (fun h=>?_) (fun h=>?_)|fail
 ·have hlt:i < w.net.grams.length:=by have:=of_decide_eq_true h;omega
  simp only [h,getMap Gram.v w.net.grams hlt,z,seval]
  (refine Qw 3 ?_;simp only [z,seval])
  simp only [getMap Gram.v w.net.grams hlt,Gram.v,z,seval]
  refine DOC_ok (okMap _ (fun a=>rfl) (hL.words _ (List.getElem_mem hlt))) ?_
  simp only [z,seval]
  refine DOC_ok (by simp;omega) ?_
  simp only [z,seval]
  (refine ⟨by kernel_rfl,?_⟩)
  have e:=mapSucc (f:=Gram.v) hlt
  simp only [mv] at e
  simp only [e,w64s (i:=i) (by omega),z,seval]
  (refine NX () ?_ (by rfl) hlt ?_;simp only [cpCells,z,seval];exact wk)
  trivial
 simp only [h,z,seval]
 obtain rfl:i=w.net.grams.length:=by have:=of_decide_eq_false h;omega
 clear hi h
 simp only [List.take_length,z,seval]
 (refine RUNs_freeze 5 w.net.grams.length ?_ (by rfl) ?_ ?_;rotate_left 1;(simp only [z,seval];exact rfl);simp only [z,seval])
 (refine RUNs_row0H 2 13 1 (h:=?_);simp only [z,seval])
 refine RUNs_rangeS (w.net.seen.length) (fun _ (_:Unit)=>True) (fun i _=>[(7,i64 i)]) (fun i _=>[(2,.var (cpCells w (sldsV w.box.rows) (gramsV w.net.grams) (.row 6 i) (peopleV w.people) (eventsV w.log) (rowsV w.regs) (leaksV w.leaks))),(6,.row 1 ((w.net.seen.take i).map wordsV) i false)]) () ?_ (by simp only [z,seval];exact wk) rfl ?_
 ·trivial
 rintro ⟨i,_,hi,_⟩
 have hll:w.net.seen.length≤1099511627776:=hL.seen
 simp only [cpCells,z,seval]
 first|refine brk (fun h=>?_) (fun h=>?_)|fail
 ·have hlt:i < w.net.seen.length:=by have:=of_decide_eq_true h;omega
  simp only [h,getMap wordsV w.net.seen hlt,z,seval]
  (refine Qw 3 ?_;simp only [z,seval])
  simp only [getMap wordsV w.net.seen hlt,Gram.v,z,seval]
  refine DOC_ok (okMap _ (fun a=>rfl) (hL.seens _ (List.getElem_mem hlt))) ?_
  simp only [z,seval]
  refine DOC_ok (by simp;omega) ?_
  simp only [z,seval]
  (refine ⟨by kernel_rfl,?_⟩)
  have e:=mapSucc (f:=wordsV) hlt
  simp only [mv] at e
  simp only [e,w64s (i:=i) (by omega),z,seval]
  (refine NX () ?_ (by rfl) hlt ?_;simp only [cpCells,z,seval];exact wk)
  trivial
 simp only [h,z,seval]
 obtain rfl:i=w.net.seen.length:=by have:=of_decide_eq_false h;omega
 clear hi h
 simp only [List.take_length,z,seval]
 (refine RUNs_freeze 6 w.net.seen.length ?_ (by rfl) ?_ ?_;rotate_left 1;(simp only [z,seval];exact rfl);simp only [z,seval])
 (refine RUNs_row0H 2 14 6 (h:=?_);simp only [z,seval])
 refine RUNs_rangeS (w.people.length) (fun _ (_:Unit)=>True) (fun i _=>[(8,i64 i)]) (fun i _=>[(2,.var (cpCells w (sldsV w.box.rows) (gramsV w.net.grams) (rowsV w.net.seen) (.row 7 i) (eventsV w.log) (rowsV w.regs) (leaksV w.leaks))),(7,.row 6 ((w.people.take i).map Person.v) i false)]) () ?_ (by simp only [z,seval];exact wk) rfl ?_
 ·trivial
 rintro ⟨i,_,hi,_⟩
 have hll:w.people.length≤1099511627776:=hL.people
 simp only [cpCells,z,seval]
 first|refine brk (fun h=>?_) (fun h=>?_)|fail
 ·have hlt:i < w.people.length:=by have:=of_decide_eq_true h;omega
  simp only [h,getMap Person.v w.people hlt,z,seval]
  refine OPC_ok (okMap _ (fun a=>rfl) (hL.used _ (List.getElem_mem hlt))) ?_
  simp only [z,seval]
  refine OPC_ok (okMap _ (fun a=>rfl) (hL.runs _ (List.getElem_mem hlt))) ?_
  simp only [z,seval]
  refine OPC_ok (by simp;omega) ?_
  simp only [z,seval]
  have e:=mapSucc (f:=Person.v) hlt
  simp only [mv] at e
  simp only [e,w64s (i:=i) (by omega),z,seval]
  (refine NX () ?_ (by rfl) hlt ?_;simp only [cpCells,z,seval];exact wk)
  trivial
 simp only [h,z,seval]
 obtain rfl:i=w.people.length:=by have:=of_decide_eq_false h;omega
 clear hi h
 simp only [List.take_length,z,seval]
 refine OPC_ok (okMap _ (fun a=>rfl) hL.log) ?_
 simp only [z,seval]
 (refine RUNs_freeze 8 0 ?_ (by rfl) ?_ ?_;rotate_left 1;(simp only [z,seval];exact rfl);simp only [z,seval])
 (refine RUNs_row0H 2 16 1 (h:=?_);simp only [z,seval])
 refine RUNs_rangeS (w.regs.length) (fun _ (_:Unit)=>True) (fun i _=>[(10,i64 i)]) (fun i _=>[(2,.var (cpCells w (sldsV w.box.rows) (gramsV w.net.grams) (rowsV w.net.seen) (.row 7 w.people.length) (eventsV w.log) (.row 9 i) (leaksV w.leaks))),(9,.row 1 ((w.regs.take i).map wordsV) i false)]) () ?_ (by simp only [z,seval];exact wk) rfl ?_
 ·trivial
 rintro ⟨i,_,hi,_⟩
 have hll:w.regs.length≤1099511627776:=hL.regs
 simp only [cpCells,z,seval]
 first|refine brk (fun h=>?_) (fun h=>?_)|fail
 ·have hlt:i < w.regs.length:=by have:=of_decide_eq_true h;omega
  simp only [h,getMap wordsV w.regs hlt,z,seval]
  (refine Qw 3 ?_;simp only [z,seval])
  simp only [getMap wordsV w.regs hlt,Gram.v,z,seval]
  refine DOC_ok (okMap _ (fun a=>rfl) (hL.reg _ (List.getElem_mem hlt))) ?_
  simp only [z,seval]
  refine DOC_ok (by simp;omega) ?_
  simp only [z,seval]
  (refine ⟨by kernel_rfl,?_⟩)
  have e:=mapSucc (f:=wordsV) hlt
  simp only [mv] at e
  simp only [e,w64s (i:=i) (by omega),z,seval]
  (refine NX () ?_ (by rfl) hlt ?_;simp only [cpCells,z,seval];exact wk)
  trivial
 simp only [h,z,seval]
 obtain rfl:i=w.regs.length:=by have:=of_decide_eq_false h;omega
 clear hi h
 simp only [List.take_length,z,seval]
 refine OPC_ok (okMap _ (fun a=>rfl) hL.leaks) ?_
 simp only [z,seval]
 refine FINS_keep [7,9] ?_ ?_
 ·simp only [List.filter_cons,List.filter_nil,List.contains_cons,List.contains_nil,Nat.reduceBEq,beq_self_eq_true,Bool.or_false,Bool.false_or,Bool.or_true,Bool.true_or,Bool.not_true,Bool.not_false,Bool.false_eq_true,if_false,if_true,cpV,cpH,cpCells,z,seval]
 ·simp only [List.filter_cons,List.filter_nil,List.contains_cons,List.contains_nil,Nat.reduceBEq,beq_self_eq_true,Bool.or_false,Bool.false_or,Bool.or_true,Bool.true_or,Bool.not_true,Bool.not_false,Bool.false_eq_true,if_false,if_true,cpV,cpH,cpCells,z,seval]
  exact wk
theorem Copied_spec (w:World) (hL:w.lim):Spec PP GG 32 [w.v] w.v []:=by
 refine (Copied_H w hL).fz ?_
 simp only [cpV,cpH,cpCells,z,seval]
theorem runM_app (w:World) (l l':List Op):runM w (l++l')=((runM (runM w l).1 l').1,(runM w l).2++(runM (runM w l).1 l').2):=by
 induction l generalizing w with
 | nil=>rfl
 | cons a l ih=>simp only [List.cons_append,runM,ih]
theorem runs_cut {w:World} {l:List Op} {N:Nat} (h:Runs w l N) (n:Nat):Runs w (l.take n) N∧Runs (runM w (l.take n)).1 (l.drop n) (N + 5 * (l.take n).length):=by
 have hl:(l.take n).length + (l.drop n).length=l.length:=by rw [← List.length_append,List.take_append_drop]
 have hx:=h.next
 have hb:=h.big
 have hn:=h.n64
 have h1:Runs w (l.take n) N:=⟨h.fit,h.form,fun o ho=>h.ok o (List.mem_of_mem_take ho),hn,by omega,by omega⟩
 obtain ⟨a,b,_,c⟩:=run_inv (l.take n) w N h.fit h.form h1.ok hn h1.next h1.big
 exact ⟨h1,a,b,fun o ho=>h.ok o (List.mem_of_mem_drop ho),by omega,by omega,by omega⟩
theorem WorldParts_law (c:Conf) (hc:c.ok) (ls:List Int) (hl:LL U ls) (l:List Op) (ho:LL Op.ok l) (cut:Int) (hcut:0≤cut∧cut≤255):Spec PP GG 7 [c.v,wordsV ls,opsV l,V.int .u8 cut] (.bool true) []:=by
 have hA:=L22.awake_spec
 have hF:=fits22_spec c ls l ho.1
 cases hf:fits22 c ls l with
 | false =>
   rw [hf] at hF
   refine Qs func7 ?_
   intro w0 M0
   simp only [f7,lf,z,seval]
   (refine CU hA (h:=?_);simp only [z,seval])
   (refine CU hF (h:=?_);simp only [z,seval])
   (refine CU hA (h:=?_);simp only [z,seval])
   (refine Qf ?_;simp only [z,seval])
 | true =>
   rw [hf] at hF
   simp only [fits22,Bool.and_eq_true,decide_eq_true_eq] at hf
   obtain ⟨hm,h1000,h22⟩:=hf
   have h200:=few22_len h22
   obtain ⟨n,m,hn,hr,n1,n6,m1,m8,hfit,hform⟩:=fresh22 hm hc hl (by omega)
   have hD:=pMay12_spec c
   rw [hm] at hD
   have hN:=wNew_spec c ls hl.2 n m hD n1 n6 hn hr m8
   have H:=runs22 hfit hform n6 ho h200
   obtain ⟨cut,rfl⟩:=Int.eq_ofNat_of_zero_le hcut.1
   obtain ⟨k,hk⟩:∃ k,k=cut % (l.length + 1):=⟨_,rfl⟩
   have hkl:k≤l.length:=by rw [hk];have:=Nat.mod_lt cut (show 0 < l.length + 1 by omega);omega
   obtain ⟨H1,H2⟩:=runs_cut H k
   have h1:=Run_spec _ l H (by omega)
   have h2:=Run_spec _ (l.take k) H1 (by rw [List.length_take];omega)
   have h3:=Run_spec _ (l.drop k) H2 (by rw [List.length_drop];omega)
   have s0:=Same12 _ (hfit.toLim (by decide))
   have s1:=Same12 _ ((runs_fit H).toLim (by omega))
   have s2:=Same12 _ ((runs_fit H1).toLim (by rw [List.length_take];omega))
   have q0:=Copied_spec _ (hfit.toLim (by decide))
   have q2:=Copied_spec _ ((runs_fit H1).toLim (by rw [List.length_take];omega))
   have happ:=runM_app (newWorld c ls n m) (l.take k) (l.drop k)
   rw [List.take_append_drop] at happ
   have hy:=runM_len (newWorld c ls n m) (l.take k)
   have hz:=runM_len (runM (newWorld c ls n m) (l.take k)).1 (l.drop k)
   rw [List.length_take,Nat.min_eq_left hkl] at hy
   rw [List.length_drop] at hz
   clear H H1 H2 hfit hform
   generalize newWorld c ls n m=W at *
   rw [happ] at h1 s1
   clear happ
   generalize runM W (l.take k)=Y at *
   obtain ⟨b,ys⟩:=Y
   simp only at h1 h2 h3 s1 s2 q2 hy hz
   generalize runM b (l.drop k)=Z at *
   obtain ⟨d,zs⟩:=Z
   simp only at h1 h3 s1 hz
   have w1:IntKind.i64.wrap (cut:Int)=(cut:Int):=w64 (by omega) (by omega)
   have w2:IntKind.i64.wrap ((l.length:Int) + 1)=((l.length + 1:Nat):Int):=w64s (by omega)
   have w3:Int.tmod (cut:Int) ((l.length + 1:Nat):Int)=(k:Int):=by rw [hk];rfl
   have w4:(((l.length + 1:Nat):Int)=0)=False:=by simp;omega
   have w5:IntKind.i64.wrap ((l.length:Int) - (k:Int))=((l.length - k:Nat):Int):=by rw [w64 (by omega) (by omega)];omega
   have e1:(l.map Op.v).take k=(l.take k).map Op.v:=by rw [List.map_take]
   have e2:((l.map Op.v).take l.length).drop k=(l.drop k).map Op.v:=by rw [List.take_of_length_le (by simp),List.map_drop]
   have el:(ys++zs).length=l.length:=by rw [List.length_append];omega
   have b1:(((l.length:Nat):Int)==(l.length:Int))=true:=by simp
   refine Qs func7 ?_
   intro w0 M0
   simp only [f7,lf,z,seval]
   (refine CU hA (h:=?_);simp only [z,seval])
   (refine CU hF (h:=?_);simp only [z,seval])
   simp only [w1,w2,w3,w4,if_false,z,seval]
   (refine CU hN (h:=?_);simp only [z,seval])
   (refine CU q0 (h:=?_);simp only [z,seval])
   (refine CU h1 (h:=?_);simp only [z,seval])
   (refine Qw 1 ?_;simp only [z,seval])
   refine DOC_ok ?_ ?_
   ·simp [slcB,hkl,lenE'];intro o _;rfl
   simp only [e1,z,seval]
   (refine DU h2 (h:=?_);simp only [z,seval])
   (refine ⟨by kernel_rfl,?_⟩)
   try simp only [z,seval]
   (refine CU q2 (h:=?_);simp only [z,seval])
   (refine Qw 1 ?_;simp only [z,seval])
   refine DOC_ok ?_ ?_
   ·simp [slcB,hkl,lenE'];intro o _;rfl
   simp only [e2,List.take_length,z,seval]
   (refine DU h3 (h:=?_);simp only [z,seval])
   (refine ⟨by kernel_rfl,?_⟩)
   try simp only [z,seval]
   (refine CU s1 (h:=?_);simp only [z,seval])
   (refine CU s0 (h:=?_);simp only [z,seval])
   (refine CU s2 (h:=?_);simp only [z,seval])
   simp only [el,hy,hz,w5,beq_self_eq_true,Bool.not_true,z,seval]
   refine RUNs_rangeS (l.length) (fun _ (_:Unit)=>True) (fun i _=>[(20,i64 i)]) (fun _ _=>[]) () ?_ (by simp only [z,seval];exact wk) rfl ?_
   ·trivial
   rintro ⟨i,_,hi,-⟩
   simp only [z,seval]
   first|refine brk (fun h=>?_) (fun h=>?_)|fail
   ·have hlt:i < l.length:=by have:=of_decide_eq_true h;omega
    have hlt2:i < (ys++zs).length:=by omega
    have g:=getMap i64 (ys++zs) hlt2
    have wi:=w64s (i:=i) (by omega)
    simp only [h,z,seval]
    by_cases hik:i < k
    ·have d1:decide ((i:Int) < (k:Int))=true:=decide_eq_true (by omega)
     have d2:decide ((i:Int)≥(k:Int))=false:=decide_eq_false (by omega)
     have gy:=getMap i64 ys (show i < ys.length by omega)
     rw [List.getElem_append_left (show i < ys.length by omega)] at g
     (refine Qw 0 ?_;simp only [z,seval])
     simp only [d1,g,gy,d2,beq_self_eq_true,Bool.not_true,z,seval]
     (refine ⟨by kernel_rfl,?_⟩)
     try simp only [wi,z,seval]
     (refine NX () ?_ (by rfl) hlt ?_;simp only [z,seval];exact wk)
     trivial
    ·have d1:decide ((i:Int) < (k:Int))=false:=decide_eq_false (by omega)
     have d2:decide ((i:Int)≥(k:Int))=true:=decide_eq_true (by omega)
     have hz2:i - k < zs.length:=by omega
     have gz:=getMap i64 zs hz2
     have wk2:IntKind.i64.wrap ((i:Int) - (k:Int))=((i - k:Nat):Int):=by rw [w64 (by omega) (by omega)];omega
     rw [List.getElem_append_right (show ys.length≤i by omega)] at g
     have eg:zs[i - ys.length]'(by omega)=zs[i - k]:=by congr 1;omega
     rw [eg] at g
     (refine Qw 0 ?_;simp only [z,seval])
     simp only [d1,d2,g,gz,wk2,beq_self_eq_true,Bool.not_true,z,seval]
     (refine ⟨by kernel_rfl,?_⟩)
     try simp only [wi,z,seval]
     (refine NX () ?_ (by rfl) hlt ?_;simp only [z,seval];exact wk)
     trivial
   ·simp only [h,z,seval]
    (refine Qf ?_;simp only [z,seval])
end Ch
namespace Ch
open Go Go.Ab
theorem lim_u8 {n:Int} (h:lim (.int .u8) n):0≤n∧n≤255:=by
 obtain ⟨h1,h2⟩:=h
 have e1:IntKind.u8.min=0:=by decide
 have e2:IntKind.u8.max=255:=by decide
 rw [e1] at h1;rw [e2] at h2;exact ⟨h1,h2⟩
end Ch
