import Derived.Test.YtaebkmmjjabnaaaGreatDoorW31
import Derived.Test.YtaebkmmjjabnaaaGreatDoorW32
import Derived.Test.YtaebkmmjjabnaaaGreatDoorW33
import Derived.Test.YtaebkmmjjabnaaaGreatDoorW35
import Derived.Test.YtaebkmmjjabnaaaGreatDoorW40
set_option maxRecDepth 100000
set_option maxHeartbeats 4000000
set_option linter.unusedSimpArgs false
set_option linter.unusedVariables false
namespace Ch
open Go Go.Ab Go.Proofs.Tryz
theorem rRun_spec (w:World) (l:List Op) {N:Nat} (H:Runs w l N) (hl:l.length≤1000):Spec PP GG 29 [w.v,opsV l] (.tup [(runM w l).1.v,.sl ((runM w l).2.map i64) .plain]) []:=by
 refine Qs func29 ?_
 intro w0 M0
 simp only [f29,lf,z,seval]
 (refine RUNs_row0 6 1 (h:=?_);simp only [z,seval])
 refine RUNs_rangeS (l.length) (fun i (s:World×List Int)=>s=runM w (l.take i)) (fun i _=>[(6,.row 2 i),(7,i64 i)]) (fun i s=>[(0,.var s.1.cells),(2,.row 1 (s.2.map i64) i false)]) (w,[]) ?_ (by simp only [z,seval];exact wk) rfl ?_
 ·rfl
 rintro ⟨i,s,hi,hs⟩
 simp only [z,seval]
 first|refine brk (fun h=>?_) (fun h=>?_)|fail
 ·have hlt:i < l.length:=by have:=of_decide_eq_true h;omega
  obtain ⟨M,m1,m2,m3,m4,_⟩:=H.at i
  have hlen:s.2.length=i:=by rw [hs,runM_len,List.length_take];omega
  rw [← hs] at m3 m4
  have hS:=rStep_spec s.1 m3 m1 m2 (by have:=regs_ok m4;omega) m4.right m4.box (rooms_ok m4).2 l[i] (H.ok _ (List.getElem_mem hlt))
  have hnx:=run_at w hlt
  rw [← hs] at hnx
  have g:=getMap Op.v l hlt
  have w1:=w64s (i:=i) (by omega)
  clear m3 m4 H
  obtain ⟨W,es⟩:=s
  simp only at hS hnx hlen
  generalize stepM W l[i]=R at hS hnx
  obtain ⟨v,e⟩:=R
  have he:es.map i64++[i64 e]=(es++[e]).map i64:=by simp
  simp only [mv] at g
  simp only [h,z,seval]
  (refine Qw 1 ?_;simp only [z,seval])
  simp only [g,z,seval]
  (refine DU hS (h:=?_);simp only [z,seval])
  (refine ⟨by kernel_rfl,?_⟩)
  try simp only [z,seval]
  refine OPC_ok ?_ ?_
  ·simp;omega
  simp only [he,w1,z,seval]
  (refine NX (v,es++[e]) ?_ (by rfl) hlt ?_;simp only [z,seval];exact wk)
  exact hnx.symm
 ·obtain rfl:i=l.length:=by have:=of_decide_eq_false h;omega
  rw [List.take_length] at hs
  subst hs
  simp only [h,z,seval]
  (refine Qf ?_;simp only [z,seval])
theorem WorldRuns_law (c:Conf) (hc:c.ok) (ls:List Int) (hl:LL U ls) (l:List Op) (ho:LL Op.ok l):Spec PP GG 5 [c.v,wordsV ls,opsV l] (.bool true) []:=by
 have hA:=L22.awake_spec
 have hF:=fits22_spec c ls l ho.1
 cases hf:fits22 c ls l with
 | false =>
   rw [hf] at hF
   refine Qs func5 ?_
   intro w0 M0
   simp only [f5,lf,z,seval]
   (refine CU hA (h:=?_);simp only [z,seval])
   (refine CU hF (h:=?_);simp only [z,seval])
   (refine CU hA (h:=?_);simp only [z,seval])
   (refine Qf ?_;simp only [z,seval])
 | true =>
   rw [hf] at hF
   simp only [fits22,Bool.and_eq_true,decide_eq_true_eq] at hf
   obtain ⟨hm,h1000,h22⟩:=hf
   have h200:=few22_len h22
   obtain ⟨n,m,hn,hr,n1,n6,m1,m8,hfit,hform⟩:=fresh22 hm hc hl (by omega)
   have hD:=pMay12_spec c
   rw [hm] at hD
   have hN:=wNew_spec c ls hl.2 n m hD n1 n6 hn hr m8
   have hR:=New12_spec c n m (by omega) (by omega) hn hr ls
   have H:=runs22 hfit hform n6 ho h200
   have h1:=Run_spec _ l H (by omega)
   have h2:=rRun_spec _ l H (by omega)
   have h3:=Same12 _ ((runs_fit H).toLim (by omega))
   have hlen:=runM_len (newWorld c ls n m) l
   clear H hfit hform
   generalize newWorld c ls n m=W at *
   generalize runM W l=R at *
   obtain ⟨v,es⟩:=R
   simp only at h1 h2 h3 hlen
   refine Qs func5 ?_
   intro w0 M0
   simp only [f5,lf,z,seval]
   (refine CU hA (h:=?_);simp only [z,seval])
   (refine CU hF (h:=?_);simp only [z,seval])
   (refine CU hN (h:=?_);simp only [z,seval])
   (refine CU h1 (h:=?_);simp only [z,seval])
   (refine CU hR (h:=?_);simp only [z,seval])
   (refine CU h2 (h:=?_);simp only [z,seval])
   (refine CU h3 (h:=?_);simp only [z,seval])
   try simp only [beq_self_eq_true,Bool.not_true,z,seval]
   refine RUNs_rangeS (es.length) (fun _ (_:Unit)=>True) (fun i _=>[(13,i64 i)]) (fun _ _=>[]) () ?_ (by simp only [z,seval];exact wk) rfl ?_
   ·trivial
   rintro ⟨i,_,hi,-⟩
   simp only [z,seval]
   first|refine brk (fun h=>?_) (fun h=>?_)|fail
   ·have hlt:i < es.length:=by have:=of_decide_eq_true h;omega
    have g:=getMap i64 es hlt
    have w1:=w64s (i:=i) (by omega)
    simp only [h,z,seval]
    (refine Qw 0 ?_;simp only [z,seval])
    simp only [g,z,seval]
    (refine ⟨by kernel_rfl,?_⟩)
    try simp only [beq_self_eq_true,Bool.not_true,w1,z,seval]
    (refine NX () ?_ (by rfl) hlt ?_;simp only [z,seval];exact wk)
    trivial
   ·simp only [h,z,seval]
    (refine Qf ?_;simp only [z,seval])
end Ch
