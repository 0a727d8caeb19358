import Derived.Test.YtaebkmmjjabnaaaGreatDoorW30
import Derived.Test.YtaebkmmjjabnaaaGreatDoorW31
set_option maxRecDepth 100000
set_option maxHeartbeats 4000000
set_option linter.unusedSimpArgs false
set_option linter.unusedVariables false
namespace Ch
open Go Go.Ab Go.Proofs.Tryz
theorem WorldNews_law (c:Conf) (hc:c.ok) (ls:List Int) (hl:LL U ls):Spec PP GG 3 [c.v,wordsV ls] (.bool true) []:=by
 have hA:=L22.awake_spec
 have hM:=May12_spec c
 have hD:=pMay12_spec c
 cases c1:decide ((ls.length:Int) > 1000) with
 | true =>
   refine Qs func3 ?_
   intro w0 M0
   simp only [f3,lf,z,seval]
   (refine CU hA (h:=?_);simp only [z,seval])
   simp only [c1,z,seval]
   (refine CU hA (h:=?_);simp only [z,seval])
   (refine Qf ?_;simp only [z,seval])
 | false =>
 cases hm:May12 c with
 | false =>
   rw [hm] at hM hD
   have hN:=wNew_no c ls hD
   have hS:=Same12 zW ⟨by simp [zW],by simp [zW],by simp [zW],by simp [zW],by simp [zW],by simp [zW],by simp [zW],by simp [zW],by simp [zW],by simp [zW],by simp [zW],by simp [zW],by simp [zW],by simp [zW]⟩
   simp only [zW,List.map_nil,mv] at hN hS
   refine Qs func3 ?_
   intro w0 M0
   simp only [f3,lf,z,seval]
   (refine CU hA (h:=?_);simp only [z,seval])
   simp only [c1,z,seval]
   (refine CU hN (h:=?_);simp only [z,seval])
   (refine CU hM (h:=?_);simp only [z,seval])
   (refine CU hS (h:=?_);simp only [z,seval])
   (refine Qf ?_;simp only [z,seval])
 | true =>
   obtain ⟨n,m,hn,hr,n1,n6,m1,m8,hfit,hform⟩:=fresh22 hm hc hl (by have:=of_decide_eq_false c1;omega)
   rw [hm] at hM hD
   have hN:=wNew_spec c ls hl.2 n m hD n1 n6 hn hr m8
   have hR:=New12_spec c n m (by omega) (by omega) hn hr ls
   have hS:=Same12 _ (hfit.toLim (by decide))
   have hF:=Form12_spec (newWorld c ls n m) (Lim_of_ok hfit.ok)
   rw [form_iff.2 hform] at hF
   clear hfit hform
   generalize newWorld c ls n m=W at *
   refine Qs func3 ?_
   intro w0 M0
   simp only [f3,lf,z,seval]
   (refine CU hA (h:=?_);simp only [z,seval])
   simp only [c1,z,seval]
   (refine CU hN (h:=?_);simp only [z,seval])
   (refine CU hM (h:=?_);simp only [z,seval])
   (refine Qw 0 ?_;simp only [z,seval])
   (refine DU hR (h:=?_);simp only [z,seval])
   (refine DU hS (h:=?_);simp only [z,seval])
   (refine DU hF (h:=?_);simp only [z,seval])
   (refine ⟨by kernel_rfl,?_⟩)
   (refine Qf ?_;simp only [z,seval])
end Ch
