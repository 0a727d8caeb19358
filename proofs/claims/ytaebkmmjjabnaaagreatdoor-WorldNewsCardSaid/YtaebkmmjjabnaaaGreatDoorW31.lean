import Derived.Test.YtaebkmmjjabnaaaGreatDoorW26
set_option maxRecDepth 100000
set_option maxHeartbeats 4000000
set_option linter.unusedSimpArgs false
set_option linter.unusedVariables false
namespace Ch
open Go Go.Ab Go.Proofs.Tryz
theorem fresh22 {c:Conf} (hm:May12 c=true) (hc:c.ok) {ls:List Int} (hl:LL U ls) (h1000:ls.length≤1000):∃ n m:Nat,c.people=n∧c.regs=m∧1≤n∧n≤6∧1≤m∧m≤8∧(newWorld c ls n m).fit 1100∧(newWorld c ls n m).form:=by
 obtain ⟨a1,a2,a3,a4,a5,a6,a7,a8⟩:=may_all hm
 obtain ⟨n,hn⟩:=Int.eq_ofNat_of_zero_le (show 0≤c.people by omega)
 obtain ⟨m,hm2⟩:=Int.eq_ofNat_of_zero_le (show 0≤c.regs by omega)
 exact ⟨n,m,hn,hm2,by omega,by omega,by omega,by omega,new_fit hm hc hl hn hm2 (by decide) (by omega),new_form hm ls hn hm2⟩
end Ch
namespace Ch
open Go Go.Ab
theorem enc_conf (x:tConf.den):elV true (encC tConf x)=(confOf x).v:=by obtain ⟨a,b,c,d,e,f,g,_⟩:=x;rfl
end Ch
