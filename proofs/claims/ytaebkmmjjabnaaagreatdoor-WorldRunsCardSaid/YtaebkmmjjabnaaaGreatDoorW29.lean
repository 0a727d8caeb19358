import Derived.Test.YtaebkmmjjabnaaaGreatDoorW26
set_option maxRecDepth 100000
set_option maxHeartbeats 4000000
set_option linter.unusedSimpArgs false
set_option linter.unusedVariables false
namespace Ch
open Go Go.Ab Go.Proofs.Tryz
abbrev tOp:Ty:=.struct (.prod tI (.prod tI (.prod tI (.prod tI (.prod tI (.prod tW .unit))))))
def opOf:tOp.den→Op|(a,b,c,d,e,f,_)=>⟨a,b,c,d,e,f⟩
theorem enc_op (x:tOp.den):elV true (encC tOp x)=(opOf x).v:=by obtain ⟨a,b,c,d,e,f,_⟩:=x;rfl
theorem enc_list {t:Ty} {α:Type} {f:t.den→α} {g:α→V} (h:∀ x,elV true (encC t x)=g (f x)) (l:List t.den):List.map (fun x=>elV true (encC t x)) l=(l.map f).map g:=by
 rw [List.map_map];exact List.map_congr_left fun x _=>h x
theorem lim_list {t:Ty} {a:Bool} {α:Type} {f:t.den→α} {p:α→Prop} (h:∀ x,lim t x→p (f x)) {l:List t.den} (hl:lim (.slice t a) l):LL p (l.map f) :=
 ⟨by rw [List.length_map];exact hl.1,fun x hx=>by obtain ⟨y,hy,rfl⟩:=List.mem_map.1 hx;exact h y (hl.2 y hy)⟩
theorem lim_op (x:tOp.den) (h:lim tOp x):(opOf x).ok:=by
 obtain ⟨a,b,c,d,e,f,_⟩:=x;obtain ⟨h1,h2,h3,h4,h5,h6,_⟩:=h
 exact ⟨lim_i h1,lim_i h2,lim_i h3,lim_i h4,lim_i h5,lim_words h6⟩
end Ch
