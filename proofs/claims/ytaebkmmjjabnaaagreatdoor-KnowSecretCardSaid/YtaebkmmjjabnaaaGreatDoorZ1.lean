import Derived.Test.YtaebkmmjjabnaaaGreatDoorW26
set_option maxRecDepth 100000
set_option maxHeartbeats 4000000
set_option linter.unusedSimpArgs false
set_option linter.unusedVariables false
namespace Go.Ab
open Go Go.RowKit
theorem slc_ok {α:Type} {f:α→V} {l:List α} {i sz:Nat} (h:i≤l.length) (hf:∀ a,lenE' sz (f a)=true):(slcB l.length none (some i) none && (l.map f).all (lenE' sz))=true:=by
 simp [slcB,h,hf]
end Go.Ab
namespace Ch
open Go Go.Ab Go.Proofs.Tryz
def few (l:List Int):Bool:=decide ((l.length:Int)≤100)
def more (n:Nat) (r:World×Int):Bool:=r.2==0 && decide ((n:Int) < r.1.net.grams.length)
theorem nodup_succ {l:List Int} {i:Nat} (h:i < l.length) (h1:(l.take i).Nodup) (h2:l[i] ∉ l.take i):(l.take (i + 1)).Nodup:=by
 rw [List.take_succ_eq_append_getElem h,List.nodup_append]
 refine ⟨h1,by simp,?_⟩
 intro a ha b hb
 simp only [List.mem_singleton] at hb
 subst hb
 rintro rfl
 exact h2 ha
theorem not_nodup {l:List Int} {i:Nat} (h:i < l.length) (h2:l[i]∈l.take i):¬ l.Nodup:=by
 intro hn
 have:l=l.take i++l.drop i:=(List.take_append_drop i l).symm
 rw [this,List.nodup_append] at hn
 exact hn.2.2 _ h2 l[i] (by rw [List.drop_eq_getElem_cons h];exact List.mem_cons_self) rfl
def setF (l:List Int):List Int→Option V:=l.foldl (fun f x=>updF f [x] (.bool true)) noF
section
variable {w:World} {a b:Int}
def bx (k x:Int):Msg:=⟨k,0,0,0,0,x,0⟩
end
inductive Src where
 | key (p:Nat)
 | sess (e:Event)
 | num (e:Event)
def isIss (e:Event):Prop:=e.kind=2
def isNum (e:Event):Prop:=(e.kind=1∧e.role=1)∨(e.kind=3∧e.role=2)
def Src.has (w:World):Src→Prop
 | .key p=>1≤p∧p < w.people.length
 | .sess e=>e∈w.log∧isIss e
 | .num e=>e∈w.log∧isNum e
def hon (w:World) (a:Int):Prop:=(personW w a).corrupt=false
def unleaked (w:World) (k:Int):Prop := ∀ l∈w.leaks,l.k≠k
def safe (w:World) (e:Event):Prop:=hon w e.a∧hon w e.b∧unleaked w e.k
def Src.guard (w:World):Src→Prop
 | .key p=>hon w p
 | .sess e=>safe w e
 | .num e=>(e.proto=2∧hon w e.a∧hon w e.b)∨(e.proto=1∧e.kind=3 ∧ ∃ f∈w.log,isIss f∧f.k=e.k∧safe w f)
def old (L:List Int) (E n:Nat) (x:Int):Prop := ∀ j,n≤j→j < E→drawAt L j≠x
def nx (w:World):Nat:=w.draws.next.toNat
theorem old.mono {L:List Int} {E n m:Nat} {x:Int} (h:old L E n x) (hm:n≤m):old L E m x:=fun j h1 h2=>h j (by omega) h2
theorem t0:(0:Int)≤1073741824:=by decide
def Lit (L:List Int) (E:Nat) (o:Op):Prop:=o.kind=0 → ∀ x∈o.words,∀ j,j < E→drawAt L j≠x
inductive Ask where
 | fresh
 | must (k r m:Int)
 | never (k r m:Int)
def bit (m:Int) (i:Nat):Bool := !(andI .i64 m (shlI .i64 1 i)==0)
def keep (b:Bool) (x:Int):Int:=bif b then x else 0
def bareTo (e:Event) (m:Int) (i:Nat):Event :=
 ⟨keep (decide (0 < i) && bit m 0) e.kind,keep (decide (1 < i) && bit m 1) e.proto,keep (decide (2 < i) && bit m 2) e.role,keep (decide (3 < i) && bit m 3) e.a,keep (decide (4 < i) && bit m 4) e.b,
   keep (decide (5 < i) && bit m 5) e.k,keep (decide (6 < i) && bit m 6) e.t,keep (decide (7 < i) && bit m 7) e.m,keep (decide (8 < i) && bit m 8) e.n,0⟩
def Event.eqb (a b:Event):Bool:=(a.kind==b.kind) && ((a.proto==b.proto) && ((a.role==b.role) && ((a.a==b.a) && ((a.b==b.b) && ((a.k==b.k) && ((a.t==b.t) && ((a.m==b.m) && ((a.n==b.n) && (a.clock==b.clock)))))))))
def bareM (e:Event) (m:Int):Event:=bareTo e m 9
def fits (e like:Event) (m:Int):Bool:=(bareM e m).eqb (bareM like m)
def select (l:List Event) (f:Event) (m:Int):List Event:=l.filter fun e=>fits e f m
def likeE (e:Event) (k r:Int):Event:={ e with kind:=k,role:=r }
def soM (a:Ask) (l:List Event) (e:Event):Bool:=match a with
 | .fresh=>((select l ⟨2,0,0,0,0,e.k,0,0,0,0⟩ 33).length:Int)==0
 | .must k r m=>decide (((select l (likeE e k r) (orI .i64 7 m)).length:Int) > 0)
 | .never k r m=>((select l (likeE e k r) (orI .i64 7 m)).length:Int)==0
def allM (a:List Ask) (l:List Event) (e:Event):Bool:=a.all fun x=>soM x l e
theorem eqb_iff (a b:Event):a.eqb b=true↔a.kind=b.kind∧a.proto=b.proto∧a.role=b.role∧a.a=b.a∧a.b=b.b∧a.k=b.k∧a.t=b.t∧a.m=b.m∧a.n=b.n∧a.clock=b.clock:=by
 simp only [Event.eqb,Bool.and_eq_true,beq_iff_eq]
theorem keep_iff {b:Bool} {x y:Int}:keep b x=keep b y↔(b=true→x=y):=by
 cases b<;>simp [keep]
theorem fits_iff (e f:Event) (m:Int):fits e f m=true↔(bit m 0=true→e.kind=f.kind)∧(bit m 1=true→e.proto=f.proto)∧(bit m 2=true→e.role=f.role)∧(bit m 3=true→e.a=f.a)∧(bit m 4=true→e.b=f.b)∧(bit m 5=true→e.k=f.k)∧(bit m 6=true→e.t=f.t)∧(bit m 7=true→e.m=f.m)∧(bit m 8=true→e.n=f.n):=by
 simp only [fits,bareM,eqb_iff,bareTo,keep_iff]
 simp
theorem all_nil (l:List Event) (e:Event):allM [] l e=true:=rfl
theorem p7 (e f:Event):fits e f (7)=true↔e.kind=f.kind∧e.proto=f.proto∧e.role=f.role:=by
 rw [fits_iff,show bit (7) 0=true from by decide +kernel,show bit (7) 1=true from by decide +kernel,show bit (7) 2=true from by decide +kernel,show bit (7) 3=false from by decide +kernel,show bit (7) 4=false from by decide +kernel,show bit (7) 5=false from by decide +kernel,show bit (7) 6=false from by decide +kernel,show bit (7) 7=false from by decide +kernel,show bit (7) 8=false from by decide +kernel]
 simp
theorem all_succ {α:Type} {l:List α} {f:α→Bool} {i:Nat} (h:i < l.length) (h1:(l.take i).all f=true) (h2:f l[i]=true):(l.take (i + 1)).all f=true:=by
 rw [List.take_succ_eq_append_getElem h,List.all_append,h1];simp [h2]
def Ask.v:Ask→V
 | .fresh=>.iface 250 (.agg [])
 | .must k r m=>.iface 253 (.agg [i64 k,i64 r,i64 m])
 | .never k r m=>.iface 252 (.agg [i64 k,i64 r,i64 m])
def Event.cells (e:Event):List V:=[i64 e.kind,i64 e.proto,i64 e.role,u32 e.a,u32 e.b,u32 e.k,u32 e.t,u32 e.m,u32 e.n,u32 e.clock]
theorem enc_list {t:Ty} {α:Type} {f:t.den→α} {g:α→V} (h:∀ x,elV true (encC t x)=g (f x)) (l:List t.den):List.map (fun x=>elV true (encC t x)) l=(l.map f).map g:=by
 rw [List.map_map];exact List.map_congr_left fun x _=>h x
theorem lim_list {t:Ty} {a:Bool} {α:Type} {f:t.den→α} {p:α→Prop} (h:∀ x,lim t x→p (f x)) {l:List t.den} (hl:lim (.slice t a) l):LL p (l.map f) :=
 ⟨by rw [List.length_map];exact hl.1,fun x hx=>by obtain ⟨y,hy,rfl⟩:=List.mem_map.1 hx;exact h y (hl.2 y hy)⟩
end Ch
