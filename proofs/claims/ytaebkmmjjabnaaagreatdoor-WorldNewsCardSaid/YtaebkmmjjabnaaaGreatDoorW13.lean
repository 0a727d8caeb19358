import Derived.Test.YtaebkmmjjabnaaaGreatDoorW12
import Derived.Shelf.Spec.SlicesGrow
import Derived.Lib.SliceRun
set_option maxRecDepth 100000
set_option maxHeartbeats 4000000
set_option linter.unusedSimpArgs false
set_option linter.unusedVariables false
namespace Ch
open Go Go.Ab Go.Proofs.Tryz
structure Draws where
 list:List Int
 next:Int
structure Gram where
 to:Int
 words:List Int
structure Net where
 room:Int
 grams:List Gram
 seen:List (List Int)
structure Sld where
 handle:Int
 key:Int
 label:Int
 plain:List Int
structure Box where
 room:Int
 rows:List Sld
structure Run where
 proto:Int
 role:Int
 peer:Int
 mine:Int
 their:Int
 m:Int
 k:Int
 t:Int
 state:Int
structure Person where
 name:Int
 key:Int
 clock:Int
 used:List Int
 runs:List Run
 corrupt:Bool
structure Event where
 kind:Int
 proto:Int
 role:Int
 a:Int
 b:Int
 k:Int
 t:Int
 m:Int
 n:Int
 clock:Int
structure Leak where
 k:Int
 at_:Int
structure Conf where
 window:Int
 people:Int
 box:Int
 used:Int
 runs:Int
 net:Int
 regs:Int
structure World where
 conf:Conf
 draws:Draws
 box:Box
 net:Net
 people:List Person
 log:List Event
 regs:List (List Int)
 leaks:List Leak
structure Op where
 kind:Int
 a:Int
 b:Int
 c:Int
 d:Int
 words:List Int
structure Msg where
 kind:Int
 run:Int
 a:Int
 b:Int
 nonce:Int
 box:Int
 more:Int
structure Part where
 n:Int
 m:Int
 a:Int
 b:Int
 k:Int
 t:Int
 h:Int
structure Field where
 tag:Int
 data:List Int
abbrev u32 (n:Int):V:=.int .u32 n
abbrev i64 (n:Int):V:=.int .i64 n
def wordsV (l:List Int):V:=.sl (l.map u32) .plain
def rowsV (l:List (List Int)):V:=.sl (l.map wordsV) .plain
def Gram.v (g:Gram):V:=.agg [u32 g.to,wordsV g.words]
def Sld.v (s:Sld):V:=.agg [u32 s.handle,u32 s.key,u32 s.label,wordsV s.plain]
def Run.v (r:Run):V:=.agg [i64 r.proto,i64 r.role,u32 r.peer,u32 r.mine,u32 r.their,u32 r.m,u32 r.k,u32 r.t,i64 r.state]
def runsV (l:List Run):V:=.sl (l.map Run.v) .plain
def Person.v (p:Person):V:=.agg [u32 p.name,u32 p.key,u32 p.clock,wordsV p.used,runsV p.runs,.bool p.corrupt]
def Event.v (e:Event):V:=.agg [i64 e.kind,i64 e.proto,i64 e.role,u32 e.a,u32 e.b,u32 e.k,u32 e.t,u32 e.m,u32 e.n,u32 e.clock]
def Leak.v (e:Leak):V:=.agg [u32 e.k,u32 e.at_]
def Op.v (o:Op):V:=.agg [i64 o.kind,i64 o.a,i64 o.b,i64 o.c,i64 o.d,wordsV o.words]
def Msg.v (m:Msg):V:=.agg [u32 m.kind,u32 m.run,u32 m.a,u32 m.b,u32 m.nonce,u32 m.box,u32 m.more]
def Part.v (p:Part):V:=.agg [u32 p.n,u32 p.m,u32 p.a,u32 p.b,u32 p.k,u32 p.t,u32 p.h]
def Field.v (f:Field):V:=.agg [u32 f.tag,wordsV f.data]
def fieldsV (l:List Field):V:=.sl (l.map Field.v) .plain
def intsV (l:List Int):V:=.sl (l.map i64) .plain
def sldsV (l:List Sld):V:=.sl (l.map Sld.v) .plain
def gramsV (l:List Gram):V:=.sl (l.map Gram.v) .plain
def peopleV (l:List Person):V:=.sl (l.map Person.v) .plain
def eventsV (l:List Event):V:=.sl (l.map Event.v) .plain
def leaksV (l:List Leak):V:=.sl (l.map Leak.v) .plain
def opsV (l:List Op):V:=.sl (l.map Op.v) .plain
def Draws.v (d:Draws):V:=.agg [wordsV d.list,i64 d.next]
def Box.v (b:Box):V:=.agg [i64 b.room,sldsV b.rows]
def Net.v (n:Net):V:=.agg [i64 n.room,gramsV n.grams,rowsV n.seen]
def Conf.v (c:Conf):V:=.agg [u32 c.window,i64 c.people,i64 c.box,i64 c.used,i64 c.runs,i64 c.net,i64 c.regs]
def World.cells (w:World):List V:=[u32 w.conf.window,i64 w.conf.people,i64 w.conf.box,i64 w.conf.used,i64 w.conf.runs,i64 w.conf.net,i64 w.conf.regs,wordsV w.draws.list,i64 w.draws.next,
 i64 w.box.room,sldsV w.box.rows,i64 w.net.room,gramsV w.net.grams,rowsV w.net.seen,peopleV w.people,eventsV w.log,rowsV w.regs,leaksV w.leaks]
def World.v (w:World):V:=.agg w.cells
def U (n:Int):Prop:=0≤n∧n < 4294967296
def I (n:Int):Prop := -9223372036854775808≤n∧n≤9223372036854775807
def LL {α:Type} (p:α→Prop) (l:List α):Prop:=l.length≤9223372036854775807 ∧ ∀ x∈l,p x
def Gram.ok (g:Gram):Prop:=U g.to∧LL U g.words
def Sld.ok (s:Sld):Prop:=U s.handle∧U s.key∧U s.label∧LL U s.plain
def Run.ok (r:Run):Prop:=I r.proto∧I r.role∧U r.peer∧U r.mine∧U r.their∧U r.m∧U r.k∧U r.t∧I r.state
def Person.ok (p:Person):Prop:=U p.name∧U p.key∧U p.clock∧LL U p.used∧LL Run.ok p.runs
def Event.ok (e:Event):Prop:=I e.kind∧I e.proto∧I e.role∧U e.a∧U e.b∧U e.k∧U e.t∧U e.m∧U e.n∧U e.clock
def Leak.ok (e:Leak):Prop:=U e.k∧U e.at_
def Op.ok (o:Op):Prop:=I o.kind∧I o.a∧I o.b∧I o.c∧I o.d∧LL U o.words
def Msg.ok (m:Msg):Prop:=U m.kind∧U m.run∧U m.a∧U m.b∧U m.nonce∧U m.box∧U m.more
def Part.ok (p:Part):Prop:=U p.n∧U p.m∧U p.a∧U p.b∧U p.k∧U p.t∧U p.h
def Field.ok (f:Field):Prop:=U f.tag∧LL U f.data
instance (n:Int):Decidable (U n):=inferInstanceAs (Decidable (_∧_))
instance (n:Int):Decidable (I n):=inferInstanceAs (Decidable (_∧_))
def Draws.ok (d:Draws):Prop:=LL U d.list∧I d.next
def Box.ok (b:Box):Prop:=I b.room∧LL Sld.ok b.rows
def Net.ok (n:Net):Prop:=I n.room∧LL Gram.ok n.grams∧LL (LL U) n.seen
def Conf.ok (c:Conf):Prop:=U c.window∧I c.people∧I c.box∧I c.used∧I c.runs∧I c.net∧I c.regs
def World.ok (w:World):Prop:=w.conf.ok∧w.draws.ok∧w.box.ok∧w.net.ok∧LL Person.ok w.people∧LL Event.ok w.log∧LL (LL U) w.regs∧LL Leak.ok w.leaks
theorem mv:(type_of% @wordsV.eq_1)∧(type_of% @rowsV.eq_1)∧(type_of% @runsV.eq_1)∧(type_of% @sldsV.eq_1)∧(type_of% @gramsV.eq_1)∧(type_of% @peopleV.eq_1)∧(type_of% @eventsV.eq_1)∧(type_of% @leaksV.eq_1)∧(type_of% @opsV.eq_1)∧(type_of% @fieldsV.eq_1)∧(type_of% @intsV.eq_1)∧(type_of% @Draws.v.eq_1)∧(type_of% @Box.v.eq_1)∧(type_of% @Net.v.eq_1)∧(type_of% @Conf.v.eq_1)∧(type_of% @Gram.v.eq_1)∧(type_of% @Sld.v.eq_1)∧(type_of% @Run.v.eq_1)∧(type_of% @Person.v.eq_1)∧(type_of% @Event.v.eq_1)∧(type_of% @Leak.v.eq_1)∧(type_of% @Op.v.eq_1)∧(type_of% @Msg.v.eq_1)∧(type_of% @Part.v.eq_1)∧(type_of% @Field.v.eq_1)∧(type_of% @World.v.eq_1)∧(type_of% @World.cells.eq_1):=⟨@wordsV.eq_1,@rowsV.eq_1,@runsV.eq_1,@sldsV.eq_1,@gramsV.eq_1,@peopleV.eq_1,@eventsV.eq_1,@leaksV.eq_1,@opsV.eq_1,@fieldsV.eq_1,@intsV.eq_1,@Draws.v.eq_1,@Box.v.eq_1,@Net.v.eq_1,@Conf.v.eq_1,@Gram.v.eq_1,@Sld.v.eq_1,@Run.v.eq_1,@Person.v.eq_1,@Event.v.eq_1,@Leak.v.eq_1,@Op.v.eq_1,@Msg.v.eq_1,@Part.v.eq_1,@Field.v.eq_1,@World.v.eq_1,@World.cells.eq_1⟩
end Ch
namespace Go.Ab
open Go Go.RowKit Go.Proofs Go.Shelf Go.Lib
theorem Grow_nil {P:Program} {ρ:Ren} (L:Lays8.n4 P ρ) (G:Glob) {i0:TypeInfo} {z:Value} (hi0:P.info? (ρ.t 25)=some i0) (hz0:i0.zero=some z) (hs0:0 < i0.size) (hzs:z.cells.size=i0.size) (n:Nat) (hb:n * i0.bytes≤140737488355328) (h63:n≤1099511627776) :
 Spec P G (ρ.f 4) [.sl [] .nil,.int .i64 n] (.row 0 0) [.row i0.size [] 0 false]:=by
 intro E xs hE hx
 simp only [RepL,Rep] at hx
 obtain ⟨x1,_,rfl,⟨a,m,c,h1,h2,h3,h4,h5,h6⟩,x2,_,rfl,⟨rfl,h7⟩,rfl⟩:=hx
 have hx1:=h5 trivial
 subst hx1
 rcases Nat.eq_zero_or_pos n with hn|hn
 ·subst hn
  refine (Any8.slices_Grow_room L none 0 0 0 E.w (by omega) (by omega) (by omega) (by omega)).mono ?_
  rintro e w' ⟨rfl,rfl⟩
  refine ⟨_,{ E.bare with τ:=fun _=>.slice none 0 0,H:=[.row i0.size [] 0 false] },rfl,rfl,rfl,⟨hE.below,hE.old,hE.mlt,fun i v b hp=>by simp [Env.bare] at hp,fun i v j u b hp=>by simp [Env.bare] at hp,fun i h hh=>?_,fun g cs hg=>RepAt.mono cs (show E.bare.bare.le _ from ⟨fun _ _ _ h=>h,fun _ _ _ h=>h,fun _ _ _ _ _ h=>by simp [Env.bare] at h,fun _ h=>by simp [Env.bare] at h⟩) (hE.glob g cs hg)⟩,?_,?_⟩
  ·match i,hh with
   | 0,hh =>
     injection hh with hh;subst hh
     exact ⟨none,0,0,rfl,rfl,Nat.le_refl _,by unfold maxLen;omega,⟨by simp,fun u hu=>rfl⟩,.inl ⟨rfl,rfl⟩⟩
   | i + 1,hh=>simp at hh
  ·exact ⟨fun _ _ _ h=>h,fun _ _ _ h=>h,fun _ _ _ _ _ h=>by simp [Env.bare] at h,fun _ h=>by simp [Env.bare] at h⟩
  ·simp [Rep]
 ·refine (Any8.slices_Grow_grow L i0 z hi0 hz0 hs0 none 0 0 n [] E.w (by omega) (by omega) (by simpa using hb) (by omega) (by simp) (fun _=>rfl) (fun a h=>by cases h)).mono ?_
  rintro e w' ⟨rfl,rfl⟩
  obtain ⟨g1,g2⟩:=hE.drew
  have hG:=grownCap_ge E.w (0 + n) 0 (ρ.t 25)
  have hG2:=grownCap_le_maxLen E.w (0 + n) 0 (ρ.t 25) (by unfold maxLen;omega)
  generalize hg:grownCap E.w (0 + n) 0 (ρ.t 25)=g at hG hG2 ⊢
  obtain ⟨k1,k2⟩:=g1.allocOwn (.cells ((#[]:Array Value)++Builtin.zeroCells z.cells (0 + n - 0)++Builtin.zeroCells z.cells (g - (0 + n))) (ρ.t 25)) (nid:=0) (NewAt.push _ (.row i0.size [] 0 false)) (.slice (some ⟨E.w.heap.size,0,none⟩) 0 g) (fun _=>True) (by simp) (fun _=>by
   simp only [HOK]
   refine ⟨some ⟨E.w.heap.size,0,none⟩,0,g,rfl,rfl,Nat.zero_le _,hG2,⟨by simp,fun u hu=>by simp [Env.allocOwn];omega⟩,.inr ⟨E.w.heap.size,((#[]:Array Value)++Builtin.zeroCells z.cells (0 + n - 0)++Builtin.zeroCells z.cells (g - (0 + n))),ρ.t 25,rfl,rfl,?_,?_,?_,?_,?_⟩⟩
   ·show (E.w.drew.alloc _).heap[_]?=_
    exact World.alloc_heap_new _ _
   ·simp only [Array.size_append,size_zeroCells,hzs,Array.size_empty]
    rw [Nat.zero_add,← Nat.add_mul]
    congr 1
    omega
   ·simp [flatV,RepL]
   ·intro o _;right;exact ⟨rfl,trivial⟩
   ·intro o ho;simp at ho)
  refine ⟨_,_,rfl,rfl,rfl,?_,g2.trans k2,?_⟩
  ·exact k1
  ·simp only [Rep];exact ⟨⟨_,_,_,rfl⟩,Nat.le_refl _,fun _=>rfl⟩
theorem info_of_slice {P:Program} {t e:TypeId} {d:TD} {esz by_:Nat} (h:tdOf P t=some d) (hs:d.sh=.slice e esz by_):∃ i,P.info? e=some i∧i.size=esz∧i.bytes=by_:=by
 unfold tdOf at h
 split at h
 ·rename_i i u hi hu
  split at h
  ·rename_i z hz
   split at h
   ·injection h with h;subst h
    simp only at hs
    unfold shOf at hs
    split at hs<;>try (split at hs<;>simp at hs;done)
    all_goals try (simp at hs;done)
    split at hs
    ·rename_i j hj
     injection hs with h1 h2 h3
     subst h1
     exact ⟨j,hj,h2,h3⟩
    ·simp at hs
   ·cases h
  ·cases h
 ·cases h
theorem info_of_td {P:Program} {t:TypeId} {d:TD} (h:tdOf P t=some d):∃ i z,P.info? t=some i∧i.zero=some z∧i.size=d.size∧z.cells.size=d.zero.length:=by
 unfold tdOf at h
 split at h
 ·rename_i i u hi hu
  split at h
  ·rename_i z hz
   split at h
   ·injection h with h;subst h
    exact ⟨i,z,hi,hz,rfl,by simp⟩
   ·cases h
  ·cases h
 ·cases h
theorem Grow_nil' {P:Program} {ρ:Ren} (L:Lays8.n4 P ρ) (G:Glob) (ts:TypeId) {d de:TD} {e:TypeId} {esz by_:Nat} (he:ρ.t 25=e) (hts:tdOf P ts=some d) (hsh:d.sh=.slice e esz by_) (hte:tdOf P e=some de) (hz:de.zero.length=esz) (hs0:0 < esz) (hby:by_≤128) (n:Nat) (h63:n≤1099511627776) :
 Spec P G (ρ.f 4) [.sl [] .nil,.int .i64 n] (.row 0 0) [.row esz [] 0 false]:=by
 subst he
 obtain ⟨i,h1,h2,h3⟩:=info_of_slice hts hsh
 obtain ⟨i',z,h4,h5,h6,h7⟩:=info_of_td hte
 rw [h1] at h4;injection h4 with h4;subst h4
 subst h2
 refine Grow_nil L G h1 h5 hs0 (by rw [h7,hz]) n ?_ h63
 rw [h3]
 exact Nat.le_trans (Nat.mul_le_mul h63 hby) (by decide)
theorem CALLS_specP' {P:Program} {G:Glob} {w0:World} {M0:Nat→Nat→Prop} {R:Value→World→Prop} {f:Operand} {args:List Operand} {ats:Array TypeId} {n:FuncId} {first cap vargs args':List V} {r:V} {Hr:List AB} {dst:Option Tmp} {ty:TypeId} {p:String} {af:Array Edge} {all l:List Oper} {k:List It} {fr:List V} {st:List (List V)} {H:List AB}
 (hn:callB P n=true) (hs:Spec P G n args' r Hr) (he:first++vargs++cap=args') (hp:args'.all pureV=true)
 (h:RUNs P G w0 M0 R ⟨.ops all l::k,putV fr dst (shV H.length r),st,H++Hr.map (shAB H.length)⟩) :
 CALLS P G w0 M0 R ⟨.ops all (⟨dst,.call ⟨.value f,args.toArray,ats⟩,ty,p,af,none⟩::l)::k,fr,st,H⟩ f args (.fn (.func n) first cap) vargs dst all l k fr st H:=by
 subst he;exact CALLS_specP hn hp hs h
theorem RUNs_rangeF {P:Program} {G:Glob} {w0:World} {M0:Nat→Nat→Prop} {R:Value→World→Prop} {σ:Type} (n:Nat) (inv:Nat→σ→Prop) (F:Nat→σ→List V) (s0:σ) {body:Code} {k:List It} {fr:List V} {st:List (List V)} {H:List AB}
 (hinv:inv 0 s0) (h0:Weak fr H (F 0 s0) H) (hst:st.all (okL H.length)=true)
 (round:∀ x:RSt σ n inv,RUNs P G w0 M0 R ⟨.code body::.inv (RJ P G w0 M0 R n inv (fun i s=>(F i s,H)) x st)::k,F x.i x.s,st,H⟩):RUNs P G w0 M0 R ⟨.code (.loop body)::k,fr,st,H⟩ :=
 RUNs_range n inv (fun i s=>(F i s,H)) s0 hinv h0 hst round
end Go.Ab
namespace Go.Ab
open Go Go.RowKit
theorem wk {fr fr':List V} {H H':List AB}
 (a:LeL fr fr':=by repeat (first|exact .nil|refine .cons (.refl _) ?_|refine .cons (.sl _ _) ?_|refine .cons (.any _) ?_))
 (b:LeH H H':=by repeat (first|exact .nil _|refine .cons (.refl _) ?_|refine .cons (.var (by repeat (first|exact .nil|refine .cons (.refl _) ?_|refine .cons (.sl _ _) ?_|refine .cons (.any _) ?_))) ?_|refine .cons (.dead _ (by intro hh;cases hh)) ?_))
 (c:okL H'.length fr'=true:=by rfl) (d:H'.all (okAB H'.length)=true:=by rfl):Weak fr H fr' H':=⟨a,b,c,d⟩
class Br (g:Prop) (b b1 b2:outParam Bool) (A B:outParam Prop):Prop where
 br:(b=b1→A)→(b=b2→B)→g
theorem brk {g:Prop} {b b1 b2:Bool} {A B:Prop} [k:Br g b b1 b2 A B] (h1:b=b1→A) (h2:b=b2→B):g:=k.br h1 h2
section
variable {P:Program} {G:Glob} {w0:World} {M0:Nat→Nat→Prop} {R:Value→World→Prop}
instance {c:Cfg} {t:Bool} {x y:Code} {k:List It} {fr:List V} {st:List (List V)} {H:List AB}:Br (CONDS P G w0 M0 R c (.val (.bool t)) x y k fr st H) t true false (RUNs P G w0 M0 R ⟨.code x::k,fr,st,H⟩) (RUNs P G w0 M0 R ⟨.code y::k,fr,st,H⟩):=⟨CONDS_split⟩
instance {b:Bool} {dst:Option Tmp} {op:Op} {t:TypeId} {p:String} {af:Array Edge} {g:Option (Nat×Bool)} {all l:List Oper} {k:List It} {fr:List V} {st:List (List V)} {H:List AB} :
 Br (GRDN P G w0 M0 R b ⟨dst,op,t,p,af,g⟩ all l k fr st H) b false true (RUNs P G w0 M0 R ⟨.ops all (⟨dst,op,t,p,af,none⟩::l)::k,fr,st,H⟩) (RUNs P G w0 M0 R ⟨.ops all l::k,putV fr dst undefV,st,H⟩):=⟨GRDN_split⟩
instance {c:Cfg} {b:Bool} {dst:Option Tmp} {op:Op} {t:TypeId} {p:String} {af:Array Edge} {g:Option (Nat×Bool)} {all l:List Oper} {k:List It} {fr:List V} {st:List (List V)} {H:List AB} :
 Br (GRD P G w0 M0 R c (some b) ⟨dst,op,t,p,af,g⟩ all l k fr st H) b true false (RUNs P G w0 M0 R ⟨.ops all (⟨dst,op,t,p,af,none⟩::l)::k,fr,st,H⟩) (RUNs P G w0 M0 R ⟨.ops all l::k,putV fr dst undefV,st,H⟩):=⟨GRD_split⟩
instance {all:List Oper} {k:List It} {st:List (List V)} {dst:Option Tmp} {t:TypeId} {p:String} {af:Array Edge} {l:List Oper} {d:DM} {fr:List V} {H:List AB} {b:Bool} {op:Op} {g:Option (Nat×Bool)} :
 Br (DGRN P G w0 M0 R all k st b ⟨dst,op,t,p,af,g⟩ l d fr H) b false true (DRP P G w0 M0 R all k st (⟨dst,op,t,p,af,none⟩::l) d fr H) (DRP P G w0 M0 R all k st l ⟨d.nid,d.tr++[⟨[],[],d.nid,[]⟩]⟩ (putV fr dst undefV) H):=⟨DGRN_split⟩
instance {all:List Oper} {k:List It} {st:List (List V)} {dst:Option Tmp} {t:TypeId} {p:String} {af:Array Edge} {l:List Oper} {d:DM} {fr:List V} {H:List AB} {b:Bool} {op:Op} {g:Option (Nat×Bool)} :
 Br (DGR P G w0 M0 R all k st (some b) ⟨dst,op,t,p,af,g⟩ l d fr H) b true false (DRP P G w0 M0 R all k st (⟨dst,op,t,p,af,none⟩::l) d fr H) (DRP P G w0 M0 R all k st l ⟨d.nid,d.tr++[⟨[],[],d.nid,[]⟩]⟩ (putV fr dst undefV) H):=⟨DGR_split⟩
end
section
variable {P:Program} {G:Glob} {w0:World} {M0:Nat→Nat→Prop} {R:Value→World→Prop}
theorem CU {f:Operand} {args:List Operand} {ats:Array TypeId} {n:FuncId} {first cap vargs args':List V} {r:V} {dst:Option Tmp} {ty:TypeId} {p:String} {af:Array Edge} {all l:List Oper} {k:List It} {fr:List V} {st:List (List V)} {H:List AB}
 (hs:Spec P G n args' r []) (hn:callB P n=true:=by kernel_rfl) (ha:fzL (immL H (rowsInL (first++vargs++cap))) (first++vargs++cap)=some args':=by simp only [z,seval]<;>rfl) (h:RUNs P G w0 M0 R ⟨.ops all l::k,putV fr dst r,st,immL H (rowsInL (first++vargs++cap))⟩):CALLS P G w0 M0 R ⟨.ops all (⟨dst,.call ⟨.value f,args.toArray,ats⟩,ty,p,af,none⟩::l)::k,fr,st,H⟩ f args (.fn (.func n) first cap) vargs dst all l k fr st H:=CALLS_spec hs hn ha h
theorem CH {f:Operand} {args:List Operand} {ats:Array TypeId} {n:FuncId} {first cap vargs args':List V} {r:V} {Hr:List AB} {dst:Option Tmp} {ty:TypeId} {p:String} {af:Array Edge} {all l:List Oper} {k:List It} {fr:List V} {st:List (List V)} {H:List AB}
 (hs:Spec P G n args' r Hr) (hn:callB P n=true:=by kernel_rfl) (ha:fzL (immL H (rowsInL (first++vargs++cap))) (first++vargs++cap)=some args':=by simp only [z,seval]<;>rfl)
 (h:RUNs P G w0 M0 R ⟨.ops all l::k,putV fr dst (shV (immL H (rowsInL (first++vargs++cap))).length r),st,immL H (rowsInL (first++vargs++cap))++Hr.map (shAB (immL H (rowsInL (first++vargs++cap))).length)⟩):CALLS P G w0 M0 R ⟨.ops all (⟨dst,.call ⟨.value f,args.toArray,ats⟩,ty,p,af,none⟩::l)::k,fr,st,H⟩ f args (.fn (.func n) first cap) vargs dst all l k fr st H:=CALLS_specH hn ha hs h
theorem DU {all:List Oper} {k:List It} {st:List (List V)} {dst:Option Tmp} {fr:List V} {H:List AB} {l:List Oper} {d:DM} {n:FuncId} {first cap vargs args':List V} {r:V} {rd:List Nat} (hs:Spec P G n args' r []) (hn:callB P n=true:=by kernel_rfl) (ha:fzL H (first++vargs++cap)=some args':=by simp only [z,seval]<;>rfl)
 (h:DRP P G w0 M0 R all k st l ⟨d.nid,d.tr++[⟨rd,[],d.nid,[]⟩]⟩ (putV fr dst r) H):DCALLS P G w0 M0 R all k st (.fn (.func n) first cap) vargs rd dst l d fr H:=DCALLS_spec hn ha hs h
theorem NX {σ:Type} {n:Nat} {inv:Nat→σ→Prop} {I:Nat→σ→List V×List AB} {x:RSt σ n inv} (s:σ) {k:List It} {fr:List V} {st:List (List V)} {H:List AB}
 (hw:Weak fr H (I (x.i + 1) s).1 (I (x.i + 1) s).2:=by exact wk) (hst:st.all (okL (I (x.i + 1) s).2.length)=true:=by rfl) (hi:x.i < n) (hinv:inv (x.i + 1) s) :
 RUNs P G w0 M0 R ⟨.inv (RJ P G w0 M0 R n inv I x st)::k,fr,st,H⟩:=RUNs_next s hw hst hi hinv
theorem CI {σ:Type} {I:σ→List V×List AB} {ok:σ→Prop} (s:σ) {k:List It} {fr:List V} {st:List (List V)} {H:List AB} (hw:Weak fr H (I s).1 (I s).2:=by exact wk) (hst:st.all (okL (I s).2.length)=true:=by rfl) (h:ok s) :
 RUNs P G w0 M0 R ⟨.inv (CUT P G w0 M0 R I ok st)::k,fr,st,H⟩:=RUNs_cut_in s hw hst h
end
end Go.Ab
namespace Go.Ab
open Go Go.RowKit
theorem set_self {α:Type}:∀ (l:List α) (n:Nat) (x:α),l[n]?=some x→l.set n x=l
 | [],n,x,h=>by simp at h
 | a::l,0,x,h=>by simp at h;subst h;rfl
 | a::l,n + 1,x,h=>by simp at h;simp [set_self l n x h]
theorem RepL.set1 {E:Env} {vs:List V} {xs:List Value} (n:Nat) {v:V} {x:Value} (h:RepL E vs xs) (hx:xs[n]?=some x) (hv:Rep E v x):RepL E (vs.set n v) xs:=by
 have:=h.set n hv
 rwa [set_self xs n x hx] at this
theorem row0_rep {E:Env} {n sz:Nat} (H:List AB) (hn:n=H.length):Rep { E with τ:=fun j=>if j=n then .slice none 0 0 else E.τ j,H:=H++[.row sz [] 0 false] } (.row n 0) (.slice none 0 0):=by
 subst hn
 simp only [Rep]
 refine ⟨⟨_,_,_,rfl⟩,?_⟩
 simp
theorem RUN_row0 {X:Ctx} (t sz:Nat) {k:List It} {fr:List V} {st:List (List V)} {H:List AB} (ht:fr[t]?=some (.sl [] .nil)) (h:RUN X ⟨k,fr.set t (.row H.length 0),st,H++[.row sz [] 0 false]⟩):RUN X ⟨k,fr,st,H⟩:=by
 intro sa a E hH hR hD
 simp only at hH hR;subst hH
 obtain ⟨e1,e2⟩:=hR.ok.row0 (NewAt.push E.H (.row sz [] 0 false)) none
 refine h sa a { E with τ:=fun j=>if j=E.H.length then .slice none 0 0 else E.τ j,H:=E.H++[.row sz [] 0 false] } rfl ⟨e1,?_,hR.st.mono e2⟩ hD
 obtain ⟨x,h1,h2⟩:=hR.fr.get t _ ht
 have hx:x=.slice none 0 0:=by
  simp only [Rep] at h2
  obtain ⟨_,_,_,_,_,_,_,h3,_⟩:=h2
  exact h3 trivial
 subst hx
 exact (RepL.mono _ e2 hR.fr).set1 t h1 (row0_rep _ rfl)
theorem RUN_row0H {X:Ctx} (i o sz:Nat) {cs:List V} {k:List It} {fr:List V} {st:List (List V)} {H:List AB} (hi:H[i]?=some (.var cs)) (ht:cs[o]?=some (.sl [] .nil)) (h:RUN X ⟨k,fr,st,(H++[AB.row sz [] 0 false]).set i (AB.var (cs.set o (V.row H.length 0)))⟩):RUN X ⟨k,fr,st,H⟩:=by
 intro sa a E hH hR hD
 simp only at hH hR;subst hH
 have hlt:i < E.H.length:=by
  rcases Nat.lt_or_ge i E.H.length with k|k
  ·exact k
  ·rw [List.getElem?_eq_none k] at hi;cases hi
 obtain ⟨e1,e2⟩:=hR.ok.row0 (NewAt.push E.H (.row sz [] 0 false)) none
 let E1:Env:={ E with τ:=fun j=>if j=E.H.length then .slice none 0 0 else E.τ j,H:=E.H++[.row sz [] 0 false] }
 have hi1:E1.H[i]?=some (.var cs):=by show (E.H++_)[i]?=_;rw [List.getElem?_append_left hlt,hi]
 obtain ⟨b,C,e,f1,f2,f3,f4⟩:=e1.blk i _ hi1
 obtain ⟨x,h1,h2⟩:=f3.get o _ ht
 have hx:x=.slice none 0 0:=by
  simp only [Rep] at h2
  obtain ⟨_,_,_,_,_,_,_,h3,_⟩:=h2
  exact h3 trivial
 subst hx
 obtain ⟨g1,g2⟩:=e1.write E1.w i b (.var cs) (.var (cs.set o (.row E.H.length 0))) (pv:=0) f1 hi1 rfl rfl rfl rfl (fun _ _=>rfl) (fun o u hs=>hs.1) (by intro sz es v m hr;cases hr) (by intro hh;cases hh) (by intro hh;cases hh)
  (fun hle=>⟨b,C,e,f1,f2,by
    refine (RepL.mono _ hle f3).set1 o h1 ?_
    exact Rep.mono _ hle (row0_rep (E:=E) (sz:=sz) E.H rfl),f4⟩)
 exact h sa a { E1 with H:=E1.H.set i (.var (cs.set o (.row E.H.length 0))) } rfl ⟨g1,RepL.mono _ g2 (RepL.mono _ e2 hR.fr),(hR.st.mono e2).mono g2⟩ hD
def UJ (X:Ctx) (body:Code) (k:List It):Nat→List Act→Act→World→Prop
 | 0=>fun _ _ _=>False
 | n + 1=>fun sa a w=>post X.P X.R (.code body::.inv (UJ X body k n)::k) sa .normal a w
theorem RUN_unr {X:Ctx} {n:Nat} {body:Code} {k:List It} {fr:List V} {st:List (List V)} {H:List AB} (h:RUN X ⟨.code body::.inv (UJ X body k n)::k,fr,st,H⟩):RUN X ⟨.inv (UJ X body k (n + 1))::k,fr,st,H⟩:=by
 intro sa a E hH hR hD
 have:=h sa a E hH hR (by simpa only [DF] using hD)
 simp only [post]
 exact ⟨by simpa only [UJ] using this,by simpa only [DF] using hD⟩
theorem RUN_unroll {X:Ctx} (n:Nat) {body:Code} {k:List It} {fr:List V} {st:List (List V)} {H:List AB} (h:RUN X ⟨.code body::.inv (UJ X body k n)::k,fr,st,H⟩):RUN X ⟨.code (.loop body)::k,fr,st,H⟩:=by
 intro sa a E hH hR hD
 have h0:=h sa a E hH hR (by simpa only [DF] using hD)
 simp only [post]
 refine wpIn_loop_ind (fun m a w=>match m with|0=>False|m + 1=>post X.P X.R (.code body::.inv (UJ X body k m)::k) sa .normal a w) ?_ (n + 1) a E.w h0
 intro m a w hm
 cases m with
 | zero=>exact hm.elim
 | succ m =>
   simp only [post,rd] at hm
   refine wpIn_mono hm (fun e a' w' q=>?_)
   cases e<;>simp only [post] at q<;>try exact q
   refine ⟨m,Nat.lt_succ_self m,?_⟩
   cases m with
   | zero=>exact q.1.elim
   | succ m=>simpa only [UJ] using q.1
section
variable {P:Program} {G:Glob} {w0:World} {M0:Nat→Nat→Prop} {R:Value→World→Prop}
def UNR (P:Program) (G:Glob) (w0:World) (M0:Nat→Nat→Prop) (R:Value→World→Prop) (body:Code) (k:List It) (n:Nat):List Act→Act→World→Prop:=UJ ⟨P,G,w0,M0,R⟩ body k n
theorem RUNs_row0 (t sz:Nat) {k:List It} {fr:List V} {st:List (List V)} {H:List AB} (ht:fr[t]?=some (.sl [] .nil):=by rfl) (hs:step P G ⟨k,fr,st,H⟩=none:=by rfl) (h:RUNs P G w0 M0 R ⟨k,fr.set t (.row H.length 0),st,H++[.row sz [] 0 false]⟩):RUNs P G w0 M0 R ⟨k,fr,st,H⟩ :=
 RUNs_stop hs (RUN_row0 (X:=⟨P,G,w0,M0,R⟩) t sz ht (RUN_of_RUNs h))
theorem RUNs_row0H (i o sz:Nat) {cs:List V} {k:List It} {fr:List V} {st:List (List V)} {H:List AB} (hi:H[i]?=some (.var cs):=by rfl) (ht:cs[o]?=some (.sl [] .nil):=by rfl) (hs:step P G ⟨k,fr,st,H⟩=none:=by rfl) (h:RUNs P G w0 M0 R ⟨k,fr,st,(H++[AB.row sz [] 0 false]).set i (AB.var (cs.set o (V.row H.length 0)))⟩):RUNs P G w0 M0 R ⟨k,fr,st,H⟩ :=
 RUNs_stop hs (RUN_row0H (X:=⟨P,G,w0,M0,R⟩) i o sz hi ht (RUN_of_RUNs h))
theorem RUNs_unroll (n:Nat) {body:Code} {k:List It} {fr:List V} {st:List (List V)} {H:List AB} (h:RUNs P G w0 M0 R ⟨.code body::.inv (UNR P G w0 M0 R body k n)::k,fr,st,H⟩):RUNs P G w0 M0 R ⟨.code (.loop body)::k,fr,st,H⟩ :=
 RUNs_stop rfl (RUN_unroll (X:=⟨P,G,w0,M0,R⟩) n (RUN_of_RUNs h))
theorem RUNs_unr {n:Nat} {body:Code} {k:List It} {fr:List V} {st:List (List V)} {H:List AB} (h:RUNs P G w0 M0 R ⟨.code body::.inv (UNR P G w0 M0 R body k n)::k,fr,st,H⟩):RUNs P G w0 M0 R ⟨.inv (UNR P G w0 M0 R body k (n + 1))::k,fr,st,H⟩ :=
 RUNs_stop rfl (RUN_unr (X:=⟨P,G,w0,M0,R⟩) (RUN_of_RUNs h))
def wkV:V→V
 | .tup []=>.any
 | v=>v
def wkF:List V→List V
 | []=>[]
 | v::l=>wkV v::wkF l
def setF (fr:List V):List (Nat×V)→List V
 | []=>fr
 | (i,v)::r=>setF (fr.set i v) r
theorem RUNs_rangeS {σ:Type} (n:Nat) (inv:Nat→σ→Prop) (S:Nat→σ→List (Nat×V)) (HH:Nat→σ→List (Nat×AB)) (s0:σ) {body:Code} {k:List It} {fr:List V} {st:List (List V)} {H:List AB}
 (hinv:inv 0 s0) (h0:Weak fr H (setF (wkF fr) (S 0 s0)) (setH H (HH 0 s0))) (hst:st.all (okL (setH H (HH 0 s0)).length)=true)
 (round:∀ x:RSt σ n inv,RUNs P G w0 M0 R ⟨.code body::.inv (RJ P G w0 M0 R n inv (fun i s=>(setF (wkF fr) (S i s),setH H (HH i s))) x st)::k,setF (wkF fr) (S x.i x.s),st,setH H (HH x.i x.s)⟩):RUNs P G w0 M0 R ⟨.code (.loop body)::k,fr,st,H⟩ :=
 RUNs_range n inv (fun i s=>(setF (wkF fr) (S i s),setH H (HH i s))) s0 hinv h0 hst round
end
theorem wkV_any:wkV .any=.any:=rfl
theorem wkV_val (v:Value):wkV (.val v)=.val v:=rfl
theorem wkV_ptr (i o:Nat):wkV (.ptr i o)=.ptr i o:=rfl
theorem wkV_ptrE (i v x s o:Nat):wkV (.ptrE i v x s o)=.ptrE i v x s o:=rfl
theorem wkV_cp (cs:List V):wkV (.cp cs)=.cp cs:=rfl
theorem wkV_sl (es:List V) (m:Mk):wkV (.sl es m)=.sl es m:=rfl
theorem wkV_row (i v:Nat):wkV (.row i v)=.row i v:=rfl
theorem wkV_vs (i o n s:Nat):wkV (.vs i o n s)=.vs i o n s:=rfl
theorem wkV_agg (cs:List V):wkV (.agg cs)=.agg cs:=rfl
theorem wkV_nil:wkV (.tup [])=.any:=rfl
theorem wkV_tup (c:V) (cs:List V):wkV (.tup (c::cs))=.tup (c::cs):=rfl
theorem wkV_fn (f:Fn) (a b:List V):wkV (.fn f a b)=.fn f a b:=rfl
theorem wkV_iface (t:TypeId) (v:V):wkV (.iface t v)=.iface t v:=rfl
theorem wkV_mp (i:Nat):wkV (.mp i)=.mp i:=rfl
theorem wkF_nil:wkF []=[]:=rfl
theorem wkF_cons (v:V) (l:List V):wkF (v::l)=wkV v::wkF l:=rfl
theorem setF_nil (fr:List V):setF fr []=fr:=rfl
theorem setF_cons (fr:List V) (i:Nat) (v:V) (r:List (Nat×V)):setF fr ((i,v)::r)=setF (fr.set i v) r:=rfl
theorem ab3:type_of% @wkV_any∧type_of% @wkV_val∧type_of% @wkV_ptr∧type_of% @wkV_ptrE∧type_of% @wkV_cp∧type_of% @wkV_sl∧type_of% @wkV_row∧type_of% @wkV_vs∧type_of% @wkV_agg∧type_of% @wkV_nil∧type_of% @wkV_tup∧type_of% @wkV_fn∧type_of% @wkV_iface∧type_of% @wkV_mp∧type_of% @wkF_nil∧type_of% @wkF_cons∧type_of% @setF_nil∧type_of% @setF_cons :=
 ⟨@wkV_any,@wkV_val,@wkV_ptr,@wkV_ptrE,@wkV_cp,@wkV_sl,@wkV_row,@wkV_vs,@wkV_agg,@wkV_nil,@wkV_tup,@wkV_fn,@wkV_iface,@wkV_mp,@wkF_nil,@wkF_cons,@setF_nil,@setF_cons⟩
end Go.Ab
namespace Go.Ab
open Go Go.RowKit
theorem underlying_of_slice {P:Program} {t e:TypeId} {d:TD} {esz by_:Nat} (h:tdOf P t=some d) (hs:d.sh=.slice e esz by_):P.underlying t=some (.slice e):=by
 obtain ⟨i,u,z,h1,h2,h3,h4,rfl⟩:=tdOf_some h
 rw [h2]
 simp only at hs
 unfold shOf at hs
 split at hs<;>try (split at hs<;>simp at hs;done)
 all_goals try (simp at hs;done)
 split at hs
 ·injection hs with h1;subst h1;rfl
 ·simp at hs
theorem RUN_nilq {X:Ctx} {all l:List Oper} {o:Oper} {k:List It} {fr:List V} {st:List (List V)} {H:List AB} {t t2:TypeId} {x y:Operand} {es:List V} {m:Mk} {e:TypeId} {d:TD} {esz by_:Nat}
 (hg:guardV all fr o=some true) (ho:o.op=.binOp .eql t x y t2) (hx:evalO X.G fr x=.sl es m) (hy:evalO X.G fr y=.sl [] .nil) (ht:tdOf X.P t=some d) (hs:d.sh=.slice e esz by_)
 (h:∀ b,(es≠[]→b=false)→(m=.nil→b=true)→RUN X ⟨.ops all l::k,putV fr o.dst (.bool b),st,H⟩):RUN X ⟨.ops all (o::l)::k,fr,st,H⟩:=by
 intro sa a E hH hR hD
 simp only at hH hR hD
 subst hH
 simp only [DF] at hD
 simp only [post]
 unfold wpListIn
 rw [if_pos (guardV_sound (X:=X) hR.fr hg)]
 refine ⟨fun _ _=>trivial,?_⟩
 have h1:=evalO_sound hR.ok hR.fr x
 have h2:=evalO_sound hR.ok hR.fr y
 rw [hx] at h1;rw [hy] at h2
 simp only [Rep] at h1 h2
 obtain ⟨ad,n,c,e1,e2,e3,e4,e5,e6,e7⟩:=h1
 obtain ⟨_,_,_,_,_,_,_,f5,_⟩:=h2
 have f5:=f5 trivial
 have hrun:(execOp a.eval o).run X.P E.w=.ok (.value (.bool ad.isNone)) E.w:=by
  have:=Lib.run_eql_slice_nil (P:=X.P) E.w t e ad n c 0 0 (underlying_of_slice ht hs)
  simp only [execOp,ho,e1,f5,eqGuard]
  simp [this]
 rw [Oper.semAt_eq _ _ _ (by intro c' hc';rw [ho] at hc';cases hc'),hrun,Oper.uponIn_value]
 refine h ad.isNone (fun hn=>?_) (fun hm=>?_) sa (a.put o.dst (.bool ad.isNone)) E rfl (hR.put (Env.le.refl E) hR.ok (v:=.bool ad.isNone) (by simp [Rep,Value.oneCell']) o.dst) (by simpa only [DF,put_defers] using hD)
 ·obtain ⟨_,_,_,g,_⟩:=e7 hn
  rw [g];rfl
 ·have:=e5 hm
  rw [e1] at this;injection this with this;rw [this];rfl
theorem OPV_nilq {P:Program} {G:Glob} {w0:World} {M0:Nat→Nat→Prop} {R:Value→World→Prop} {t t2:TypeId} {x y:Operand} {dst:Option Tmp} {ty:TypeId} {p:String} {af:Array Edge} {all l:List Oper} {k:List It} {fr:List V} {st:List (List V)} {H:List AB} {o:Option V} {es:List V} {m:Mk} {e:TypeId} {d:TD} {esz by_:Nat}
 (hx:evalO G fr x=.sl es m) (hy:evalO G fr y=.sl [] .nil) (ht:tdOf P t=some d) (hs:d.sh=.slice e esz by_) (ho:o=none)
 (h:∀ b,(es≠[]→b=false)→(m=.nil→b=true)→RUNs P G w0 M0 R ⟨.ops all l::k,putV fr dst (.bool b),st,H⟩) :
 OPV P G w0 M0 R ⟨.ops all (⟨dst,.binOp .eql t x y t2,ty,p,af,none⟩::l)::k,fr,st,H⟩ o dst all l k fr st H:=by
 subst ho
 refine RUNs_stop ?_ (RUN_nilq (X:=⟨P,G,w0,M0,R⟩) rfl rfl hx hy ht hs fun b h1 h2=>RUN_of_RUNs (h b h1 h2))
 simp only [step,opStep,guardV,eff,hx,hy,binV,Option.map_none]
end Go.Ab
namespace Go.Ab
open Go Go.RowKit
theorem run_clear_row {P:Program} {t e ty:TypeId} {ie:TypeInfo} {z:Value} (ht:P.underlying t=some (.slice e)) (hie:P.info? e=some ie) (hz:ie.zero=some z) (hzs:z.cells.size=ie.size) (h1:∀ v∈z.cells.toList,v.oneCell'=true)
 (w:World) (b o n c:Nat) (hn:0 < n) {C:Array Value} {et:TypeId} (hw:w.heap[b]?=some (.cells C et (0,0))) (hb:o + n * ie.size≤C.size) :
 ∃ vs:List Value,vs.length=n * ie.size∧(Builtin.clear_ #[t] ty #[.slice (some ⟨b,o,none⟩) n c]).run P w=.ok (.tuple #[]) (w.setRow b (C.toList.take o++vs++C.toList.drop (o + vs.length)).toArray):=by
 refine ⟨(Builtin.zeroCells z.cells n).toList,by simp [size_zeroCells,hzs],?_⟩
 have hzv:(zeroValue e).run P w=.ok z w:=by simp [zeroValue,typeInfo,hie,hz]
 have hst:=run_storeCells_at P b o et (Builtin.zeroCells z.cells n).toList 0 C w hw (by simp [size_zeroCells,hzs];exact hb) (by
  intro v hv
  simp only [Builtin.zeroCells,Array.toList_map,List.mem_map] at hv
  obtain ⟨i,hi,rfl⟩:=hv
  have hpos:0 < z.cells.size:=by
   rcases Nat.eq_zero_or_pos z.cells.size with h|h
   ·simp [h] at hi
   ·exact h
  have hlt:i % z.cells.size < z.cells.size:=Nat.mod_lt _ hpos
  rw [getElem!_pos z.cells _ hlt]
  exact h1 _ (by rw [Array.mem_toList_iff];exact Array.getElem_mem hlt))
 simp only [Nat.add_zero] at hst
 obtain ⟨m,rfl⟩:∃ m,n=m + 1:=⟨n - 1,by omega⟩
 simp [Builtin.clear_,run_underlying ht,hzv,hst]
end Go.Ab
namespace Go.Ab
open Go Go.RowKit
structure Del {α:Type} (p:α→Bool) (l:List α) (j:Nat) (L:List α):Prop where
 len:L.length=l.length
 head:L.take ((l.take j).filter p).length=(l.take j).filter p
 tail:L.drop j=l.drop j
theorem Del.le {α:Type} {p:α→Bool} {l:List α} {j:Nat} {L:List α} (h:Del p l j L):((l.take j).filter p).length≤j:=by
 have:=List.length_filter_le p (l.take j);simp at this;omega
theorem Del.at {α:Type} {p:α→Bool} {l:List α} {j:Nat} {L:List α} (h:Del p l j L) (hj:j < l.length):∃ hL:j < L.length,L[j]=l[j]:=by
 have h1:j < L.length:=by rw [h.len];exact hj
 refine ⟨h1,?_⟩
 have:=congrArg (fun x=>x[0]?) h.tail
 simpa [hj,h1] using this
theorem Del.skip {α:Type} {p:α→Bool} {l:List α} {j:Nat} {L:List α} (h:Del p l j L) (hj:j < l.length) (hp:p l[j]=false):Del p l (j + 1) L:=by
 have e:(l.take (j + 1)).filter p=(l.take j).filter p:=by
  rw [List.take_succ_eq_append_getElem hj,List.filter_append];simp [hp]
 refine ⟨h.len,by rw [e];exact h.head,?_⟩
 have:=congrArg (List.drop 1) h.tail
 simpa [List.drop_drop,Nat.add_comm] using this
theorem Del.keep {α:Type} {p:α→Bool} {l:List α} {j:Nat} {L:List α} (h:Del p l j L) (hj:j < l.length) (hp:p l[j]=true):Del p l (j + 1) (L.set ((l.take j).filter p).length l[j])∧((l.take (j + 1)).filter p).length=((l.take j).filter p).length + 1:=by
 have e:(l.take (j + 1)).filter p=(l.take j).filter p++[l[j]]:=by
  rw [List.take_succ_eq_append_getElem hj,List.filter_append];simp [hp]
 have hle:=h.le
 refine ⟨⟨by simp [h.len],?_,?_⟩,by rw [e];simp⟩
 ·rw [e,List.length_append]
  simp only [List.length_cons,List.length_nil,Nat.zero_add]
  rw [List.take_succ_eq_append_getElem (by simp [h.len];omega),List.getElem_set_self,List.take_set_of_le (Nat.le_refl _),h.head]
 ·rw [List.drop_set_of_lt (by omega)]
  have:=congrArg (List.drop 1) h.tail
  simpa [List.drop_drop,Nat.add_comm] using this
theorem Del.zero {α:Type} (p:α→Bool) (l:List α) {j:Nat} (hj:(l.take j).all p=true):Del p l j l:=by
 have:(l.take j).filter p=l.take j:=List.filter_eq_self.2 (by simpa using hj)
 exact ⟨rfl,by rw [this];simp [List.take_take],rfl⟩
end Go.Ab
namespace Go.Ab
open Go Go.RowKit
theorem RUN_sum {P:Program} {G:Glob} {w0:World} {M0:Nat→Nat→Prop} {R:Value→World→Prop} {σ:Type} (I:σ→List V×List AB) (ok:σ→Prop) {body:Code} {rs:List ResultVar} {dst:Option Tmp} {k:List It} {fr fr0:List V} {st:List (List V)} {H:List AB}
 (hk:∀ s,ok s→RUN ⟨P,G,w0,M0,R⟩ ⟨k,(I s).1,st,(I s).2⟩) (h:RUN ⟨P,G,w0,M0,R⟩ ⟨.code body::.ret rs dst::.inv (CUT P G w0 M0 R I ok st)::k,fr,fr0::st,H⟩):RUN ⟨P,G,w0,M0,R⟩ ⟨.code body::.ret rs dst::k,fr,fr0::st,H⟩:=by
 intro sa a E hH hR hD
 have:=h sa a E hH hR (by simpa only [DF] using hD)
 simp only [post,rd] at this ⊢
 refine wpIn_mono this (fun e a' w' q=>?_)
 have key:∀ v w',retP sa dst (post P R (.inv (CUT P G w0 M0 R I ok st)::k)) v w'→retP sa dst (post P R k) v w':=by
  rintro v w' ⟨a0,sa',h1,h2⟩
  refine ⟨a0,sa',h1,?_⟩
  simp only [post] at h2
  obtain ⟨⟨s,E',k1,rfl,k2,k3⟩,k4⟩:=h2
  exact hk s k1 sa' _ E' k2 k3 k4
 cases e<;>simp only [post] at q ⊢ <;> try exact q
 ·obtain ⟨q1,v,q2,q3⟩:=q;exact ⟨q1,v,q2,key _ _ q3⟩
 ·obtain ⟨q1,v,q2,q3⟩:=q;exact ⟨q1,v,q2,key _ _ q3⟩
section
variable {P:Program} {G:Glob} {w0:World} {M0:Nat→Nat→Prop} {R:Value→World→Prop}
theorem CALLS_sum {σ:Type} (r:σ→V) (HH:σ→List AB) (ok:σ→Prop) {f:Operand} {args:List Operand} {ats:Array TypeId} {n:FuncId} {first cap vargs:List V} {dst:Option Tmp} {ty:TypeId} {p:String} {af:Array Edge} {all l:List Oper} {k:List It} {fr:List V} {st:List (List V)} {H:List AB} {fn:Func} {body:Code}
 (hf:P.funcs[n]?=some fn) (hb:fn.body=some body) (hn:callB P n=true)
 (h:RUNs P G w0 M0 R ⟨.code body::.ret fn.results.toList dst::.inv (CUT P G w0 M0 R (fun s=>(putV fr dst (r s),HH s)) ok st)::.ops all l::k,(first++vargs++cap)++List.replicate (fn.ntmps - (first++vargs++cap).length) undefV,fr::st,H⟩)
 (hk:∀ s,ok s→RUN ⟨P,G,w0,M0,R⟩ ⟨.ops all l::k,putV fr dst (r s),st,HH s⟩) :
 CALLS P G w0 M0 R ⟨.ops all (⟨dst,.call ⟨.value f,args.toArray,ats⟩,ty,p,af,none⟩::l)::k,fr,st,H⟩ f args (.fn (.func n) first cap) vargs dst all l k fr st H :=
 RUNs_call hn (RUNc_inline (X:=⟨P,G,w0,M0,R⟩) hf hb (RUN_sum (fun s=>(putV fr dst (r s),HH s)) ok hk (RUN_of_RUNs h)))
end
def PureFn (P:Program) (G:Glob) (vf:V) (H:List AB) (vargs:List V) (b:V):Prop :=
 ∀ (w0:World) (M0:Nat→Nat→Prop) (R:Value→World→Prop) (f:Operand) (args:List Operand) (ats:Array TypeId) (dst:Option Tmp) (ty:TypeId) (p:String) (af:Array Edge) (all l:List Oper) (k:List It) (fr:List V) (st:List (List V)),
  okL H.length fr=true→st.all (okL H.length)=true→RUN ⟨P,G,w0,M0,R⟩ ⟨.ops all l::k,putV fr dst b,st,H⟩ →
  CALLS P G w0 M0 R ⟨.ops all (⟨dst,.call ⟨.value f,args.toArray,ats⟩,ty,p,af,none⟩::l)::k,fr,st,H⟩ f args vf vargs dst all l k fr st H
theorem okL_set {n:Nat} {fr:List V} {t:Nat} {v:V} (h:okL n fr=true) (hv:okN n v=true):okL n (fr.set t v)=true:=by
 induction fr generalizing t with
 | nil=>simpa using h
 | cons a l ih =>
   simp only [okL,Bool.and_eq_true] at h
   cases t with
   | zero=>simp only [List.set,okL,Bool.and_eq_true];exact ⟨hv,h.2⟩
   | succ t=>simp only [List.set,okL,Bool.and_eq_true];exact ⟨h.1,ih h.2⟩
theorem okL_put {n:Nat} {fr:List V} {d:Option Tmp} {v:V} (h:okL n fr=true) (hv:okN n v=true):okL n (putV fr d v)=true:=by
 cases d with
 | none=>exact h
 | some t=>exact okL_set h hv
theorem PureFn.of {P:Program} {G:Glob} {H:List AB} {n:FuncId} {first cap vargs:List V} {b:V} {fn:Func} {body:Code} (hf:P.funcs[n]?=some fn) (hb:fn.body=some body) (hn:callB P n=true) (hH:H.all (okAB H.length)=true) (hv:okN H.length b=true)
 (h:∀ (w0:World) (M0:Nat→Nat→Prop) (R:Value→World→Prop) (dst:Option Tmp) (all l:List Oper) (k:List It) (fr:List V) (st:List (List V)),okL H.length fr=true→st.all (okL H.length)=true →
   RUNs P G w0 M0 R ⟨.code body::.ret fn.results.toList dst::.inv (CUT P G w0 M0 R (fun (_:Unit)=>(putV fr dst b,H)) (fun _=>True) st)::.ops all l::k,(first++vargs++cap)++List.replicate (fn.ntmps - (first++vargs++cap).length) undefV,fr::st,H⟩) :
 PureFn P G (.fn (.func n) first cap) H vargs b:=by
 intro w0 M0 R f args ats dst ty p af all l k fr st h1 h2 hR
 exact CALLS_sum (fun _:Unit=>b) (fun _=>H) (fun _=>True) hf hb hn (h w0 M0 R dst all l k fr st h1 h2) (fun _ _=>hR)
section
variable {P:Program} {G:Glob} {w0:World} {M0:Nat→Nat→Prop} {R:Value→World→Prop}
theorem RUNs_pure {fr:List V} {st:List (List V)} {H H':List AB} {b b':V} {dst:Option Tmp} {k:List It} (hfr:okL H.length fr=true) (hst:st.all (okL H.length)=true) (hH:H.all (okAB H.length)=true) (hb:okN H.length b=true) (hle:LeH H' H:=by repeat (first|exact .nil _|refine .cons (.refl _) ?_)) (he:b'=b) :
 RUNs P G w0 M0 R ⟨.inv (CUT P G w0 M0 R (fun (_:Unit)=>(putV fr dst b,H)) (fun _=>True) st)::k,putV fr dst b',st,H'⟩ :=
 CI () (hw:=⟨by subst he;exact LeL.refl _,hle,okL_put hfr hb,hH⟩) (hst:=hst) (h:=trivial)
end
theorem LeH.refl:∀ (H:List AB),LeH H H
 | []=>.nil []
 | b::H=>.cons (.refl b) (LeH.refl H)
theorem LeH.app (J:List AB):∀ (H:List AB),LeH (H++J) H
 | []=>.nil _
 | b::H=>.cons (.refl b) (LeH.app J H)
end Go.Ab
namespace Go.Ab
open Go Go.RowKit
def idxP {α:Type} (p:α→Bool) (l:List α):Int:=match l.findIdx? p with
 | some i=>(i:Int)
 | none => -1
theorem idxP_none {α:Type} {p:α→Bool} {l:List α} (h:l.any p=false):idxP p l = -1:=by
 have:l.findIdx? p=none:=by rw [List.findIdx?_eq_none_iff];intro x hx;have:=List.any_eq_false.1 h x hx;simpa using this
 rw [idxP,this]
theorem idxP_at {α:Type} {p:α→Bool} {l:List α} {i:Nat} (h:i < l.length) (h1:(l.take i).any p=false) (h2:p l[i]=true):idxP p l=i:=by
 have:l.findIdx? p=some i:=by
  rw [List.findIdx?_eq_some_iff_getElem]
  refine ⟨h,h2,fun j hj=>?_⟩
  have:=List.any_eq_false.1 h1 l[j] (by rw [List.mem_take_iff_getElem];exact ⟨j,by omega,rfl⟩)
  simpa using this
 rw [idxP,this]
theorem any_snoc {α:Type} {p:α→Bool} {l:List α} {i:Nat} (h:i < l.length) (h1:(l.take i).any p=false) (h2:p l[i]=false):(l.take (i + 1)).any p=false:=by
 rw [List.take_succ_eq_append_getElem h,List.any_append,h1];simp [h2]
theorem PureFn.use {P:Program} {G:Glob} {vf:V} {vargs:List V} {b:V} {w0:World} {M0:Nat→Nat→Prop} {R:Value→World→Prop} {f:Operand} {args:List Operand} {ats:Array TypeId} {dst:Option Tmp} {ty:TypeId} {p:String} {af:Array Edge} {all l:List Oper} {k:List It} {fr:List V} {st:List (List V)} {H:List AB}
 (h:PureFn P G vf H vargs b) (h1:okL H.length fr=true:=by rfl) (h2:st.all (okL H.length)=true:=by rfl) (hR:RUNs P G w0 M0 R ⟨.ops all l::k,putV fr dst b,st,H⟩) :
 CALLS P G w0 M0 R ⟨.ops all (⟨dst,.call ⟨.value f,args.toArray,ats⟩,ty,p,af,none⟩::l)::k,fr,st,H⟩ f args vf vargs dst all l k fr st H :=
 h w0 M0 R f args ats dst ty p af all l k fr st h1 h2 (RUN_of_RUNs hR)
theorem WkF {fr fr':List V} {H:List AB} (c:okL H.length fr'=true) (d:H.all (okAB H.length)=true) (a:LeL fr fr':=by repeat (first|exact .nil|refine .cons (.refl _) ?_|refine .cons (.sl _ _) ?_|refine .cons (.any _) ?_)):Weak fr H fr' H:=⟨a,LeH.refl H,c,d⟩
theorem stok {n:Nat} {fr:List V} {st:List (List V)} (h1:okL n fr=true) (h2:st.all (okL n)=true):(fr::st).all (okL n)=true:=by
 rw [List.all_cons,h1,h2];rfl
end Go.Ab
namespace Go.Ab
open Go Go.RowKit
theorem idxP_cases {α:Type} (p:α→Bool) (l:List α):(idxP p l = -1∧l.any p=false) ∨ ∃ i,∃ h:i < l.length,idxP p l=i∧(l.take i).any p=false∧p l[i]=true:=by
 unfold idxP
 cases hf:l.findIdx? p with
 | none=>exact .inl ⟨rfl,by rw [List.findIdx?_eq_none_iff] at hf;rw [List.any_eq_false];intro x hx;rw [hf x hx];simp⟩
 | some i =>
   rw [List.findIdx?_eq_some_iff_getElem] at hf
   obtain ⟨h,h1,h2⟩:=hf
   refine .inr ⟨i,h,rfl,?_,h1⟩
   rw [List.any_eq_false]
   intro x hx
   obtain ⟨j,hj,rfl⟩:=List.mem_take_iff_getElem.1 hx
   simpa using h2 j (by omega)
end Go.Ab
namespace Go.Ab
open Go Go.RowKit
theorem Spec.fz {P:Program} {G:Glob} {n:FuncId} {args:List V} {r r':V} {Hr:List AB} (h:Spec P G n args r Hr) (hf:Ab.fz (immL Hr (rowsIn r)) r=some r'):Spec P G n args r' []:=by
 intro E xs hE hx
 refine (h E xs hE hx).mono ?_
 rintro e w' ⟨v,E',rfl,rfl,rfl,h2,h3,h4⟩
 obtain ⟨E1,e1,e2,e3,e4⟩:=EOK.immL (rowsIn r) h2
 refine ⟨v,E1.bare,rfl,e1,rfl,⟨e3.below,e3.old,e3.mlt,fun i v b hp=>by simp [Env.bare] at hp,fun i v j u b hp=>by simp [Env.bare] at hp,fun i h hh=>by simp [Env.bare] at hh,e3.glob⟩,?_,fz_sound e3 _ (Rep.mono _ e4 h4) (by rw [e2];exact hf)⟩
 exact (h3.trans e4).bare
end Go.Ab
namespace Ch
open Go Go.Ab Go.Proofs.Tryz
theorem wz:IntKind.i64.wrap 1=1∧IntKind.i64.wrap 2=2∧IntKind.i64.wrap 3=3∧IntKind.i64.wrap 4=4∧IntKind.i64.wrap 5=5∧IntKind.i64.wrap 6=6∧IntKind.i64.wrap 7=7∧IntKind.i64.wrap 8=8∧IntKind.i64.wrap 9=9∧IntKind.i64.wrap 10=10∧IntKind.i64.wrap 11=11∧IntKind.i64.wrap 12=12∧IntKind.i64.wrap 13=13∧IntKind.i64.wrap 14=14∧IntKind.i64.wrap 15=15∧IntKind.i64.wrap 16=16∧IntKind.i64.wrap 17=17∧IntKind.u32.wrap 1=1∧IntKind.u32.wrap 2=2∧IntKind.u32.wrap 3=3∧IntKind.u32.wrap 4=4∧IntKind.u32.wrap 5=5∧IntKind.u32.wrap 6=6∧IntKind.u32.wrap 7=7∧IntKind.u32.wrap 8=8∧IntKind.u32.wrap 9=9∧IntKind.u32.wrap 10=10∧IntKind.u32.wrap 11=11∧IntKind.u32.wrap 12=12∧IntKind.u32.wrap 13=13∧IntKind.u32.wrap 14=14∧IntKind.u32.wrap 15=15∧IntKind.u32.wrap 16=16∧IntKind.u32.wrap 17=17:=⟨by decide,by decide,by decide,by decide,by decide,by decide,by decide,by decide,by decide,by decide,by decide,by decide,by decide,by decide,by decide,by decide,by decide,by decide,by decide,by decide,by decide,by decide,by decide,by decide,by decide,by decide,by decide,by decide,by decide,by decide,by decide,by decide,by decide,by decide⟩
abbrev GG:Glob:=[(0,[.int .u32 0,.int .u32 56,.int .u32 64,.int .u32 64,.int .u32 64,.int .u32 64,.int .u32 92,.int .u32 220,.int .u32 196,.int .u32 68])]
theorem z:type_of% @ab∧type_of% @ab2∧type_of% @ab3∧type_of% @tys∧type_of% @mv∧type_of% @wz:=⟨ab,ab2,ab3,tys,mv,wz⟩
end Ch
namespace Go.Ab
open Go Go.RowKit
theorem Oper.wpIn_exit {F:Fence} {n:Nat} {P:Program} {o:Oper} {a:Act} {w:World} {K K':Act→World→Prop} {Q Q':Exit→Act→World→Prop} (h:∀ a w,K a w→K' a w) (hq:∀ e a w,e≠.normal→Q e a w→Q' e a w)
 (hh:o.wpIn F n P a w K Q):o.wpIn F n P a w K' Q':=by
 have hl:LetsOut Q→LetsOut Q':=fun ⟨a,w,x⟩=>⟨a,w,hq _ _ _ (by simp) x⟩
 unfold Oper.wpIn at *
 refine ⟨hh.1,?_⟩
 have hh:=hh.2
 generalize (o.semAt F.round a.eval).run P w=r at *
 cases r with
 | ok x w' =>
   cases x<;>simp only [Oper.uponIn] at hh ⊢ <;>
    first
     | exact h _ _ hh
     | exact ⟨hh.1,CallsIn.mono hh.2 (fun e w'' he=>by cases e<;>first|exact h _ _ he|exact hq _ _ _ (by simp) he|exact hl he)⟩
     | exact ⟨hh.1,RowsIn.mono hh.2 (fun _ _ he=>h _ _ he)⟩
     | exact ⟨hh.1,RoundIn.mono hh.2 (fun e w'' he=>by cases e<;>first|exact h _ _ he|exact hq _ _ _ (by simp) he|exact hl he)⟩
 | halt x w'=>cases x<;>simp only [Oper.uponIn] at hh ⊢ <;> first|exact hh|exact hq _ _ _ (by simp) hh
def AJ (X:Ctx) (all:List Oper) (k:List It) (n:Nat) (ls:Array Bool):List Act→Act→World→Prop :=
 fun sa a w=>wpAnyIn (FR (rd k)) 0 X.P .any all.toArray (post X.P X.R k sa) n ls a w
theorem RUN_any {X:Ctx} {id:Nat} {all:List Oper} {k:List It} {fr:List V} {st:List (List V)} {H:List AB} (hm:X.P.follows .mixedOrders=true)
 (h:RUN X ⟨.inv (AJ X all k all.length (Array.replicate all.length false))::k,fr,st,H⟩):RUN X ⟨.code (.region id all.toArray true)::k,fr,st,H⟩:=by
 intro sa a E hH hR hD
 simp only at hH hR;subst hH
 simp only [DF] at hD
 simp only [post]
 refine wpIn_region_any hm ?_
 obtain ⟨d1,d2⟩:=hR.ok.drew
 have:=h sa a { E with w:=E.w.drew } rfl ⟨d1,RepL.mono _ d2 hR.fr,hR.st.mono d2⟩ (by simpa only [DF] using hD)
 simp only [post] at this
 simpa [AJ] using this.1
theorem RUN_any1 {X:Ctx} {all:List Oper} {k:List It} {n:Nat} {ls:Array Bool} {fr:List V} {st:List (List V)} {H:List AB} (r:List Nat) (hr:Region.ready .any all.toArray ls=r)
 (h0:r=[]→RUN X ⟨k,fr,st,H⟩) (h1:∀ i∈r,∃ o,all[i]?=some o∧RUN X ⟨.ops all [o]::.inv (AJ X all k n (ls.setIfInBounds i true))::k,fr,st,H⟩) :
 RUN X ⟨.inv (AJ X all k (n + 1) ls)::k,fr,st,H⟩:=by
 intro sa a E hH hR hD
 simp only [DF] at hD
 simp only [post]
 refine ⟨?_,by simpa only [DF] using hD⟩
 unfold AJ wpAnyIn
 rw [hr]
 refine ⟨fun hn=>h0 hn sa a E hH hR hD,fun i hi=>?_⟩
 obtain ⟨o,ho,hrun⟩:=h1 i hi
 have:=hrun sa a E hH hR (by simpa only [DF] using hD)
 simp only [post,wpListIn,rd] at this
 unfold Go.wpOpIn
 have ho':all.toArray[i]?=some o:=by simpa using ho
 rw [ho']
 simp only
 have hexit:∀ (e:Exit) (a':Act) (w':World),e≠.normal→post X.P X.R (.inv (AJ X all k n (ls.setIfInBounds i true))::k) sa e a' w'→post X.P X.R k sa e a' w':=by
  intro e a' w' he hp
  cases e<;>first|exact absurd rfl he|simpa only [post] using hp
 split at this
 ·rename_i hw
  rw [if_pos hw]
  exact Oper.wpIn_exit (fun a' w' hk=>hk.1) hexit this
 ·rename_i hw
  rw [if_neg hw]
  exact ⟨this.1,this.2.1⟩
end Go.Ab
namespace Go.Ab
open Go Go.RowKit
theorem RUN_anyD {X:Ctx} {all:List Oper} {k:List It} {n p:Nat} {ls:Array Bool} {fr frF:List V} {st:List (List V)} {H HF:List AB} (m:Nat) {t:List TrE} (hls:ls.toList=List.replicate p true++List.replicate (all.length - p) false) (hp:p≤all.length) (hn:all.length - p≤n) (hok:drawOK all t=true)
 (hs:SEQ X.P X.G all (fun k=>t.getD k ⟨[],[],0,[]⟩) (List.range' p (all.length - p)) fr (H++List.replicate m .hole) frF HF) (h:RUN X ⟨k,frF,st,HF⟩):RUN X ⟨.inv (AJ X all k n ls)::k,fr,st,H⟩:=by
 intro sa a E hH hR hD
 simp only at hH hR;subst hH
 simp only [DF] at hD
 simp only [post]
 refine ⟨?_,by simpa only [DF] using hD⟩
 unfold drawOK at hok
 rw [Bool.and_eq_true] at hok
 obtain ⟨g1,g2⟩:=hR.ok.holes m
 have hR':RelE X fr st sa a { E with H:=E.H++List.replicate m .hole }:=⟨g1,RepL.mono _ g2 hR.fr,hR.st.mono g2⟩
 have hsz:ls.size=all.length:=by
  have:=congrArg List.length hls
  simp only [Array.length_toList,List.length_append,List.length_replicate] at this
  omega
 have hg:∀ (i:Nat) (d:Bool),i < all.length→ls.getD i d=decide (i < p):=by
  intro i d hi
  rw [Array.getD_eq_getD_getElem?,← Array.getElem?_toList,hls]
  by_cases h1:i < p
  ·rw [List.getElem?_append_left (by simpa using h1),List.getElem?_replicate,if_pos h1];simp [h1]
  ·rw [List.getElem?_append_right (by simpa using h1),List.getElem?_replicate,if_pos (by simp;omega)];simp [h1]
 refine draw_any (st:=st) (sa:=sa) hok.1 (fun i j hji hi=>?_) (rd k) (ds:=a.defers) (fun a' E' hH' hR' hd'=>?_) n ls (List.range' p (all.length - p)) fr a { E with H:=E.H++List.replicate m .hole } hsz ?_ ?_ ?_ hs hR' rfl (by simpa using hn)
 ·have:=(List.all_eq_true.1 hok.2) i (List.mem_range.2 hi)
  have:=(List.all_eq_true.1 this) j (List.mem_range.2 hji)
  simp only [Bool.or_eq_true] at this
  rcases this with this|this
  ·exact .inl (ancs_sound all all [] (by simp) (by simp) (fun i j h=>by simp at h) i j this)
  ·exact .inr this
 ·exact h sa a' E' hH' hR' (by rw [hd'];exact hD)
 ·intro i o ho hl e he hb
  have hi:i < all.length:=(List.getElem?_eq_some_iff.1 ho).1
  have hlt:=topo_spec hok.1 ho e he hb
  rw [hg i _ hi] at hl
  rw [hg _ _ (by omega)]
  have:=of_decide_eq_true hl
  exact decide_eq_true (by omega)
 ·exact List.pairwise_lt_range'
 ·intro i
  rw [List.mem_range'_1]
  constructor
  ·rintro ⟨h1,h2⟩
   exact ⟨by omega,by rw [hg i _ (by omega)];exact decide_eq_false (by omega)⟩
  ·rintro ⟨h1,h2⟩
   rw [hg i _ h1] at h2
   have:=of_decide_eq_false h2
   omega
section
variable {P:Program} {G:Glob} {w0:World} {M0:Nat→Nat→Prop} {R:Value→World→Prop} {all:List Oper} {k:List It} {st:List (List V)} {fr:List V} {H:List AB}
def ANY (P:Program) (G:Glob) (w0:World) (M0:Nat→Nat→Prop) (R:Value→World→Prop) (all:List Oper) (k:List It) (n:Nat) (ls:Array Bool):List Act→Act→World→Prop:=AJ ⟨P,G,w0,M0,R⟩ all k n ls
theorem RUNs_any (n:Nat) {id:Nat} (hn:all.length=n:=by rfl) (hm:P.follows .mixedOrders=true:=by kernel_rfl) (h:RUNs P G w0 M0 R ⟨.inv (ANY P G w0 M0 R all k n (Array.replicate n false))::k,fr,st,H⟩) :
 RUNs P G w0 M0 R ⟨.code (.region id all.toArray true)::k,fr,st,H⟩:=by
 subst hn
 exact RUNs_stop (by rfl) (RUN_any (X:=⟨P,G,w0,M0,R⟩) hm (RUN_of_RUNs h))
theorem RUNs_any1 (i:Nat) (o:Oper) {n:Nat} {ls:Array Bool} (hr:Region.ready .any all.toArray ls=[i]:=by kernel_rfl) (ho:all[i]?=some o:=by rfl)
 (h:RUNs P G w0 M0 R ⟨.ops all [o]::.inv (ANY P G w0 M0 R all k n (ls.setIfInBounds i true))::k,fr,st,H⟩):RUNs P G w0 M0 R ⟨.inv (ANY P G w0 M0 R all k (n + 1) ls)::k,fr,st,H⟩:=by
 refine RUNs_stop (by rfl) (RUN_any1 (X:=⟨P,G,w0,M0,R⟩) [i] hr (fun h=>by cases h) fun j hj=>?_)
 simp only [List.mem_singleton] at hj;subst hj
 exact ⟨o,ho,RUN_of_RUNs h⟩
theorem RUNs_any2 (i j:Nat) (o o':Oper) {n:Nat} {ls:Array Bool} (hr:Region.ready .any all.toArray ls=[i,j]:=by kernel_rfl) (ho:all[i]?=some o:=by rfl) (ho':all[j]?=some o':=by rfl)
 (h:RUNs P G w0 M0 R ⟨.ops all [o]::.inv (ANY P G w0 M0 R all k n (ls.setIfInBounds i true))::k,fr,st,H⟩)
 (h':RUNs P G w0 M0 R ⟨.ops all [o']::.inv (ANY P G w0 M0 R all k n (ls.setIfInBounds j true))::k,fr,st,H⟩):RUNs P G w0 M0 R ⟨.inv (ANY P G w0 M0 R all k (n + 1) ls)::k,fr,st,H⟩:=by
 refine RUNs_stop (by rfl) (RUN_any1 (X:=⟨P,G,w0,M0,R⟩) [i,j] hr (fun h=>by cases h) fun m hm=>?_)
 simp only [List.mem_cons,List.not_mem_nil,or_false] at hm
 rcases hm with rfl|rfl
 ·exact ⟨o,ho,RUN_of_RUNs h⟩
 ·exact ⟨o',ho',RUN_of_RUNs h'⟩
theorem RUNs_anyD (p m:Nat) {n:Nat} {ls:Array Bool} (hls:ls.toList=List.replicate p true++List.replicate (all.length - p) false:=by kernel_rfl) (hp:p≤all.length:=by decide) (hn:all.length - p≤n:=by decide)
 (h:DRP P G w0 M0 R all k st (all.drop p) ⟨H.length,List.replicate p ⟨[],[],0,[]⟩⟩ fr (H++List.replicate m .hole)):RUNs P G w0 M0 R ⟨.inv (ANY P G w0 M0 R all k n ls)::k,fr,st,H⟩:=by
 obtain ⟨t,frF,HF,h1,h2,h3⟩:=DRP_sound (all.drop p) ⟨H.length,List.replicate p ⟨[],[],0,[]⟩⟩ _ _ (by simp only [List.length_replicate]) h
 simp only [List.length_replicate,List.length_drop] at h1
 have h4:RUN ⟨P,G,w0,M0,R⟩ ⟨.inv (AJ ⟨P,G,w0,M0,R⟩ all k n ls)::k,fr,st,H⟩:=RUN_anyD m hls hp hn h2 h1 (RUN_of_RUNs h3)
 exact RUNs_stop rfl h4
end
end Go.Ab
namespace Go.Ab
open Go
theorem qc {f:Operand} {args:List Operand} {ats:Array TypeId} {n:FuncId} {first cap vargs:List V} {dst:Option Tmp} {ty:TypeId} {p:String} {af:Array Edge} {all l:List Oper} {k:List It} {fr:List V} {st:List (List V)} {H:List AB} {fn:Func} {body:Code}
 {P:Program} {G:Glob} {w0:World} {M0:Nat→Nat→Prop} {R:Value→World→Prop} (hf:P.funcs[n]?=some fn)
 (h:RUNs P G w0 M0 R ⟨.code body::.ret fn.results.toList dst::.ops all l::k,(first++vargs++cap)++List.replicate (fn.ntmps - (first++vargs++cap).length) undefV,fr::st,H⟩)
 (hb:fn.body=some body:=by rfl) (hn:callB P n=true:=by kernel_rfl) :
 CALLS P G w0 M0 R ⟨.ops all (⟨dst,.call ⟨.value f,args.toArray,ats⟩,ty,p,af,none⟩::l)::k,fr,st,H⟩ f args (.fn (.func n) first cap) vargs dst all l k fr st H:=CALLS_in hf hb hn h
theorem Qs {P:Program} {G:Glob} {n:FuncId} {args:List V} {r:V} {Hr:List AB} {fn:Func} {body:Code} (hf:P.funcs[n]?=some fn)
 (h:∀ w0 M0,RUNs P G w0 M0 (RES G w0 M0 r Hr) ⟨[.code body,.fin fn.results.toList],args++List.replicate (fn.ntmps - args.length) undefV,[],[]⟩) (hb:fn.body=some body:=by rfl):Spec P G n args r Hr:=Spec.of_runs fn hf hb h
section
variable {P:Program} {G:Glob} {w0:World} {M0:Nat→Nat→Prop} {R:Value→World→Prop} {all:List Oper} {k:List It} {st:List (List V)} {fr:List V} {H:List AB}
theorem Qw (n:Nat) {id:Nat} (h:DRP P G w0 M0 R all k st all ⟨H.length,[]⟩ fr (H++List.replicate n .hole)) (hm:P.follows .mixedOrders=true:=by kernel_rfl) :
 RUNs P G w0 M0 R ⟨.code (.region id all.toArray true)::k,fr,st,H⟩:=RUNs_draw n hm h
theorem Qa (n:Nat) {id:Nat} (h:RUNs P G w0 M0 R ⟨.inv (ANY P G w0 M0 R all k n (Array.replicate n false))::k,fr,st,H⟩) (hn:all.length=n:=by rfl) (hm:P.follows .mixedOrders=true:=by kernel_rfl) :
 RUNs P G w0 M0 R ⟨.code (.region id all.toArray true)::k,fr,st,H⟩:=RUNs_any n hn hm h
theorem Qj (i:Nat) {o:Oper} {n:Nat} {ls:Array Bool} (h:RUNs P G w0 M0 R ⟨.ops all [o]::.inv (ANY P G w0 M0 R all k n (ls.setIfInBounds i true))::k,fr,st,H⟩)
 (hr:Region.ready .any all.toArray ls=[i]:=by decide +kernel) (ho:all[i]?=some o:=by rfl):RUNs P G w0 M0 R ⟨.inv (ANY P G w0 M0 R all k (n + 1) ls)::k,fr,st,H⟩:=RUNs_any1 i o hr ho h
theorem Qi (i j:Nat) {o o':Oper} {n:Nat} {ls:Array Bool}
 (h:RUNs P G w0 M0 R ⟨.ops all [o]::.inv (ANY P G w0 M0 R all k n (ls.setIfInBounds i true))::k,fr,st,H⟩)
 (h':RUNs P G w0 M0 R ⟨.ops all [o']::.inv (ANY P G w0 M0 R all k n (ls.setIfInBounds j true))::k,fr,st,H⟩)
 (hr:Region.ready .any all.toArray ls=[i,j]:=by decide +kernel) (ho:all[i]?=some o:=by rfl) (ho':all[j]?=some o':=by rfl):RUNs P G w0 M0 R ⟨.inv (ANY P G w0 M0 R all k (n + 1) ls)::k,fr,st,H⟩:=RUNs_any2 i j o o' hr ho ho' h h'
theorem QD (p m:Nat) {n:Nat} {ls:Array Bool}
 (h:DRP P G w0 M0 R all k st (all.drop p) ⟨H.length,List.replicate p ⟨[],[],0,[]⟩⟩ fr (H++List.replicate m .hole))
 (hls:ls.toList=List.replicate p true++List.replicate (all.length - p) false:=by decide +kernel) (hp:p≤all.length:=by decide) (hn:all.length - p≤n:=by decide):RUNs P G w0 M0 R ⟨.inv (ANY P G w0 M0 R all k n ls)::k,fr,st,H⟩:=RUNs_anyD p m hls hp hn h
end
theorem Qk {p q:Prop} (hq:q) (hp:p:=by kernel_rfl):p∧q:=⟨hp,hq⟩
theorem Qf:type_of% @FINS_done := @FINS_done
end Go.Ab
namespace Ch
open Go Go.Ab Go.Proofs.Tryz
def May09 (r:Run):Bool:=(r.proto==1 || r.proto==2) && (r.role==1 || r.role==2) && (r.state==1 || r.state==2 || r.state==3)
def There07 (l:List Sld) (h:Int):Bool:=l.any fun s=>s.handle==h
def room (n:Int):Bool:=decide (n≥0) && decide (n≤64)
theorem room_spec (n:Int):Spec PP GG 54 [i64 n] (.bool (room n)) []:=by
 refine Qs func54 ?_
 intro w0 M0
 simp only [f54,lf,z,seval]
 repeat' ((first|refine brk (fun h=>?_) (fun h=>?_)|fail)<;>simp only [z,seval,h])
 all_goals (refine Qf ?_;simp only [z,seval])
 all_goals (first|(simp_all [room];done)|(simp_all [room];intros;omega))
def May12 (c:Conf):Bool:=decide (c.window≤1048576) && decide (c.people≥1) && decide (c.people≤6) && room c.box && room c.used && room c.runs && room c.net && decide (c.regs≥1) && decide (c.regs≤8)
theorem May12_spec (c:Conf):Spec PP GG 20 [c.v] (.bool (May12 c)) []:=by
 refine Qs func20 ?_
 intro w0 M0
 simp only [f20,lf,Conf.v,z,seval]
 repeat' (first|(refine CU (room_spec _) (h:=?_);simp only [z,seval])|((first|refine brk (fun h=>?_) (fun h=>?_)|fail)<;>simp only [z,seval,h]))
 all_goals (refine Qf ?_;simp only [z,seval])
 all_goals (first|(simp_all [May12];done)|(simp_all [May12];intros;omega))
def Right06 (n:Net):Bool:=decide (n.room≥0) && decide (n.room≤64) && decide ((n.grams.length:Int)≤n.room)
def Right07 (b:Box):Bool:=decide (0≤b.room) && decide (b.room≤64) && decide ((b.rows.length:Int)≤b.room) && allIx (fun l s=>decide (s.plain.length≤64) && !There07 l s.handle) b.rows
def Right09 (l:List Run) (room:Int):Bool:=l.all May09 && decide ((l.length:Int)≤room)
def Right10 (l:List Person):Bool:=allIx (fun pre p=>p.name==IntKind.u32.wrap pre.length) l && decide ((l.length:Int) > 1) && decide ((l.length:Int) < 8)
def Right08 (l:List Int) (room:Int):Bool:=allIx (fun pre x => !decide (x∈pre)) l && decide ((l.length:Int)≤room)
structure World.Lim (w:World):Prop where
 draws:w.draws.list.length≤9223372036854775807
 box:w.box.rows.length≤9223372036854775807
 grams:w.net.grams.length≤9223372036854775807
 seen:w.net.seen.length≤9223372036854775807
 people:w.people.length≤9223372036854775807
 used:∀ p∈w.people,p.used.length≤9223372036854775807∧p.runs.length≤9223372036854775807
 log:w.log.length≤9223372036854775807
 regs:w.regs.length≤9223372036854775807
 leaks:w.leaks.length≤9223372036854775807
def okP (c:Conf) (p:Person):Bool:=Right08 p.used c.used && Right09 p.runs c.runs && decide (p.clock≤1073741824)
def at64 (l:List Int):Bool:=decide ((l.length:Int)≤64)
def Form12 (w:World):Bool:=May12 w.conf && Right07 w.box && w.box.room==w.conf.box && Right06 w.net && w.net.room==w.conf.net && Right10 w.people && (w.people.length:Int)==IntKind.i64.wrap (w.conf.people + 1) &&
 (w.regs.length:Int)==w.conf.regs && decide (0≤w.draws.next) && decide (w.draws.next≤1048576) && w.people.all (okP w.conf) && w.regs.all at64 && w.net.seen.all at64 && w.net.grams.all (fun g=>at64 g.words)
end Ch
