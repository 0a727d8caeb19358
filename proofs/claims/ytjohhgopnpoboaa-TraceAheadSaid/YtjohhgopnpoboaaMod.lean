/- The data of this program, as Lean has it, and as the abstract machine holds it. -/
import Derived.Test.YtjohhgopnpoboaaAbAll
namespace Ch
open Go Go.Ab
structure Draws where
  list : List Int
  next : Int
structure Gram where
  to : Int
  words : List Int
structure Net where
  room : Int
  grams : List Gram
  seen : List (List Int)
structure Sld where
  handle : Int
  key : Int
  label : Int
  plain : List Int
structure Box where
  room : Int
  rows : List Sld
structure Run where
  proto : Int
  role : Int
  peer : Int
  mine : Int
  their : Int
  m : Int
  k : Int
  t : Int
  state : Int
structure Person where
  name : Int
  key : Int
  clock : Int
  used : List Int
  runs : List Run
  corrupt : Bool
structure Event where
  kind : Int
  proto : Int
  role : Int
  a : Int
  b : Int
  k : Int
  t : Int
  m : Int
  n : Int
  clock : Int
structure Leak where
  k : Int
  at_ : Int
structure Conf where
  window : Int
  people : Int
  box : Int
  used : Int
  runs : Int
  net : Int
  regs : Int
structure World where
  conf : Conf
  draws : Draws
  box : Box
  net : Net
  people : List Person
  log : List Event
  regs : List (List Int)
  leaks : List Leak
structure Op where
  kind : Int
  a : Int
  b : Int
  c : Int
  d : Int
  words : List Int

abbrev u32 (n : Int) : V := .int .u32 n
abbrev i64 (n : Int) : V := .int .i64 n
def wordsV (l : List Int) : V := .sl (l.map u32) .plain
def rowsV (l : List (List Int)) : V := .sl (l.map wordsV) .plain
def Gram.v (g : Gram) : V := .agg [u32 g.to, wordsV g.words]
def Sld.v (s : Sld) : V := .agg [u32 s.handle, u32 s.key, u32 s.label, wordsV s.plain]
def Run.v (r : Run) : V := .agg [i64 r.proto, i64 r.role, u32 r.peer, u32 r.mine, u32 r.their, u32 r.m, u32 r.k, u32 r.t, i64 r.state]
def runsV (l : List Run) : V := .sl (l.map Run.v) .plain
def Person.v (p : Person) : V := .agg [u32 p.name, u32 p.key, u32 p.clock, wordsV p.used, runsV p.runs, .bool p.corrupt]
def Event.v (e : Event) : V := .agg [i64 e.kind, i64 e.proto, i64 e.role, u32 e.a, u32 e.b, u32 e.k, u32 e.t, u32 e.m, u32 e.n, u32 e.clock]
def Leak.v (e : Leak) : V := .agg [u32 e.k, u32 e.at_]
def Op.v (o : Op) : V := .agg [i64 o.kind, i64 o.a, i64 o.b, i64 o.c, i64 o.d, wordsV o.words]
def sldsV (l : List Sld) : V := .sl (l.map Sld.v) .plain
def gramsV (l : List Gram) : V := .sl (l.map Gram.v) .plain
def peopleV (l : List Person) : V := .sl (l.map Person.v) .plain
def eventsV (l : List Event) : V := .sl (l.map Event.v) .plain
def leaksV (l : List Leak) : V := .sl (l.map Leak.v) .plain
def opsV (l : List Op) : V := .sl (l.map Op.v) .plain
def Draws.v (d : Draws) : V := .agg [wordsV d.list, i64 d.next]
def Box.v (b : Box) : V := .agg [i64 b.room, sldsV b.rows]
def Net.v (n : Net) : V := .agg [i64 n.room, gramsV n.grams, rowsV n.seen]
def Conf.v (c : Conf) : V := .agg [u32 c.window, i64 c.people, i64 c.box, i64 c.used, i64 c.runs, i64 c.net, i64 c.regs]
def World.cells (w : World) : List V := [u32 w.conf.window, i64 w.conf.people, i64 w.conf.box, i64 w.conf.used, i64 w.conf.runs, i64 w.conf.net, i64 w.conf.regs, wordsV w.draws.list, i64 w.draws.next,
  i64 w.box.room, sldsV w.box.rows, i64 w.net.room, gramsV w.net.grams, rowsV w.net.seen, peopleV w.people, eventsV w.log, rowsV w.regs, leaksV w.leaks]
def World.v (w : World) : V := .agg w.cells
/-! What numbers and lists may be. -/
def U (n : Int) : Prop := 0 ≤ n ∧ n < 4294967296
def I (n : Int) : Prop := -9223372036854775808 ≤ n ∧ n ≤ 9223372036854775807
def LL {α : Type} (p : α → Prop) (l : List α) : Prop := l.length ≤ 9223372036854775807 ∧ ∀ x ∈ l, p x
def Gram.ok (g : Gram) : Prop := U g.to ∧ LL U g.words
def Sld.ok (s : Sld) : Prop := U s.handle ∧ U s.key ∧ U s.label ∧ LL U s.plain
def Run.ok (r : Run) : Prop := I r.proto ∧ I r.role ∧ U r.peer ∧ U r.mine ∧ U r.their ∧ U r.m ∧ U r.k ∧ U r.t ∧ I r.state
def Person.ok (p : Person) : Prop := U p.name ∧ U p.key ∧ U p.clock ∧ LL U p.used ∧ LL Run.ok p.runs
def Event.ok (e : Event) : Prop := I e.kind ∧ I e.proto ∧ I e.role ∧ U e.a ∧ U e.b ∧ U e.k ∧ U e.t ∧ U e.m ∧ U e.n ∧ U e.clock
def Leak.ok (e : Leak) : Prop := U e.k ∧ U e.at_
def Op.ok (o : Op) : Prop := I o.kind ∧ I o.a ∧ I o.b ∧ I o.c ∧ I o.d ∧ LL U o.words
def Draws.ok (d : Draws) : Prop := LL U d.list ∧ I d.next
def Box.ok (b : Box) : Prop := I b.room ∧ LL Sld.ok b.rows
def Net.ok (n : Net) : Prop := I n.room ∧ LL Gram.ok n.grams ∧ LL (LL U) n.seen
def Conf.ok (c : Conf) : Prop := U c.window ∧ I c.people ∧ I c.box ∧ I c.used ∧ I c.runs ∧ I c.net ∧ I c.regs
def World.ok (w : World) : Prop := w.conf.ok ∧ w.draws.ok ∧ w.box.ok ∧ w.net.ok ∧ LL Person.ok w.people ∧ LL Event.ok w.log ∧ LL (LL U) w.regs ∧ LL Leak.ok w.leaks
theorem mv : (((((type_of% @wordsV.eq_1) ∧ (type_of% @rowsV.eq_1)) ∧ ((type_of% @runsV.eq_1) ∧ ((type_of% @sldsV.eq_1) ∧ (type_of% @gramsV.eq_1)))) ∧ (((type_of% @peopleV.eq_1) ∧ ((type_of% @eventsV.eq_1) ∧ (type_of% @leaksV.eq_1))) ∧ ((type_of% @opsV.eq_1) ∧ ((type_of% @Draws.v.eq_1) ∧ (type_of% @Box.v.eq_1))))) ∧ ((((type_of% @Net.v.eq_1) ∧ (type_of% @Conf.v.eq_1)) ∧ ((type_of% @Gram.v.eq_1) ∧ ((type_of% @Sld.v.eq_1) ∧ (type_of% @Run.v.eq_1)))) ∧ (((type_of% @Person.v.eq_1) ∧ ((type_of% @Event.v.eq_1) ∧ (type_of% @Leak.v.eq_1))) ∧ ((type_of% @Op.v.eq_1) ∧ ((type_of% @World.v.eq_1) ∧ (type_of% @World.cells.eq_1)))))) := ⟨⟨⟨⟨@wordsV.eq_1, @rowsV.eq_1⟩, ⟨@runsV.eq_1, ⟨@sldsV.eq_1, @gramsV.eq_1⟩⟩⟩, ⟨⟨@peopleV.eq_1, ⟨@eventsV.eq_1, @leaksV.eq_1⟩⟩, ⟨@opsV.eq_1, ⟨@Draws.v.eq_1, @Box.v.eq_1⟩⟩⟩⟩, ⟨⟨⟨@Net.v.eq_1, @Conf.v.eq_1⟩, ⟨@Gram.v.eq_1, ⟨@Sld.v.eq_1, @Run.v.eq_1⟩⟩⟩, ⟨⟨@Person.v.eq_1, ⟨@Event.v.eq_1, @Leak.v.eq_1⟩⟩, ⟨@Op.v.eq_1, ⟨@World.v.eq_1, @World.cells.eq_1⟩⟩⟩⟩⟩
end Ch
