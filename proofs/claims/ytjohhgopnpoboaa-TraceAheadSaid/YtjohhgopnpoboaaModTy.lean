/- The types of what is handed in, and their data. -/
import Derived.Test.YtjohhgopnpoboaaMod
import Derived.Test.YtjohhgopnpoboaaAbGlue
namespace Ch
open Go Go.Ab
abbrev tU : Ty := .int .u32
abbrev tI : Ty := .int .i64
abbrev tW : Ty := .slice tU false
abbrev tR : Ty := .slice tW false
abbrev tConf : Ty := .struct (.prod tU (.prod tI (.prod tI (.prod tI (.prod tI (.prod tI (.prod tI .unit)))))))
abbrev tDraws : Ty := .struct (.prod tW (.prod tI .unit))
abbrev tSld : Ty := .struct (.prod tU (.prod tU (.prod tU (.prod tW .unit))))
abbrev tBox : Ty := .struct (.prod tI (.prod (.slice tSld true) .unit))
abbrev tGram : Ty := .struct (.prod tU (.prod tW .unit))
abbrev tNet : Ty := .struct (.prod tI (.prod (.slice tGram true) (.prod tR .unit)))
abbrev tRun : Ty := .struct (.prod tI (.prod tI (.prod tU (.prod tU (.prod tU (.prod tU (.prod tU (.prod tU (.prod tI .unit)))))))))
abbrev tPerson : Ty := .struct (.prod tU (.prod tU (.prod tU (.prod tW (.prod (.slice tRun true) (.prod .bool .unit))))))
abbrev tEvent : Ty := .struct (.prod tI (.prod tI (.prod tI (.prod tU (.prod tU (.prod tU (.prod tU (.prod tU (.prod tU (.prod tU .unit))))))))))
abbrev tLeak : Ty := .struct (.prod tU (.prod tU .unit))
abbrev tOp : Ty := .struct (.prod tI (.prod tI (.prod tI (.prod tI (.prod tI (.prod tW .unit))))))
abbrev tWorld : Ty := .struct (.prod tConf (.prod tDraws (.prod tBox (.prod tNet (.prod (.slice tPerson true) (.prod (.slice tEvent true) (.prod tR (.prod (.slice tLeak true) .unit))))))))
def confOf : tConf.den → Conf | (a, b, c, d, e, f, g, _) => ⟨a, b, c, d, e, f, g⟩
def sldOf : tSld.den → Sld | (a, b, c, d, _) => ⟨a, b, c, d⟩
def gramOf : tGram.den → Gram | (a, b, _) => ⟨a, b⟩
def runOf : tRun.den → Run | (a, b, c, d, e, f, g, h, i, _) => ⟨a, b, c, d, e, f, g, h, i⟩
def personOf : tPerson.den → Person | (a, b, c, d, e, f, _) => ⟨a, b, c, d, List.map runOf e, f⟩
def eventOf : tEvent.den → Event | (a, b, c, d, e, f, g, h, i, j, _) => ⟨a, b, c, d, e, f, g, h, i, j⟩
def leakOf : tLeak.den → Leak | (a, b, _) => ⟨a, b⟩
def opOf : tOp.den → Op | (a, b, c, d, e, f, _) => ⟨a, b, c, d, e, f⟩
def worldOf : tWorld.den → World | (c, (d, n, _), (r, s, _), (m, g, l, _), p, e, q, k, _) => ⟨confOf c, ⟨d, n⟩, ⟨r, List.map sldOf s⟩, ⟨m, List.map gramOf g, l⟩, List.map personOf p, List.map eventOf e, q, List.map leakOf k⟩
theorem enc_sld (x : tSld.den) : elV true (encC tSld x) = (sldOf x).v := by obtain ⟨a, b, c, d, _⟩ := x; rfl
theorem enc_gram (x : tGram.den) : elV true (encC tGram x) = (gramOf x).v := by obtain ⟨a, b, _⟩ := x; rfl
theorem enc_run (x : tRun.den) : elV true (encC tRun x) = (runOf x).v := by obtain ⟨a, b, c, d, e, f, g, h, i, _⟩ := x; rfl
theorem enc_event (x : tEvent.den) : elV true (encC tEvent x) = (eventOf x).v := by obtain ⟨a, b, c, d, e, f, g, h, i, j, _⟩ := x; rfl
theorem enc_leak (x : tLeak.den) : elV true (encC tLeak x) = (leakOf x).v := by obtain ⟨a, b, _⟩ := x; rfl
theorem enc_op (x : tOp.den) : elV true (encC tOp x) = (opOf x).v := by obtain ⟨a, b, c, d, e, f, _⟩ := x; rfl
theorem enc_list {t : Ty} {α : Type} {f : t.den → α} {g : α → V} (h : ∀ x, elV true (encC t x) = g (f x)) (l : List t.den) : List.map (fun x => elV true (encC t x)) l = (l.map f).map g := by
  rw [List.map_map]; exact List.map_congr_left fun x _ => h x
theorem enc_person (x : tPerson.den) : elV true (encC tPerson x) = (personOf x).v := by
  obtain ⟨a, b, c, d, e, f, _⟩ := x
  have := enc_list enc_run e
  simp only [personOf, Person.v, runsV, ← this]
  rfl
theorem enc_world (x : tWorld.den) : encC tWorld x = (worldOf x).cells := by
  obtain ⟨⟨c1, c2, c3, c4, c5, c6, c7, _⟩, ⟨d, n, _⟩, ⟨r, s, _⟩, ⟨m, g, l, _⟩, p, e, q, k, _⟩ := x
  simp only [worldOf, World.cells, sldsV, gramsV, peopleV, eventsV, leaksV, ← enc_list enc_sld s, ← enc_list enc_gram g, ← enc_list enc_person p, ← enc_list enc_event e, ← enc_list enc_leak k]
  rfl
theorem lim_u {n : Int} (h : lim tU n) : U n := by
  obtain ⟨h1, h2⟩ := h
  have e1 : IntKind.u32.min = 0 := by decide
  have e2 : IntKind.u32.max = 4294967295 := by decide
  rw [e1] at h1; rw [e2] at h2
  exact ⟨h1, Int.lt_of_le_of_lt h2 (by decide)⟩
theorem lim_i {n : Int} (h : lim tI n) : I n := by
  obtain ⟨h1, h2⟩ := h
  have e1 : IntKind.i64.min = -9223372036854775808 := by decide
  have e2 : IntKind.i64.max = 9223372036854775807 := by decide
  rw [e1] at h1; rw [e2] at h2
  exact ⟨h1, h2⟩
theorem lim_list {t : Ty} {a : Bool} {α : Type} {f : t.den → α} {p : α → Prop} (h : ∀ x, lim t x → p (f x)) {l : List t.den} (hl : lim (.slice t a) l) : LL p (l.map f) :=
  ⟨by rw [List.length_map]; exact hl.1, fun x hx => by obtain ⟨y, hy, rfl⟩ := List.mem_map.1 hx; exact h y (hl.2 y hy)⟩
theorem lim_words {l : List Int} (h : lim tW l) : LL U l := ⟨h.1, fun x hx => lim_u (h.2 x hx)⟩
theorem lim_rows {l : List (List Int)} (h : lim tR l) : LL (LL U) l := ⟨h.1, fun x hx => lim_words (h.2 x hx)⟩
theorem lim_sld (x : tSld.den) (h : lim tSld x) : (sldOf x).ok := by
  obtain ⟨a, b, c, d, _⟩ := x; obtain ⟨h1, h2, h3, h4, _⟩ := h; exact ⟨lim_u h1, lim_u h2, lim_u h3, lim_words h4⟩
theorem lim_gram (x : tGram.den) (h : lim tGram x) : (gramOf x).ok := by
  obtain ⟨a, b, _⟩ := x; obtain ⟨h1, h2, _⟩ := h; exact ⟨lim_u h1, lim_words h2⟩
theorem lim_run (x : tRun.den) (h : lim tRun x) : (runOf x).ok := by
  obtain ⟨a, b, c, d, e, f, g, k, i, _⟩ := x; obtain ⟨h1, h2, h3, h4, h5, h6, h7, h8, h9, _⟩ := h
  exact ⟨lim_i h1, lim_i h2, lim_u h3, lim_u h4, lim_u h5, lim_u h6, lim_u h7, lim_u h8, lim_i h9⟩
theorem lim_person (x : tPerson.den) (h : lim tPerson x) : (personOf x).ok := by
  obtain ⟨a, b, c, d, e, f, _⟩ := x; obtain ⟨h1, h2, h3, h4, h5, _⟩ := h
  exact ⟨lim_u h1, lim_u h2, lim_u h3, lim_words h4, lim_list lim_run h5⟩
theorem lim_event (x : tEvent.den) (h : lim tEvent x) : (eventOf x).ok := by
  obtain ⟨a, b, c, d, e, f, g, k, i, j, _⟩ := x; obtain ⟨h1, h2, h3, h4, h5, h6, h7, h8, h9, h10, _⟩ := h
  exact ⟨lim_i h1, lim_i h2, lim_i h3, lim_u h4, lim_u h5, lim_u h6, lim_u h7, lim_u h8, lim_u h9, lim_u h10⟩
theorem lim_leak (x : tLeak.den) (h : lim tLeak x) : (leakOf x).ok := by
  obtain ⟨a, b, _⟩ := x; obtain ⟨h1, h2, _⟩ := h; exact ⟨lim_u h1, lim_u h2⟩
theorem lim_op (x : tOp.den) (h : lim tOp x) : (opOf x).ok := by
  obtain ⟨a, b, c, d, e, f, _⟩ := x; obtain ⟨h1, h2, h3, h4, h5, h6, _⟩ := h
  exact ⟨lim_i h1, lim_i h2, lim_i h3, lim_i h4, lim_i h5, lim_words h6⟩
theorem lim_conf (x : tConf.den) (h : lim tConf x) : (confOf x).ok := by
  obtain ⟨a, b, c, d, e, f, g, _⟩ := x; obtain ⟨h1, h2, h3, h4, h5, h6, h7, _⟩ := h
  exact ⟨lim_u h1, lim_i h2, lim_i h3, lim_i h4, lim_i h5, lim_i h6, lim_i h7⟩
theorem lim_world (x : tWorld.den) (h : lim tWorld x) : (worldOf x).ok := by
  obtain ⟨c, ⟨d, n, _⟩, ⟨r, s, _⟩, ⟨m, g, l, _⟩, p, e, q, k, _⟩ := x
  obtain ⟨h1, ⟨h2, h3, _⟩, ⟨h4, h5, _⟩, ⟨h6, h7, h8, _⟩, h9, h10, h11, h12, _⟩ := h
  exact ⟨lim_conf c h1, ⟨lim_words h2, lim_i h3⟩, ⟨lim_i h4, lim_list lim_sld h5⟩, ⟨lim_i h6, lim_list lim_gram h7, lim_rows h8⟩, lim_list lim_person h9, lim_list lim_event h10, lim_rows h11, lim_list lim_leak h12⟩
end Ch
