/- The abstract machine: the heap. -/
import Derived.Test.YtjohhgopnpoboaaAbBase
set_option linter.unusedVariables false
set_option linter.unusedSimpArgs false
namespace Go.Ab
open Go Go.RowKit

def flatV (es : List V) : List V := es.flatMap V.cells

/-- A map's entries: keys as numbers, and what stands under them. -/
def keyVal (sg : KS) (q : List Int) : Value := bif sg.1 then .agg (List.zipWith Value.int sg.2 q).toArray else (match sg.2, q with | k :: _, n :: _ => .int k n | _, _ => .bool false)
def lookL : List (List Int × V) → List Int → Option V
  | [], _ => none
  | p :: L, q => bif eqIs q p.1 then some p.2 else lookL L q
def HOK (E : Env) (i : Nat) : AB → Prop
  | .dead => True
  | .hole => ∀ v, E.φ i v = none
  | .var cs => ∃ b C e, E.φ i 0 = some b ∧ E.w.heap[b]? = some (.cells C e (0, 0)) ∧ RepL E cs C.toList ∧ ∀ o, E.M b o
  | .row sz es ver imm => ∃ a n c, E.τ i = .slice a n c ∧ n = es.length ∧ n ≤ c ∧ c ≤ maxLen ∧ ((∀ e ∈ es, e.cells.length = sz) ∧ ∀ u, ver < u → E.φ i u = none) ∧
      ((n = 0 ∧ c = 0) ∨ ∃ b C e, E.φ i ver = some b ∧ a = some ⟨b, 0, none⟩ ∧ E.w.heap[b]? = some (.cells C e (0, 0)) ∧ C.size = c * sz ∧
        RepL E.bare (flatV es) (C.toList.take (n * sz)) ∧ (∀ o, n * sz ≤ o → E.M b o) ∧ (∀ o, o < n * sz → (E.M b o ↔ imm = false)))
  | .map own sg f => ∃ b C k L, E.φ i 0 = some b ∧ E.w.heap[b]? = some (.map C k) ∧ C.toList.map (·.key) = L.map (fun p => keyVal sg p.1) ∧ RepL (bif own then E else E.bare) (L.map (·.2)) (C.toList.map (·.val)) ∧ (∀ p ∈ L, p.1.length = sg.2.length) ∧ f = lookL L

structure EOK (G : Glob) (w0 : World) (M0 : Nat → Nat → Prop) (E : Env) : Prop where
  below : Below w0.heap.size w0 E.w
  old : ∀ b o, b < w0.heap.size → (E.M b o ↔ M0 b o)
  mlt : ∀ b o, E.M b o → b < E.w.heap.size
  phi : ∀ i v b, E.φ i v = some b → (∃ h, E.H[i]? = some h) ∧ E.H[i]? ≠ some AB.hole ∧ w0.heap.size ≤ b ∧ b < E.w.heap.size
  inj : ∀ i v j u b, E.φ i v = some b → E.φ j u = some b → i = j
  blk : ∀ i h, E.H[i]? = some h → HOK E i h
  glob : ∀ g cs, G.lookup g = some cs → RepAt E.bare cs g 0

theorem HOK.mono {E E' : Env} {i : Nat} {h : AB} (hle : E.le E') (hφ : E'.φ i = E.φ i) (hτ : E'.τ i = E.τ i)
    (hb : ∀ v b, E.φ i v = some b → E'.w.heap[b]? = E.w.heap[b]? ∧ ∀ o, (E'.M b o ↔ E.M b o)) (hh : HOK E i h) : HOK E' i h := by
  cases h with
  | dead => trivial
  | hole => simpa [HOK, hφ] using hh
  | var cs =>
    obtain ⟨b, C, e, h1, h2, h3, h4⟩ := hh
    obtain ⟨k1, k2⟩ := hb _ b h1
    exact ⟨b, C, e, by rw [hφ, h1], by rw [k1, h2], RepL.mono cs hle h3, fun o => (k2 o).2 (h4 o)⟩
  | row sz es ver imm =>
    obtain ⟨a, n, c, h1, h2, h3, h4, h5, h6⟩ := hh
    refine ⟨a, n, c, by rw [hτ, h1], h2, h3, h4, ⟨h5.1, fun u hu => by rw [hφ]; exact h5.2 u hu⟩, ?_⟩
    rcases h6 with h6 | ⟨b, C, e, h6, h7, h8, h9, h10, h11, h12⟩
    · exact .inl h6
    · obtain ⟨k1, k2⟩ := hb _ b h6
      exact .inr ⟨b, C, e, by rw [hφ, h6], h7, by rw [k1, h8], h9, RepL.mono _ hle.bare h10, fun o ho => (k2 o).2 (h11 o ho), fun o ho => (k2 o).trans (h12 o ho)⟩
  | map own sg f =>
    obtain ⟨b, C, k, L, h1, h2, h3, h4, h5, h6⟩ := hh
    obtain ⟨k1, k2⟩ := hb _ b h1
    refine ⟨b, C, k, L, by rw [hφ, h1], by rw [k1, h2], h3, ?_, h5, h6⟩
    cases own
    · exact RepL.mono _ hle.bare h4
    · exact RepL.mono _ hle h4

/-- A place for a new block. -/
structure NewAt (H : List AB) (nid : Nat) (b : AB) (H' : List AB) : Prop where
  was : H[nid]? = none ∨ H[nid]? = some AB.hole
  is : H'[nid]? = some b
  other : ∀ j, j ≠ nid → H'[j]? = H[j]?
theorem NewAt.push (H : List AB) (b : AB) : NewAt H H.length b (H ++ [b]) :=
  ⟨.inl (by simp), by simp, fun j hj => by
    rcases Nat.lt_or_ge j H.length with h | h
    · rw [List.getElem?_append_left h]
    · have : H.length < j := by omega
      rw [List.getElem?_eq_none (by simp; omega), List.getElem?_eq_none (by omega)]⟩
theorem NewAt.hole {H : List AB} {nid : Nat} (h : H[nid]? = some AB.hole) (b : AB) : NewAt H nid b (H.set nid b) :=
  ⟨.inr h, by
    have : nid < H.length := by
      rcases Nat.lt_or_ge nid H.length with k | k
      · exact k
      · rw [List.getElem?_eq_none k] at h; cases h
    simp [this], fun j hj => by simp [List.getElem?_set, Ne.symm hj]⟩

section
variable {G : Glob} {w0 : World} {M0 : Nat → Nat → Prop} {E : Env}

theorem EOK.phi_new (h : EOK G w0 M0 E) {nid : Nat} {b : AB} {H' : List AB} (hn : NewAt E.H nid b H') : ∀ v, E.φ nid v = none := by
  intro v
  cases hp : E.φ nid v with
  | none => rfl
  | some c =>
    obtain ⟨⟨x, h1⟩, h2, _⟩ := h.phi _ _ _ hp
    rcases hn.was with h3 | h3
    · rw [h3] at h1; cases h1
    · exact absurd h3 h2

theorem EOK.lt_of_stab (E : Env) {b o : Nat} {u : Value} (hs : E.stab b o u) : b < E.w.heap.size := World.block_lt_of_cell? E.w ⟨b, o, none⟩ hs.1

/-- A new block that stays as it is. -/
theorem EOK.allocImm (h : EOK G w0 M0 E) (o : Obj) : EOK G w0 M0 { E with w := E.w.alloc o } ∧ E.le { E with w := E.w.alloc o } := by
  have hle : E.le { E with w := E.w.alloc o } := by
    refine ⟨fun b o' u hs => ⟨?_, hs.2⟩, fun _ _ _ h => h, fun _ _ _ _ _ h => .inr ⟨_, _, _, _, h, Nat.le_refl _, fun _ => rfl⟩, fun _ h => h⟩
    have hb := EOK.lt_of_stab E hs
    show (E.w.alloc o).cell? _ = _
    rw [World.cell?_alloc_lt (h := hb)]; exact hs.1
  refine ⟨⟨h.below.alloc h.below.size o, h.old, fun b o' hm => ?_, fun i v b hp => ?_, h.inj, fun i x hx => ?_, fun g cs hg => RepAt.mono cs hle.bare (h.glob g cs hg)⟩, hle⟩
  · have := h.mlt b o' hm; simp; omega
  · obtain ⟨k1, k2, k3, k4⟩ := h.phi i v b hp
    exact ⟨k1, k2, k3, by simp; omega⟩
  · refine HOK.mono hle rfl rfl (fun v b hb => ⟨?_, fun _ => Iff.rfl⟩) (h.blk i x hx)
    exact Below.heap_alloc E.w o b (h.phi i v b hb).2.2.2

/-- A draw. -/
theorem EOK.drew (h : EOK G w0 M0 E) : EOK G w0 M0 { E with w := E.w.drew } ∧ E.le { E with w := E.w.drew } := by
  have hle : E.le { E with w := E.w.drew } := ⟨fun b o' u hs => hs, fun _ _ _ h => h, fun _ _ _ _ _ h => .inr ⟨_, _, _, _, h, Nat.le_refl _, fun _ => rfl⟩, fun _ h => h⟩
  refine ⟨⟨h.below.drew, h.old, h.mlt, h.phi, h.inj, fun i x hx => ?_, fun g cs hg => RepAt.mono cs hle.bare (h.glob g cs hg)⟩, hle⟩
  exact HOK.mono hle rfl rfl (fun v b hb => ⟨rfl, fun _ => Iff.rfl⟩) (h.blk i x hx)

def Env.allocOwn (E : Env) (o : Obj) (nid : Nat) (H' : List AB) (t : Value) (M' : Nat → Prop) : Env :=
  { w := E.w.alloc o, φ := fun j v => if j = nid then (if v = 0 then some E.w.heap.size else none) else E.φ j v, τ := fun j => if j = nid then t else E.τ j,
    M := fun b k => E.M b k ∨ (b = E.w.heap.size ∧ M' k), H := H' }

/-- A new block of the call's own. -/
theorem EOK.allocOwn (h : EOK G w0 M0 E) (o : Obj) {nid : Nat} {ab : AB} {H' : List AB} (hn : NewAt E.H nid ab H') (t : Value) (M' : Nat → Prop) (hab : ab ≠ AB.hole)
    (hk : E.le (E.allocOwn o nid H' t M') → HOK (E.allocOwn o nid H' t M') nid ab) :
    EOK G w0 M0 (E.allocOwn o nid H' t M') ∧ E.le (E.allocOwn o nid H' t M') := by
  have hφ := h.phi_new hn
  have hle : E.le (E.allocOwn o nid H' t M') := by
    refine ⟨fun b o' u hs => ⟨?_, ?_⟩, fun i v b hp => ?_, fun i sz es v m hr => ?_, fun i hd => ?_⟩
    · show (E.w.alloc o).cell? _ = _
      rw [World.cell?_alloc_lt (h := EOK.lt_of_stab E hs)]; exact hs.1
    · rintro (h1 | ⟨h1, _⟩)
      · exact hs.2 h1
      · have := EOK.lt_of_stab E hs; omega
    · have : i ≠ nid := by rintro rfl; rw [hφ] at hp; cases hp
      simp [Env.allocOwn, this, hp]
    · have : i ≠ nid := by rintro rfl; rcases hn.was with h3 | h3 <;> rw [h3] at hr <;> cases hr
      exact .inr ⟨sz, es, v, m, by simp [Env.allocOwn, hn.other _ this, hr], Nat.le_refl _, fun _ => by simp [Env.allocOwn, this]⟩
    · have : i ≠ nid := by rintro rfl; rcases hn.was with h3 | h3 <;> rw [h3] at hd <;> cases hd
      simp [Env.allocOwn, hn.other _ this, hd]
  have hsz : (E.allocOwn o nid H' t M').w.heap.size = E.w.heap.size + 1 := by simp [Env.allocOwn]
  refine ⟨⟨h.below.alloc h.below.size o, fun b k hb => ?_, fun b k hm => ?_, fun i v b hp => ?_, fun i v j u b hi hj => ?_, fun i x hx => ?_, fun g cs hg => RepAt.mono cs hle.bare (h.glob g cs hg)⟩, hle⟩
  · have := h.below.size
    constructor
    · rintro (h1 | ⟨h1, _⟩)
      · exact (h.old b k hb).1 h1
      · omega
    · exact fun h1 => .inl ((h.old b k hb).2 h1)
  · rw [hsz]
    rcases hm with h1 | ⟨h1, _⟩
    · have := h.mlt _ _ h1; omega
    · omega
  · rw [hsz]
    by_cases hi : i = nid
    · subst hi
      simp [Env.allocOwn] at hp
      obtain ⟨_, hp⟩ := hp
      subst hp
      exact ⟨⟨ab, hn.is⟩, by simp [Env.allocOwn, hn.is, hab], h.below.size, by omega⟩
    · simp [Env.allocOwn, hi] at hp
      obtain ⟨⟨x, k1⟩, k2, k3, k4⟩ := h.phi i v b hp
      exact ⟨⟨x, by simp [Env.allocOwn, hn.other _ hi, k1]⟩, by simp [Env.allocOwn, hn.other _ hi, k2], k3, by omega⟩
  · by_cases h1 : i = nid <;> by_cases h2 : j = nid <;> simp [Env.allocOwn, h1, h2] at hi hj
    · omega
    · have := (h.phi j _ _ hj).2.2.2; omega
    · have := (h.phi i _ _ hi).2.2.2; omega
    · exact h.inj i v j u b hi hj
  · by_cases hi : i = nid
    · subst hi
      have : x = ab := by
        have h1 : H'[i]? = some x := hx
        rw [hn.is] at h1; injection h1 with h1; exact h1.symm
      subst this
      exact hk hle
    · have h1 : E.H[i]? = some x := by rw [← hn.other _ hi]; exact hx
      refine HOK.mono hle (by funext v; simp [Env.allocOwn, hi]) (by simp [Env.allocOwn, hi]) (fun v b hb => ?_) (h.blk i x h1)
      have hlt := (h.phi i v b hb).2.2.2
      refine ⟨Below.heap_alloc E.w o b hlt, fun k => ⟨?_, .inl⟩⟩
      rintro (h2 | ⟨h2, _⟩)
      · exact h2
      · omega

/-- A block of the call's own is written. -/
theorem EOK.write (h : EOK G w0 M0 E) (w' : World) (i b : Nat) (ab ab' : AB) {pv : Nat} (hφ : E.φ i pv = some b) (hi : E.H[i]? = some ab) (hsize : w'.heap.size = E.w.heap.size)
    (hos : w'.os = E.w.os) (htape : w'.tape = E.w.tape) (hout : w'.output = E.w.output)
    (hother : ∀ k, k ≠ b → w'.heap[k]? = E.w.heap[k]?) (hst : ∀ o u, E.stab b o u → w'.cell? ⟨b, o, none⟩ = some u)
    (hrow : ∀ sz es v m, ab = AB.row sz es v m → ∃ sz' es' m', ab' = AB.row sz' es' v m') (hdead : ab ≠ AB.dead) (hhole : ab' ≠ AB.hole)
    (hk : E.le { E with w := w', H := E.H.set i ab' } → HOK { E with w := w', H := E.H.set i ab' } i ab') :
    EOK G w0 M0 { E with w := w', H := E.H.set i ab' } ∧ E.le { E with w := w', H := E.H.set i ab' } := by
  have hil : i < E.H.length := by
    rcases Nat.lt_or_ge i E.H.length with k | k
    · exact k
    · rw [List.getElem?_eq_none k] at hi; cases hi
  have hself : (E.H.set i ab')[i]? = some ab' := by simp [hil]
  have hoth : ∀ j, j ≠ i → (E.H.set i ab')[j]? = E.H[j]? := fun j hj => by simp [List.getElem?_set, Ne.symm hj]
  have hcell : ∀ k o, k ≠ b → w'.cell? ⟨k, o, none⟩ = E.w.cell? ⟨k, o, none⟩ := fun k o hne => World.cell?_of_block (hother k hne)
  have hle : E.le { E with w := w', H := E.H.set i ab' } := by
    refine ⟨fun k o u hs => ⟨?_, hs.2⟩, fun _ _ _ h => h, fun j sz es v m hr => ?_, fun j hd => ?_⟩
    · by_cases hkb : k = b
      · subst hkb; exact hst o u hs
      · show w'.cell? _ = _
        rw [hcell k o hkb]; exact hs.1
    · by_cases hj : j = i
      · subst hj
        rw [hi] at hr; injection hr with hr
        obtain ⟨sz', es', m', rfl⟩ := hrow sz es v m hr
        exact .inr ⟨sz', es', v, m', hself, Nat.le_refl _, fun _ => rfl⟩
      · exact .inr ⟨sz, es, v, m, by show (E.H.set i ab')[j]? = _; rw [hoth j hj, hr], Nat.le_refl _, fun _ => rfl⟩
    · by_cases hj : j = i
      · subst hj; rw [hi] at hd; injection hd with hd; exact absurd hd hdead
      · show (E.H.set i ab')[j]? = _; rw [hoth j hj, hd]
  obtain ⟨hpb1, hpb2, hpb3, hpb4⟩ := h.phi i pv b hφ
  refine ⟨⟨h.below.trans ⟨hos, htape, hout, by show _ ≤ w'.heap.size; omega, fun k hk => hother k (by omega)⟩, h.old, fun k o hm => by rw [show ({ E with w := w', H := E.H.set i ab' } : Env).w.heap.size = E.w.heap.size from hsize]; exact h.mlt k o hm, fun j v c hp => ?_, h.inj, fun j x hx => ?_, fun g cs hg => RepAt.mono cs hle.bare (h.glob g cs hg)⟩, hle⟩
  · obtain ⟨⟨x, k1⟩, k2, k3, k4⟩ := h.phi j v c hp
    refine ⟨?_, ?_, k3, by rw [show ({ E with w := w', H := E.H.set i ab' } : Env).w.heap.size = E.w.heap.size from hsize]; exact k4⟩
    · by_cases hj : j = i
      · subst hj; exact ⟨ab', hself⟩
      · exact ⟨x, by show (E.H.set i ab')[j]? = _; rw [hoth j hj, k1]⟩
    · by_cases hj : j = i
      · subst hj; show (E.H.set j ab')[j]? ≠ _; rw [hself]; simpa using hhole
      · show (E.H.set i ab')[j]? ≠ _; rw [hoth j hj]; exact k2
  · by_cases hj : j = i
    · subst hj
      have : x = ab' := by
        have h1 : (E.H.set j ab')[j]? = some x := hx
        rw [hself] at h1; injection h1 with h1; exact h1.symm
      subst this
      exact hk hle
    · have h1 : E.H[j]? = some x := by rw [← hoth j hj]; exact hx
      refine HOK.mono hle rfl rfl (fun v c hc => ⟨hother c ?_, fun _ => Iff.rfl⟩) (h.blk j x h1)
      rintro rfl
      exact hj (h.inj j v i pv c hc hφ)
end
end Go.Ab
