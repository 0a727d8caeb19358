/- The abstract machine: what is read as data, as deep values. -/
import Derived.Test.YtjohhgopnpoboaaAbLib
import Derived.DataReads
import GoSem.ClaimChange
set_option linter.unusedVariables false
set_option linter.unusedSimpArgs false
namespace Go.Ab
open Go Go.RowKit

/-- The types of what is handed in. -/
inductive Ty where
  | int (k : IntKind)
  | bool
  | slice (e : Ty) (agg : Bool)
  | struct (fs : Ty)
  | prod (a b : Ty)
  | unit
def Ty.den : Ty → Type
  | .int _ => Int
  | .bool => Bool
  | .slice e _ => List e.den
  | .struct fs => fs.den
  | .prod a b => a.den × b.den
  | .unit => Unit
def Ty.cells : Ty → Nat
  | .int _ => 1
  | .bool => 1
  | .slice _ _ => 1
  | .struct fs => fs.cells
  | .prod a b => a.cells + b.cells
  | .unit => 0
def elV (agg : Bool) (cs : List V) : V := bif agg then .agg cs else (match cs with | c :: _ => c | [] => .any)
def encC : (t : Ty) → t.den → List V
  | .int k, n => [.int k n]
  | .bool, b => [.bool b]
  | .slice e agg, l => [.sl (List.map (fun x => elV agg (encC e x)) l) .plain]
  | .struct fs, x => encC fs x
  | .prod a b, x => encC a x.1 ++ encC b x.2
  | .unit, _ => []
def lim : (t : Ty) → t.den → Prop
  | .int k, n => k.min ≤ (show Int from n) ∧ (show Int from n) ≤ k.max
  | .bool, _ => True
  | .slice e agg, l => List.length (show List e.den from l) ≤ 9223372036854775807 ∧ ∀ x : e.den, x ∈ (show List e.den from l) → lim e x
  | .struct fs, x => lim fs x
  | .prod a b, x => lim a x.1 ∧ lim b x.2
  | .unit, _ => True
def matchF (P : Program) (mt : TypeId → Ty → Bool) : List Field → Nat → Ty → Bool
  | [], _, .unit => true
  | f :: r, off, .prod a b => f.offset == off && mt f.type a && P.cellsOf f.type == a.cells && matchF P mt r (off + a.cells) b
  | _, _, _ => false
def isScalar : Ty → Bool
  | .int _ => true
  | .bool => true
  | .slice _ _ => true
  | _ => false
def matchT (P : Program) : Nat → TypeId → Ty → Bool
  | 0, _, _ => false
  | n + 1, t, .int k => match P.underlying t with
    | some (.int k') => k == k'
    | _ => false
  | n + 1, t, .bool => match P.underlying t with
    | some .bool => true
    | _ => false
  | n + 1, t, .slice e agg => match P.underlying t with
    | some (.slice e') => matchT P n e' e && P.cellsOf e' == e.cells && decide (0 < e.cells) && (agg || isScalar e)
    | _ => false
  | n + 1, t, .struct fs => match P.underlying t with
    | some (.struct fields) => matchF P (matchT P n) fields.toList 0 fs && P.cellsOf t == fs.cells
    | _ => false
  | _ + 1, _, _ => false
theorem encC_len : (t : Ty) → (x : t.den) → (encC t x).length = t.cells
  | .int _, _ => rfl
  | .bool, _ => rfl
  | .slice _ _, _ => rfl
  | .struct fs, x => encC_len fs x
  | .prod a b, x => by simp only [encC, List.length_append, encC_len a, encC_len b, Ty.cells]
  | .unit, _ => rfl
theorem elV_cells {agg : Bool} {e : Ty} (h : (agg || isScalar e) = true) (x : e.den) : (elV agg (encC e x)).cells = encC e x := by
  cases agg with
  | true => rfl
  | false =>
    cases e <;> simp [isScalar] at h <;> simp [elV, encC, V.cells]

def E0 (w : World) : Env := ⟨w, fun _ _ => none, fun _ => .bool false, fun _ _ => False, []⟩
theorem E0_bare (w : World) : (E0 w).bare = E0 w := rfl

theorem choose_list {α β : Type} {p : Nat → α → β → Prop} : ∀ (l : List α) (k : Nat), (∀ i a, l[i]? = some a → ∃ b, p (k + i) a b) → ∃ r : List β, r.length = l.length ∧ ∀ i a, l[i]? = some a → ∃ b, r[i]? = some b ∧ p (k + i) a b
  | [], k, h => ⟨[], rfl, fun i a ha => by simp at ha⟩
  | a :: l, k, h => by
    obtain ⟨b, hb⟩ := h 0 a (by simp)
    obtain ⟨r, h1, h2⟩ := choose_list (p := p) l (k + 1) fun i a ha => by
      have := h (i + 1) a (by simpa using ha)
      rwa [show k + (i + 1) = k + 1 + i by omega] at this
    refine ⟨b :: r, by simp [h1], fun i a' ha => ?_⟩
    cases i with
    | zero => simp at ha; subst ha; exact ⟨b, by simp, hb⟩
    | succ i =>
      obtain ⟨b', k1, k2⟩ := h2 i a' (by simpa using ha)
      exact ⟨b', by simpa using k1, by rwa [show k + (i + 1) = k + 1 + i by omega]⟩

section
variable {H : Type} {enc : TypeId × Value → H} {P : Program} {w : World} {base : Nat} {spare : Nat → Bool} {held : Bool}

theorem trodF (n fuel : Nat) (ih : ∀ (t : TypeId) (ty : Ty) (cs : List Value) (d : DataW H) (ps : List MemPlace), matchT P n t ty = true → DataW.trod enc P w base spare held fuel t cs = some (d, ps) → ∃ x : ty.den, RepL (E0 w) (encC ty x) cs ∧ lim ty x) :
    ∀ (fs : List Field) (off : Nat) (ty : Ty) (cs : List Value) (xs : List (DataW H × List MemPlace)), matchF P (matchT P n) fs off ty = true → cs.length = off + ty.cells →
      (fs.mapM fun f => DataW.trod enc P w base spare held fuel f.type ((cs.drop f.offset).take (P.cellsOf f.type))) = some xs → ∃ x : ty.den, RepL (E0 w) (encC ty x) (cs.drop off) ∧ lim ty x
  | [], off, ty, cs, xs, hm, hl, hx => by
    cases ty <;> simp only [matchF] at hm <;> try (cases hm; done)
    refine ⟨(), ?_, trivial⟩
    simp only [Ty.cells] at hl
    rw [List.drop_eq_nil_of_le (by omega)]
    exact RepL.nil _
  | f :: fs, off, ty, cs, xs, hm, hl, hx => by
    cases ty <;> simp only [matchF] at hm <;> try (cases hm; done)
    rename_i a b
    simp only [Bool.and_eq_true, beq_iff_eq] at hm
    obtain ⟨⟨⟨h1, h2⟩, h3⟩, h4⟩ := hm
    rw [List.mapM_cons] at hx
    simp only [Option.bind_eq_bind, Option.bind_eq_some_iff, Option.pure_def, Option.some.injEq] at hx
    obtain ⟨⟨d, ps⟩, hx1, xs', hx2, _⟩ := hx
    obtain ⟨x, k1, k2⟩ := ih f.type a _ d ps h2 hx1
    simp only [Ty.cells] at hl
    obtain ⟨y, k3, k4⟩ := trodF n fuel ih fs (off + a.cells) b cs xs' h4 (by omega) hx2
    refine ⟨(x, y), ?_, k2, k4⟩
    simp only [encC]
    have e : cs.drop off = (cs.drop off).take a.cells ++ cs.drop (off + a.cells) := by
      rw [← List.drop_drop, List.take_append_drop]
    rw [e]
    rw [h1, h3] at k1
    exact k1.append k3

theorem trod_rep : ∀ (fuel n : Nat) (t : TypeId) (ty : Ty) (cs : List Value) (d : DataW H) (ps : List MemPlace), matchT P n t ty = true → DataW.trod enc P w base spare held fuel t cs = some (d, ps) → ∃ x : ty.den, RepL (E0 w) (encC ty x) cs ∧ lim ty x
  | 0, n, t, ty, cs, d, ps, hm, h => by simp [DataW.trod] at h
  | fuel + 1, 0, t, ty, cs, d, ps, hm, h => by simp [matchT] at hm
  | fuel + 1, n + 1, t, ty, cs, d, ps, hm, h => by
    cases ty with
    | int k =>
      simp only [matchT] at hm
      split at hm <;> try (cases hm; done)
      rename_i k' hu
      have hk : k = k' := by simpa using hm
      subst hk
      simp only [DataW.trod, hu] at h
      split at h <;> try (cases h; done)
      all_goals (try (rename_i he; cases he; done))
      all_goals (try (rename_i he _; cases he; done))
      rename_i k1 k2 m he
      split at h
      · rename_i hc
        cases he
        obtain ⟨rfl, hwf⟩ := hc
        refine ⟨m, ?_, ?_⟩
        · simp only [encC]; exact RepL.cons (by simp [Rep, Value.oneCell']) (RepL.nil _)
        · simpa [Lit.wf, lim] using hwf
      · cases h
    | bool =>
      simp only [matchT] at hm
      split at hm <;> try (cases hm; done)
      rename_i hu
      simp only [DataW.trod, hu] at h
      split at h <;> try (cases h; done)
      all_goals (try (rename_i he; cases he; done))
      all_goals (try (rename_i he _; cases he; done))
      rename_i b he
      exact ⟨b, by simp only [encC]; exact RepL.cons (by simp [Rep, Value.oneCell']) (RepL.nil _), trivial⟩
    | slice e agg =>
      simp only [matchT] at hm
      split at hm <;> try (cases hm; done)
      rename_i e' hu
      simp only [Bool.and_eq_true, beq_iff_eq, decide_eq_true_eq] at hm
      obtain ⟨⟨⟨m1, m2⟩, m3⟩, m4⟩ := hm
      simp only [DataW.trod, hu] at h
      split at h <;> try (cases h; done)
      all_goals (try (rename_i he; cases he; done))
      all_goals (try (rename_i he _; cases he; done))
      · refine ⟨[], ?_, by simp [lim]⟩
        simp only [encC]
        refine RepL.cons ?_ (RepL.nil _)
        simp only [Rep]
        exact ⟨none, 0, 0, rfl, by simp, Nat.le_refl _, by simp [maxLen], by simp, by simp, by simp⟩
      · rename_i e2 a len cap he
        cases he
        split at h
        · rename_i hc
          obtain ⟨c1, c2, c3⟩ := hc
          simp only [Option.bind_eq_some_iff] at h
          obtain ⟨elems, h1, _⟩ := h
          have hlen := mapM_some_length h1
          simp only [List.length_range] at hlen
          have hget := mapM_some_get h1
          obtain ⟨r, r1, r2⟩ := choose_list (α := Nat) (β := e.den) (p := fun _ i x => ∃ cs, w.cells? base (a.add (i * P.cellsOf e')) (P.cellsOf e') = some cs ∧ RepL (E0 w) (encC e x) cs ∧ lim e x) (List.range len) 0 (fun i i' hi => by
            have hx := hget i i' hi
            have hil : i < elems.length := by
              rw [hlen]
              have := (List.getElem?_eq_some_iff.1 hi).1
              simpa using this
            rw [List.getElem?_eq_getElem hil, Option.bind_eq_some_iff] at hx
            obtain ⟨cs, k1, k2⟩ := hx
            obtain ⟨x, k3, k4⟩ := trod_rep fuel n e' e cs elems[i].1 elems[i].2 m1 k2
            exact ⟨x, cs, k1, k3, k4⟩)
          simp only [List.length_range] at r1
          have hr : ∀ i (hi : i < r.length), ∃ cs, w.cells? base (a.add (i * P.cellsOf e')) (P.cellsOf e') = some cs ∧ RepL (E0 w) (encC e r[i]) cs ∧ lim e r[i] := by
            intro i hi
            obtain ⟨b, q1, q2⟩ := r2 i i (by rw [List.getElem?_range (by omega)])
            rw [List.getElem?_eq_getElem hi] at q1
            injection q1 with q1; subst q1
            exact q2
          refine ⟨r, ?_, by show r.length ≤ _; simp only [maxLen] at c3; omega, fun x hx => ?_⟩
          · simp only [encC]
            refine RepL.cons ?_ (RepL.nil _)
            simp only [Rep]
            refine ⟨some a, len, cap, rfl, by rw [List.length_map]; exact r1.symm, c2, c3, by simp, by simp, fun hne => ?_⟩
            have hpos : 0 < r.length := by
              rcases Nat.eq_zero_or_pos r.length with h0 | h0
              · exfalso; apply hne; rw [List.eq_nil_of_length_eq_zero h0]; rfl
              · exact h0
            have hsp : a.spot = none := by
              obtain ⟨cs, q1, _⟩ := hr 0 hpos
              obtain ⟨_, q3, q4⟩ := World.cells?_some q1
              have := q4 0 (by omega)
              rw [List.getElem?_eq_getElem (by omega)] at this
              have := World.cell?_spot this
              obtain ⟨b, o, sp⟩ := a
              simpa [Addr.add] using this
            obtain ⟨b, o, sp⟩ := a
            simp only at hsp; subst hsp
            refine ⟨e.cells, b, o, rfl, RepEs.flat.2 ⟨fun v hv => ?_, ?_⟩⟩
            · obtain ⟨x, _, rfl⟩ := List.mem_map.1 hv
              rw [elV_cells m4, encC_len]
            · rw [E0_bare]
              have hfl : ∀ (l : List e.den) (k : Nat), (∀ i (hi : i < l.length), ∃ cs, w.cells? base ((⟨b, o, none⟩ : Addr).add ((k + i) * P.cellsOf e')) (P.cellsOf e') = some cs ∧ RepL (E0 w) (encC e l[i]) cs) →
                  RepAt (E0 w) (flatV (List.map (fun x => elV agg (encC e x)) l)) b (o + k * e.cells) := by
                intro l
                induction l with
                | nil => intro k _; simp [flatV, RepAt]
                | cons x l ih =>
                  intro k hk
                  simp only [List.map_cons, flatV, List.flatMap_cons]
                  rw [elV_cells m4, RepAt.append, encC_len]
                  constructor
                  · obtain ⟨cs, q1, q2⟩ := hk 0 (by simp)
                    obtain ⟨_, q3, q4⟩ := World.cells?_some q1
                    refine RepAt.of q2 fun j u hj => ⟨?_, fun hm => hm⟩
                    have hjl : j < P.cellsOf e' := by rw [← q3]; exact (List.getElem?_eq_some_iff.1 hj).1
                    have := q4 j hjl
                    rw [hj, Addr.add_none, Addr.add_none, m2] at this
                    exact this
                  · have := ih (k + 1) fun i hi => by
                      have := hk (i + 1) (by simpa using hi)
                      rw [show k + (i + 1) = k + 1 + i by omega] at this
                      simpa using this
                    rw [show o + k * e.cells + e.cells = o + (k + 1) * e.cells by rw [Nat.add_mul]; omega]
                    exact this
              have := hfl r 0 fun i hi => by
                obtain ⟨cs, q1, q2, _⟩ := hr i hi
                rw [Nat.zero_add]; exact ⟨cs, q1, q2⟩
              simpa using this
          · obtain ⟨i, hi, rfl⟩ := List.getElem_of_mem hx
            obtain ⟨_, _, _, q⟩ := hr i hi
            exact q
        · cases h
    | struct fs =>
      simp only [matchT] at hm
      split at hm <;> try (cases hm; done)
      rename_i fields hu
      simp only [Bool.and_eq_true, beq_iff_eq] at hm
      obtain ⟨m1, m2⟩ := hm
      simp only [DataW.trod, hu] at h
      split at h
      · rename_i hc
        simp only [Option.map_eq_some_iff] at h
        obtain ⟨xs, h1, _⟩ := h
        obtain ⟨x, k1, k2⟩ := trodF n fuel (fun t ty cs d ps hm hh => trod_rep fuel n t ty cs d ps hm hh) fields.toList 0 fs cs xs m1 (by omega) h1
        exact ⟨x, by simpa only [encC, List.drop_zero] using k1, k2⟩
      · cases h
    | prod a b => simp [matchT] at hm
    | unit => simp [matchT] at hm
end
end Go.Ab
