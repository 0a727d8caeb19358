/- The abstract machine: loops that count, numbers, lists. -/
import Derived.Test.YtjohhgopnpoboaaAbDrawS
set_option linter.unusedVariables false
set_option linter.unusedSimpArgs false
namespace Go.Ab
open Go Go.RowKit

theorem w64 {n : Int} (h0 : -9223372036854775808 ≤ n) (h1 : n < 9223372036854775808) : IntKind.i64.wrap n = n := by
  rw [IntKind.wrap_i64]; omega
theorem w64s {i : Nat} (h : i < 9223372036854775807) : IntKind.i64.wrap ((i : Int) + 1) = ((i + 1 : Nat) : Int) := by
  rw [w64 (by omega) (by omega)]; rfl
theorem w64n {i : Nat} (h : i < 9223372036854775808) : IntKind.i64.wrap (i : Int) = (i : Int) := w64 (by omega) (by omega)
theorem wu32 {n : Int} (h0 : 0 ≤ n) (h1 : n < 4294967296) : IntKind.u32.wrap n = n := by
  rw [IntKind.wrap_u32]; omega

structure RSt (σ : Type) (n : Nat) (inv : Nat → σ → Prop) where
  i : Nat
  s : σ
  le : i ≤ n
  ok : inv i s

section
variable {P : Program} {G : Glob} {w0 : World} {M0 : Nat → Nat → Prop} {R : Value → World → Prop}
def RJ {σ : Type} (P : Program) (G : Glob) (w0 : World) (M0 : Nat → Nat → Prop) (R : Value → World → Prop) (n : Nat) (inv : Nat → σ → Prop) (I : Nat → σ → List V × List AB) (x : RSt σ n inv) (st : List (List V)) : List Act → Act → World → Prop :=
  LoopJ ⟨P, G, w0, M0, R⟩ (fun x : RSt σ n inv => I x.i x.s) (fun x => n - x.i) x st
/-- A loop that counts up to n. -/
theorem RUNs_range {σ : Type} (n : Nat) (inv : Nat → σ → Prop) (I : Nat → σ → List V × List AB) (s0 : σ) {body : Code} {k : List It} {fr : List V} {st : List (List V)} {H : List AB}
    (hinv : inv 0 s0) (h0 : Weak fr H (I 0 s0).1 (I 0 s0).2) (hst : st.all (okL (I 0 s0).2.length) = true)
    (round : ∀ x : RSt σ n inv, RUNs P G w0 M0 R ⟨.code body :: .inv (RJ P G w0 M0 R n inv I x st) :: k, (I x.i x.s).1, st, (I x.i x.s).2⟩) : RUNs P G w0 M0 R ⟨.code (.loop body) :: k, fr, st, H⟩ :=
  RUNs_loop (fun x : RSt σ n inv => I x.i x.s) (fun x => n - x.i) ⟨0, s0, Nat.zero_le _, hinv⟩ h0 hst round
theorem RUNs_next {σ : Type} {n : Nat} {inv : Nat → σ → Prop} {I : Nat → σ → List V × List AB} {x : RSt σ n inv} (s : σ) {k : List It} {fr : List V} {st : List (List V)} {H : List AB}
    (hw : Weak fr H (I (x.i + 1) s).1 (I (x.i + 1) s).2) (hst : st.all (okL (I (x.i + 1) s).2.length) = true) (hi : x.i < n) (hinv : inv (x.i + 1) s) :
    RUNs P G w0 M0 R ⟨.inv (RJ P G w0 M0 R n inv I x st) :: k, fr, st, H⟩ :=
  RUNs_inv (I := fun x : RSt σ n inv => I x.i x.s) (μ := fun x => n - x.i) (x := x) ⟨x.i + 1, s, hi, hinv⟩ (by show n - (x.i + 1) < n - x.i; omega) hw hst
end

/-! What is told of a place in the code, once for all ways to it. -/
def CUT {σ : Type} (P : Program) (G : Glob) (w0 : World) (M0 : Nat → Nat → Prop) (R : Value → World → Prop) (I : σ → List V × List AB) (ok : σ → Prop) (st : List (List V)) : List Act → Act → World → Prop :=
  fun sa a w => ∃ s E, ok s ∧ E.w = w ∧ E.H = (I s).2 ∧ RelE ⟨P, G, w0, M0, R⟩ (I s).1 st sa a E
section
variable {P : Program} {G : Glob} {w0 : World} {M0 : Nat → Nat → Prop} {R : Value → World → Prop}
theorem RUNs_cut {σ : Type} (I : σ → List V × List AB) (ok : σ → Prop) {c : Code} {id : Nat} {k : List It} {fr : List V} {st : List (List V)} {H : List AB}
    (h : RUNs P G w0 M0 R ⟨.code c :: .blk id :: .inv (CUT P G w0 M0 R I ok st) :: k, fr, st, H⟩) (hk : ∀ s, ok s → RUNs P G w0 M0 R ⟨k, (I s).1, st, (I s).2⟩) (hs : step P G ⟨.code c :: .blk id :: k, fr, st, H⟩ = none) :
    RUNs P G w0 M0 R ⟨.code c :: .blk id :: k, fr, st, H⟩ := by
  refine RUNs_stop hs ?_
  have hr := RUN_of_RUNs h
  intro sa a E hH hR
  have := hr sa a E hH hR
  simp only [post] at this ⊢
  refine Code.wp_mono (fun e a' w' q => ?_) this
  have key : ∀ a' w', CUT P G w0 M0 R I ok st sa a' w' → post P R k sa .normal a' w' := by
    rintro a' w' ⟨s, E', h1, rfl, h2, h3⟩
    exact RUN_of_RUNs (hk s h1) sa a' E' h2 h3
  cases e with
  | normal => exact key a' w' q
  | exit id' =>
    simp only [post] at q ⊢
    split
    · rename_i hi; rw [if_pos hi] at q; exact key a' w' q
    · rename_i hi; rw [if_neg hi] at q; exact q
  | _ => exact q
theorem RUNs_cut_in {σ : Type} {I : σ → List V × List AB} {ok : σ → Prop} (s : σ) {k : List It} {fr : List V} {st : List (List V)} {H : List AB} (hw : Weak fr H (I s).1 (I s).2) (hst : st.all (okL (I s).2.length) = true) (h : ok s) :
    RUNs P G w0 M0 R ⟨.inv (CUT P G w0 M0 R I ok st) :: k, fr, st, H⟩ := by
  refine RUNs_stop (by rfl) ?_
  intro sa a E hH hR
  simp only at hH hR; subst hH
  obtain ⟨E', h1, h2, h3⟩ := hR.weak hw hst
  simp only [post]
  exact ⟨s, E', h, h1, h2, h3⟩
end
theorem getMap {α : Type} (f : α → V) (l : List α) {i : Nat} (h : i < l.length) : (l.map f)[i]? = some (f l[i]) := by simp [h]
theorem lenMap {α : Type} (f : α → V) (l : List α) : (l.map f).length = l.length := List.length_map ..

theorem all_succ {α : Type} {l : List α} {p : α → Bool} {i : Nat} (h : i < l.length) : (l.take (i + 1)).all p = ((l.take i).all p && p l[i]) := by
  rw [List.take_succ_eq_append_getElem h, List.all_append, List.all_cons, List.all_nil, Bool.and_true]
theorem all_false {α : Type} {l : List α} {p : α → Bool} {i : Nat} (h : i < l.length) (hp : p l[i] = false) : l.all p = false := by
  rw [← Bool.not_eq_true]; intro hc
  rw [List.all_eq_true] at hc
  rw [hc _ (List.getElem_mem h)] at hp; cases hp
theorem any_true {α : Type} {l : List α} {p : α → Bool} {i : Nat} (h : i < l.length) (hp : p l[i] = true) : l.any p = true :=
  List.any_eq_true.2 ⟨_, List.getElem_mem h, hp⟩
def allIx {α : Type} (f : List α → α → Bool) (l : List α) : Bool := (List.range l.length).all fun i => match l[i]? with
  | some x => f (l.take i) x
  | none => true
theorem allIx_nil {α : Type} (f : List α → α → Bool) : allIx f [] = true := rfl
theorem allIx_succ {α : Type} {f : List α → α → Bool} {l : List α} {i : Nat} (h : i < l.length) : allIx f (l.take (i + 1)) = (allIx f (l.take i) && f (l.take i) l[i]) := by
  have e1 : (l.take (i + 1)).length = i + 1 := by rw [List.length_take]; omega
  have e2 : (l.take i).length = i := by rw [List.length_take]; omega
  unfold allIx
  rw [e1, e2, List.range_succ, List.all_append, List.all_cons, List.all_nil, Bool.and_true]
  have e3 : (l.take (i + 1))[i]? = some l[i] := by rw [List.getElem?_take_of_lt (Nat.lt_succ_self i), List.getElem?_eq_getElem h]
  rw [e3]
  have e4 : (l.take (i + 1)).take i = l.take i := by rw [List.take_take]; congr 1; omega
  simp only [e4]
  congr 1
  rw [Bool.eq_iff_iff, List.all_eq_true, List.all_eq_true]
  refine forall_congr' fun j => forall_congr' fun hj => ?_
  rw [List.mem_range] at hj
  have e5 : (l.take (i + 1))[j]? = (l.take i)[j]? := by rw [List.getElem?_take_of_lt (by omega), List.getElem?_take_of_lt hj]
  have e6 : (l.take (i + 1)).take j = (l.take i).take j := by rw [List.take_take, List.take_take]; congr 1; omega
  rw [e5, e6]
theorem allIx_false {α : Type} {f : List α → α → Bool} {l : List α} {i : Nat} (h : i < l.length) (hp : f (l.take i) l[i] = false) : allIx f l = false := by
  rw [← Bool.not_eq_true]; intro hc
  unfold allIx at hc
  rw [List.all_eq_true] at hc
  have := hc i (List.mem_range.2 h)
  rw [List.getElem?_eq_getElem h] at this
  simp only [hp] at this; cases this
theorem take_end {α : Type} {l : List α} {i m : Nat} (hi : i ≤ l.length) (hm : i ≤ m) (h : ¬ i < l.length ∨ ¬ i < m) : l.take i = l.take m := by
  rcases h with h | h
  · have : i = l.length := by omega
    subst this; rw [List.take_length, List.take_of_length_le (by omega)]
  · have : i = m := by omega
    rw [this]
theorem all_take_false {α : Type} {l : List α} {p : α → Bool} {i m : Nat} (h : i < l.length) (hm : i < m) (hp : p l[i] = false) : (l.take m).all p = false := by
  refine all_false (i := i) (by rw [List.length_take]; omega) ?_
  rw [List.getElem_take]; exact hp
theorem slc_ok {α : Type} {f : α → V} {l : List α} {i sz : Nat} (h : i ≤ l.length) (hf : ∀ a, lenE' sz (f a) = true) : (slcB l.length none (some i) none && (l.map f).all (lenE' sz)) = true := by
  simp [slcB, h, hf]
theorem takeMap {α : Type} (f : α → V) (l : List α) (i : Nat) : (l.map f).take i = (l.take i).map f := by rw [List.map_take]
theorem dropMap {α : Type} (f : α → V) (l : List α) (i : Nat) : (l.map f).drop i = (l.drop i).map f := by rw [List.map_drop]
theorem take_drop0 {α : Type} {f : α → V} {l : List α} {i : Nat} : ((l.map f).take i).drop 0 = (l.take i).map f := by
  rw [List.drop_zero, List.map_take]
end Go.Ab
