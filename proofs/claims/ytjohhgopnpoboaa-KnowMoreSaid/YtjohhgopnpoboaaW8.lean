/- Rows, one behind the other. -/
import Derived.Test.YtjohhgopnpoboaaW7
set_option maxRecDepth 100000
set_option maxHeartbeats 4000000
set_option linter.unusedSimpArgs false
set_option linter.unusedVariables false
namespace Go.Proofs
open Go.Shelf
def Try.growR_ren : Go.Shelf.Ren := ⟨fun | 4 => 72 | n => n, fun | 0 => 0 | 3 => 3 | 4 => 4 | 9 => 9 | 20 => 20 | 22 => 32 | 25 => 25 | n => n, fun n => n⟩
theorem Try.growR : Lays8.n4 Try.prog Try.growR_ren where
  mixed := by kernel_rfl
  f4 := ⟨Try.f72.name, of_decide_eq_true (by kernel_rfl), Try.func72.trans (congrArg some (by kernel_rfl))⟩
  t0 := Try.underlying0
  a0 := Try.isAgg0
  z0 := Try.sizeOf0
  v0 := Try.zeroValue0
  t3 := Try.underlying3
  a3 := Try.isAgg3
  z3 := Try.sizeOf3
  v3 := Try.zeroValue3
  t4 := Try.underlying4
  a4 := Try.isAgg4
  z4 := Try.sizeOf4
  v4 := Try.zeroValue4
  t9 := Try.underlying9
  a9 := Try.isAgg9
  z9 := Try.sizeOf9
  v9 := Try.zeroValue9
  t20 := Try.underlying20
  a20 := Try.isAgg20
  z20 := Try.sizeOf20
  v20 := Try.zeroValue20
  t22 := Try.underlying32
  a22 := Try.isAgg32
  z22 := Try.sizeOf32
  v22 := Try.zeroValue32
end Go.Proofs
theorem Ch.GrowR_spec (n : Nat) (hn : n ≤ 1099511627776) : Go.Ab.Spec Go.Ab.PP [] 72 [.sl [] .nil, Ch.i64 n] (.row 0 0) [.row 1 [] 0 false] :=
  Go.Ab.Grow_nil' Go.Proofs.Try.growR [] 32 rfl Go.Ab.ty32 rfl Go.Ab.ty25 rfl (by decide) (by decide) n hn
namespace Ch
open Go Go.Ab
theorem flat_succ {α : Type} {L : List (List α)} {i : Nat} (h : i < L.length) : (L.take (i + 1)).flatten = (L.take i).flatten ++ L[i] := by
  rw [List.take_succ_eq_append_getElem h, List.flatten_append]; simp
theorem flat_le {α : Type} (L : List (List α)) (i : Nat) : (L.take i).flatten.length ≤ L.flatten.length := by
  have : L.flatten = (L.take i).flatten ++ (L.drop i).flatten := by rw [← List.flatten_append, List.take_append_drop]
  rw [this]; simp
theorem ConcatR_spec (L : List (List (List Int))) (hl : L.flatten.length ≤ 1099511627776) (hL : L.length ≤ 1099511627776) : Spec PP [] 61 [.sl (L.map fun l => .sl (l.map wordsV) .plain) .plain] (.sl (L.flatten.map wordsV) .plain) [] := by
  have hsum : ∀ {i : Nat}, i < L.length → (L.take (i + 1)).flatten = (L.take i).flatten ++ L[i]! := by
    intro i h; rw [flat_succ h, getElem!_pos L i h]
  refine Spec.of_runs Go.Proofs.Try.f61 Go.Proofs.Try.func61 rfl ?_
  intro w0 M0
  simp only [Go.Proofs.Try.f61, List.replicate, List.cons_append, List.nil_append, z, seval]
  refine RUNs_rangeS (L.length) (fun _ (_ : Unit) => True) (fun i _ => [(3, i64 (L.take i).flatten.length), (11, i64 i)]) (fun _ _ => []) () ?_ (by simp only [z, seval]; exact wk) rfl ?_
  · trivial
  rintro ⟨i, _, hi, -⟩
  simp only [z, seval]
  refine CONDS_split (fun h => ?_) (fun h => ?_)
  · have hlt : i < L.length := by simpa using h
    have hs := flat_succ hlt
    have hf := flat_le L (i + 1)
    have hk : IntKind.i64.wrap (((L.take i).flatten.length : Int) + (L[i].length : Int)) = ((L.take (i + 1)).flatten.length : Nat) := by
      rw [hs] at hf ⊢
      rw [List.length_append] at hf ⊢
      rw [w64 (by omega) (by omega)]; omega
    simp only [z, seval, getMap (fun l : List (List Int) => V.sl (l.map wordsV) .plain) L hlt, hk]
    refine CONDS_split (fun h => ?_) (fun h => ?_)
    · exact absurd h (by simp)
    · simp only [z, seval, w64s (i := i) (by omega)]
      refine NX () (hi := hlt) (hinv := ?_)
      trivial
  · obtain rfl : i = L.length := by simp at h; omega
    rw [List.take_length]
    simp only [z, seval]
    (refine CALLS_specP' (by kernel_rfl) (GrowR_spec L.flatten.length hl) (by rfl) (by rfl) ?_; simp only [z, seval])
    refine RUNs_rangeS (L.length) (fun _ (_ : Unit) => True) (fun i _ => [(6, .row 0 i), (27, i64 i)]) (fun i _ => [(0, .row 1 ((L.take i).flatten.map wordsV) i false)]) () ?_ (by simp only [z, seval]; exact wk) rfl ?_
    · trivial
    rintro ⟨i, _, hi, -⟩
    simp only [z, seval]
    refine CONDS_split (fun h => ?_) (fun h => ?_)
    · have hlt : i < L.length := by simpa using h
      simp only [z, seval, getMap (fun l : List (List Int) => V.sl (l.map wordsV) .plain) L hlt]
      have hs := flat_succ hlt
      have hf := flat_le L (i + 1)
      rw [hs, List.length_append] at hf
      refine OPC_ok (by simp only [Bool.and_eq_true, List.all_eq_true, decide_eq_true_eq]; exact ⟨fun x hx => by obtain ⟨y, _, rfl⟩ := List.mem_map.1 hx; rfl, by first | omega | (simp only [List.length_map]; omega)⟩) ?_
      rw [← List.map_append, ← hs]
      simp only [z, seval, w64s (i := i) (by omega)]
      refine NX () (hi := hlt) (hinv := ?_)
      trivial
    · simp only [z, seval]
      obtain rfl : i = L.length := by simp at h; omega
      rw [List.take_length]
      (refine FINS_done ?_; simp only [z, seval])
theorem Concat_spec (L : List (List (List Int))) (hl : L.flatten.length ≤ 1099511627776) (hL : L.length ≤ 1099511627776) : Spec PP [] 61 [.sl (L.map rowsV) .plain] (rowsV L.flatten) [] := ConcatR_spec L hl hL
end Ch

/- What is known. -/
set_option maxRecDepth 100000
set_option maxHeartbeats 4000000
set_option linter.unusedSimpArgs false
set_option linter.unusedVariables false
namespace Ch
open Go Go.Ab
def knownL (L : List (List Int)) (x : Int) : Bool := L.any fun l => decide (x ∈ l)
def knownM (w : World) (x : Int) : Bool := knownL (w.regs ++ w.net.seen) x
theorem Concat2_spec (A B : List (List Int)) (hl : (A ++ B).length ≤ 1099511627776) : Spec PP [] 61 [.sl [rowsV A, rowsV B] .plain] (rowsV (A ++ B)) [] := by
  have := Concat_spec [A, B] (by simpa using hl) (by simp)
  simpa using this
theorem Known_spec (w : World) (x : Int) (hl : (w.regs ++ w.net.seen).length ≤ 1099511627776) (hr : ∀ l ∈ w.regs ++ w.net.seen, l.length ≤ 1099511627776) : Spec PP [] 14 [w.v, u32 x] (.bool (knownM w x)) [] := by
  refine Spec.of_runs Go.Proofs.Try.f14 Go.Proofs.Try.func14 rfl ?_
  intro w0 M0
  simp only [Go.Proofs.Try.f14, List.replicate, List.cons_append, List.nil_append, z, seval]
  (refine CALLS_in (fn := Go.Proofs.Try.f38) Go.Proofs.Try.func38 rfl (by kernel_rfl) ?_; simp only [Go.Proofs.Try.f38, List.replicate, List.cons_append, List.nil_append, z, seval])
  (refine RUNs_rangeFunc Go.Proofs.Try.f60 Go.Proofs.Try.func60 rfl (by kernel_rfl) rfl rfl ?_; intro D l; simp only [Go.Proofs.Try.f60, List.replicate, List.cons_append, List.nil_append, z, seval])
  (refine CU (Concat2_spec w.regs w.net.seen hl) (h := ?_); simp only [z, seval])
  unfold knownM
  generalize w.regs ++ w.net.seen = L at hl hr ⊢
  refine RUNs_rangeF L.length (fun i (_ : Unit) => knownL (L.take i) x = false) (fun i _ => [yieldV l, .any, .any, .any, .any, .any, .any, .any, .any, .any, .any, .sl (L.map wordsV) .plain, i64 L.length, i64 i, .any, .any, .any, .any, .any, .any, .any, .any]) () (by simp [knownL]) wk rfl ?_
  rintro ⟨i, _, hi, hw⟩
  simp only [z, seval]
  refine CONDS_split (fun h => ?_) (fun h => ?_)
  · have hlt : i < L.length := by simpa using h
    simp only [z, seval, getMap wordsV L hlt]
    (refine CALLS_yield 5 rfl rfl ?_; simp only [z, seval]; refine RUNs_beg 5 rfl ?_; simp only [z, seval])
    (refine CU (wHas_spec L[i] x (hr _ (List.getElem_mem hlt))) (h := ?_); simp only [z, seval])
    refine CONDS_split (fun h => ?_) (fun h => ?_)
    · simp only [h, z, seval]
      (first | refine RUNs_rnd 5 rfl ?_ | refine RUNs_rndj 5 rfl ?_; simp only [z, seval])
      (refine RUNs_erf 5 rfl (by simp) ?_; simp only [z, seval])
      (refine RUNs_mk 4 rfl ?_; simp only [z, seval])
      (refine FINS_done ?_; simp only [z, seval])
      have : knownL L x = true := by
        simp only [knownL, List.any_eq_true]
        exact ⟨L[i], List.getElem_mem hlt, h⟩
      simp [this]
    · simp only [h, z, seval]
      (first | refine RUNs_rnd 5 rfl ?_ | refine RUNs_rndj 5 rfl ?_; simp only [z, seval])
      simp only [w64s (i := i) (by omega), z, seval]
      refine NX () (hi := hlt) (hinv := ?_)
      have h' : decide (x ∈ L[i]) = false := h
      simp only [knownL, List.take_succ_eq_append_getElem hlt, List.any_append, List.any_cons, List.any_nil, h', Bool.or_false] at hw ⊢
      exact hw
  · simp only [z, seval]
    (refine RUNs_erf 5 rfl (by simp) ?_; simp only [z, seval])
    (refine RUNs_mk 4 rfl ?_; simp only [z, seval])
    (refine FINS_done ?_; simp only [z, seval])
    have hi' : i = L.length := by simp at h; omega
    subst hi'
    rw [List.take_length] at hw
    simp [hw]
end Ch

/- Issues that are safe. -/
set_option maxRecDepth 100000
set_option maxHeartbeats 4000000
set_option linter.unusedSimpArgs false
set_option linter.unusedVariables false
namespace Ch
open Go Go.Ab
def leakedM (l : List Leak) (k : Int) : Bool := l.any fun x => x.k == k
def safeM (w : World) (e : Event) : Bool := e.kind == 2 && (!leakedM w.leaks e.k && (honest w.people e.a && honest w.people e.b))
theorem Safe_spec (w : World) (e : Event) (ha : U e.a) (hb : U e.b) (hp : w.people.length ≤ 1099511627776) (hl : w.leaks.length ≤ 1099511627776) : Spec PP [] 16 [w.v, e.v] (.bool (safeM w e)) [] := by
  obtain ⟨ek, ep, er, ea, eb, k, e2, e3, e4, e5⟩ := e
  obtain ⟨na, rfl⟩ := Int.eq_ofNat_of_zero_le ha.1
  obtain ⟨nb, rfl⟩ := Int.eq_ofNat_of_zero_le hb.1
  have hna2 : na < 4294967296 := by have := ha.2; simp only at this; omega
  have hnb2 : nb < 4294967296 := by have := hb.2; simp only at this; omega
  refine Spec.of_runs Go.Proofs.Try.f16 Go.Proofs.Try.func16 rfl ?_
  intro w0 M0
  simp only [Go.Proofs.Try.f16, List.replicate, List.cons_append, List.nil_append, Event.v, z, seval]
  (refine CALLS_in (fn := Go.Proofs.Try.f40) Go.Proofs.Try.func40 rfl (by kernel_rfl) ?_; simp only [Go.Proofs.Try.f40, List.replicate, List.cons_append, List.nil_append, z, seval])
  (refine CALLS_in (fn := Go.Proofs.Try.f63) Go.Proofs.Try.func63 rfl (by kernel_rfl) ?_; simp only [Go.Proofs.Try.f63, List.replicate, List.cons_append, List.nil_append, z, seval])
  refine RUNs_rangeF w.leaks.length (fun i (_ : Unit) => leakedM (w.leaks.take i) k = false) (fun i _ => [.sl (w.leaks.map Leak.v) .plain, .fn (.func 41) [] [.ptr 1 0], .any, .any, i64 0, .any, .sl (w.leaks.map Leak.v) .plain, i64 w.leaks.length, i64 i, .any, .any, .any, .any, .any, .any, .any, .any, .any, .any]) () (by simp [leakedM]) wk rfl ?_
  rintro ⟨i, _, hi, hw⟩
  simp only [z, seval]
  refine CONDS_split (fun h => ?_) (fun h => ?_)
  · have hlt : i < w.leaks.length := by simpa using h
    simp only [z, seval, getMap Leak.v w.leaks hlt, Leak.v]
    (refine CALLS_in (fn := Go.Proofs.Try.f41) Go.Proofs.Try.func41 rfl (by kernel_rfl) ?_; simp only [Go.Proofs.Try.f41, List.replicate, List.cons_append, List.nil_append, z, seval])
    refine CONDS_split (fun h => ?_) (fun h => ?_)
    · have hk : leakedM w.leaks k = true := by
        simp only [leakedM, List.any_eq_true]
        exact ⟨w.leaks[i], List.getElem_mem hlt, by simpa using h⟩
      simp only [z, seval]
      simp only [show decide ((i : Int) ≥ 0) = true by simp, z, seval]
      first | refine brk (fun h => ?_) (fun h => ?_) | fail
      all_goals
        simp only [h, z, seval]
        (refine FINS_done ?_; simp only [z, seval])
        simp_all [safeM]
    · simp only [z, seval, w64s (i := i) (by omega)]
      refine NX () (hi := hlt) (hinv := ?_)
      simp only [leakedM, List.take_succ_eq_append_getElem hlt, List.any_append, List.any_cons, List.any_nil, Bool.or_false] at hw ⊢
      rw [hw]; simpa using h
  · have hi' : i = w.leaks.length := by simp at h; omega
    subst hi'
    rw [List.take_length] at hw
    simp only [z, seval]
    try simp only [show decide ((-1 : Int) ≥ 0) = false by decide, z, seval]
    first | refine brk (fun h => ?_) (fun h => ?_) | fail
    · simp only [h, z, seval]
      (refine CU (Person_spec w na hna2 hp) (h := ?_); simp only [z, seval])
      first | refine brk (fun h => ?_) (fun h => ?_) | fail
      · simp only [h, z, seval]
        (refine CU (Person_spec w nb hnb2 hp) (h := ?_); simp only [z, seval])
        (refine FINS_done ?_; simp only [z, seval])
        simp_all [safeM, honest]
      · simp only [h, z, seval]
        (refine FINS_done ?_; simp only [z, seval])
        simp_all [safeM, honest]
    · simp only [h, z, seval]
      (refine FINS_done ?_; simp only [z, seval])
      simp_all [safeM]
end Ch

/- What the document says is known, and safe. -/
set_option maxRecDepth 100000
set_option maxHeartbeats 4000000
set_option linter.unusedSimpArgs false
set_option linter.unusedVariables false
namespace Ch
open Go Go.Ab
def rGet (l : List Person) (n : Int) : Option Person := l.find? fun p => p.name == n
theorem find_none_succ {α : Type} {l : List α} {f : α → Bool} {i : Nat} (h : i < l.length) (h1 : (l.take i).find? f = none) (h2 : f l[i] = false) : (l.take (i + 1)).find? f = none := by
  rw [List.take_succ_eq_append_getElem h, List.find?_append, h1]; simp [h2]
theorem find_at {α : Type} {l : List α} {f : α → Bool} {i : Nat} (h : i < l.length) (h1 : (l.take i).find? f = none) (h2 : f l[i] = true) : l.find? f = some l[i] := by
  have : l = l.take i ++ l.drop i := (List.take_append_drop i l).symm
  conv => lhs; rw [this]
  rw [List.find?_append, h1, Option.none_or, List.drop_eq_getElem_cons h, List.find?_cons, h2]
theorem rGet_spec (l : List Person) (n : Int) (hl : l.length ≤ 1099511627776) : Spec PP [] 74 [peopleV l, u32 n] (.tup [((rGet l n).getD zeroP).v, .bool (rGet l n).isSome]) [] := by
  refine Spec.of_runs Go.Proofs.Try.f74 Go.Proofs.Try.func74 rfl ?_
  intro w0 M0
  simp only [Go.Proofs.Try.f74, List.replicate, List.cons_append, List.nil_append, z, seval]
  refine RUNs_rangeF l.length (fun i (_ : Unit) => rGet (l.take i) n = none) (fun i _ => [.sl (l.map Person.v) .plain, u32 n, .any, .any, .ptr 0 0, .bool false, i64 i, .any, .any, .any, .any, .any, .any, .any, .any, .any, .any, .any, .any, .any, .any, .any, .any, .any, .any]) () (by simp [rGet]) wk rfl ?_
  rintro ⟨i, _, hi, hw⟩
  simp only [z, seval]
  refine CONDS_split (fun h => ?_) (fun h => ?_)
  · have hlt : i < l.length := by simpa using h
    simp only [z, seval, getMap Person.v l hlt]
    refine CONDS_split (fun h => ?_) (fun h => ?_)
    · simp only [z, seval, getMap Person.v l hlt]
      (refine FINS_done ?_; simp only [z, seval])
      rw [rGet, find_at hlt hw (by simpa using h)]
      simp
    · simp only [z, seval, w64s (i := i) (by omega)]
      refine NX () (hi := hlt) (hinv := ?_)
      exact find_none_succ hlt hw (by simpa using h)
  · have hi' : i = l.length := by simp at h; omega
    subst hi'
    rw [List.take_length] at hw
    simp only [z, seval]
    (refine FINS_done ?_; simp only [z, seval])
    rw [hw]; simp [zeroP]
theorem rPerson_spec (w : World) (n : Int) (hl : w.people.length ≤ 1099511627776) : Spec PP [] 64 [w.v, u32 n] ((rGet w.people n).getD zeroP).v [] := by
  refine Spec.of_runs Go.Proofs.Try.f64 Go.Proofs.Try.func64 rfl ?_
  intro w0 M0
  simp only [Go.Proofs.Try.f64, List.replicate, List.cons_append, List.nil_append, z, seval]
  (refine CU (rGet_spec w.people n hl) (h := ?_); simp only [z, seval])
  (refine FINS_done ?_; simp only [z, seval])
def rhonest (l : List Person) (n : Int) : Bool := !((rGet l n).getD zeroP).corrupt
theorem Honest_spec (w : World) (a b : Int) (hl : w.people.length ≤ 1099511627776) : Spec PP [] 42 [w.v, u32 a, u32 b] (.bool (rhonest w.people a && rhonest w.people b)) [] := by
  refine Spec.of_runs Go.Proofs.Try.f42 Go.Proofs.Try.func42 rfl ?_
  intro w0 M0
  simp only [Go.Proofs.Try.f42, List.replicate, List.cons_append, List.nil_append, z, seval]
  (refine CU (rPerson_spec w a hl) (h := ?_); simp only [z, seval])
  first | refine brk (fun h => ?_) (fun h => ?_) | fail
  · simp only [h, z, seval]
    (refine CU (rPerson_spec w b hl) (h := ?_); simp only [z, seval])
    (refine FINS_done ?_; simp only [z, seval])
    simp_all [rhonest]
  · simp only [h, z, seval]
    (refine FINS_done ?_; simp only [z, seval])
    simp_all [rhonest]
theorem Leaked_spec (w : World) (k : Int) (hl : w.leaks.length ≤ 1099511627776) : Spec PP [] 43 [w.v, u32 k] (.bool (leakedM w.leaks k)) [] := by
  refine Spec.of_runs Go.Proofs.Try.f43 Go.Proofs.Try.func43 rfl ?_
  intro w0 M0
  simp only [Go.Proofs.Try.f43, List.replicate, List.cons_append, List.nil_append, z, seval]
  refine RUNs_rangeF w.leaks.length (fun i (_ : Unit) => leakedM (w.leaks.take i) k = false) (fun i _ => [.any, u32 k, .ptr 0 0, .any, .bool false, i64 i, .any, .any, .any, .any, .any, .any, .any, .any, .any, .any, .any, .any, .any, .any, .any]) () (by simp [leakedM]) wk rfl ?_
  rintro ⟨i, _, hi, hw⟩
  simp only [z, seval]
  refine CONDS_split (fun h => ?_) (fun h => ?_)
  · have hlt : i < w.leaks.length := by simpa using h
    simp only [z, seval, getMap Leak.v w.leaks hlt]
    refine CONDS_split (fun h => ?_) (fun h => ?_)
    · simp only [z, seval]
      (refine FINS_done ?_; simp only [z, seval])
      have hk : leakedM w.leaks k = true := by
        simp only [leakedM, List.any_eq_true]
        exact ⟨w.leaks[i], List.getElem_mem hlt, by simpa using h⟩
      rw [hk]
    · simp only [z, seval, w64s (i := i) (by omega)]
      refine NX () (hi := hlt) (hinv := ?_)
      simp only [leakedM, List.take_succ_eq_append_getElem hlt, List.any_append, List.any_cons, List.any_nil, Bool.or_false] at hw ⊢
      rw [hw]; simpa using h
  · have hi' : i = w.leaks.length := by simp at h; omega
    subst hi'
    rw [List.take_length] at hw
    simp only [z, seval]
    (refine FINS_done ?_; simp only [z, seval])
    rw [hw]
def rsafeM (w : World) (e : Event) : Bool := e.kind == 2 && ((rhonest w.people e.a && rhonest w.people e.b) && !leakedM w.leaks e.k)
theorem rSafe_spec (w : World) (e : Event) (hp : w.people.length ≤ 1099511627776) (hl : w.leaks.length ≤ 1099511627776) : Spec PP [] 17 [w.v, e.v] (.bool (rsafeM w e)) [] := by
  obtain ⟨ek, ep, er, ea, eb, k, e2, e3, e4, e5⟩ := e
  refine Spec.of_runs Go.Proofs.Try.f17 Go.Proofs.Try.func17 rfl ?_
  intro w0 M0
  simp only [Go.Proofs.Try.f17, List.replicate, List.cons_append, List.nil_append, z, seval]
  first | refine brk (fun h => ?_) (fun h => ?_) | fail
  · simp only [h, z, seval]
    (refine CU (Honest_spec w ea eb hp) (h := ?_); simp only [z, seval])
    first | refine brk (fun h => ?_) (fun h => ?_) | fail
    · simp only [h, z, seval]
      (refine CU (Leaked_spec w k hl) (h := ?_); simp only [z, seval])
      (refine FINS_done ?_; simp only [z, seval])
      simp_all [rsafeM]
    · simp only [h, z, seval]
      (refine FINS_done ?_; simp only [z, seval])
      simp_all [rsafeM]
  · simp only [h, z, seval]
    (refine FINS_done ?_; simp only [z, seval])
    simp_all [rsafeM]
end Ch

/- What the document says is known; short scripts; logs held against one another. -/
set_option maxRecDepth 100000
set_option maxHeartbeats 4000000
set_option linter.unusedSimpArgs false
set_option linter.unusedVariables false
namespace Ch
open Go Go.Ab
theorem known_succ {L : List (List Int)} {x : Int} {i : Nat} (h : i < L.length) (h1 : knownL (L.take i) x = false) (h2 : decide (x ∈ L[i]) = false) : knownL (L.take (i + 1)) x = false := by
  simp only [knownL, List.take_succ_eq_append_getElem h, List.any_append, List.any_cons, List.any_nil, h2, Bool.or_false] at h1 ⊢
  exact h1
theorem known_at {L : List (List Int)} {x : Int} {i : Nat} (h : i < L.length) (h2 : decide (x ∈ L[i]) = true) : knownL L x = true := by
  simp only [knownL, List.any_eq_true]
  exact ⟨L[i], List.getElem_mem h, h2⟩
theorem known_app (A B : List (List Int)) (x : Int) : knownL (A ++ B) x = (knownL A x || knownL B x) := by simp [knownL]
theorem rKnown_spec (w : World) (x : Int) (h1 : w.regs.length ≤ 1099511627776) (h2 : w.net.seen.length ≤ 1099511627776) (hr : ∀ l ∈ w.regs ++ w.net.seen, l.length ≤ 1099511627776) : Spec PP [] 15 [w.v, u32 x] (.bool (knownM w x)) [] := by
  have hrA : ∀ l ∈ w.regs, l.length ≤ 9223372036854775807 := fun l h => by have := hr l (List.mem_append_left _ h); omega
  have hrB : ∀ l ∈ w.net.seen, l.length ≤ 9223372036854775807 := fun l h => by have := hr l (List.mem_append_right _ h); omega
  refine Spec.of_runs Go.Proofs.Try.f15 Go.Proofs.Try.func15 rfl ?_
  intro w0 M0
  simp only [Go.Proofs.Try.f15, List.replicate, List.cons_append, List.nil_append, z, seval]
  refine RUNs_rangeF w.regs.length (fun i (_ : Unit) => knownL (w.regs.take i) x = false) (fun i _ => [.any, u32 x, .ptr 0 0, .any, .bool false, i64 i, .any, .any, .any, .any, .any, .any, .any, .any, .any, .any, .any, .any, .any, .any, .any, .any, .any, .any, .any, .any, .any, .any, .any, .any, .any, .any, .any, .any, .any, .any, .any]) () (by simp [knownL]) wk rfl ?_
  rintro ⟨i, _, hi, hw⟩
  simp only [z, seval]
  refine CONDS_split (fun h => ?_) (fun h => ?_)
  · have hlt : i < w.regs.length := by simpa using h
    simp only [z, seval, getMap wordsV w.regs hlt]
    (refine CU (Has_spec w.regs[i] x (hrA _ (List.getElem_mem hlt))) (h := ?_); simp only [z, seval])
    refine CONDS_split (fun h => ?_) (fun h => ?_)
    · simp only [h, z, seval]
      (refine FINS_done ?_; simp only [z, seval])
      rw [knownM, known_app, known_at hlt h]; rfl
    · simp only [h, z, seval, w64s (i := i) (by omega)]
      refine NX () (hi := hlt) (hinv := ?_)
      exact known_succ hlt hw h
  · have hi' : i = w.regs.length := by simp at h; omega
    subst hi'
    rw [List.take_length] at hw
    simp only [z, seval]
    refine RUNs_rangeF w.net.seen.length (fun i (_ : Unit) => knownL (w.net.seen.take i) x = false) (fun i _ => [.any, u32 x, .ptr 0 0, .any, .bool false, .any, i64 i, .any, .any, .any, .any, .any, .any, .any, .any, .any, .any, .any, .any, .any, .any, .any, .any, .any, .any, .any, .any, .any, .any, .any, .any, .any, .any, .any, .any, .any, .any]) () (by simp [knownL]) wk rfl ?_
    rintro ⟨i, _, hi, hw2⟩
    simp only [z, seval]
    refine CONDS_split (fun h => ?_) (fun h => ?_)
    · have hlt : i < w.net.seen.length := by simpa using h
      simp only [z, seval, getMap wordsV w.net.seen hlt]
      (refine CU (Has_spec w.net.seen[i] x (hrB _ (List.getElem_mem hlt))) (h := ?_); simp only [z, seval])
      refine CONDS_split (fun h => ?_) (fun h => ?_)
      · simp only [h, z, seval]
        (refine FINS_done ?_; simp only [z, seval])
        rw [knownM, known_app, known_at hlt h, Bool.or_true]
      · simp only [h, z, seval, w64s (i := i) (by omega)]
        refine NX () (hi := hlt) (hinv := ?_)
        exact known_succ hlt hw2 h
    · have hi' : i = w.net.seen.length := by simp at h; omega
      subst hi'
      rw [List.take_length] at hw2
      simp only [z, seval]
      (refine FINS_done ?_; simp only [z, seval])
      rw [knownM, known_app, hw, hw2]; rfl
end Ch

/- Short scripts; logs held against one another. -/
set_option maxRecDepth 100000
set_option maxHeartbeats 4000000
set_option linter.unusedSimpArgs false
set_option linter.unusedVariables false
namespace Ch
open Go Go.Ab
def Few22 (l : List Op) : Bool := (l.take 300).all (fun o => decide (o.words.length ≤ 80)) && decide (l.length ≤ 200)
theorem Few22_spec (l : List Op) (hl : l.length ≤ 9223372036854775807) : Spec PP [] 13 [opsV l] (.bool (Few22 l)) [] := by
  refine Spec.of_runs Go.Proofs.Try.f13 Go.Proofs.Try.func13 rfl ?_
  intro w0 M0
  simp only [Go.Proofs.Try.f13, List.replicate, List.cons_append, List.nil_append, z, seval]
  refine RUNs_rangeF (min l.length 300) (fun i (_ : Unit) => (l.take i).all (fun o => decide (o.words.length ≤ 80)) = true) (fun i _ => [.sl (l.map Op.v) .plain, .any, .bool false, i64 i, .any, .any, .any, .any, .any, .any, .any, .any, .any, .any, .any, .any, .any, .any, .any, .any, .any, .any, .any, .any]) () (by simp) wk rfl ?_
  rintro ⟨i, _, hi, hw⟩
  simp only [z, seval]
  have hend : ¬ i < min l.length 300 → i = min l.length 300 := fun h => by omega
  first | refine brk (fun h => ?_) (fun h => ?_) | fail
  · have hlt : i < l.length := by simpa using h
    simp only [h, z, seval]
    first | refine brk (fun h => ?_) (fun h => ?_) | fail
    · have h3 : i < 300 := by have := of_decide_eq_true h; omega
      simp only [h, z, seval, getMap Op.v l hlt]
      refine CONDS_split (fun h => ?_) (fun h => ?_)
      · simp only [z, seval]
        (refine FINS_done ?_; simp only [z, seval])
        have hx : ¬ l[i].words.length ≤ 80 := by have := of_decide_eq_true h; omega
        have : Few22 l = false := by
          simp only [Few22, Bool.and_eq_false_iff]
          left
          rw [List.all_eq_false]
          exact ⟨l[i], List.mem_take_iff_getElem.2 ⟨i, by omega, rfl⟩, by simpa using hx⟩
        simp [this]
      · simp only [z, seval, w64s (i := i) (by omega)]
        have hlt2 : i < min l.length 300 := by omega
        refine NX () (hi := hlt2) (hinv := ?_)
        have hx : l[i].words.length ≤ 80 := by have := of_decide_eq_false h; omega
        simp only [List.take_succ_eq_append_getElem hlt, List.all_append, hw, List.all_cons, List.all_nil, Bool.and_true, Bool.true_and, decide_eq_true_eq]
        exact hx
    · have h3 : ¬ i < 300 := by have := of_decide_eq_false h; omega
      have := hend (by omega)
      have : i = 300 := by omega
      subst this
      simp only [h, z, seval]
      (refine FINS_done ?_; simp only [z, seval])
      simp only [Few22, hw, Bool.true_and]
      simp; omega
  · have hlt : ¬ i < l.length := by simpa using h
    simp only [h, z, seval]
    (refine FINS_done ?_; simp only [z, seval])
    have hi2 : i = l.length := by omega
    subst hi2
    rw [List.take_length] at hw
    simp only [Few22]
    rw [List.take_of_length_le (by omega), hw]
    simp; omega
theorem Events_same (l : List Event) (hl : l.length ≤ 9223372036854775807) : Spec PP [] 18 [eventsV l, eventsV l] (.bool true) [] := by
  refine Spec.of_runs Go.Proofs.Try.f18 Go.Proofs.Try.func18 rfl ?_
  intro w0 M0
  simp only [Go.Proofs.Try.f18, List.replicate, List.cons_append, List.nil_append, z, seval]
  refine RUNs_rangeF l.length (fun i (_ : Unit) => True) (fun i _ => [.sl (l.map Event.v) .plain, .sl (l.map Event.v) .plain, .any, .any, .bool false, i64 i, .any, .any, .any, .any, .any, .any, .any, .any, .any, .any, .any, .any, .any, .any, .any, .any, .any, .any, .any, .any]) () trivial wk rfl ?_
  rintro ⟨i, _, hi, hw⟩
  simp only [z, seval]
  refine CONDS_split (fun h => ?_) (fun h => ?_)
  · have hlt : i < l.length := by simpa using h
    simp only [z, seval]
    (refine RUNs_draw 0 (by kernel_rfl) ?_; simp only [z, seval])
    simp only [getMap Event.v l hlt, Event.v, z, seval]
    (refine ⟨by kernel_rfl, ?_⟩)
    simp only [w64s (i := i) (by omega), z, seval]
    refine NX () (hi := hlt) (hinv := ?_)
    trivial
  · simp only [z, seval]
    (refine FINS_done ?_; simp only [z, seval])
end Ch

/- Words unlike one another. -/
set_option maxRecDepth 100000
set_option maxHeartbeats 4000000
set_option linter.unusedSimpArgs false
set_option linter.unusedVariables false
namespace Ch
open Go Go.Ab
theorem nodup_succ {l : List Int} {i : Nat} (h : i < l.length) (h1 : (l.take i).Nodup) (h2 : l[i] ∉ l.take i) : (l.take (i + 1)).Nodup := by
  rw [List.take_succ_eq_append_getElem h, List.nodup_append]
  refine ⟨h1, by simp, ?_⟩
  intro a ha b hb
  simp only [List.mem_singleton] at hb
  subst hb
  rintro rfl
  exact h2 ha
theorem not_nodup {l : List Int} {i : Nat} (h : i < l.length) (h2 : l[i] ∈ l.take i) : ¬ l.Nodup := by
  intro hn
  have : l = l.take i ++ l.drop i := (List.take_append_drop i l).symm
  rw [this, List.nodup_append] at hn
  exact hn.2.2 _ h2 l[i] (by rw [List.drop_eq_getElem_cons h]; exact List.mem_cons_self) rfl
theorem rUnlike_spec (l : List Int) (hl : l.length ≤ 1099511627776) : Spec PP [] 54 [wordsV l] (.bool (decide l.Nodup)) [] := by
  refine Spec.of_runs Go.Proofs.Try.f54 Go.Proofs.Try.func54 rfl ?_
  intro w0 M0
  simp only [Go.Proofs.Try.f54, List.replicate, List.cons_append, List.nil_append, z, seval]
  refine RUNs_rangeF l.length (fun i (_ : Unit) => (l.take i).Nodup) (fun i _ => [.sl (l.map u32) .plain, .any, .bool false, i64 i, .any, .any, .any, .any, .any, .any, .any, .any, .any, .any, .any, .any, .any, .any]) () (by simp) wk rfl ?_
  rintro ⟨i, _, hi, hw⟩
  simp only [z, seval]
  refine CONDS_split (fun h => ?_) (fun h => ?_)
  · have hlt : i < l.length := by simpa using h
    simp only [z, seval]
    (refine RUNs_draw 0 (by kernel_rfl) ?_; simp only [z, seval])
    refine DOC_ok (slc_ok (Nat.le_of_lt hlt) (by intro a; rfl)) ?_
    simp only [getMap u32 l hlt, z, seval]
    have hlt2 : (l.take i).length ≤ 9223372036854775807 := by simp; omega
    (refine DU (Has_spec (l.take i) l[i] hlt2) (h := ?_); simp only [z, seval])
    (refine ⟨by kernel_rfl, ?_⟩)
    refine CONDS_split (fun h => ?_) (fun h => ?_)
    · simp only [h, z, seval]
      (refine FINS_done ?_; simp only [z, seval])
      have h' : l[i] ∈ l.take i := of_decide_eq_true h
      simp [not_nodup hlt h']
    · simp only [h, w64s (i := i) (by omega), z, seval]
      refine NX () (hi := hlt) (hinv := ?_)
      exact nodup_succ hlt hw (of_decide_eq_false h)
  · have hi' : i = l.length := by simp at h; omega
    subst hi'
    rw [List.take_length] at hw
    simp only [z, seval]
    (refine FINS_done ?_; simp only [z, seval])
    simp [hw]
def setF (l : List Int) : List Int → Option V := l.foldl (fun f x => updF f [x] (.bool true)) noF
theorem setF_get (l : List Int) (x : Int) : setF l [x] = if x ∈ l then some (.bool true) else none := by
  have key : ∀ (l : List Int) (f : List Int → Option V), (l.foldl (fun f x => updF f [x] (.bool true)) f) [x] = if x ∈ l then some (.bool true) else f [x] := by
    intro l
    induction l with
    | nil => intro f; simp
    | cons a l ih =>
      intro f
      rw [List.foldl_cons, ih]
      by_cases h : x ∈ l
      · simp [h]
      · by_cases ha : x = a
        · subst ha; simp [updF, eqIs]
        · have : (x == a) = false := by simp [ha]
          simp [h, ha, updF, eqIs, this]
  exact key l noF
theorem setF_look (l : List Int) (x : Int) : lookR false (.bool false) (setF l [x]) = .bool (decide (x ∈ l)) := by
  rw [setF_get]; by_cases h : x ∈ l <;> simp [h, lookR]
theorem setF_succ {l : List Int} {i : Nat} (h : i < l.length) : setF (l.take (i + 1)) = updF (setF (l.take i)) [l[i]] (.bool true) := by
  rw [List.take_succ_eq_append_getElem h, setF, List.foldl_append]; rfl
theorem Unlike_spec (l : List Int) (hl : l.length ≤ 1099511627776) : Spec PP [] 48 [wordsV l] (.bool (decide l.Nodup)) [] := by
  refine Spec.of_runs Go.Proofs.Try.f48 Go.Proofs.Try.func48 rfl ?_
  intro w0 M0
  simp only [Go.Proofs.Try.f48, List.replicate, List.cons_append, List.nil_append, z, seval]
  refine RUNs_range l.length (fun i (_ : Unit) => (l.take i).Nodup) (fun i _ => ([.sl (l.map u32) .plain, .any, .bool false, .mp 0, .any, .any, .any, .sl (l.map u32) .plain, i64 l.length, i64 i, .any, .any, .any, .any, .any, .any, .any, .any, .any], [.map false (false, [.u32]) (setF (l.take i))])) () (by simp) wk rfl ?_
  rintro ⟨i, _, hi, hw⟩
  simp only [z, seval]
  refine CONDS_split (fun h => ?_) (fun h => ?_)
  · have hlt : i < l.length := by simpa using h
    simp only [getMap u32 l hlt, z, seval]
    simp only [setF_look, z, seval]
    refine CONDS_split (fun h => ?_) (fun h => ?_)
    · simp only [h, z, seval]
      (refine FINS_done ?_; simp only [z, seval])
      have h' : l[i] ∈ l.take i := of_decide_eq_true h
      simp [not_nodup hlt h']
    · simp only [h, ← setF_succ hlt, w64s (i := i) (by omega), z, seval]
      refine NX () (hi := hlt) (hinv := ?_)
      exact nodup_succ hlt hw (of_decide_eq_false h)
  · have hi' : i = l.length := by simp at h; omega
    subst hi'
    rw [List.take_length] at hw
    simp only [z, seval]
    (refine FINS_done ?_; simp only [z, seval])
    simp [hw]
end Ch

/- Issues that are open, as the document says. -/
set_option maxRecDepth 100000
set_option maxHeartbeats 4000000
set_option linter.unusedSimpArgs false
set_option linter.unusedVariables false
namespace Ch
open Go Go.Ab
def ropenE (w : World) (e : Event) : Bool := rsafeM w e && knownM w e.k
def ropenM (w : World) : List Event := w.log.filter (ropenE w)
theorem filter_succ {α : Type} {l : List α} {f : α → Bool} {i : Nat} (h : i < l.length) : (l.take (i + 1)).filter f = (l.take i).filter f ++ (bif f l[i] then [l[i]] else []) := by
  rw [List.take_succ_eq_append_getElem h, List.filter_append]
  cases hf : f l[i] <;> simp [hf]
theorem ropen_succ {w : World} {i : Nat} (h : i < w.log.length) : (w.log.take (i + 1)).filter (ropenE w) = (w.log.take i).filter (ropenE w) ++ (bif ropenE w w.log[i] then [w.log[i]] else []) := filter_succ h
theorem ropen_len (w : World) (i : Nat) : ((w.log.take i).filter (ropenE w)).length ≤ w.log.length := by
  have h1 := List.length_filter_le (ropenE w) (w.log.take i)
  have h2 : (w.log.take i).length ≤ w.log.length := by simp; omega
  exact Nat.le_trans h1 h2
def opI (w : World) (i : Nat) : Nat → List V × List AB
  | 0 => ([.any, .ptr 0 0, .sl [] .nil, .sl [] .nil, i64 i, .any, .any, .any, .any, .any, .any, .any, .any, .any, .any, .any, .any, .any, .any, .any, .any, .any, .any, .any, .any, .any, .any, .any, .any, .any, .any, .any, .any, .any, .any, .any, .any, .any], [.var w.cells])
  | j + 1 => ([.any, .ptr 0 0, .sl [] .nil, .row 1 j, i64 i, .any, .any, .any, .any, .any, .any, .any, .any, .any, .any, .any, .any, .any, .any, .any, .any, .any, .any, .any, .any, .any, .any, .any, .any, .any, .any, .any, .any, .any, .any, .any, .any, .any], [.var w.cells, .row 10 (((w.log.take i).filter (ropenE w)).map Event.v) j false])
theorem rOpen_spec (w : World) (h1 : w.regs.length ≤ 1099511627776) (h2 : w.net.seen.length ≤ 1099511627776) (hr : ∀ l ∈ w.regs ++ w.net.seen, l.length ≤ 1099511627776) (hp : w.people.length ≤ 1099511627776) (hl : w.leaks.length ≤ 1099511627776) (hlog : w.log.length ≤ 1099511627776) : Spec PP [] 20 [w.v] (eventsV (ropenM w)) [] := by
  refine Spec.of_runs Go.Proofs.Try.f20 Go.Proofs.Try.func20 rfl ?_
  intro w0 M0
  simp only [Go.Proofs.Try.f20, List.replicate, List.cons_append, List.nil_append, z, seval]
  refine RUNs_range w.log.length (fun i (c : Nat) => ((w.log.take i).filter (ropenE w)).length = c) (fun i c => opI w i c) 0 (by simp) ?_ rfl ?_
  · exact wk
  rintro ⟨i, c, hi, hc⟩
  rcases c with _ | j
  · have hs : (w.log.take i).filter (ropenE w) = [] := List.eq_nil_of_length_eq_zero hc
    simp only [opI, z, seval]
    first | refine brk (fun h => ?_) (fun h => ?_) | fail
    · have hlt : i < w.log.length := by simpa using h
      have hsu := ropen_succ hlt
      simp only [h, z, seval]
      (refine RUNs_draw 0 (by kernel_rfl) ?_; simp only [z, seval])
      simp only [getMap Event.v w.log hlt, z, seval]
      (refine DU (rSafe_spec w w.log[i] hp hl) (h := ?_); simp only [z, seval])
      first | refine brk (fun h => ?_) (fun h => ?_) | fail
      · simp only [h, getMap Event.v w.log hlt, z, seval]
        (refine DU (rKnown_spec w w.log[i].k h1 h2 hr) (h := ?_); simp only [z, seval])
        (refine ⟨by kernel_rfl, ?_⟩)
        first | refine brk (fun h => ?_) (fun h => ?_) | fail
        · have hb : ropenE w w.log[i] = true := by simp_all [ropenE]
          rw [hb, cond_true, hs] at hsu
          have e : [Event.v w.log[i]] = ((w.log.take (i + 1)).filter (ropenE w)).map Event.v := by rw [hsu]; rfl
          simp only [Event.v] at e
          simp only [getMap Event.v w.log hlt, Event.v, z, seval]
          simp only [e, w64s (i := i) (by omega), z, seval]
          refine NX 1 (hi := hlt) (hinv := ?_)
          rw [hsu]; rfl
        · have hb : ropenE w w.log[i] = false := by simp_all [ropenE]
          rw [hb, cond_false, List.append_nil, hs] at hsu
          simp only [w64s (i := i) (by omega), z, seval]
          refine NX 0 (hi := hlt) (hinv := ?_)
          rw [hsu]; rfl
      · have hb : ropenE w w.log[i] = false := by simp_all [ropenE]
        rw [hb, cond_false, List.append_nil, hs] at hsu
        simp only [h, z, seval]
        (refine ⟨by kernel_rfl, ?_⟩)
        simp only [w64s (i := i) (by omega), z, seval]
        refine NX 0 (hi := hlt) (hinv := ?_)
        rw [hsu]; rfl
    · simp only [h, z, seval]
      (refine FINS_done ?_; simp only [z, seval])
      have : i = w.log.length := by simp at h; omega
      subst this
      rw [List.take_length] at hs
      rw [ropenM, hs]; rfl
  · simp only [opI, z, seval]
    first | refine brk (fun h => ?_) (fun h => ?_) | fail
    · have hlt : i < w.log.length := by simpa using h
      have hsu := ropen_succ hlt
      simp only [h, z, seval]
      (refine RUNs_draw 0 (by kernel_rfl) ?_; simp only [z, seval])
      simp only [getMap Event.v w.log hlt, z, seval]
      (refine DU (rSafe_spec w w.log[i] hp hl) (h := ?_); simp only [z, seval])
      first | refine brk (fun h => ?_) (fun h => ?_) | fail
      · simp only [h, getMap Event.v w.log hlt, z, seval]
        (refine DU (rKnown_spec w w.log[i].k h1 h2 hr) (h := ?_); simp only [z, seval])
        (refine ⟨by kernel_rfl, ?_⟩)
        first | refine brk (fun h => ?_) (fun h => ?_) | fail
        · have hb : ropenE w w.log[i] = true := by simp_all [ropenE]
          rw [hb, cond_true] at hsu
          have e : ((w.log.take i).filter (ropenE w)).map Event.v ++ [Event.v w.log[i]] = ((w.log.take (i + 1)).filter (ropenE w)).map Event.v := by rw [hsu, List.map_append]; rfl
          simp only [Event.v] at e
          simp only [getMap Event.v w.log hlt, Event.v, z, seval]
          refine OPC_ok ?_ ?_
          · have := ropen_len w (i + 1); rw [hsu, List.length_append] at this; simp at this ⊢; omega
          simp only [e, w64s (i := i) (by omega), z, seval]
          refine NX (j + 2) (hi := hlt) (hinv := ?_)
          rw [hsu]; simp [hc]
        · have hb : ropenE w w.log[i] = false := by simp_all [ropenE]
          rw [hb, cond_false, List.append_nil] at hsu
          simp only [w64s (i := i) (by omega), z, seval]
          (refine NX (j + 1) ?_ (by rfl) hlt ?_; simp only [opI, hsu]; exact wk)
          rw [hsu]; exact hc
      · have hb : ropenE w w.log[i] = false := by simp_all [ropenE]
        rw [hb, cond_false, List.append_nil] at hsu
        simp only [h, z, seval]
        (refine ⟨by kernel_rfl, ?_⟩)
        simp only [w64s (i := i) (by omega), z, seval]
        (refine NX (j + 1) ?_ (by rfl) hlt ?_; simp only [opI, hsu]; exact wk)
        rw [hsu]; exact hc
    · simp only [h, z, seval]
      (refine FINS_done ?_; simp only [z, seval])
      have : i = w.log.length := by simp at h; omega
      subst this
      rw [List.take_length, ropenM]
end Ch

/- The row of draws. -/
set_option maxRecDepth 100000
set_option maxHeartbeats 4000000
set_option linter.unusedSimpArgs false
set_option linter.unusedVariables false
namespace Ch
open Go Go.Ab
def rRow (d : Draws) (n : Nat) : List Int := (List.range n).map (drawAt d.list)
theorem rRow_succ (d : Draws) (i : Nat) : rRow d (i + 1) = rRow d i ++ [drawAt d.list i] := by simp [rRow, List.range_succ]
theorem rRow_len (d : Draws) (i : Nat) : (rRow d i).length = i := by simp [rRow]
theorem Row_spec (d : Draws) (n : Nat) (hn : n ≤ 1099511627776) : Spec PP [] 53 [d.v, i64 0, i64 n] (wordsV (rRow d n)) [] := by
  refine Spec.of_runs Go.Proofs.Try.f53 Go.Proofs.Try.func53 rfl ?_
  intro w0 M0
  simp only [Go.Proofs.Try.f53, List.replicate, List.cons_append, List.nil_append, z, seval]
  (refine RUNs_row0 7 1 (h := ?_); simp only [z, seval])
  refine RUNs_rangeS (n) (fun i (_ : Unit) => True) (fun i _ => [(8, i64 i), (7, .row 1 i)]) (fun i _ => [(1, .row 1 ((rRow d i).map u32) i false)]) () ?_ (by simp only [z, seval]; exact wk) rfl ?_
  · trivial
  rintro ⟨i, _, hi, _⟩
  have hsu := rRow_succ d i
  simp only [z, seval]
  refine CONDS_split (fun h => ?_) (fun h => ?_)
  · have hlt : i < n := by simpa using h
    simp only [z, seval, show IntKind.i64.wrap (0 + (i : Int)) = (i : Int) by rw [Int.zero_add]; exact w64n (by omega)]
    (refine CU (At04_spec d i) (h := ?_); simp only [z, seval])
    have e : (rRow d i).map u32 ++ [u32 (drawAt d.list i)] = (rRow d (i + 1)).map u32 := by rw [hsu, List.map_append]; rfl
    refine OPC_ok ?_ ?_
    · simp [rRow_len]; omega
    simp only [e, w64s (i := i) (by omega), z, seval]
    refine NX () (hi := hlt) (hinv := ?_)
    trivial
  · have hlt : n = i := by simp at h; omega
    subst hlt
    simp only [z, seval]
    (refine FINS_done ?_; simp only [z, seval])
end Ch

/- Whether a script is clean, as the document says. -/
set_option maxRecDepth 100000
set_option maxHeartbeats 4000000
set_option linter.unusedSimpArgs false
set_option linter.unusedVariables false
namespace Ch
open Go Go.Ab
def freshO (row : List Int) (o : Op) : Bool := !(o.kind == 0) || o.words.all fun x => !decide (x ∈ row)
def cleanM (row : List Int) (l : List Op) : Bool := decide row.Nodup && l.all (freshO row)
theorem all_succ {α : Type} {l : List α} {f : α → Bool} {i : Nat} (h : i < l.length) (h1 : (l.take i).all f = true) (h2 : f l[i] = true) : (l.take (i + 1)).all f = true := by
  rw [List.take_succ_eq_append_getElem h, List.all_append, h1]; simp [h2]
theorem all_at {α : Type} {l : List α} {f : α → Bool} {i : Nat} (h : i < l.length) (h2 : f l[i] = false) : l.all f = false := by
  rw [List.all_eq_false]; exact ⟨l[i], List.getElem_mem h, by simp [h2]⟩
theorem rClean_spec (w : World) (l : List Op) (n : Nat) (hn : w.draws.next = n) (hn2 : n ≤ 1099511627776) (hl : l.length ≤ 1099511627776) (hw : ∀ o ∈ l, o.words.length ≤ 1099511627776) : Spec PP [] 22 [w.v, opsV l] (.bool (cleanM (rRow w.draws n) l)) [] := by
  refine Spec.of_runs Go.Proofs.Try.f22 Go.Proofs.Try.func22 rfl ?_
  intro w0 M0
  simp only [Go.Proofs.Try.f22, List.replicate, List.cons_append, List.nil_append, hn, z, seval]
  have hR := Row_spec w.draws n hn2
  rw [Draws.v, hn] at hR
  (refine CU (hR) (h := ?_); simp only [z, seval])
  have hlen : (rRow w.draws n).length ≤ 1099511627776 := by rw [rRow_len]; exact hn2
  generalize rRow w.draws n = row at hlen ⊢
  (refine CU (rUnlike_spec row hlen) (h := ?_); simp only [z, seval])
  first | refine brk (fun h => ?_) (fun h => ?_) | fail
  · simp only [h, z, seval]
    refine RUNs_rangeF l.length (fun i (_ : Unit) => (l.take i).all (freshO row) = true) (fun i _ => [.any, .sl (l.map Op.v) .plain, .ptr 0 0, .any, .bool false, .sl (row.map u32) .plain, i64 i, .any, .any, .any, .any, .any, .any, .any, .any, .any, .any, .any, .any, .any, .any, .any, .any, .any, .any, .any, .any, .any, .any, .any, .any, .any, .any, .any, .any, .any, .any, .any, .any, .any, .any, .any, .any, .any, .any, .any, .any, .any, .any, .any, .any]) () (by simp) wk rfl ?_
    rintro ⟨i, _, hi, hx⟩
    simp only [z, seval]
    refine CONDS_split (fun h => ?_) (fun h => ?_)
    · have hlt : i < l.length := by have := of_decide_eq_true h; omega
      have hwl := hw _ (List.getElem_mem hlt)
      simp only [z, seval]
      refine RUNs_rangeF l[i].words.length (fun k (_ : Unit) => (l[i].words.take k).all (fun x => !decide (x ∈ row)) = true) (fun k _ => [.any, .sl (l.map Op.v) .plain, .ptr 0 0, .any, .bool false, .sl (row.map u32) .plain, i64 i, i64 k, .any, .any, .any, .any, .any, .any, .any, .any, .any, .any, .any, .any, .any, .any, .any, .any, .any, .any, .any, .any, .any, .any, .any, .any, .any, .any, .any, .any, .any, .any, .any, .any, .any, .any, .any, .any, .any, .any, .any, .any, .any, .any, .any]) () (by simp) wk rfl ?_
      rintro ⟨k, _, hk, hy⟩
      simp only [getMap Op.v l hlt, z, seval]
      have hgo : freshO row l[i] = true → (l.take (i + 1)).all (freshO row) = true := fun h => all_succ hlt hx h
      first | refine brk (fun h => ?_) (fun h => ?_) | fail
      · have hkl : k < l[i].words.length := by have := of_decide_eq_true h; omega
        simp only [h, getMap Op.v l hlt, z, seval]
        first | refine brk (fun h => ?_) (fun h => ?_) | fail
        · have hkd : (l[i].kind == 0) = true := h
          simp only [h, getMap Op.v l hlt, getMap u32 l[i].words hkl, z, seval]
          have hrl : row.length ≤ 9223372036854775807 := by omega
          (refine CU (Has_spec row l[i].words[k] hrl) (h := ?_); simp only [z, seval])
          refine CONDS_split (fun h => ?_) (fun h => ?_)
          · simp only [h, z, seval]
            (refine FINS_done ?_; simp only [z, seval])
            have : freshO row l[i] = false := by
              rw [freshO, hkd, Bool.not_true, Bool.false_or]
              exact all_at hkl (by simp [h])
            rw [cleanM, all_at hlt this, Bool.and_false]
          · simp only [h, w64s (i := k) (by omega), z, seval]
            refine NX () (hi := hkl) (hinv := ?_)
            exact all_succ hkl hy (by simp [h])
        · have hkd : (l[i].kind == 0) = false := h
          simp only [h, w64s (i := i) (by omega), z, seval]
          refine NX () (hi := hlt) (hinv := ?_)
          exact hgo (by rw [freshO, hkd]; rfl)
      · have hkl : k = l[i].words.length := by have := of_decide_eq_false h; omega
        subst hkl
        rw [List.take_length] at hy
        simp only [h, w64s (i := i) (by omega), z, seval]
        refine NX () (hi := hlt) (hinv := ?_)
        exact hgo (by rw [freshO, hy, Bool.or_true])
    · have hi' : i = l.length := by have := of_decide_eq_false h; omega
      subst hi'
      rw [List.take_length] at hx
      simp only [z, seval]
      (refine FINS_done ?_; simp only [z, seval])
      simp_all [cleanM]
  · simp only [h, z, seval]
    (refine FINS_done ?_; simp only [z, seval])
    simp_all [cleanM]
end Ch

/- What the program holds to be safe is what the document does. -/
set_option maxRecDepth 100000
set_option maxHeartbeats 4000000
set_option linter.unusedSimpArgs false
set_option linter.unusedVariables false
namespace Ch
open Go Go.Ab
theorem names_of_right {l : List Person} (h : Right10 l = true) : ∀ i (hi : i < l.length), l[i].name = i := by
  simp only [Right10, Bool.and_eq_true, decide_eq_true_eq] at h
  obtain ⟨⟨h1, h2⟩, h3⟩ := h
  intro i hi
  cases hc : l[i].name == IntKind.u32.wrap ((l.take i).length : Int) with
  | true =>
    have e : (l.take i).length = i := by rw [List.length_take]; omega
    rw [e] at hc
    have := of_decide_eq_true hc
    rw [this, IntKind.wrap_u32]
    omega
  | false =>
    rw [allIx_false hi hc] at h1; cases h1
theorem rGet_right {l : List Person} (h : Right10 l = true) (n : Nat) : rGet l n = l[n]? := by
  have hn := names_of_right h
  rw [rGet]
  by_cases hl : n < l.length
  · rw [List.getElem?_eq_getElem hl]
    refine find_at hl ?_ (by rw [hn n hl]; simp)
    rw [List.find?_eq_none]
    intro p hp
    obtain ⟨j, hj, rfl⟩ := List.mem_take_iff_getElem.1 hp
    have := hn j (by omega)
    simp only [this, beq_iff_eq]
    omega
  · rw [List.getElem?_eq_none (by omega), List.find?_eq_none]
    intro p hp
    obtain ⟨j, hj, rfl⟩ := List.mem_iff_getElem.1 hp
    have := hn j hj
    simp only [this, beq_iff_eq]
    omega
theorem rhonest_right {l : List Person} (h : Right10 l = true) {n : Int} (h0 : 0 ≤ n) : rhonest l n = honest l n := by
  obtain ⟨m, rfl⟩ := Int.eq_ofNat_of_zero_le h0
  simp [rhonest, honest, getP, rGet_right h]
theorem rsafe_right {w : World} (h : Right10 w.people = true) {e : Event} (ha : U e.a) (hb : U e.b) : rsafeM w e = safeM w e := by
  simp only [rsafeM, safeM, rhonest_right h ha.1, rhonest_right h hb.1]
  cases (e.kind == 2) <;> cases leakedM w.leaks e.k <;> cases honest w.people e.a <;> cases honest w.people e.b <;> rfl
end Ch

/- Draws, as the program makes them. -/
set_option maxRecDepth 100000
set_option maxHeartbeats 4000000
set_option linter.unusedSimpArgs false
set_option linter.unusedVariables false
namespace Ch
open Go Go.Ab
theorem nat_or_top {n : Nat} (h : n < 4294967296) : n ||| 2147483648 = if n < 2147483648 then n + 2147483648 else n := by
  have key : ∀ r, r < 2147483648 → 2147483648 ||| r = 2147483648 + r := fun r hr => by
    have := Nat.two_pow_add_eq_or_of_lt (i := 31) (b := r) (by simpa using hr) 1
    simpa using this.symm
  split
  · rename_i h1
    rw [Nat.or_comm, key n h1]; omega
  · rename_i h1
    have e : n = 2147483648 ||| (n - 2147483648) := by rw [key _ (by omega)]; omega
    rw [e, Nat.or_comm, ← Nat.or_assoc, Nat.or_self]
theorem orI_top {x : Int} (h : U x) : orI .u32 x 2147483648 = if x < 2147483648 then IntKind.u32.wrap (x + 2147483648) else x := by
  obtain ⟨n, rfl⟩ := Int.eq_ofNat_of_zero_le h.1
  have hn : n < 4294967296 := by have := h.2; omega
  simp only [orI]
  have e1 : (BitVec.ofInt IntKind.u32.bits (n : Int) ||| BitVec.ofInt IntKind.u32.bits 2147483648).toNat = n ||| 2147483648 := by
    show (BitVec.ofInt 32 (n : Int) ||| BitVec.ofInt 32 ((2147483648 : Nat) : Int)).toNat = _
    rw [BitVec.ofInt_natCast, BitVec.ofInt_natCast, BitVec.toNat_or, BitVec.toNat_ofNat, BitVec.toNat_ofNat, Nat.mod_eq_of_lt hn]
  rw [e1, nat_or_top hn]
  by_cases hc : n < 2147483648
  · rw [if_pos hc, if_pos (by omega)]; rfl
  · rw [if_neg hc, if_neg (by omega), IntKind.wrap_u32]; omega
theorem Draw_spec (x : Int) : Spec PP [] 78 [u32 x] (u32 (orI .u32 x 2147483648)) [] := by
  refine Spec.of_runs Go.Proofs.Try.f78 Go.Proofs.Try.func78 rfl ?_
  intro w0 M0
  simp only [Go.Proofs.Try.f78, List.replicate, List.cons_append, List.nil_append, z, seval]
  (refine FINS_done ?_; simp only [z, seval])
theorem drawAt_or {l : List Int} (hl : ∀ x ∈ l, U x) {i : Nat} (hd : U (dflt i)) : drawAt l i = orI .u32 ((l[i]?).getD (dflt i)) 2147483648 := by
  cases h : l[i]? with
  | none => simp only [drawAt, h, Option.getD_none]; rw [orI_top hd]
  | some x => simp only [drawAt, h, Option.getD_some]; rw [orI_top (hl x (List.mem_of_getElem? h))]
theorem at_spec (d : Draws) (i : Nat) : Spec PP [] 77 [d.v, i64 i] (u32 (orI .u32 ((d.list[i]?).getD (dflt i)) 2147483648)) [] := by
  refine Spec.of_runs Go.Proofs.Try.f77 Go.Proofs.Try.func77 rfl ?_
  intro w0 M0
  simp only [Go.Proofs.Try.f77, List.replicate, List.cons_append, List.nil_append, Draws.v, z, seval]
  first | refine brk (fun h => ?_) (fun h => ?_) | fail
  · have hlt : i < d.list.length := by simpa using h
    simp only [z, seval, h, getMap u32 d.list hlt]
    (refine CU (Draw_spec d.list[i]) (h := ?_); simp only [z, seval])
    (refine FINS_done ?_; simp only [z, seval])
    simp [hlt]
  · have hnl : d.list[i]? = none := by simp at h ⊢; omega
    simp only [z, seval, h]
    (refine CU (Draw_spec (dflt i)) (h := ?_); simp only [z, seval])
    (refine FINS_done ?_; simp only [z, seval])
    rw [hnl]; rfl
end Ch

/- The row of draws, as the program makes it. -/
set_option maxRecDepth 100000
set_option maxHeartbeats 4000000
set_option linter.unusedSimpArgs false
set_option linter.unusedVariables false
namespace Ch
open Go Go.Ab
def pAt (d : Draws) (i : Nat) : Int := orI .u32 ((d.list[i]?).getD (dflt i)) 2147483648
def pRow (d : Draws) (m n : Nat) : List Int := (List.range n).map fun i => pAt d (m + i)
theorem pRow_succ (d : Draws) (m i : Nat) : pRow d m (i + 1) = pRow d m i ++ [pAt d (m + i)] := by simp [pRow, List.range_succ]
theorem RUNs_rangeG {P : Program} {G : Glob} {w0 : Go.World} {M0 : Nat → Nat → Prop} {R : Value → Go.World → Prop} {σ : Type} (n : Nat) (inv : Nat → σ → Prop) (I : List AB → Nat → σ → List V × List AB) (s0 : σ) {body : Code} {k : List It} {fr : List V} {st : List (List V)} {H : List AB}
    (hinv : inv 0 s0) (h0 : Weak fr H (I H 0 s0).1 (I H 0 s0).2) (hst : st.all (okL (I H 0 s0).2.length) = true)
    (round : ∀ x : RSt σ n inv, RUNs P G w0 M0 R ⟨.code body :: .inv (RJ P G w0 M0 R n inv (I H) x st) :: k, (I H x.i x.s).1, st, (I H x.i x.s).2⟩) : RUNs P G w0 M0 R ⟨.code (.loop body) :: k, fr, st, H⟩ :=
  RUNs_range n inv (I H) s0 hinv h0 hst round
def gH (d : Draws) (m : Nat) (H : List AB) (i : Nat) : Nat → List AB
  | 0 => H
  | j + 1 => (H.set 3 (.var [i64 (m + i : Nat)])).set 1 (.var [.row 7 j]) ++ [.row 1 ((pRow d m i).map u32) j false]
theorem gH_zero (d : Draws) (m : Nat) (H : List AB) (i : Nat) : gH d m H i 0 = H := rfl
theorem gH_succ (d : Draws) (m : Nat) (H : List AB) (i j : Nat) : gH d m H i (j + 1) = (H.set 3 (.var [i64 (m + i : Nat)])).set 1 (.var [.row 7 j]) ++ [.row 1 ((pRow d m i).map u32) j false] := rfl
theorem Peek_spec (d : Draws) (m n : Nat) (hd : d.next = m) (hm : m ≤ 1099511627776) (hn : n ≤ 1099511627776) : Spec PP [] 66 [d.v, i64 n] (wordsV (pRow d m n)) [] := by
  refine Spec.of_runs Go.Proofs.Try.f66 Go.Proofs.Try.func66 rfl ?_
  intro w0 M0
  simp only [Go.Proofs.Try.f66, List.replicate, List.cons_append, List.nil_append, Draws.v, hd, z, seval]
  (refine CALLS_in (fn := Go.Proofs.Try.f75) Go.Proofs.Try.func75 rfl (by kernel_rfl) ?_; simp only [Go.Proofs.Try.f75, List.replicate, List.cons_append, List.nil_append, z, seval])
  (refine RUNs_rangeFunc Go.Proofs.Try.f76 Go.Proofs.Try.func76 rfl (by kernel_rfl) rfl rfl ?_; intro D l; simp only [Go.Proofs.Try.f76, List.replicate, List.cons_append, List.nil_append, z, seval])
  have hmn : IntKind.i64.wrap ((m : Int) + (n : Int)) = ((m + n : Nat) : Int) := by rw [w64 (by omega) (by omega)]; omega
  simp only [hmn]
  refine RUNs_rangeG n (fun i (c : Nat) => i = c) (fun H i c => ([yieldV l, .ptr 3 0, .ptr 4 0, .ptr 2 0, .any, .any, .any, .any, .any, .any, .any, .any, .any, .any, .any, .any], gH d m H i c)) 0 rfl ?_ rfl ?_
  · exact wk
  rintro ⟨i, c, hi, rfl⟩
  have hA := at_spec d (m + i)
  rw [Draws.v, hd] at hA
  have hsu := pRow_succ d m i
  rcases i with _ | j
  · simp only [gH_zero, gH_succ, z, seval]
    refine CONDS_split (fun h => ?_) (fun h => ?_)
    · have hlt : 0 < n := by have := of_decide_eq_true h; omega
      simp only [z, seval]
      (refine CU (hA) (h := ?_); simp only [z, seval])
      (refine CALLS_yield 6 rfl rfl ?_; simp only [z, seval]; refine RUNs_beg 6 rfl ?_; simp only [z, seval])
      (first | refine RUNs_rnd 6 rfl ?_ | refine RUNs_rndj 6 rfl ?_; simp only [z, seval])
      have hw1 : IntKind.i64.wrap ((m : Int) + 1) = ((m + (0 + 1) : Nat) : Int) := by rw [w64 (by omega) (by omega)]; omega
      have e : [u32 (pAt d (m + 0))] = (pRow d m (0 + 1)).map u32 := by rw [hsu]; rfl
      simp only [pAt] at e
      simp only [hw1, e, z, seval]
      (refine NX 1 ?_ (by rfl) hlt ?_; simp only [gH_zero, gH_succ, z, seval]; exact wk)
      rfl
    · have hlt : n = 0 := by have := of_decide_eq_false h; omega
      subst hlt
      simp only [z, seval]
      (refine RUNs_erf 6 rfl (by simp) ?_; simp only [z, seval])
      (refine RUNs_mk 5 rfl ?_; simp only [z, seval])
      (refine FINS_done ?_; simp only [z, seval])
      rfl
  · simp only [gH_zero, gH_succ, z, seval]
    refine CONDS_split (fun h => ?_) (fun h => ?_)
    · have hlt : j + 1 < n := by have := of_decide_eq_true h; omega
      simp only [z, seval]
      (refine CU (hA) (h := ?_); simp only [z, seval])
      (refine CALLS_yield 6 rfl rfl ?_; simp only [z, seval]; refine RUNs_beg 6 rfl ?_; simp only [z, seval])
      refine OPC_ok ?_ ?_
      · simp [pRow]; omega
      simp only [z, seval]
      (first | refine RUNs_rnd 6 rfl ?_ | refine RUNs_rndj 6 rfl ?_; simp only [z, seval])
      have hw1 : IntKind.i64.wrap (((m + (j + 1) : Nat) : Int) + 1) = ((m + (j + 1 + 1) : Nat) : Int) := by rw [w64 (by omega) (by omega)]; omega
      have e : (pRow d m (j + 1)).map u32 ++ [u32 (pAt d (m + (j + 1)))] = (pRow d m (j + 1 + 1)).map u32 := by rw [hsu, List.map_append]; rfl
      simp only [pAt] at e
      simp only [hw1, e, z, seval]
      (refine NX (j + 2) ?_ (by rfl) hlt ?_; simp only [gH_zero, gH_succ, z, seval]; exact wk)
      rfl
    · have hlt : n = j + 1 := by have := of_decide_eq_false h; omega
      subst hlt
      simp only [z, seval]
      (refine RUNs_erf 6 rfl (by simp) ?_; simp only [z, seval])
      (refine RUNs_mk 5 rfl ?_; simp only [z, seval])
      (refine FINS_done ?_; simp only [z, seval])
theorem Drawn_spec (d : Draws) (n : Nat) (hd : d.next = n) (hn : n ≤ 1099511627776) : Spec PP [] 47 [d.v] (wordsV (pRow d 0 n)) [] := by
  refine Spec.of_runs Go.Proofs.Try.f47 Go.Proofs.Try.func47 rfl ?_
  intro w0 M0
  simp only [Go.Proofs.Try.f47, List.replicate, List.cons_append, List.nil_append, Draws.v, hd, z, seval]
  have hP := Peek_spec ⟨d.list, 0⟩ 0 n rfl (by omega) hn
  rw [Draws.v] at hP
  (refine CU (hP) (h := ?_); simp only [z, seval])
  (refine FINS_done ?_; simp only [z, seval])
  rfl
theorem pRow_rRow {d : Draws} {n : Nat} (hl : ∀ x ∈ d.list, U x) (hd : ∀ i, U (dflt i)) : pRow d 0 n = rRow d n := by
  simp only [pRow, rRow]
  apply List.map_congr_left
  intro i _
  rw [drawAt_or hl (hd i), pAt, Nat.zero_add]
end Ch

/- Whether a script is clean. -/
set_option maxRecDepth 100000
set_option maxHeartbeats 4000000
set_option linter.unusedSimpArgs false
set_option linter.unusedVariables false
namespace Ch
open Go Go.Ab
theorem Clean_spec (w : World) (l : List Op) (n : Nat) (hn : w.draws.next = n) (hn2 : n ≤ 1099511627776) (hl : l.length ≤ 1099511627776) (hw : ∀ o ∈ l, o.words.length ≤ 1099511627776) : Spec PP [] 21 [w.v, opsV l] (.bool (cleanM (pRow w.draws 0 n) l)) [] := by
  refine Spec.of_runs Go.Proofs.Try.f21 Go.Proofs.Try.func21 rfl ?_
  intro w0 M0
  simp only [Go.Proofs.Try.f21, List.replicate, List.cons_append, List.nil_append, hn, z, seval]
  have hR := Drawn_spec w.draws n hn hn2
  rw [Draws.v, hn] at hR
  (refine CU (hR) (h := ?_); simp only [z, seval])
  have hlen : (pRow w.draws 0 n).length ≤ 1099511627776 := by simp [pRow]; exact hn2
  generalize pRow w.draws 0 n = row at hlen ⊢
  (refine CU (Unlike_spec row hlen) (h := ?_); simp only [z, seval])
  first | refine brk (fun h => ?_) (fun h => ?_) | fail
  · simp only [h, z, seval]
    (refine CALLS_in (fn := Go.Proofs.Try.f49) Go.Proofs.Try.func49 rfl (by kernel_rfl) ?_; simp only [Go.Proofs.Try.f49, List.replicate, List.cons_append, List.nil_append, z, seval])
    (refine CALLS_in (fn := Go.Proofs.Try.f67) Go.Proofs.Try.func67 rfl (by kernel_rfl) ?_; simp only [Go.Proofs.Try.f67, List.replicate, List.cons_append, List.nil_append, z, seval])
    refine RUNs_rangeF l.length (fun i (_ : Unit) => (l.take i).all (freshO row) = true) (fun i _ => [.sl (l.map Op.v) .plain, .fn (.func 50) [] [.ptr 1 0], .any, .any, i64 0, .any, .sl (l.map Op.v) .plain, i64 l.length, i64 i, .any, .any, .any, .any, .any, .any, .any, .any, .any, .any]) () (by simp) wk rfl ?_
    rintro ⟨i, _, hi, hx⟩
    simp only [z, seval]
    refine CONDS_split (fun h => ?_) (fun h => ?_)
    · have hlt : i < l.length := by have := of_decide_eq_true h; omega
      have hwl := hw _ (List.getElem_mem hlt)
      have hgo : freshO row l[i] = true → (l.take (i + 1)).all (freshO row) = true := fun h => all_succ hlt hx h
      simp only [getMap Op.v l hlt, z, seval]
      (refine CALLS_in (fn := Go.Proofs.Try.f50) Go.Proofs.Try.func50 rfl (by kernel_rfl) ?_; simp only [Go.Proofs.Try.f50, List.replicate, List.cons_append, List.nil_append, z, seval])
      first | refine brk (fun h => ?_) (fun h => ?_) | fail
      · have hkd : (l[i].kind == 0) = true := h
        simp only [h, z, seval]
        (refine CALLS_in (fn := Go.Proofs.Try.f51) Go.Proofs.Try.func51 rfl (by kernel_rfl) ?_; simp only [Go.Proofs.Try.f51, List.replicate, List.cons_append, List.nil_append, z, seval])
        (refine CALLS_in (fn := Go.Proofs.Try.f68) Go.Proofs.Try.func68 rfl (by kernel_rfl) ?_; simp only [Go.Proofs.Try.f68, List.replicate, List.cons_append, List.nil_append, z, seval])
        refine RUNs_rangeF l[i].words.length (fun k (_ : Unit) => (l[i].words.take k).all (fun x => !decide (x ∈ row)) = true) (fun k _ => [.sl (l[i].words.map u32) .plain, .fn (.func 52) [] [.ptr 1 0], .any, .any, i64 0, .any, .sl (l[i].words.map u32) .plain, i64 l[i].words.length, i64 k, .any, .any, .any, .any, .any, .any, .any, .any, .any, .any]) () (by simp) wk rfl ?_
        rintro ⟨k, _, hk, hy⟩
        simp only [z, seval]
        refine CONDS_split (fun h => ?_) (fun h => ?_)
        · have hkl : k < l[i].words.length := by have := of_decide_eq_true h; omega
          simp only [getMap u32 l[i].words hkl, z, seval]
          (refine CALLS_in (fn := Go.Proofs.Try.f52) Go.Proofs.Try.func52 rfl (by kernel_rfl) ?_; simp only [Go.Proofs.Try.f52, List.replicate, List.cons_append, List.nil_append, z, seval])
          (refine CU (wHas_spec row l[i].words[k] hlen) (h := ?_); simp only [z, seval])
          refine CONDS_split (fun h => ?_) (fun h => ?_)
          · simp only [h, show decide ((k : Int) ≥ 0) = true by simp, z, seval]
            simp only [show decide ((i : Int) ≥ 0) = true by simp, z, seval]
            (refine FINS_done ?_; simp only [z, seval])
            have : freshO row l[i] = false := by
              rw [freshO, hkd, Bool.not_true, Bool.false_or]
              exact all_at hkl (by simp [h])
            rw [cleanM, all_at hlt this, Bool.and_false]
          · simp only [h, w64s (i := k) (by omega), z, seval]
            refine NX () (hi := hkl) (hinv := ?_)
            exact all_succ hkl hy (by simp [h])
        · have hkl : k = l[i].words.length := by have := of_decide_eq_false h; omega
          subst hkl
          rw [List.take_length] at hy
          simp only [show decide ((-1 : Int) ≥ 0) = false by decide, w64s (i := i) (by omega), z, seval]
          refine NX () (hi := hlt) (hinv := ?_)
          exact hgo (by rw [freshO, hy, Bool.or_true])
      · have hkd : (l[i].kind == 0) = false := h
        simp only [h, w64s (i := i) (by omega), z, seval]
        refine NX () (hi := hlt) (hinv := ?_)
        exact hgo (by rw [freshO, hkd]; rfl)
    · have hi' : i = l.length := by have := of_decide_eq_false h; omega
      subst hi'
      rw [List.take_length] at hx
      try simp only [show decide ((-1 : Int) ≥ 0) = false by decide, z, seval]
      (refine FINS_done ?_; simp only [z, seval])
      simp_all [cleanM]
  · simp only [h, z, seval]
    (refine FINS_done ?_; simp only [z, seval])
    simp_all [cleanM]
end Ch

/- Issues that are open: the program's. -/
set_option maxRecDepth 100000
set_option maxHeartbeats 4000000
set_option linter.unusedSimpArgs false
set_option linter.unusedVariables false
namespace Ch
open Go Go.Ab
theorem IndexFuncEvent_row (l : List Event) (p : Event → Bool) (vf : V) (H : List AB) (r : Nat) (hr : getH H r = .row 10 (l.map Event.v) 0 false) (hrl : r < H.length) (hl : l.length ≤ 1099511627776) (hH : H.all (okAB H.length) = true) (hv : okN H.length vf = true) (hp : ∀ a ∈ l, PureFn PP [] vf H [Event.v a] (.bool (p a))) :
    PureFn PP [] (.fn (.func 65) [] []) H [.row r 0, vf] (i64 (idxP p l)) := by
  refine PureFn.of (fn := Go.Proofs.Try.f65) Go.Proofs.Try.func65 rfl (by kernel_rfl) hH rfl ?_
  intro w0 M0 R dst all l' k fr st h1 h2
  simp only [Go.Proofs.Try.f65, List.replicate, List.cons_append, List.nil_append, hr, z, seval]
  refine RUNs_rangeS l.length (fun i (_ : Unit) => (l.take i).any p = false) (fun i _ => [(1, vf), (8, i64 i)]) (fun _ _ => []) () (by simp) (by simp only [hr, z, seval]; exact WkF (by simp only [okL, okN, hv, hrl, decide_true, Bool.true_and]) hH) (by simp only [hr, z, seval]; exact stok h1 h2) ?_
  rintro ⟨i, _, hi, hw⟩
  simp only [hr, z, seval]
  refine CONDS_split (fun h => ?_) (fun h => ?_)
  · have hlt : i < l.length := by simpa using h
    simp only [hr, z, seval, hlt, getMap Event.v l hlt]
    have hpi := hp _ (List.getElem_mem hlt)
    simp only [mv] at hpi
    refine PureFn.use hpi (by simp only [okL, okN, hv, hrl, decide_true, Bool.true_and]) (stok h1 h2) ?_
    simp only [hr, z, seval]
    refine CONDS_split (fun h => ?_) (fun h => ?_)
    · simp only [hr, z, seval]
      exact RUNs_pure h1 h2 hH rfl (hle := LeH.refl H) (he := by rw [idxP_at hlt hw h])
    · simp only [hr, z, seval, w64s (i := i) (by omega)]
      refine NX () (hw := by simp only [hr, z, seval]; exact WkF (by simp only [okL, okN, hv, hrl, decide_true, Bool.true_and]) hH) (hst := by simp only [hr, z, seval]; exact stok h1 h2) (hi := hlt) (hinv := any_snoc hlt hw h)
  · obtain rfl : i = l.length := by simp at h; omega
    rw [List.take_length] at hw
    simp only [hr, z, seval]
    exact RUNs_pure h1 h2 hH rfl (hle := LeH.refl H) (he := by rw [idxP_none hw])
theorem getH_snoc (J : List AB) (x : AB) : getH (J ++ [x]) J.length = x := by
  induction J with
  | nil => rfl
  | cons a J ih => exact ih
def openE (w : World) (e : Event) : Bool := safeM w e && knownM w e.k
theorem openClo (w : World) (J : List AB) (hJ : J.all (okAB (J.length + 1)) = true) (hp : w.people.length ≤ 1099511627776) (hl : w.leaks.length ≤ 1099511627776) (hs : (w.regs ++ w.net.seen).length ≤ 1099511627776) (hr : ∀ l ∈ w.regs ++ w.net.seen, l.length ≤ 1099511627776) (e : Event) (ha : U e.a) (hb : U e.b) :
    PureFn PP [] (.fn (.func 46) [] [.ptr 0 0]) (.var w.cells :: J) [e.v] (.bool (!openE w e)) := by
  have hH : (AB.var w.cells :: J).all (okAB (AB.var w.cells :: J).length) = true := by
    rw [List.all_cons, List.length_cons, hJ]; rfl
  refine PureFn.of (fn := Go.Proofs.Try.f46) Go.Proofs.Try.func46 rfl (by kernel_rfl) hH rfl ?_
  intro w0 M0 R dst all l' k fr st h1 h2
  have h3 : okL (J.length + 1) fr = true := h1
  simp only [Go.Proofs.Try.f46, List.replicate, List.cons_append, List.nil_append, getH_snoc, z, seval]
  have hS := Safe_spec w e ha hb hp hl
  simp only [mv] at hS
  (refine CU (hS) (h := ?_); simp only [z, seval])
  first | refine brk (fun h => ?_) (fun h => ?_) | fail
  · simp only [h, getH_snoc, z, seval]
    have hK := Known_spec w e.k hs hr
    (refine CU (hK) (h := ?_); simp only [z, seval])
    exact RUNs_pure h1 h2 hH rfl (hle := .cons (.refl _) (LeH.app _ J)) (he := by simp_all [openE])
  · simp only [h, getH_snoc, z, seval]
    exact RUNs_pure h1 h2 hH rfl (hle := .cons (.refl _) (LeH.app _ J)) (he := by simp_all [openE])
theorem Open_spec (w : World) (hlog : w.log.length ≤ 1099511627776) (hp : w.people.length ≤ 1099511627776) (hl : w.leaks.length ≤ 1099511627776) (hs : (w.regs ++ w.net.seen).length ≤ 1099511627776) (hr : ∀ l ∈ w.regs ++ w.net.seen, l.length ≤ 1099511627776) (hU : ∀ e ∈ w.log, U e.a ∧ U e.b) :
    Spec PP [] 19 [w.v] (eventsV (w.log.filter (openE w))) [] := by
  have hclo : ∀ (J : List AB) (hJ : J.all (okAB (J.length + 1)) = true), ∀ e ∈ w.log, PureFn PP [] (.fn (.func 46) [] [.ptr 0 0]) (.var w.cells :: J) [e.v] (.bool (!openE w e)) :=
    fun J hJ e he => openClo w J hJ hp hl hs hr e (hU e he).1 (hU e he).2
  generalize hq : openE w = q at hclo ⊢
  clear hq
  refine Spec.of_runs Go.Proofs.Try.f19 Go.Proofs.Try.func19 rfl ?_
  intro w0 M0
  simp only [Go.Proofs.Try.f19, List.replicate, List.cons_append, List.nil_append, z, seval]
  (refine CH (CloneEvent_spec w.log hlog) (h := ?_); simp only [z, seval])
  (refine CALLS_in (fn := Go.Proofs.Try.f44) Go.Proofs.Try.func44 rfl (by kernel_rfl) ?_; simp only [Go.Proofs.Try.f44, List.replicate, List.cons_append, List.nil_append, z, seval])
  have hI := IndexFuncEvent_row w.log (fun e => !q e) (.fn (.func 46) [] [.ptr 0 0]) [.var w.cells, .row 10 (w.log.map Event.v) 0 false] 1 rfl (by simp) hlog rfl rfl (hclo [.row 10 (w.log.map Event.v) 0 false] rfl)
  simp only [mv] at hI
  refine PureFn.use hI (hR := ?_)
  simp only [z, seval]
  rcases idxP_cases (fun e => !q e) w.log with ⟨e1, e2⟩ | ⟨i0, hi0, e1, e2, e3⟩
  · simp only [e1, z, seval]
    (refine FINS_done ?_; simp only [z, seval])
    have : w.log.filter q = w.log := List.filter_eq_self.2 (by simpa using e2)
    rw [this]
  · have hne : ((i0 : Int) == -1) = false := by simp
    simp only [e1, hne, w64s (i := i0) (by omega), z, seval]
    have hc0 : ((w.log.take (i0 + 1)).filter q).length = i0 := by
      rw [List.take_succ_eq_append_getElem hi0, List.filter_append, List.filter_eq_self.2 (by simpa using e2)]
      have : q w.log[i0] = false := by simpa using e3
      simp [this]; omega
    have hD0 : Del q w.log (i0 + 1) w.log := (Del.zero q w.log (by simpa using e2)).skip hi0 (by simpa using e3)
    refine RUNs_cutRS (fun _ : List Event => [(5, i64 (w.log.filter q).length), (6, .any)]) (fun L => [(1, .row 10 (L.map Event.v) 0 false)]) (fun L => L.length = w.log.length ∧ L.take (w.log.filter q).length = w.log.filter q) ?_ ?_
    · simp only [z, seval]
      refine RUNs_rangeS (w.log.length - (i0 + 1)) (fun k (L : List Event) => Del q w.log (i0 + 1 + k) L) (fun k _ => [(5, i64 ((w.log.take (i0 + 1 + k)).filter q).length), (6, i64 (i0 + 1 + k : Nat))]) (fun _ L => [(1, .row 10 (L.map Event.v) 0 false)]) w.log hD0 (by simp only [Nat.add_zero, hc0, z, seval]; exact wk) rfl ?_
      rintro ⟨k, L, hk, hD⟩
      have hlen := hD.len
      simp only [hlen, z, seval]
      refine CONDS_split (fun h => ?_) (fun h => ?_)
      · have hlt : i0 + 1 + k < w.log.length := by have := of_decide_eq_true h; omega
        obtain ⟨hL, hLe⟩ := hD.at hlt
        have hcl := hD.le
        simp only [hlen, hlt, getMap Event.v L hL, hLe, if_true, z, seval]
        have hC := hclo [.row 10 (L.map Event.v) 0 false, .var w.log[i0 + 1 + k].cells] rfl w.log[i0 + 1 + k] (List.getElem_mem hlt)
        simp only [mv, Event.cells] at hC
        refine PureFn.use hC (hR := ?_)
        simp only [Bool.not_not, z, seval]
        refine CONDS_split (fun h => ?_) (fun h => ?_)
        · obtain ⟨hD2, hc2⟩ := hD.keep hlt h
          have hcL : ((w.log.take (i0 + 1 + k)).filter q).length < L.length := by omega
          have hcw : ((w.log.take (i0 + 1 + k)).filter q).length < w.log.length := by omega
          have he : (L.map Event.v).set ((w.log.take (i0 + 1 + k)).filter q).length (Event.v w.log[i0 + 1 + k]) = (L.set ((w.log.take (i0 + 1 + k)).filter q).length w.log[i0 + 1 + k]).map Event.v := by rw [List.map_set]
          simp only [mv] at he
          simp only [hlen, hcL, hcw, getMap Event.v L hcL, if_true, he, w64s (i := ((w.log.take (i0 + 1 + k)).filter q).length) (by omega), w64s (i := i0 + 1 + k) (by omega), z, seval]
          have hc3 : ((w.log.take (i0 + 1 + (k + 1))).filter q).length = ((w.log.take (i0 + 1 + k)).filter q).length + 1 := hc2
          refine NX (L.set ((w.log.take (i0 + 1 + k)).filter q).length w.log[i0 + 1 + k]) (by simp only [hc3, z, seval]; exact wk) (by rfl) (by show k < _; omega) hD2
        · simp only [w64s (i := i0 + 1 + k) (by omega), z, seval]
          have e : (w.log.take (i0 + 1 + (k + 1))).filter q = (w.log.take (i0 + 1 + k)).filter q := by
            rw [show i0 + 1 + (k + 1) = i0 + 1 + k + 1 by omega, List.take_succ_eq_append_getElem hlt, List.filter_append]; simp [h]
          refine NX L (by simp only [e, z, seval]; exact wk) (by rfl) (by show k < _; omega) (hD.skip hlt h)
      · obtain rfl : k = w.log.length - (i0 + 1) := by have := of_decide_eq_false h; omega
        have e : i0 + 1 + (w.log.length - (i0 + 1)) = w.log.length := by omega
        have hh := hD.head
        simp only [e, List.take_length] at hh
        simp only [e, List.take_length, z, seval]
        (refine CI L ?_ (by rfl) ?_; simp only [z, seval]; exact wk)
        exact ⟨hlen, hh⟩
    · rintro L ⟨hL1, hL2⟩
      simp only [z, seval]
      have hc : (w.log.filter q).length ≤ w.log.length := List.length_filter_le q w.log
      refine RUN_delTail (i := 1) (ver := 0) (n := (w.log.filter q).length) (sz := 10) (es := L.map Event.v) rfl rfl rfl rfl rfl rfl rfl rfl rfl rfl rfl rfl rfl rfl rfl rfl rfl (by simp [hL1]; exact hc) (by simp) ty36 rfl ty51 rfl (RUN_of_RUNs ?_)
      simp only [z, seval]
      have hl2 : (clrE 10 (L.map Event.v) (w.log.filter q).length).length = w.log.length := by rw [clrE_len 10 (by simp [hL1]; exact hc)]; simp [hL1]
      have ht2 : (clrE 10 (L.map Event.v) (w.log.filter q).length).take (w.log.filter q).length = (w.log.filter q).map Event.v := by
        rw [clrE_take (by simp [hL1]; exact hc), ← List.map_take, hL2]
      refine OPC_ok ?_ ?_
      · rw [hl2]; simp [slcB, hc]
      simp only [ht2, z, seval]
      (refine FINS_done ?_; simp only [z, seval])
end Ch

/- What is known, safe, open, clean: the law's awakening. -/
set_option maxRecDepth 100000
set_option maxHeartbeats 4000000
set_option linter.unusedSimpArgs false
set_option linter.unusedVariables false
namespace Ch
open Go Go.Ab
namespace L23
def c0 : Conf := ⟨5, 2, 9, 4, 4, 9, 2⟩
def e0 : Event := ⟨2, 0, 0, 1, 2, 5, 0, 0, 0, 0⟩
def e1 : Event := ⟨1, 0, 0, 0, 0, 5, 0, 0, 0, 0⟩
def ww : World := { newWorld c0 [11, 12, 13] 2 2 with regs := [[4, 5], []], log := [e0, e1] }
def wv : World := { ww with leaks := [⟨5, 0⟩] }
def lit : List Op := [⟨0, 0, 0, 0, 0, [5]⟩]
def bad : List Op := [⟨0, 0, 0, 0, 0, [2147483660]⟩]
theorem k5 : knownM ww 5 = true := by decide +kernel
theorem k6 : knownM ww 6 = false := by decide +kernel
theorem s0 : safeM ww e0 = true := by decide +kernel
theorem sv : safeM wv e0 = false := by decide +kernel
theorem s1 : safeM ww e1 = false := by decide +kernel
theorem oo : ww.log.filter (openE ww) = [e0] := by rfl
theorem ov : wv.log.filter (openE wv) = [] := by rfl
theorem cl : cleanM (pRow ww.draws 0 2) lit = true := by decide +kernel
theorem cb : cleanM (pRow ww.draws 0 2) bad = false := by decide +kernel
theorem rr : ∀ l ∈ ww.regs ++ ww.net.seen, l.length ≤ 1099511627776 := by simp [ww, newWorld]
theorem uu : ∀ e ∈ ww.log, U e.a ∧ U e.b := by simp [ww, e0, e1, U]
theorem awake_spec : Spec PP [] 12 [] (.bool true) [] := by
  have hN := New12_H c0 2 2 (by decide) (by decide) rfl rfl [11, 12, 13]
  simp only [nwV, nwH, nwCells, newPeople, c0, List.map_cons, List.map_nil, List.replicate, z, seval] at hN
  refine Spec.of_runs Go.Proofs.Try.f12 Go.Proofs.Try.func12 rfl ?_
  intro w0 M0
  simp only [Go.Proofs.Try.f12, List.replicate, List.cons_append, List.nil_append, z, seval]
  (refine CH (hN) (h := ?_); simp only [z, seval])
  (refine RUNs_freeze 4 2 ?_ (by rfl) ?_ ?_; rotate_left 1; (simp only [z, seval]; exact rfl); simp only [z, seval])
  (refine RUNs_draw 0 (by kernel_rfl) ?_; simp only [z, seval])
  (refine DU (Known_spec ww 5 (by decide) rr) (h := ?_); simp only [z, seval])
  simp only [k5, z, seval]
  (refine DU (Known_spec ww 6 (by decide) rr) (h := ?_); simp only [z, seval])
  simp only [k6, z, seval]
  (refine DU (Safe_spec ww e0 ⟨by decide, by decide⟩ ⟨by decide, by decide⟩ (by decide) (by decide)) (h := ?_); simp only [z, seval])
  simp only [s0, z, seval]
  (refine DU (Safe_spec wv e0 ⟨by decide, by decide⟩ ⟨by decide, by decide⟩ (by decide) (by decide)) (h := ?_); simp only [z, seval])
  simp only [sv, z, seval]
  (refine DU (Safe_spec ww e1 ⟨by decide, by decide⟩ ⟨by decide, by decide⟩ (by decide) (by decide)) (h := ?_); simp only [z, seval])
  simp only [s1, z, seval]
  (refine DU (Open_spec ww (by decide) (by decide) (by decide) (by decide) rr uu) (h := ?_); simp only [z, seval])
  simp only [oo, List.map_cons, List.map_nil, z, seval]
  (refine DU (Events_same [e0] (by decide)) (h := ?_); simp only [z, seval])
  (refine DU (Open_spec wv (by decide) (by decide) (by decide) (by decide) rr uu) (h := ?_); simp only [z, seval])
  simp only [ov, List.map_cons, List.map_nil, z, seval]
  (refine DU (Clean_spec ww lit 2 rfl (by decide) (by decide) (by decide)) (h := ?_); simp only [z, seval])
  simp only [cl, z, seval]
  (refine DU (Clean_spec ww bad 2 rfl (by decide) (by decide) (by decide)) (h := ?_); simp only [z, seval])
  simp only [cb, z, seval]
  (refine ⟨by kernel_rfl, ?_⟩)
  (refine FINS_done ?_; simp only [z, seval])
end L23
end Ch

/- Of whatever world: whether a word is known, an event safe; what is open; whether a script is clean. -/
set_option maxRecDepth 100000
set_option maxHeartbeats 4000000
set_option linter.unusedSimpArgs false
set_option linter.unusedVariables false
namespace Ch
open Go Go.Ab
theorem of_not {b : Bool} (h : (!b) = false) : b = true := by cases b <;> simp_all
theorem dflt_U (i : Nat) : U (dflt i) := by
  simp only [dflt, U, orI, IntKind.wrap_u32]
  omega
theorem open_eq {w : World} (hR : Right10 w.people = true) (hU : ∀ e ∈ w.log, U e.a ∧ U e.b) : w.log.filter (openE w) = ropenM w := by
  rw [ropenM]
  apply List.filter_congr
  intro e he
  rw [openE, ropenE, rsafe_right hR (hU e he).1 (hU e he).2]
theorem right_of_form {w : World} (h : Form12 w = true) : Right10 w.people = true := by
  simp only [Form12, Bool.and_eq_true] at h
  obtain ⟨⟨⟨⟨⟨⟨⟨⟨⟨⟨⟨⟨⟨_, _⟩, _⟩, _⟩, _⟩, h⟩, _⟩, _⟩, _⟩, _⟩, _⟩, _⟩, _⟩, _⟩ := h
  exact h
theorem next_of_form {w : World} (h : Form12 w = true) : ∃ n : Nat, w.draws.next = n ∧ n ≤ 1048576 := by
  simp only [Form12, Bool.and_eq_true, decide_eq_true_eq] at h
  obtain ⟨⟨⟨⟨⟨⟨⟨⟨⟨⟨⟨⟨⟨_, _⟩, _⟩, _⟩, _⟩, _⟩, _⟩, _⟩, h1⟩, h2⟩, _⟩, _⟩, _⟩, _⟩ := h
  obtain ⟨n, hn⟩ := Int.eq_ofNat_of_zero_le h1
  exact ⟨n, hn, by omega⟩
theorem KnowAsks_spec (w : World) (hw : w.ok) (x : Int) (hx : U x) (e : Event) (he : e.ok) (l : List Op) (hl : LL Op.ok l) : Spec PP [] 4 [w.v, u32 x, e.v, opsV l] (.bool true) [] := by
  have hL := Lim_of_ok hw
  refine Spec.of_runs Go.Proofs.Try.f4 Go.Proofs.Try.func4 rfl ?_
  intro w0 M0
  simp only [Go.Proofs.Try.f4, List.replicate, List.cons_append, List.nil_append, z, seval]
  repeat' (first | (refine CU (L23.awake_spec) (h := ?_); simp only [z, seval]) | (refine CU (Few12_spec w hL) (h := ?_); simp only [z, seval]) | (refine CU (Form12_spec w hL) (h := ?_); simp only [z, seval]) | (refine CU (Few22_spec l hl.1) (h := ?_); simp only [z, seval]) | ((first | refine brk (fun h => ?_) (fun h => ?_) | fail) <;> simp only [z, seval, h]))
  all_goals try ((refine FINS_done ?_; simp only [z, seval]); done)
  have hF : Few12 w = true := of_not (by assumption)
  have hM : Form12 w = true := of_not (by assumption)
  have hS : Few22 l = true := of_not (by assumption)
  have hlim := lim_of_few hF
  have hR := right_of_form hM
  obtain ⟨n, hn, hn2⟩ := next_of_form hM
  have hU : ∀ e ∈ w.log, U e.a ∧ U e.b := fun e he => by
    have := hw.2.2.2.2.2.1.2 e he
    exact ⟨this.2.2.2.1, this.2.2.2.2.1⟩
  have hrows : ∀ l ∈ w.regs ++ w.net.seen, l.length ≤ 1099511627776 := fun l hl => by
    rcases List.mem_append.1 hl with h | h
    · exact hlim.reg l h
    · exact hlim.seens l h
  have hsum : (w.regs ++ w.net.seen).length ≤ 1099511627776 := by
    simp only [Few12, Few06, Bool.and_eq_true, decide_eq_true_eq] at hF
    simp only [List.length_append]; omega
  have hll : l.length ≤ 1099511627776 := by simp only [Few22, Bool.and_eq_true, decide_eq_true_eq] at hS; omega
  have hlw : ∀ o ∈ l, o.words.length ≤ 1099511627776 := fun o ho => by
    simp only [Few22, Bool.and_eq_true, decide_eq_true_eq] at hS
    rw [List.take_of_length_le (by omega), List.all_eq_true] at hS
    have := hS.1 o ho; simp at this; omega
  (refine RUNs_draw 0 (by kernel_rfl) ?_; simp only [z, seval])
  (refine DU (Known_spec w x hsum hrows) (h := ?_); simp only [z, seval])
  (refine DU (rKnown_spec w x hlim.regs hlim.seen hrows) (h := ?_); simp only [z, seval])
  (refine DU (Safe_spec w e he.2.2.2.1 he.2.2.2.2.1 hlim.people hlim.leaks) (h := ?_); simp only [z, seval])
  (refine DU (rSafe_spec w e hlim.people hlim.leaks) (h := ?_); simp only [z, seval])
  simp only [rsafe_right hR he.2.2.2.1 he.2.2.2.2.1, beq_self_eq_true, z, seval]
  (refine DU (Open_spec w hlim.log hlim.people hlim.leaks hsum hrows hU) (h := ?_); simp only [z, seval])
  (refine DU (rOpen_spec w hlim.regs hlim.seen hrows hlim.people hlim.leaks hlim.log) (h := ?_); simp only [z, seval])
  simp only [open_eq hR hU, z, seval]
  (refine DU (Events_same (ropenM w) (Nat.le_trans (List.length_filter_le _ _) hL.log)) (h := ?_); simp only [z, seval])
  have hC := Clean_spec w l n hn (by omega) hll hlw
  have hC2 := rClean_spec w l n hn (by omega) hll hlw
  (refine DU (hC) (h := ?_); simp only [z, seval])
  (refine DU (hC2) (h := ?_); simp only [z, seval])
  simp only [pRow_rRow hw.2.1.1.2 dflt_U, beq_self_eq_true, z, seval]
  (refine ⟨by kernel_rfl, ?_⟩)
  (refine FINS_done ?_; simp only [z, seval])
end Ch

/- What is known stays known, but in registers. -/
set_option maxRecDepth 100000
set_option maxHeartbeats 4000000
set_option linter.unusedSimpArgs false
set_option linter.unusedVariables false
namespace Ch
open Go Go.Ab
def vW (w : World) (l : List Int) : World := { w with net := { w.net with seen := w.net.seen ++ [l] } }
def uW (w : World) (a : List Int) (r : List (List Int)) : World := { w with regs := r ++ [a] }
theorem known_v (w : World) (l : List Int) (x : Int) : knownM (vW w l) x = (knownM w x || decide (x ∈ l)) := by
  simp [knownM, knownL, vW, Bool.or_assoc]
theorem known_u (w : World) (a : List Int) (r : List (List Int)) (h : w.regs = a :: r) (x : Int) : knownM (uW w a r) x = knownM w x := by
  simp only [knownM, knownL, uW, h, List.any_append, List.any_cons, List.any_nil, Bool.or_false]
  cases decide (x ∈ a) <;> simp
theorem open_v (w : World) (l : List Int) : (w.log.filter (openE w)).length ≤ ((vW w l).log.filter (openE (vW w l))).length := by
  rw [← List.countP_eq_length_filter, ← List.countP_eq_length_filter]
  show _ ≤ List.countP _ w.log
  refine List.countP_mono_left fun e _ h => ?_
  simp only [openE, known_v, Bool.and_eq_true, Bool.or_eq_true] at h ⊢
  exact ⟨h.1, .inl h.2⟩
theorem KnowMore_spec (w : World) (hw : w.ok) (l : List Int) (hl : LL U l) (x : Int) (hx : U x) : Spec PP [] 5 [w.v, wordsV l, u32 x] (.bool true) [] := by
  have hL := Lim_of_ok hw
  refine Spec.of_runs Go.Proofs.Try.f5 Go.Proofs.Try.func5 rfl ?_
  intro w0 M0
  simp only [Go.Proofs.Try.f5, List.replicate, List.cons_append, List.nil_append, z, seval]
  repeat' (first | (refine CU (L23.awake_spec) (h := ?_); simp only [z, seval]) | (refine CU (Few12_spec w hL) (h := ?_); simp only [z, seval]) | (refine CU (Form12_spec w hL) (h := ?_); simp only [z, seval]) | ((first | refine brk (fun h => ?_) (fun h => ?_) | fail) <;> simp only [z, seval, h]))
  all_goals try ((refine FINS_done ?_; simp only [z, seval]); done)
  have hF : Few12 w = true := of_not (by assumption)
  have hM : Form12 w = true := of_not (by assumption)
  have hlim := lim_of_few hF
  have hR := right_of_form hM
  have hU : ∀ e ∈ w.log, U e.a ∧ U e.b := fun e he => by
    have := hw.2.2.2.2.2.1.2 e he
    exact ⟨this.2.2.2.1, this.2.2.2.2.1⟩
  have hrows : ∀ l ∈ w.regs ++ w.net.seen, l.length ≤ 1099511627776 := fun l hl => by
    rcases List.mem_append.1 hl with h | h
    · exact hlim.reg l h
    · exact hlim.seens l h
  have hlen : w.regs.length ≤ 10 ∧ w.net.seen.length ≤ 300 := by
    simp only [Few12, Few06, Bool.and_eq_true, decide_eq_true_eq] at hF
    omega
  have hll : l.length ≤ 64 := by have := of_decide_eq_false h; omega
  have hne : 1 ≤ w.regs.length := by
    simp only [Form12, May12, Bool.and_eq_true, decide_eq_true_eq, beq_iff_eq] at hM
    omega
  obtain ⟨a, r, har⟩ : ∃ a r, w.regs = a :: r := by
    cases hr : w.regs with
    | nil => rw [hr] at hne; simp at hne
    | cons a r => exact ⟨a, r, rfl⟩
  refine OPC_ok (okMap _ (fun a => rfl) hlim.seen) ?_
  simp only [z, seval]
  refine OPC_ok (by simp; omega) ?_
  simp only [z, seval]
  (refine RUNs_freeze 2 1 ?_ (by rfl) ?_ ?_; rotate_left 1; (simp only [z, seval]; exact rfl); simp only [z, seval])
  (refine RUNs_draw 1 (by kernel_rfl) ?_; simp only [z, seval])
  have hd : (w.regs.take w.regs.length).drop 1 = r := by rw [List.take_length, har]; rfl
  have h0 : w.regs[0] = a := by simp [har]
  have hr : r.length ≤ 9 := by rw [har] at hlen; simp at hlen; omega
  refine DOC_ok (by simp [slcB, har, lenE', wordsV, V.cells]) ?_
  simp only [hd, h0, getMap wordsV w.regs (show 0 < w.regs.length by omega), z, seval]
  refine DOC_ok (okMap _ (fun a => rfl) (by omega)) ?_
  simp only [hd, h0, getMap wordsV w.regs (show 0 < w.regs.length by omega), z, seval]
  refine DOC_ok (by simp; omega) ?_
  simp only [z, seval]
  (refine ⟨by kernel_rfl, ?_⟩)
  (refine RUNs_freeze 4 1 ?_ (by rfl) ?_ ?_; rotate_left 1; (simp only [z, seval]; exact rfl); simp only [z, seval])
  have e1 : w.net.seen.map wordsV ++ [wordsV l] = ((vW w l).net.seen).map wordsV := by simp [vW]
  have e2 : r.map wordsV ++ [wordsV a] = ((uW w a r).regs).map wordsV := by simp [uW]
  simp only [mv] at e1 e2
  simp only [e1, e2]
  have hv1 : ((vW w l).regs ++ (vW w l).net.seen).length ≤ 1099511627776 := by simp [vW]; omega
  have hu1 : ((uW w a r).regs ++ (uW w a r).net.seen).length ≤ 1099511627776 := by simp [uW]; omega
  have hs1 : (w.regs ++ w.net.seen).length ≤ 1099511627776 := by simp; omega
  have hv2 : ∀ q ∈ (vW w l).regs ++ (vW w l).net.seen, q.length ≤ 1099511627776 := fun q hq => by
    simp only [vW, List.mem_append, List.mem_singleton] at hq
    rcases hq with h | h | rfl
    · exact hlim.reg q h
    · exact hlim.seens q h
    · omega
  have hu2 : ∀ q ∈ (uW w a r).regs ++ (uW w a r).net.seen, q.length ≤ 1099511627776 := fun q hq => by
    simp only [uW, List.mem_append, List.mem_singleton] at hq
    rcases hq with (h | rfl) | h
    · exact hlim.reg q (by rw [har]; simp [h])
    · exact hlim.reg q (by rw [har]; simp)
    · exact hlim.seens q h
  have hkv := Known_spec (vW w l) x hv1 hv2
  have hku := Known_spec (uW w a r) x hu1 hu2
  have hov := Open_spec (vW w l) hlim.log hlim.people hlim.leaks hv1 hv2 hU
  (refine RUNs_draw 0 (by kernel_rfl) ?_; simp only [z, seval])
  (refine DU (hkv) (h := ?_); simp only [z, seval])
  (refine DU (Known_spec w x hs1 hrows) (h := ?_); simp only [z, seval])
  simp only [known_v, z, seval]
  have ho : decide (((w.log.filter (openE w)).length : Int) ≤ (((vW w l).log.filter (openE (vW w l))).length : Int)) = true := by
    have := open_v w l
    simpa using this
  have hou : decide ((((vW w l).log.filter (openE (vW w l))).length : Int) ≥ ((w.log.filter (openE w)).length : Int)) = true := ho
  cases hk : knownM w x with
  | true =>
    simp only [hk, known_u w a r har, Bool.true_or, beq_self_eq_true, z, seval]
    (refine DU (hku) (h := ?_); simp only [z, seval])
    (refine DU (Known_spec w x hs1 hrows) (h := ?_); simp only [z, seval])
    simp only [hk, known_u w a r har, Bool.true_or, beq_self_eq_true, z, seval]
    (refine DU (hov) (h := ?_); simp only [z, seval])
    (refine DU (Open_spec w hlim.log hlim.people hlim.leaks hs1 hrows hU) (h := ?_); simp only [z, seval])
    simp only [hou, z, seval]
    (refine ⟨by kernel_rfl, ?_⟩)
    (refine FINS_done ?_; simp only [z, seval])
  | false =>
    simp only [hk, known_u w a r har, Bool.false_or, z, seval]
    (refine DU (Has_spec l x (by omega)) (h := ?_); simp only [z, seval])
    (refine DU (hku) (h := ?_); simp only [z, seval])
    (refine DU (Known_spec w x hs1 hrows) (h := ?_); simp only [z, seval])
    simp only [hk, known_u w a r har, Bool.true_or, beq_self_eq_true, z, seval]
    (refine DU (hov) (h := ?_); simp only [z, seval])
    (refine DU (Open_spec w hlim.log hlim.people hlim.leaks hs1 hrows hU) (h := ?_); simp only [z, seval])
    simp only [hou, z, seval]
    (refine ⟨by kernel_rfl, ?_⟩)
    (refine FINS_done ?_; simp only [z, seval])
end Ch
