/- Messages: the program's. -/
import Derived.Test.YtmgphjfpccddiaaGreatDoorW7
set_option maxRecDepth 100000
set_option maxHeartbeats 4000000
set_option linter.unusedSimpArgs false
set_option linter.unusedVariables false
namespace Ch
open Go Go.Ab
theorem gLook : List.lookup 0 GG = some [u32 0, u32 56, u32 64, u32 64, u32 64, u32 64, u32 92, u32 220, u32 196, u32 68] := rfl
theorem mpart_spec (kind tag : Int) (hk : 1 ≤ kind ∧ kind ≤ 9) (ht : tag ∈ tags) : Spec PP GG 141 [u32 kind, i64 tag] (.bool (hasM kind tag)) [] := by
  have h1 : kind = 1 ∨ kind = 2 ∨ kind = 3 ∨ kind = 4 ∨ kind = 5 ∨ kind = 6 ∨ kind = 7 ∨ kind = 8 ∨ kind = 9 := by omega
  have h2 : tag = 2 ∨ tag = 3 ∨ tag = 4 ∨ tag = 5 ∨ tag = 6 ∨ tag = 7 := by simpa [tags] using ht
  have h0 : ¬ tag < 0 := by omega
  refine Spec.of_runs Go.Proofs.Tryz.f141 Go.Proofs.Tryz.func141 rfl ?_
  intro w0 M0
  simp only [Go.Proofs.Tryz.f141, List.replicate, List.cons_append, List.nil_append, z, seval]
  rcases h1 with rfl | rfl | rfl | rfl | rfl | rfl | rfl | rfl | rfl
  all_goals
    (refine RUNs_draw 0 (by kernel_rfl) ?_; simp only [z, seval])
    simp only [gLook, if_neg h0, z, seval]
    (refine ⟨by kernel_rfl, ?_⟩)
    (refine FINS_done ?_; simp only [z, seval])
    rcases h2 with rfl | rfl | rfl | rfl | rfl | rfl <;> exact congrArg (fun b => some (V.bool b)) (by decide +kernel)
def okTo (m : Msg) (i : Nat) : Bool := tags.all fun t => decide ((i : Int) ≤ t) || (hasM m.kind t || msgWord m t == 0)
theorem okTo_step {m : Msg} {i : Nat} (h : okTo m i = true) (h2 : hasM m.kind i = true ∨ msgWord m i = 0) : okTo m (i + 1) = true := by
  simp only [okTo, List.all_eq_true, Bool.or_eq_true, decide_eq_true_eq, beq_iff_eq] at h ⊢
  intro t ht
  rcases h t ht with h1 | h1
  · by_cases h3 : (i : Int) = t
    · subst h3; exact .inr h2
    · exact .inl (by omega)
  · exact .inr h1
theorem mMay_spec (m : Msg) (hm : m.ok) : Spec PP GG 157 [m.v] (.bool (msgMay m)) [] := by
  have hk0 := hm.1.1
  by_cases hk : 1 ≤ m.kind ∧ m.kind ≤ 9
  · have hM : msgMay m = tags.all fun t => hasM m.kind t || msgWord m t == 0 := by
      rw [msgMay, decide_eq_true (show m.kind ≥ 1 by omega), decide_eq_true (show m.kind ≤ 9 by omega)]; rfl
    have e1 : decide (m.kind < 1) = false := decide_eq_false (by omega)
    have e2 : decide (m.kind > 9) = false := decide_eq_false (by omega)
    refine Spec.of_runs Go.Proofs.Tryz.f157 Go.Proofs.Tryz.func157 rfl ?_
    intro w0 M0
    simp only [Go.Proofs.Tryz.f157, List.replicate, List.cons_append, List.nil_append, e1, e2, z, seval]
    (refine CALLS_in (fn := Go.Proofs.Tryz.f140) Go.Proofs.Tryz.func140 rfl (by kernel_rfl) ?_; simp only [Go.Proofs.Tryz.f140, List.replicate, List.cons_append, List.nil_append, z, seval])
    (refine RUNs_draw 0 (by kernel_rfl) ?_; simp only [z, seval])
    (refine ⟨by kernel_rfl, ?_⟩)
    refine RUNs_rangeS (8) (fun i (_ : Unit) => okTo m i = true) (fun i _ => [(14, i64 i)]) (fun _ _ => []) () ?_ (by simp only [z, seval]; exact wk) rfl ?_
    · simp [okTo, tags]
    rintro ⟨i, _, hi, hw⟩
    have hcase : i = 0 ∨ i = 1 ∨ i = 2 ∨ i = 3 ∨ i = 4 ∨ i = 5 ∨ i = 6 ∨ i = 7 ∨ i = 8 := by omega
    rcases hcase with rfl | rfl | rfl | rfl | rfl | rfl | rfl | rfl | rfl
    iterate 2
      · simp only [Int.cast_ofNat_Int, z, seval]
        refine NX () (hi := by simp) (hinv := by simp [okTo, tags])
    · simp only [Int.cast_ofNat_Int, z, seval]
      (refine CU (mpart_spec m.kind 2 hk (by decide)) (h := ?_); simp only [z, seval])
      first | refine brk (fun h => ?_) (fun h => ?_) | fail
      · simp only [h, z, seval]
        first | refine brk (fun h => ?_) (fun h => ?_) | fail
        · simp only [h, z, seval]
          refine NX () (hi := by simp) (hinv := okTo_step hw (.inr (by simpa [msgWord] using h)))
        · simp only [h, z, seval]
          (refine FINS_done ?_; simp only [z, seval])
          have : msgMay m = false := by
            rw [hM, List.all_eq_false]
            exact ⟨2, by decide, by simp_all [msgWord]⟩
          rw [this]
      · simp only [h, z, seval]
        refine NX () (hi := by simp) (hinv := okTo_step hw (.inl (by simpa using h)))
    · simp only [Int.cast_ofNat_Int, z, seval]
      (refine CU (mpart_spec m.kind 3 hk (by decide)) (h := ?_); simp only [z, seval])
      first | refine brk (fun h => ?_) (fun h => ?_) | fail
      · simp only [h, z, seval]
        first | refine brk (fun h => ?_) (fun h => ?_) | fail
        · simp only [h, z, seval]
          refine NX () (hi := by simp) (hinv := okTo_step hw (.inr (by simpa [msgWord] using h)))
        · simp only [h, z, seval]
          (refine FINS_done ?_; simp only [z, seval])
          have : msgMay m = false := by
            rw [hM, List.all_eq_false]
            exact ⟨3, by decide, by simp_all [msgWord]⟩
          rw [this]
      · simp only [h, z, seval]
        refine NX () (hi := by simp) (hinv := okTo_step hw (.inl (by simpa using h)))
    · simp only [Int.cast_ofNat_Int, z, seval]
      (refine CU (mpart_spec m.kind 4 hk (by decide)) (h := ?_); simp only [z, seval])
      first | refine brk (fun h => ?_) (fun h => ?_) | fail
      · simp only [h, z, seval]
        first | refine brk (fun h => ?_) (fun h => ?_) | fail
        · simp only [h, z, seval]
          refine NX () (hi := by simp) (hinv := okTo_step hw (.inr (by simpa [msgWord] using h)))
        · simp only [h, z, seval]
          (refine FINS_done ?_; simp only [z, seval])
          have : msgMay m = false := by
            rw [hM, List.all_eq_false]
            exact ⟨4, by decide, by simp_all [msgWord]⟩
          rw [this]
      · simp only [h, z, seval]
        refine NX () (hi := by simp) (hinv := okTo_step hw (.inl (by simpa using h)))
    · simp only [Int.cast_ofNat_Int, z, seval]
      (refine CU (mpart_spec m.kind 5 hk (by decide)) (h := ?_); simp only [z, seval])
      first | refine brk (fun h => ?_) (fun h => ?_) | fail
      · simp only [h, z, seval]
        first | refine brk (fun h => ?_) (fun h => ?_) | fail
        · simp only [h, z, seval]
          refine NX () (hi := by simp) (hinv := okTo_step hw (.inr (by simpa [msgWord] using h)))
        · simp only [h, z, seval]
          (refine FINS_done ?_; simp only [z, seval])
          have : msgMay m = false := by
            rw [hM, List.all_eq_false]
            exact ⟨5, by decide, by simp_all [msgWord]⟩
          rw [this]
      · simp only [h, z, seval]
        refine NX () (hi := by simp) (hinv := okTo_step hw (.inl (by simpa using h)))
    · simp only [Int.cast_ofNat_Int, z, seval]
      (refine CU (mpart_spec m.kind 6 hk (by decide)) (h := ?_); simp only [z, seval])
      first | refine brk (fun h => ?_) (fun h => ?_) | fail
      · simp only [h, z, seval]
        first | refine brk (fun h => ?_) (fun h => ?_) | fail
        · simp only [h, z, seval]
          refine NX () (hi := by simp) (hinv := okTo_step hw (.inr (by simpa [msgWord] using h)))
        · simp only [h, z, seval]
          (refine FINS_done ?_; simp only [z, seval])
          have : msgMay m = false := by
            rw [hM, List.all_eq_false]
            exact ⟨6, by decide, by simp_all [msgWord]⟩
          rw [this]
      · simp only [h, z, seval]
        refine NX () (hi := by simp) (hinv := okTo_step hw (.inl (by simpa using h)))
    · simp only [Int.cast_ofNat_Int, z, seval]
      (refine CU (mpart_spec m.kind 7 hk (by decide)) (h := ?_); simp only [z, seval])
      first | refine brk (fun h => ?_) (fun h => ?_) | fail
      · simp only [h, z, seval]
        first | refine brk (fun h => ?_) (fun h => ?_) | fail
        · simp only [h, z, seval]
          refine NX () (hi := by simp) (hinv := okTo_step hw (.inr (by simpa [msgWord] using h)))
        · simp only [h, z, seval]
          (refine FINS_done ?_; simp only [z, seval])
          have : msgMay m = false := by
            rw [hM, List.all_eq_false]
            exact ⟨7, by decide, by simp_all [msgWord]⟩
          rw [this]
      · simp only [h, z, seval]
        refine NX () (hi := by simp) (hinv := okTo_step hw (.inl (by simpa using h)))
    · simp only [Int.cast_ofNat_Int, z, seval]
      (refine FINS_done ?_; simp only [z, seval])
      have : msgMay m = true := by
        rw [hM]; simpa [okTo, tags] using hw
      rw [this]
  · have hM : msgMay m = false := by
      rw [msgMay]
      rcases Int.lt_or_le m.kind 1 with h | h
      · rw [decide_eq_false (show ¬ m.kind ≥ 1 by omega)]; rfl
      · rw [decide_eq_false (show ¬ m.kind ≤ 9 by omega)]; simp
    rw [hM]
    refine Spec.of_runs Go.Proofs.Tryz.f157 Go.Proofs.Tryz.func157 rfl ?_
    intro w0 M0
    simp only [Go.Proofs.Tryz.f157, List.replicate, List.cons_append, List.nil_append, z, seval]
    repeat' ((first | refine brk (fun h => ?_) (fun h => ?_) | fail) <;> simp only [h, z, seval])
    all_goals first | ((refine FINS_done ?_; simp only [z, seval]); done) | (simp at *; omega)
end Ch

/- Messages, put: the program's. -/
set_option maxRecDepth 100000
set_option maxHeartbeats 4000000
set_option linter.unusedSimpArgs false
set_option linter.unusedVariables false
namespace Ch
open Go Go.Ab
def fieldsOf (m : Msg) : List Field := ⟨1, [m.kind]⟩ :: tags.flatMap fun t => bif hasM m.kind t then [⟨t, [msgWord m t]⟩] else []
theorem wire_fields (m : Msg) (hk : 1 ≤ m.kind ∧ m.kind ≤ 9) : wirePut (fieldsOf m) = (msgWs m, 0) := by
  obtain ⟨kind, run, a, b, nonce, box, more⟩ := m
  have h1 : kind = 1 ∨ kind = 2 ∨ kind = 3 ∨ kind = 4 ∨ kind = 5 ∨ kind = 6 ∨ kind = 7 ∨ kind = 8 ∨ kind = 9 := by simp only at hk; omega
  rcases h1 with rfl | rfl | rfl | rfl | rfl | rfl | rfl | rfl | rfl <;> rfl
theorem fields_len (m : Msg) : (fieldsOf m).length ≤ 1000000 := by
  simp only [fieldsOf, tags, List.flatMap_cons, List.flatMap_nil, List.length_cons, List.length_append, List.length_nil]
  have : ∀ (c : Bool) (x : Field), (bif c then [x] else []).length ≤ 1 := by intro c x; cases c <;> simp
  have h2 := this (hasM m.kind 2) ⟨2, [msgWord m 2]⟩
  have h3 := this (hasM m.kind 3) ⟨3, [msgWord m 3]⟩
  have h4 := this (hasM m.kind 4) ⟨4, [msgWord m 4]⟩
  have h5 := this (hasM m.kind 5) ⟨5, [msgWord m 5]⟩
  have h6 := this (hasM m.kind 6) ⟨6, [msgWord m 6]⟩
  have h7 := this (hasM m.kind 7) ⟨7, [msgWord m 7]⟩
  omega
theorem may_kind {m : Msg} (h : msgMay m = true) : 1 ≤ m.kind ∧ m.kind ≤ 9 := by
  simp only [msgMay, Bool.and_eq_true, decide_eq_true_eq] at h; exact ⟨h.1, h.2.1⟩
theorem mPut_spec (m : Msg) (hm : m.ok) : Spec PP GG 121 [m.v] (.tup [wordsV (msgPut m).1, i64 (msgPut m).2]) [] := by
  refine Spec.of_runs Go.Proofs.Tryz.f121 Go.Proofs.Tryz.func121 rfl ?_
  intro w0 M0
  simp only [Go.Proofs.Tryz.f121, List.replicate, List.cons_append, List.nil_append, z, seval]
  (refine CU (mMay_spec m hm) (h := ?_); simp only [z, seval])
  first | refine brk (fun h => ?_) (fun h => ?_) | fail
  · have hmay := h
    have hk := may_kind hmay
    simp only [h, z, seval]
    (refine CU (One_spec 1 [m.kind] (by simp)) (h := ?_); simp only [z, seval])
    (refine CALLS_in (fn := Go.Proofs.Tryz.f140) Go.Proofs.Tryz.func140 rfl (by kernel_rfl) ?_; simp only [Go.Proofs.Tryz.f140, List.replicate, List.cons_append, List.nil_append, z, seval])
    (refine RUNs_draw 0 (by kernel_rfl) ?_; simp only [z, seval])
    (refine ⟨by kernel_rfl, ?_⟩)
    rw [msgPut, hmay]
    clear h hmay hm
    obtain ⟨kind, run, a, b, nonce, box, more⟩ := m
    have h1 : kind = 1 ∨ kind = 2 ∨ kind = 3 ∨ kind = 4 ∨ kind = 5 ∨ kind = 6 ∨ kind = 7 ∨ kind = 8 ∨ kind = 9 := by simp only at hk; omega
    simp only at hk ⊢
    have hl9 := fields_len ⟨kind, run, a, b, nonce, box, more⟩
    rcases h1 with rfl | rfl | rfl | rfl | rfl | rfl | rfl | rfl | rfl
    all_goals
      (refine RUNs_unroll 9 ?_; simp only [z, seval])
      (refine RUNs_unr ?_; simp only [z, seval])
      (refine RUNs_unr ?_; simp only [z, seval])
      (refine CU (mpart_spec _ 2 hk (by decide)) (h := ?_); simp only [z, seval])
      simp only [hasM, Int.reduceBEq, Bool.or_false, Bool.false_or, Bool.or_true, Bool.true_or, z, seval]
      try ((refine CU (One_spec 2 [run] (by simp)) (h := ?_); simp only [z, seval]))
      (refine RUNs_unr ?_; simp only [z, seval])
      (refine CU (mpart_spec _ 3 hk (by decide)) (h := ?_); simp only [z, seval])
      simp only [hasM, Int.reduceBEq, Bool.or_false, Bool.false_or, Bool.or_true, Bool.true_or, z, seval]
      try ((refine CU (One_spec 3 [a] (by simp)) (h := ?_); simp only [z, seval]))
      (refine RUNs_unr ?_; simp only [z, seval])
      (refine CU (mpart_spec _ 4 hk (by decide)) (h := ?_); simp only [z, seval])
      simp only [hasM, Int.reduceBEq, Bool.or_false, Bool.false_or, Bool.or_true, Bool.true_or, z, seval]
      try ((refine CU (One_spec 4 [b] (by simp)) (h := ?_); simp only [z, seval]))
      (refine RUNs_unr ?_; simp only [z, seval])
      (refine CU (mpart_spec _ 5 hk (by decide)) (h := ?_); simp only [z, seval])
      simp only [hasM, Int.reduceBEq, Bool.or_false, Bool.false_or, Bool.or_true, Bool.true_or, z, seval]
      try ((refine CU (One_spec 5 [nonce] (by simp)) (h := ?_); simp only [z, seval]))
      (refine RUNs_unr ?_; simp only [z, seval])
      (refine CU (mpart_spec _ 6 hk (by decide)) (h := ?_); simp only [z, seval])
      simp only [hasM, Int.reduceBEq, Bool.or_false, Bool.false_or, Bool.or_true, Bool.true_or, z, seval]
      try ((refine CU (One_spec 6 [box] (by simp)) (h := ?_); simp only [z, seval]))
      (refine RUNs_unr ?_; simp only [z, seval])
      (refine CU (mpart_spec _ 7 hk (by decide)) (h := ?_); simp only [z, seval])
      simp only [hasM, Int.reduceBEq, Bool.or_false, Bool.false_or, Bool.or_true, Bool.true_or, z, seval]
      try ((refine CU (One_spec 7 [more] (by simp)) (h := ?_); simp only [z, seval]))
      (refine RUNs_unr ?_; simp only [z, seval])
      (refine CU (wPut_spec _ hl9) (h := ?_); simp only [z, seval])
      rw [wire_fields _ hk]
      (refine FINS_done ?_; simp only [z, seval])
  · simp only [h, z, seval]
    (refine FINS_done ?_; simp only [z, seval])
    rw [msgPut, h]; rfl
end Ch

/- Words searched, and what is known. -/
set_option maxRecDepth 100000
set_option maxHeartbeats 4000000
set_option linter.unusedSimpArgs false
set_option linter.unusedVariables false
namespace Ch
open Go Go.Ab
def idxM (l : List Int) (w : Int) : Int := if w ∈ l then (l.idxOf w : Int) else -1
theorem idxM_at {l : List Int} {w : Int} {i : Nat} (hi : i < l.length) (h : w ∉ l.take i) (hw : l[i] = w) : idxM l w = i := by
  have hm : w ∈ l := hw ▸ List.getElem_mem hi
  have e : l.idxOf w = i := by
    have : (l.take i ++ l.drop i).idxOf w = i := by
      rw [List.idxOf_append, if_neg h, List.drop_eq_getElem_cons hi, hw, List.idxOf_cons_self]
      simp; omega
    rwa [List.take_append_drop] at this
  simp [idxM, hm, e]
theorem Index_spec (l : List Int) (w : Int) (hl : l.length ≤ 1099511627776) : Spec PP GG 193 [wordsV l, u32 w] (i64 (idxM l w)) [] := by
  refine Spec.of_runs Go.Proofs.Tryz.f193 Go.Proofs.Tryz.func193 rfl ?_
  intro w0 M0
  simp only [Go.Proofs.Tryz.f193, List.replicate, List.cons_append, List.nil_append, wordsV, z, seval]
  refine RUNs_range l.length (fun i (_ : Unit) => w ∉ l.take i) (fun i _ => ([.sl (l.map u32) .plain, u32 w, .any, .any, i64 0, .any, .sl (l.map u32) .plain, i64 l.length, i64 i, .any, .any, .any, .any, .any, .any, .any, .any, .any, .any], [])) () (by simp) wk rfl ?_
  rintro ⟨i, _, hi, hw⟩
  simp only [z, seval]
  refine CONDS_split (fun h => ?_) (fun h => ?_)
  · have hlt : i < l.length := by simpa using h
    simp only [z, seval, getMap u32 l hlt]
    refine CONDS_split (fun h => ?_) (fun h => ?_)
    · simp only [z, seval]
      (refine FINS_done ?_; simp only [z, seval])
      rw [idxM_at hlt hw (by simp at h; exact h.symm)]
    · simp only [z, seval, w64s (i := i) (by omega)]
      refine NX () (hi := hlt) (hinv := ?_)
      have h' : w ≠ l[i] := by simpa using h
      simp only [List.take_succ_eq_append_getElem hlt, List.mem_append, List.mem_singleton]
      rintro (h1 | h1)
      · exact hw h1
      · exact h' h1
  · simp only [z, seval]
    (refine FINS_done ?_; simp only [z, seval])
    have : i = l.length := by simp at h; omega
    subst this
    simp at hw; simp [idxM, hw]
theorem Contains_spec (l : List Int) (w : Int) (hl : l.length ≤ 1099511627776) : Spec PP GG 150 [wordsV l, u32 w] (.bool (decide (w ∈ l))) [] := by
  refine Spec.of_runs Go.Proofs.Tryz.f150 Go.Proofs.Tryz.func150 rfl ?_
  intro w0 M0
  simp only [Go.Proofs.Tryz.f150, List.replicate, List.cons_append, List.nil_append, z, seval]
  (refine CU (Index_spec l w hl) (h := ?_); simp only [z, seval])
  (refine FINS_done ?_; simp only [z, seval])
  by_cases h : w ∈ l <;> simp [idxM, h]
end Ch

/- Draws, as the program makes them. -/
set_option maxRecDepth 100000
set_option maxHeartbeats 4000000
set_option linter.unusedSimpArgs false
set_option linter.unusedVariables false
namespace Ch
open Go Go.Ab
theorem nat_or_top {n : Nat} (h : n < 4294967296) : n ||| 2147483648 = if n < 2147483648 then n + 2147483648 else n := by
  have key : ∀ r, r < 2147483648 → 2147483648 ||| r = 2147483648 + r := fun r hr => by
    have := Nat.two_pow_add_eq_or_of_lt (i := 31) (b := r) (by simpa using hr) 1
    simpa using this.symm
  split
  · rename_i h1
    rw [Nat.or_comm, key n h1]; omega
  · rename_i h1
    have e : n = 2147483648 ||| (n - 2147483648) := by rw [key _ (by omega)]; omega
    rw [e, Nat.or_comm, ← Nat.or_assoc, Nat.or_self]
theorem orI_top {x : Int} (h : U x) : orI .u32 x 2147483648 = if x < 2147483648 then IntKind.u32.wrap (x + 2147483648) else x := by
  obtain ⟨n, rfl⟩ := Int.eq_ofNat_of_zero_le h.1
  have hn : n < 4294967296 := by have := h.2; omega
  simp only [orI]
  have e1 : (BitVec.ofInt IntKind.u32.bits (n : Int) ||| BitVec.ofInt IntKind.u32.bits 2147483648).toNat = n ||| 2147483648 := by
    show (BitVec.ofInt 32 (n : Int) ||| BitVec.ofInt 32 ((2147483648 : Nat) : Int)).toNat = _
    rw [BitVec.ofInt_natCast, BitVec.ofInt_natCast, BitVec.toNat_or, BitVec.toNat_ofNat, BitVec.toNat_ofNat, Nat.mod_eq_of_lt hn]
  rw [e1, nat_or_top hn]
  by_cases hc : n < 2147483648
  · rw [if_pos hc, if_pos (by omega)]; rfl
  · rw [if_neg hc, if_neg (by omega), IntKind.wrap_u32]; omega
theorem Draw_spec (x : Int) : Spec PP GG 194 [u32 x] (u32 (orI .u32 x 2147483648)) [] := by
  refine Spec.of_runs Go.Proofs.Tryz.f194 Go.Proofs.Tryz.func194 rfl ?_
  intro w0 M0
  simp only [Go.Proofs.Tryz.f194, List.replicate, List.cons_append, List.nil_append, z, seval]
  (refine FINS_done ?_; simp only [z, seval])
theorem drawAt_or {l : List Int} (hl : ∀ x ∈ l, U x) {i : Nat} (hd : U (dflt i)) : drawAt l i = orI .u32 ((l[i]?).getD (dflt i)) 2147483648 := by
  cases h : l[i]? with
  | none => simp only [drawAt, h, Option.getD_none]; rw [orI_top hd]
  | some x => simp only [drawAt, h, Option.getD_some]; rw [orI_top (hl x (List.mem_of_getElem? h))]
theorem at_spec (d : Draws) (i : Nat) : Spec PP GG 153 [d.v, i64 i] (u32 (orI .u32 ((d.list[i]?).getD (dflt i)) 2147483648)) [] := by
  refine Spec.of_runs Go.Proofs.Tryz.f153 Go.Proofs.Tryz.func153 rfl ?_
  intro w0 M0
  simp only [Go.Proofs.Tryz.f153, List.replicate, List.cons_append, List.nil_append, Draws.v, z, seval]
  first | refine brk (fun h => ?_) (fun h => ?_) | fail
  · have hlt : i < d.list.length := by simpa using h
    simp only [z, seval, h, getMap u32 d.list hlt]
    (refine CU (Draw_spec d.list[i]) (h := ?_); simp only [z, seval])
    (refine FINS_done ?_; simp only [z, seval])
    simp [hlt]
  · have hnl : d.list[i]? = none := by simp at h ⊢; omega
    simp only [z, seval, h]
    (refine CU (Draw_spec (dflt i)) (h := ?_); simp only [z, seval])
    (refine FINS_done ?_; simp only [z, seval])
    rw [hnl]; rfl
theorem dflt_U (i : Nat) : U (dflt i) := by
  simp only [dflt, U, orI, IntKind.wrap_u32]
  omega
theorem at_specU (d : Draws) (hl : ∀ x ∈ d.list, U x) (i : Nat) : Spec PP GG 153 [d.v, i64 i] (u32 (drawAt d.list i)) [] := by
  rw [drawAt_or hl (dflt_U i)]; exact at_spec d i
end Ch

/- Boxes, nets, what was used, people, draws: the program's. -/
set_option maxRecDepth 100000
set_option maxHeartbeats 4000000
set_option linter.unusedSimpArgs false
set_option linter.unusedVariables false
namespace Go.Proofs
open Go.Shelf
def Tryz.growSealed_ren : Go.Shelf.Ren := ⟨fun | 4 => 195 | n => n, fun | 0 => 0 | 3 => 3 | 4 => 4 | 9 => 9 | 20 => 20 | 22 => 28 | 25 => 120 | n => n, fun n => n⟩
theorem Tryz.growSealed : Lays8.n4 Tryz.prog Tryz.growSealed_ren where
  mixed := by kernel_rfl
  f4 := ⟨Tryz.f195.name, of_decide_eq_true (by kernel_rfl), Tryz.func195.trans (congrArg some (by kernel_rfl))⟩
  t0 := Tryz.underlying0
  a0 := Tryz.isAgg0
  z0 := Tryz.sizeOf0
  v0 := Tryz.zeroValue0
  t3 := Tryz.underlying3
  a3 := Tryz.isAgg3
  z3 := Tryz.sizeOf3
  v3 := Tryz.zeroValue3
  t4 := Tryz.underlying4
  a4 := Tryz.isAgg4
  z4 := Tryz.sizeOf4
  v4 := Tryz.zeroValue4
  t9 := Tryz.underlying9
  a9 := Tryz.isAgg9
  z9 := Tryz.sizeOf9
  v9 := Tryz.zeroValue9
  t20 := Tryz.underlying20
  a20 := Tryz.isAgg20
  z20 := Tryz.sizeOf20
  v20 := Tryz.zeroValue20
  t22 := Tryz.underlying28
  a22 := Tryz.isAgg28
  z22 := Tryz.sizeOf28
  v22 := Tryz.zeroValue28
end Go.Proofs
theorem Ch.GrowSealed_spec (n : Nat) (hn : n ≤ 1099511627776) : Go.Ab.Spec Go.Ab.PP Ch.GG 195 [.sl [] .nil, Ch.i64 n] (.row 0 0) [.row 4 [] 0 false] :=
  Go.Ab.Grow_nil' Go.Proofs.Tryz.growSealed Ch.GG 28 rfl Go.Ab.ty28 rfl Go.Ab.ty120 rfl (by decide) (by decide) n hn
namespace Go.Proofs
open Go.Shelf
def Tryz.growW_ren : Go.Shelf.Ren := ⟨fun | 4 => 155 | n => n, fun | 0 => 0 | 3 => 3 | 4 => 4 | 9 => 9 | 20 => 20 | 22 => 25 | 25 => 22 | n => n, fun n => n⟩
theorem Tryz.growW : Lays8.n4 Tryz.prog Tryz.growW_ren where
  mixed := by kernel_rfl
  f4 := ⟨Tryz.f155.name, of_decide_eq_true (by kernel_rfl), Tryz.func155.trans (congrArg some (by kernel_rfl))⟩
  t0 := Tryz.underlying0
  a0 := Tryz.isAgg0
  z0 := Tryz.sizeOf0
  v0 := Tryz.zeroValue0
  t3 := Tryz.underlying3
  a3 := Tryz.isAgg3
  z3 := Tryz.sizeOf3
  v3 := Tryz.zeroValue3
  t4 := Tryz.underlying4
  a4 := Tryz.isAgg4
  z4 := Tryz.sizeOf4
  v4 := Tryz.zeroValue4
  t9 := Tryz.underlying9
  a9 := Tryz.isAgg9
  z9 := Tryz.sizeOf9
  v9 := Tryz.zeroValue9
  t20 := Tryz.underlying20
  a20 := Tryz.isAgg20
  z20 := Tryz.sizeOf20
  v20 := Tryz.zeroValue20
  t22 := Tryz.underlying25
  a22 := Tryz.isAgg25
  z22 := Tryz.sizeOf25
  v22 := Tryz.zeroValue25
end Go.Proofs
theorem Ch.GrowW_spec (n : Nat) (hn : n ≤ 1099511627776) : Go.Ab.Spec Go.Ab.PP Ch.GG 155 [.sl [] .nil, Ch.i64 n] (.row 0 0) [.row 1 [] 0 false] :=
  Go.Ab.Grow_nil' Go.Proofs.Tryz.growW Ch.GG 25 rfl Go.Ab.ty25 rfl Go.Ab.ty22 rfl (by decide) (by decide) n hn
namespace Go.Proofs
open Go.Shelf
def Tryz.growEvent_ren : Go.Shelf.Ren := ⟨fun | 4 => 163 | n => n, fun | 0 => 0 | 3 => 3 | 4 => 4 | 9 => 9 | 20 => 20 | 22 => 36 | 25 => 61 | n => n, fun n => n⟩
theorem Tryz.growEvent : Lays8.n4 Tryz.prog Tryz.growEvent_ren where
  mixed := by kernel_rfl
  f4 := ⟨Tryz.f163.name, of_decide_eq_true (by kernel_rfl), Tryz.func163.trans (congrArg some (by kernel_rfl))⟩
  t0 := Tryz.underlying0
  a0 := Tryz.isAgg0
  z0 := Tryz.sizeOf0
  v0 := Tryz.zeroValue0
  t3 := Tryz.underlying3
  a3 := Tryz.isAgg3
  z3 := Tryz.sizeOf3
  v3 := Tryz.zeroValue3
  t4 := Tryz.underlying4
  a4 := Tryz.isAgg4
  z4 := Tryz.sizeOf4
  v4 := Tryz.zeroValue4
  t9 := Tryz.underlying9
  a9 := Tryz.isAgg9
  z9 := Tryz.sizeOf9
  v9 := Tryz.zeroValue9
  t20 := Tryz.underlying20
  a20 := Tryz.isAgg20
  z20 := Tryz.sizeOf20
  v20 := Tryz.zeroValue20
  t22 := Tryz.underlying36
  a22 := Tryz.isAgg36
  z22 := Tryz.sizeOf36
  v22 := Tryz.zeroValue36
end Go.Proofs
theorem Ch.GrowEvent_spec (n : Nat) (hn : n ≤ 1099511627776) : Go.Ab.Spec Go.Ab.PP Ch.GG 163 [.sl [] .nil, Ch.i64 n] (.row 0 0) [.row 10 [] 0 false] :=
  Go.Ab.Grow_nil' Go.Proofs.Tryz.growEvent Ch.GG 36 rfl Go.Ab.ty36 rfl Go.Ab.ty61 rfl (by decide) (by decide) n hn
namespace Go.Proofs
open Go.Shelf
def Tryz.growR_ren : Go.Shelf.Ren := ⟨fun | 4 => 197 | n => n, fun | 0 => 0 | 3 => 3 | 4 => 4 | 9 => 9 | 20 => 20 | 22 => 32 | 25 => 25 | n => n, fun n => n⟩
theorem Tryz.growR : Lays8.n4 Tryz.prog Tryz.growR_ren where
  mixed := by kernel_rfl
  f4 := ⟨Tryz.f197.name, of_decide_eq_true (by kernel_rfl), Tryz.func197.trans (congrArg some (by kernel_rfl))⟩
  t0 := Tryz.underlying0
  a0 := Tryz.isAgg0
  z0 := Tryz.sizeOf0
  v0 := Tryz.zeroValue0
  t3 := Tryz.underlying3
  a3 := Tryz.isAgg3
  z3 := Tryz.sizeOf3
  v3 := Tryz.zeroValue3
  t4 := Tryz.underlying4
  a4 := Tryz.isAgg4
  z4 := Tryz.sizeOf4
  v4 := Tryz.zeroValue4
  t9 := Tryz.underlying9
  a9 := Tryz.isAgg9
  z9 := Tryz.sizeOf9
  v9 := Tryz.zeroValue9
  t20 := Tryz.underlying20
  a20 := Tryz.isAgg20
  z20 := Tryz.sizeOf20
  v20 := Tryz.zeroValue20
  t22 := Tryz.underlying32
  a22 := Tryz.isAgg32
  z22 := Tryz.sizeOf32
  v22 := Tryz.zeroValue32
end Go.Proofs
theorem Ch.GrowR_spec (n : Nat) (hn : n ≤ 1099511627776) : Go.Ab.Spec Go.Ab.PP Ch.GG 197 [.sl [] .nil, Ch.i64 n] (.row 0 0) [.row 1 [] 0 false] :=
  Go.Ab.Grow_nil' Go.Proofs.Tryz.growR Ch.GG 32 rfl Go.Ab.ty32 rfl Go.Ab.ty25 rfl (by decide) (by decide) n hn
namespace Ch
open Go Go.Ab
theorem flat_succ {α : Type} {L : List (List α)} {i : Nat} (h : i < L.length) : (L.take (i + 1)).flatten = (L.take i).flatten ++ L[i] := by
  rw [List.take_succ_eq_append_getElem h, List.flatten_append]; simp
theorem flat_le {α : Type} (L : List (List α)) (i : Nat) : (L.take i).flatten.length ≤ L.flatten.length := by
  have : L.flatten = (L.take i).flatten ++ (L.drop i).flatten := by rw [← List.flatten_append, List.take_append_drop]
  rw [this]; simp
theorem getH_snoc (J : List AB) (x : AB) : getH (J ++ [x]) J.length = x := by
  induction J with
  | nil => rfl
  | cons a J ih => exact ih
theorem ConcatSealed_spec (L : List (List Sld)) (hl : L.flatten.length ≤ 1099511627776) (hL : L.length ≤ 1099511627776) : Spec PP GG 154 [.sl (L.map fun l => .sl (l.map Sld.v) .plain) .plain] (.sl (L.flatten.map Sld.v) .plain) [] := by
  refine Spec.of_runs Go.Proofs.Tryz.f154 Go.Proofs.Tryz.func154 rfl ?_
  intro w0 M0
  simp only [Go.Proofs.Tryz.f154, List.replicate, List.cons_append, List.nil_append, z, seval]
  refine RUNs_rangeS (L.length) (fun _ (_ : Unit) => True) (fun i _ => [(3, i64 (L.take i).flatten.length), (11, i64 i)]) (fun _ _ => []) () ?_ (by simp only [z, seval]; exact wk) rfl ?_
  · trivial
  rintro ⟨i, _, hi, -⟩
  simp only [z, seval]
  refine CONDS_split (fun h => ?_) (fun h => ?_)
  · have hlt : i < L.length := by simpa using h
    have hs := flat_succ hlt
    have hf := flat_le L (i + 1)
    have hk : IntKind.i64.wrap (((L.take i).flatten.length : Int) + (L[i].length : Int)) = ((L.take (i + 1)).flatten.length : Nat) := by
      rw [hs] at hf ⊢
      rw [List.length_append] at hf ⊢
      rw [w64 (by omega) (by omega)]; omega
    simp only [z, seval, getMap (fun l : List Sld => V.sl (l.map Sld.v) .plain) L hlt, hk]
    refine CONDS_split (fun h => ?_) (fun h => ?_)
    · exact absurd h (by simp)
    · simp only [z, seval, w64s (i := i) (by omega)]
      refine NX () (hi := hlt) (hinv := ?_)
      trivial
  · obtain rfl : i = L.length := by simp at h; omega
    rw [List.take_length]
    simp only [z, seval]
    (refine CALLS_specP' (by kernel_rfl) (GrowSealed_spec L.flatten.length hl) (by rfl) (by rfl) ?_; simp only [z, seval])
    refine RUNs_rangeS (L.length) (fun _ (_ : Unit) => True) (fun i _ => [(6, .row 0 i), (27, i64 i)]) (fun i _ => [(0, .row 4 ((L.take i).flatten.map Sld.v) i false)]) () ?_ (by simp only [z, seval]; exact wk) rfl ?_
    · trivial
    rintro ⟨i, _, hi, -⟩
    simp only [z, seval]
    refine CONDS_split (fun h => ?_) (fun h => ?_)
    · have hlt : i < L.length := by simpa using h
      simp only [z, seval, getMap (fun l : List Sld => V.sl (l.map Sld.v) .plain) L hlt]
      have hs := flat_succ hlt
      have hf := flat_le L (i + 1)
      rw [hs, List.length_append] at hf
      refine OPC_ok (by simp only [Bool.and_eq_true, List.all_eq_true, decide_eq_true_eq]; exact ⟨fun x hx => by obtain ⟨y, _, rfl⟩ := List.mem_map.1 hx; rfl, by first | omega | (simp only [List.length_map]; omega)⟩) ?_
      rw [← List.map_append, ← hs]
      simp only [z, seval, w64s (i := i) (by omega)]
      refine NX () (hi := hlt) (hinv := ?_)
      trivial
    · simp only [z, seval]
      obtain rfl : i = L.length := by simp at h; omega
      rw [List.take_length]
      (refine FINS_done ?_; simp only [z, seval])
theorem ConcatSealed_2 (A B : List Sld) (hl : A.length + B.length ≤ 1099511627776) : Spec PP GG 154 [.sl [.sl (A.map Sld.v) .plain, .sl (B.map Sld.v) .plain] .plain] (.sl ((A ++ B).map Sld.v) .plain) [] := by
  have := ConcatSealed_spec [A, B] (by simpa using hl) (by simp)
  simpa using this
theorem ConcatW_spec (L : List (List Int)) (hl : L.flatten.length ≤ 1099511627776) (hL : L.length ≤ 1099511627776) : Spec PP GG 118 [.sl (L.map fun l => .sl (l.map u32) .plain) .plain] (.sl (L.flatten.map u32) .plain) [] := by
  refine Spec.of_runs Go.Proofs.Tryz.f118 Go.Proofs.Tryz.func118 rfl ?_
  intro w0 M0
  simp only [Go.Proofs.Tryz.f118, List.replicate, List.cons_append, List.nil_append, z, seval]
  refine RUNs_rangeS (L.length) (fun _ (_ : Unit) => True) (fun i _ => [(3, i64 (L.take i).flatten.length), (11, i64 i)]) (fun _ _ => []) () ?_ (by simp only [z, seval]; exact wk) rfl ?_
  · trivial
  rintro ⟨i, _, hi, -⟩
  simp only [z, seval]
  refine CONDS_split (fun h => ?_) (fun h => ?_)
  · have hlt : i < L.length := by simpa using h
    have hs := flat_succ hlt
    have hf := flat_le L (i + 1)
    have hk : IntKind.i64.wrap (((L.take i).flatten.length : Int) + (L[i].length : Int)) = ((L.take (i + 1)).flatten.length : Nat) := by
      rw [hs] at hf ⊢
      rw [List.length_append] at hf ⊢
      rw [w64 (by omega) (by omega)]; omega
    simp only [z, seval, getMap (fun l : List Int => V.sl (l.map u32) .plain) L hlt, hk]
    refine CONDS_split (fun h => ?_) (fun h => ?_)
    · exact absurd h (by simp)
    · simp only [z, seval, w64s (i := i) (by omega)]
      refine NX () (hi := hlt) (hinv := ?_)
      trivial
  · obtain rfl : i = L.length := by simp at h; omega
    rw [List.take_length]
    simp only [z, seval]
    (refine CALLS_specP' (by kernel_rfl) (GrowW_spec L.flatten.length hl) (by rfl) (by rfl) ?_; simp only [z, seval])
    refine RUNs_rangeS (L.length) (fun _ (_ : Unit) => True) (fun i _ => [(6, .row 0 i), (27, i64 i)]) (fun i _ => [(0, .row 1 ((L.take i).flatten.map u32) i false)]) () ?_ (by simp only [z, seval]; exact wk) rfl ?_
    · trivial
    rintro ⟨i, _, hi, -⟩
    simp only [z, seval]
    refine CONDS_split (fun h => ?_) (fun h => ?_)
    · have hlt : i < L.length := by simpa using h
      simp only [z, seval, getMap (fun l : List Int => V.sl (l.map u32) .plain) L hlt]
      have hs := flat_succ hlt
      have hf := flat_le L (i + 1)
      rw [hs, List.length_append] at hf
      refine OPC_ok (by simp only [Bool.and_eq_true, List.all_eq_true, decide_eq_true_eq]; exact ⟨fun x hx => by obtain ⟨y, _, rfl⟩ := List.mem_map.1 hx; rfl, by first | omega | (simp only [List.length_map]; omega)⟩) ?_
      rw [← List.map_append, ← hs]
      simp only [z, seval, w64s (i := i) (by omega)]
      refine NX () (hi := hlt) (hinv := ?_)
      trivial
    · simp only [z, seval]
      obtain rfl : i = L.length := by simp at h; omega
      rw [List.take_length]
      (refine FINS_done ?_; simp only [z, seval])
theorem ConcatW_2 (A B : List Int) (hl : A.length + B.length ≤ 1099511627776) : Spec PP GG 118 [.sl [.sl (A.map u32) .plain, .sl (B.map u32) .plain] .plain] (.sl ((A ++ B).map u32) .plain) [] := by
  have := ConcatW_spec [A, B] (by simpa using hl) (by simp)
  simpa using this
theorem ConcatEvent_spec (L : List (List Event)) (hl : L.flatten.length ≤ 1099511627776) (hL : L.length ≤ 1099511627776) : Spec PP GG 136 [.sl (L.map fun l => .sl (l.map Event.v) .plain) .plain] (.sl (L.flatten.map Event.v) .plain) [] := by
  refine Spec.of_runs Go.Proofs.Tryz.f136 Go.Proofs.Tryz.func136 rfl ?_
  intro w0 M0
  simp only [Go.Proofs.Tryz.f136, List.replicate, List.cons_append, List.nil_append, z, seval]
  refine RUNs_rangeS (L.length) (fun _ (_ : Unit) => True) (fun i _ => [(3, i64 (L.take i).flatten.length), (11, i64 i)]) (fun _ _ => []) () ?_ (by simp only [z, seval]; exact wk) rfl ?_
  · trivial
  rintro ⟨i, _, hi, -⟩
  simp only [z, seval]
  refine CONDS_split (fun h => ?_) (fun h => ?_)
  · have hlt : i < L.length := by simpa using h
    have hs := flat_succ hlt
    have hf := flat_le L (i + 1)
    have hk : IntKind.i64.wrap (((L.take i).flatten.length : Int) + (L[i].length : Int)) = ((L.take (i + 1)).flatten.length : Nat) := by
      rw [hs] at hf ⊢
      rw [List.length_append] at hf ⊢
      rw [w64 (by omega) (by omega)]; omega
    simp only [z, seval, getMap (fun l : List Event => V.sl (l.map Event.v) .plain) L hlt, hk]
    refine CONDS_split (fun h => ?_) (fun h => ?_)
    · exact absurd h (by simp)
    · simp only [z, seval, w64s (i := i) (by omega)]
      refine NX () (hi := hlt) (hinv := ?_)
      trivial
  · obtain rfl : i = L.length := by simp at h; omega
    rw [List.take_length]
    simp only [z, seval]
    (refine CALLS_specP' (by kernel_rfl) (GrowEvent_spec L.flatten.length hl) (by rfl) (by rfl) ?_; simp only [z, seval])
    refine RUNs_rangeS (L.length) (fun _ (_ : Unit) => True) (fun i _ => [(6, .row 0 i), (27, i64 i)]) (fun i _ => [(0, .row 10 ((L.take i).flatten.map Event.v) i false)]) () ?_ (by simp only [z, seval]; exact wk) rfl ?_
    · trivial
    rintro ⟨i, _, hi, -⟩
    simp only [z, seval]
    refine CONDS_split (fun h => ?_) (fun h => ?_)
    · have hlt : i < L.length := by simpa using h
      simp only [z, seval, getMap (fun l : List Event => V.sl (l.map Event.v) .plain) L hlt]
      have hs := flat_succ hlt
      have hf := flat_le L (i + 1)
      rw [hs, List.length_append] at hf
      refine OPC_ok (by simp only [Bool.and_eq_true, List.all_eq_true, decide_eq_true_eq]; exact ⟨fun x hx => by obtain ⟨y, _, rfl⟩ := List.mem_map.1 hx; rfl, by first | omega | (simp only [List.length_map]; omega)⟩) ?_
      rw [← List.map_append, ← hs]
      simp only [z, seval, w64s (i := i) (by omega)]
      refine NX () (hi := hlt) (hinv := ?_)
      trivial
    · simp only [z, seval]
      obtain rfl : i = L.length := by simp at h; omega
      rw [List.take_length]
      (refine FINS_done ?_; simp only [z, seval])
theorem ConcatEvent_2 (A B : List Event) (hl : A.length + B.length ≤ 1099511627776) : Spec PP GG 136 [.sl [.sl (A.map Event.v) .plain, .sl (B.map Event.v) .plain] .plain] (.sl ((A ++ B).map Event.v) .plain) [] := by
  have := ConcatEvent_spec [A, B] (by simpa using hl) (by simp)
  simpa using this
theorem ConcatR_spec (L : List (List (List Int))) (hl : L.flatten.length ≤ 1099511627776) (hL : L.length ≤ 1099511627776) : Spec PP GG 161 [.sl (L.map fun l => .sl (l.map wordsV) .plain) .plain] (.sl (L.flatten.map wordsV) .plain) [] := by
  refine Spec.of_runs Go.Proofs.Tryz.f161 Go.Proofs.Tryz.func161 rfl ?_
  intro w0 M0
  simp only [Go.Proofs.Tryz.f161, List.replicate, List.cons_append, List.nil_append, z, seval]
  refine RUNs_rangeS (L.length) (fun _ (_ : Unit) => True) (fun i _ => [(3, i64 (L.take i).flatten.length), (11, i64 i)]) (fun _ _ => []) () ?_ (by simp only [z, seval]; exact wk) rfl ?_
  · trivial
  rintro ⟨i, _, hi, -⟩
  simp only [z, seval]
  refine CONDS_split (fun h => ?_) (fun h => ?_)
  · have hlt : i < L.length := by simpa using h
    have hs := flat_succ hlt
    have hf := flat_le L (i + 1)
    have hk : IntKind.i64.wrap (((L.take i).flatten.length : Int) + (L[i].length : Int)) = ((L.take (i + 1)).flatten.length : Nat) := by
      rw [hs] at hf ⊢
      rw [List.length_append] at hf ⊢
      rw [w64 (by omega) (by omega)]; omega
    simp only [z, seval, getMap (fun l : List (List Int) => V.sl (l.map wordsV) .plain) L hlt, hk]
    refine CONDS_split (fun h => ?_) (fun h => ?_)
    · exact absurd h (by simp)
    · simp only [z, seval, w64s (i := i) (by omega)]
      refine NX () (hi := hlt) (hinv := ?_)
      trivial
  · obtain rfl : i = L.length := by simp at h; omega
    rw [List.take_length]
    simp only [z, seval]
    (refine CALLS_specP' (by kernel_rfl) (GrowR_spec L.flatten.length hl) (by rfl) (by rfl) ?_; simp only [z, seval])
    refine RUNs_rangeS (L.length) (fun _ (_ : Unit) => True) (fun i _ => [(6, .row 0 i), (27, i64 i)]) (fun i _ => [(0, .row 1 ((L.take i).flatten.map wordsV) i false)]) () ?_ (by simp only [z, seval]; exact wk) rfl ?_
    · trivial
    rintro ⟨i, _, hi, -⟩
    simp only [z, seval]
    refine CONDS_split (fun h => ?_) (fun h => ?_)
    · have hlt : i < L.length := by simpa using h
      simp only [z, seval, getMap (fun l : List (List Int) => V.sl (l.map wordsV) .plain) L hlt]
      have hs := flat_succ hlt
      have hf := flat_le L (i + 1)
      rw [hs, List.length_append] at hf
      refine OPC_ok (by simp only [Bool.and_eq_true, List.all_eq_true, decide_eq_true_eq]; exact ⟨fun x hx => by obtain ⟨y, _, rfl⟩ := List.mem_map.1 hx; rfl, by first | omega | (simp only [List.length_map]; omega)⟩) ?_
      rw [← List.map_append, ← hs]
      simp only [z, seval, w64s (i := i) (by omega)]
      refine NX () (hi := hlt) (hinv := ?_)
      trivial
    · simp only [z, seval]
      obtain rfl : i = L.length := by simp at h; omega
      rw [List.take_length]
      (refine FINS_done ?_; simp only [z, seval])
theorem ConcatR_2 (A B : List (List Int)) (hl : A.length + B.length ≤ 1099511627776) : Spec PP GG 161 [.sl [.sl (A.map wordsV) .plain, .sl (B.map wordsV) .plain] .plain] (.sl ((A ++ B).map wordsV) .plain) [] := by
  have := ConcatR_spec [A, B] (by simpa using hl) (by simp)
  simpa using this
theorem IndexFuncSealed_pure (l : List Sld) (p : Sld → Bool) (vf : V) (H : List AB) (hl : l.length ≤ 1099511627776) (hH : H.all (okAB H.length) = true) (hv : okN H.length vf = true) (hp : ∀ a ∈ l, PureFn PP GG vf H [Sld.v a] (.bool (p a))) :
    PureFn PP GG (.fn (.func 183) [] []) H [.sl (l.map Sld.v) .plain, vf] (i64 (idxP p l)) := by
  refine PureFn.of (fn := Go.Proofs.Tryz.f183) Go.Proofs.Tryz.func183 rfl (by kernel_rfl) hH rfl ?_
  intro w0 M0 R dst all l' k fr st h1 h2
  simp only [Go.Proofs.Tryz.f183, List.replicate, List.cons_append, List.nil_append, z, seval]
  refine RUNs_rangeS l.length (fun i (_ : Unit) => (l.take i).any p = false) (fun i _ => [(1, vf), (8, i64 i)]) (fun _ _ => []) () (by simp) (by simp only [z, seval]; exact WkF (by simp only [okL, okN, hv, Bool.true_and]) hH) (by simp only [z, seval]; exact stok h1 h2) ?_
  rintro ⟨i, _, hi, hw⟩
  simp only [z, seval]
  refine CONDS_split (fun h => ?_) (fun h => ?_)
  · have hlt : i < l.length := by simpa using h
    simp only [z, seval, hlt, getMap Sld.v l hlt]
    have hpi := hp _ (List.getElem_mem hlt)
    simp only [mv] at hpi
    refine PureFn.use hpi (by simp only [okL, okN, hv, Bool.true_and]) (stok h1 h2) ?_
    simp only [z, seval]
    refine CONDS_split (fun h => ?_) (fun h => ?_)
    · simp only [z, seval]
      exact RUNs_pure h1 h2 hH rfl (hle := LeH.refl H) (he := by rw [idxP_at hlt hw h])
    · simp only [z, seval, w64s (i := i) (by omega)]
      refine NX () (hw := by simp only [z, seval]; exact WkF (by simp only [okL, okN, hv, Bool.true_and]) hH) (hst := by simp only [z, seval]; exact stok h1 h2) (hi := hlt) (hinv := any_snoc hlt hw h)
  · obtain rfl : i = l.length := by simp at h; omega
    rw [List.take_length] at hw
    simp only [z, seval]
    exact RUNs_pure h1 h2 hH rfl (hle := LeH.refl H) (he := by rw [idxP_none hw])
theorem ClonePerson_spec (l : List Person) (hl : l.length ≤ 1099511627776) : Spec PP GG 164 [.sl (l.map Person.v) .plain] (.row 0 0) [.row 6 (l.map Person.v) 0 false] := by
  refine Spec.of_runs Go.Proofs.Tryz.f164 Go.Proofs.Tryz.func164 rfl ?_
  intro w0 M0
  simp only [Go.Proofs.Tryz.f164, List.replicate, List.cons_append, List.nil_append, z, seval]
  refine OPV_nilq rfl rfl ty35 rfl rfl ?_
  intro b hb _
  rcases b
  · simp only [z, seval]
    refine OPC_ok (okMap _ (fun a => rfl) hl) ?_
    simp only [z, seval]
    exact FINS_own rfl rfl
  · obtain rfl : l = [] := by
      cases l with
      | nil => rfl
      | cons a l => exact absurd (hb (by simp)) (by simp)
    simp only [List.map_nil, z, seval]
    intro _
    refine RUNs_row0 2 6 (h := ?_)
    simp only [z, seval]
    exact FINS_own rfl rfl
end Ch

/- Boxes, nets, what was used, people, draws: the program's contracts. -/
set_option maxRecDepth 100000
set_option maxHeartbeats 4000000
set_option linter.unusedSimpArgs false
set_option linter.unusedVariables false
namespace Ch
open Go Go.Ab
theorem okMapA {α : Type} {f : α → V} {sz : Nat} (l : List α) (xs : List V) (h : ∀ a, okE sz (f a) = true) (hx : xs.all (okE sz) = true) {p : Bool} (hp : p = true) : ((l.map f ++ xs).all (okE sz) && p) = true := by
  rw [List.all_append, hx, hp, Bool.and_true, Bool.and_true, List.all_eq_true]
  intro x hx; obtain ⟨a, _, rfl⟩ := List.mem_map.1 hx; exact h a
def zSld : Sld := ⟨0, 0, 0, []⟩
theorem idxP_find {α : Type} (p : α → Bool) (l : List α) : (idxP p l = -1 ∧ l.find? p = none) ∨ ∃ i, ∃ h : i < l.length, idxP p l = i ∧ l.find? p = some l[i] := by
  rcases idxP_cases p l with ⟨h1, h2⟩ | ⟨i, h, h1, h2, h3⟩
  · exact .inl ⟨h1, by rw [List.find?_eq_none]; intro x hx; have := List.any_eq_false.1 h2 x hx; simpa using this⟩
  · refine .inr ⟨i, h, h1, ?_⟩
    have e : l = l.take i ++ l.drop i := (List.take_append_drop i l).symm
    conv => lhs; rw [e]
    rw [List.find?_append, List.find?_eq_none.2 (by intro x hx; have := List.any_eq_false.1 h2 x hx; simpa using this), Option.none_or, List.drop_eq_getElem_cons h, List.find?_cons, h3]
theorem find_spec (b : Box) (h : Int) (hl : b.rows.length ≤ 1099511627776) : Spec PP GG 147 [b.v, u32 h] (.tup [((boxFind b h).getD zSld).v, .bool (boxFind b h).isSome]) [] := by
  refine Spec.of_runs Go.Proofs.Tryz.f147 Go.Proofs.Tryz.func147 rfl ?_
  intro w0 M0
  simp only [Go.Proofs.Tryz.f147, List.replicate, List.cons_append, List.nil_append, z, seval]
  have hc : ∀ s ∈ b.rows, PureFn PP GG (.fn (.func 184) [] [.ptr 1 0]) [.var [i64 b.room, .sl (b.rows.map Sld.v) .plain], .var [u32 h], .var [u32 0, u32 0, u32 0, .sl [] .nil]] [s.v] (.bool (s.handle == h)) := by
    intro s hs
    refine PureFn.of (fn := Go.Proofs.Tryz.f184) Go.Proofs.Tryz.func184 rfl (by kernel_rfl) rfl rfl ?_
    intro w0 M0 R dst all l' k fr st h1 h2
    simp only [Go.Proofs.Tryz.f184, List.replicate, List.cons_append, List.nil_append, z, seval]
    exact RUNs_pure h1 h2 rfl rfl (he := rfl)
  refine PureFn.use (IndexFuncSealed_pure b.rows (fun s => s.handle == h) _ _ hl rfl rfl hc) (hR := ?_)
  simp only [z, seval]
  rcases idxP_find (fun s : Sld => s.handle == h) b.rows with ⟨e1, e2⟩ | ⟨i, hi, e1, e2⟩
  · have e3 : boxFind b h = none := e2
    simp only [e1, z, seval]
    (refine FINS_done ?_; simp only [z, seval])
    rw [e3]; rfl
  · have e3 : boxFind b h = some b.rows[i] := e2
    have hn : decide ((i : Int) < 0) = false := by simp
    simp only [e1, hn, getMap Sld.v b.rows hi, z, seval]
    (refine FINS_done ?_; simp only [z, seval])
    rw [e3]; rfl
theorem bFree_spec (b : Box) (hr : 0 ≤ b.room ∧ b.room ≤ 1099511627776) (hl : b.rows.length ≤ 1099511627776) : Spec PP GG 151 [b.v] (i64 (b.room - b.rows.length)) [] := by
  refine Spec.of_runs Go.Proofs.Tryz.f151 Go.Proofs.Tryz.func151 rfl ?_
  intro w0 M0
  simp only [Go.Proofs.Tryz.f151, List.replicate, List.cons_append, List.nil_append, z, seval]
  simp only [w64 (n := b.room - b.rows.length) (by omega) (by omega), z, seval]
  (refine FINS_done ?_; simp only [z, seval])
theorem bSeal_spec (b : Box) (hh key label : Int) (plain : List Int) (hr : 0 ≤ b.room ∧ b.room ≤ 1099511627776) (hl : b.rows.length ≤ 1000000000000) (hp : plain.length ≤ 1099511627776) : Spec PP GG 117 [b.v, u32 hh, u32 key, u32 label, wordsV plain] (.tup [(boxSeal b hh key label plain).1.v, i64 (boxSeal b hh key label plain).2]) [] := by
  refine Spec.of_runs Go.Proofs.Tryz.f117 Go.Proofs.Tryz.func117 rfl ?_
  intro w0 M0
  simp only [Go.Proofs.Tryz.f117, List.replicate, List.cons_append, List.nil_append, z, seval]
  repeat' (first | (refine CU (find_spec b hh (by omega)) (h := ?_); simp only [z, seval]) | (refine CU (bFree_spec b hr (by omega)) (h := ?_); simp only [z, seval]) | ((first | refine brk (fun h => ?_) (fun h => ?_) | fail) <;> simp only [h, z, seval]))
  all_goals try ((refine FINS_done ?_; simp only [z, seval]); (first | (simp only [boxSeal, *, cond_true, cond_false, Bool.true_and, Bool.and_true, Bool.false_and, Bool.and_false, Bool.true_or, Bool.or_true, Bool.false_or, Bool.or_false, Bool.not_true, Bool.not_false, beq_self_eq_true, Option.getD_some, Option.getD_none, Option.isSome_some, Option.isSome_none, List.map_nil]; done) | (simp only [boxSeal, *, cond_true, cond_false, Bool.true_and, Bool.and_true, Bool.false_and, Bool.and_false, Bool.true_or, Bool.or_true, Bool.false_or, Bool.or_false, Bool.not_true, Bool.not_false, beq_self_eq_true, Option.getD_some, Option.getD_none, Option.isSome_some, Option.isSome_none, List.map_nil]; rfl) | (simp [boxSeal, *]; done) | (simp_all [boxSeal]; done)); done)
  (refine CU (CloneW_fz plain hp) (h := ?_); simp only [z, seval])
  (refine CU (ConcatSealed_2 b.rows [⟨hh, key, label, plain⟩] (by simp; omega)) (h := ?_); simp only [z, seval])
  (refine FINS_done ?_; simp only [z, seval])
  (first | (simp only [boxSeal, *, cond_true, cond_false, Bool.true_and, Bool.and_true, Bool.false_and, Bool.and_false, Bool.true_or, Bool.or_true, Bool.false_or, Bool.or_false, Bool.not_true, Bool.not_false, beq_self_eq_true, Option.getD_some, Option.getD_none, Option.isSome_some, Option.isSome_none, List.map_nil]; done) | (simp only [boxSeal, *, cond_true, cond_false, Bool.true_and, Bool.and_true, Bool.false_and, Bool.and_false, Bool.true_or, Bool.or_true, Bool.false_or, Bool.or_false, Bool.not_true, Bool.not_false, beq_self_eq_true, Option.getD_some, Option.getD_none, Option.isSome_some, Option.isSome_none, List.map_nil]; rfl) | (simp [boxSeal, *]; done) | (simp_all [boxSeal]; done))
theorem bOpen_spec (b : Box) (key label hh : Int) (hl : b.rows.length ≤ 1099511627776) (hp : ∀ s ∈ b.rows, s.plain.length ≤ 1099511627776) : Spec PP GG 111 [b.v, u32 key, u32 label, u32 hh] (.tup [wordsV ((boxOpen b key label hh).getD []), .bool (boxOpen b key label hh).isSome]) [] := by
  refine Spec.of_runs Go.Proofs.Tryz.f111 Go.Proofs.Tryz.func111 rfl ?_
  intro w0 M0
  simp only [Go.Proofs.Tryz.f111, List.replicate, List.cons_append, List.nil_append, z, seval]
  (refine CU (find_spec b hh hl) (h := ?_); simp only [z, seval])
  cases hf : boxFind b hh with
  | none =>
    simp only [hf, Option.isSome_none, Option.getD_none, zSld, z, seval]
    (refine FINS_done ?_; simp only [z, seval])
    simp [boxOpen, hf]
  | some s =>
    have hs : s ∈ b.rows := List.mem_of_find?_eq_some hf
    have hm : boxOpen b key label hh = bif s.key == key && s.label == label then some s.plain else none := by simp only [boxOpen, hf]
    rw [hm]
    cases h1 : (s.key == key) <;> cases h2 : (s.label == label)
    all_goals
      simp only [hf, h1, h2, Option.isSome_some, Option.getD_some, Option.isSome_none, Option.getD_none, Bool.and_true, Bool.and_false, cond_true, cond_false, List.map_nil, z, seval]
      try (refine CU (CloneW_fz s.plain (hp s hs)) (h := ?_); simp only [z, seval])
      (refine FINS_done ?_; simp only [z, seval])
theorem nFree_spec (n : Net) (hr : 0 ≤ n.room ∧ n.room ≤ 1099511627776) (hl : n.grams.length ≤ 1099511627776) : Spec PP GG 152 [n.v] (i64 (n.room - n.grams.length)) [] := by
  refine Spec.of_runs Go.Proofs.Tryz.f152 Go.Proofs.Tryz.func152 rfl ?_
  intro w0 M0
  simp only [Go.Proofs.Tryz.f152, List.replicate, List.cons_append, List.nil_append, z, seval]
  simp only [w64 (n := n.room - n.grams.length) (by omega) (by omega), z, seval]
  (refine FINS_done ?_; simp only [z, seval])
theorem nWith_spec (n : Net) (g : Gram) (hl : n.grams.length ≤ 1000000000000) : Spec PP GG 160 [n.v, g.v] (Net.v ⟨n.room, n.grams ++ [g], n.seen⟩) [] := by
  refine Spec.of_runs Go.Proofs.Tryz.f160 Go.Proofs.Tryz.func160 rfl ?_
  intro w0 M0
  simp only [Go.Proofs.Tryz.f160, List.replicate, List.cons_append, List.nil_append, z, seval]
  (refine RUNs_draw 1 (by kernel_rfl) ?_; simp only [z, seval])
  refine DOC_ok (by simp [slcB, lenE', Gram.v, V.cells]) ?_
  simp only [List.take_length, z, seval]
  refine DOC_ok (okMapA _ _ (fun a => rfl) rfl (by simp; omega)) ?_
  simp only [z, seval]
  (refine ⟨by kernel_rfl, ?_⟩)
  have e : n.grams.map Gram.v ++ [Gram.v g] = (n.grams ++ [g]).map Gram.v := by simp
  simp only [mv] at e
  simp only [e, z, seval]
  (refine FINS_done ?_; simp only [z, seval])
theorem uMay_spec (l : List Int) (room w : Int) (hl : l.length ≤ 1099511627776) : Spec PP GG 113 [wordsV l, i64 room, u32 w] (i64 (usedMay l room w)) [] := by
  refine Spec.of_runs Go.Proofs.Tryz.f113 Go.Proofs.Tryz.func113 rfl ?_
  intro w0 M0
  simp only [Go.Proofs.Tryz.f113, List.replicate, List.cons_append, List.nil_append, z, seval]
  repeat' (first | (refine CU (Contains_spec l w hl) (h := ?_); simp only [z, seval]) | ((first | refine brk (fun h => ?_) (fun h => ?_) | fail) <;> simp only [h, z, seval]))
  all_goals (refine FINS_done ?_; simp only [z, seval])
  all_goals (first | (simp only [usedMay, *, cond_true, cond_false, Bool.true_and, Bool.and_true, Bool.false_and, Bool.and_false, Bool.true_or, Bool.or_true, Bool.false_or, Bool.or_false, Bool.not_true, Bool.not_false, beq_self_eq_true, Option.getD_some, Option.getD_none, Option.isSome_some, Option.isSome_none, List.map_nil]; done) | (simp only [usedMay, *, cond_true, cond_false, Bool.true_and, Bool.and_true, Bool.false_and, Bool.and_false, Bool.true_or, Bool.or_true, Bool.false_or, Bool.or_false, Bool.not_true, Bool.not_false, beq_self_eq_true, Option.getD_some, Option.getD_none, Option.isSome_some, Option.isSome_none, List.map_nil]; rfl) | (simp [usedMay, *]; done) | (simp_all [usedMay]; done))
theorem uNote_spec (l : List Int) (room w : Int) (hl : l.length ≤ 1000000000000) : Spec PP GG 51 [wordsV l, i64 room, u32 w] (.tup [wordsV (usedNote l room w).1, i64 (usedNote l room w).2]) [] := by
  refine Spec.of_runs Go.Proofs.Tryz.f51 Go.Proofs.Tryz.func51 rfl ?_
  intro w0 M0
  simp only [Go.Proofs.Tryz.f51, List.replicate, List.cons_append, List.nil_append, z, seval]
  (refine CU (uMay_spec l room w (by omega)) (h := ?_); simp only [z, seval])
  first | refine brk (fun h => ?_) (fun h => ?_) | fail
  · simp only [h, z, seval]
    (refine CU (ConcatW_2 l [w] (by simp; omega)) (h := ?_); simp only [z, seval])
    (refine FINS_done ?_; simp only [z, seval])
    (first | (simp only [usedNote, *, cond_true, cond_false, Bool.true_and, Bool.and_true, Bool.false_and, Bool.and_false, Bool.true_or, Bool.or_true, Bool.false_or, Bool.or_false, Bool.not_true, Bool.not_false, beq_self_eq_true, Option.getD_some, Option.getD_none, Option.isSome_some, Option.isSome_none, List.map_nil]; done) | (simp only [usedNote, *, cond_true, cond_false, Bool.true_and, Bool.and_true, Bool.false_and, Bool.and_false, Bool.true_or, Bool.or_true, Bool.false_or, Bool.or_false, Bool.not_true, Bool.not_false, beq_self_eq_true, Option.getD_some, Option.getD_none, Option.isSome_some, Option.isSome_none, List.map_nil]; rfl) | (simp [usedNote, *]; done) | (simp_all [usedNote]; done))
  · simp only [h, z, seval]
    (refine FINS_done ?_; simp only [z, seval])
    (first | (simp only [usedNote, *, cond_true, cond_false, Bool.true_and, Bool.and_true, Bool.false_and, Bool.and_false, Bool.true_or, Bool.or_true, Bool.false_or, Bool.or_false, Bool.not_true, Bool.not_false, beq_self_eq_true, Option.getD_some, Option.getD_none, Option.isSome_some, Option.isSome_none, List.map_nil]; done) | (simp only [usedNote, *, cond_true, cond_false, Bool.true_and, Bool.and_true, Bool.false_and, Bool.and_false, Bool.true_or, Bool.or_true, Bool.false_or, Bool.or_false, Bool.not_true, Bool.not_false, beq_self_eq_true, Option.getD_some, Option.getD_none, Option.isSome_some, Option.isSome_none, List.map_nil]; rfl) | (simp [usedNote, *]; done) | (simp_all [usedNote]; done))
theorem nSend_spec (n : Net) (g : Gram) (hr : 0 ≤ n.room ∧ n.room ≤ 1099511627776) (hl : n.grams.length ≤ 1000000000000) (hs : n.seen.length ≤ 1000000000000) : Spec PP GG 122 [n.v, g.v] (.tup [(netSend n g).1.v, i64 (netSend n g).2]) [] := by
  refine Spec.of_runs Go.Proofs.Tryz.f122 Go.Proofs.Tryz.func122 rfl ?_
  intro w0 M0
  simp only [Go.Proofs.Tryz.f122, List.replicate, List.cons_append, List.nil_append, z, seval]
  (refine CU (nFree_spec n hr (by omega)) (h := ?_); simp only [z, seval])
  cases hb : decide (n.room - (n.grams.length : Int) < 1) with
  | true =>
    simp only [hb, z, seval]
    (refine FINS_done ?_; simp only [z, seval])
    (first | (simp only [netSend, *, cond_true, cond_false, Bool.true_and, Bool.and_true, Bool.false_and, Bool.and_false, Bool.true_or, Bool.or_true, Bool.false_or, Bool.or_false, Bool.not_true, Bool.not_false, beq_self_eq_true, Option.getD_some, Option.getD_none, Option.isSome_some, Option.isSome_none, List.map_nil]; done) | (simp only [netSend, *, cond_true, cond_false, Bool.true_and, Bool.and_true, Bool.false_and, Bool.and_false, Bool.true_or, Bool.or_true, Bool.false_or, Bool.or_false, Bool.not_true, Bool.not_false, beq_self_eq_true, Option.getD_some, Option.getD_none, Option.isSome_some, Option.isSome_none, List.map_nil]; rfl) | (simp [netSend, *]; done) | (simp_all [netSend]; done))
  | false =>
    simp only [hb, z, seval]
    (refine CU (nWith_spec n g hl) (h := ?_); simp only [z, seval])
    (refine CU (ConcatR_2 n.seen [g.words] (by simp; omega)) (h := ?_); simp only [z, seval])
    (refine FINS_done ?_; simp only [z, seval])
    (first | (simp only [netSend, *, cond_true, cond_false, Bool.true_and, Bool.and_true, Bool.false_and, Bool.and_false, Bool.true_or, Bool.or_true, Bool.false_or, Bool.or_false, Bool.not_true, Bool.not_false, beq_self_eq_true, Option.getD_some, Option.getD_none, Option.isSome_some, Option.isSome_none, List.map_nil]; done) | (simp only [netSend, *, cond_true, cond_false, Bool.true_and, Bool.and_true, Bool.false_and, Bool.and_false, Bool.true_or, Bool.or_true, Bool.false_or, Bool.or_false, Bool.not_true, Bool.not_false, beq_self_eq_true, Option.getD_some, Option.getD_none, Option.isSome_some, Option.isSome_none, List.map_nil]; rfl) | (simp [netSend, *]; done) | (simp_all [netSend]; done))
theorem pPair_spec (l : List Person) (a b : Int) (ha : U a) (hb : U b) (hl : l.length ≤ 1099511627776) : Spec PP GG 85 [peopleV l, u32 a, u32 b] (.bool (pairM l a b)) [] := by
  obtain ⟨a, rfl⟩ := Int.eq_ofNat_of_zero_le ha.1
  obtain ⟨b, rfl⟩ := Int.eq_ofNat_of_zero_le hb.1
  have ha2 := ha.2; have hb2 := hb.2
  refine Spec.of_runs Go.Proofs.Tryz.f85 Go.Proofs.Tryz.func85 rfl ?_
  intro w0 M0
  simp only [Go.Proofs.Tryz.f85, List.replicate, List.cons_append, List.nil_append, z, seval]
  repeat' (first | (refine CU (in_spec l a (by omega) hl) (h := ?_); simp only [z, seval]) | (refine CU (in_spec l b (by omega) hl) (h := ?_); simp only [z, seval]) | ((first | refine brk (fun h => ?_) (fun h => ?_) | fail) <;> simp only [h, z, seval]))
  all_goals (refine FINS_done ?_; simp only [z, seval])
  all_goals (first | (simp only [pairM, Int.toNat_natCast, *, cond_true, cond_false, Bool.true_and, Bool.and_true, Bool.false_and, Bool.and_false, Bool.true_or, Bool.or_true, Bool.false_or, Bool.or_false, Bool.not_true, Bool.not_false, beq_self_eq_true, Option.getD_some, Option.getD_none, Option.isSome_some, Option.isSome_none, List.map_nil]; done) | (simp only [pairM, Int.toNat_natCast, *, cond_true, cond_false, Bool.true_and, Bool.and_true, Bool.false_and, Bool.and_false, Bool.true_or, Bool.or_true, Bool.false_or, Bool.or_false, Bool.not_true, Bool.not_false, beq_self_eq_true, Option.getD_some, Option.getD_none, Option.isSome_some, Option.isSome_none, List.map_nil]; rfl) | (simp [pairM, Int.toNat_natCast, *]; done) | (simp_all [pairM, Int.toNat_natCast]; done))
theorem pSet_spec (l : List Person) (p : Person) (hp : U p.name) (hl : l.length ≤ 1099511627776) : Spec PP GG 137 [peopleV l, p.v] (.tup [peopleV (setM l p).1, i64 (setM l p).2]) [] := by
  obtain ⟨nm, key, clock, used, runs, cor⟩ := p
  obtain ⟨nm, rfl⟩ := Int.eq_ofNat_of_zero_le hp.1
  have hp2 := hp.2
  refine Spec.of_runs Go.Proofs.Tryz.f137 Go.Proofs.Tryz.func137 rfl ?_
  intro w0 M0
  simp only [Go.Proofs.Tryz.f137, List.replicate, List.cons_append, List.nil_append, z, seval]
  (refine CU (in_spec l nm (by simp only at hp2; omega) hl) (h := ?_); simp only [z, seval])
  first | refine brk (fun h => ?_) (fun h => ?_) | fail
  · simp only [h, z, seval]
    have hlt : nm < l.length := of_decide_eq_true h
    (refine CH (ClonePerson_spec l hl) (h := ?_); simp only [z, seval])
    simp only [hlt, getMap Person.v l hlt, if_true, z, seval]
    have e : (l.map Person.v).set nm (Person.v ⟨nm, key, clock, used, runs, cor⟩) = (l.set nm ⟨nm, key, clock, used, runs, cor⟩).map Person.v := by rw [List.map_set]
    simp only [mv] at e
    simp only [e, z, seval]
    (refine FINS_done ?_; simp only [z, seval])
    (first | (simp only [setM, Int.toNat_natCast, *, cond_true, cond_false, Bool.true_and, Bool.and_true, Bool.false_and, Bool.and_false, Bool.true_or, Bool.or_true, Bool.false_or, Bool.or_false, Bool.not_true, Bool.not_false, beq_self_eq_true, Option.getD_some, Option.getD_none, Option.isSome_some, Option.isSome_none, List.map_nil]; done) | (simp only [setM, Int.toNat_natCast, *, cond_true, cond_false, Bool.true_and, Bool.and_true, Bool.false_and, Bool.and_false, Bool.true_or, Bool.or_true, Bool.false_or, Bool.or_false, Bool.not_true, Bool.not_false, beq_self_eq_true, Option.getD_some, Option.getD_none, Option.isSome_some, Option.isSome_none, List.map_nil]; rfl) | (simp [setM, Int.toNat_natCast, *]; done) | (simp_all [setM, Int.toNat_natCast]; done))
  · simp only [h, z, seval]
    (refine FINS_done ?_; simp only [z, seval])
    (first | (simp only [setM, Int.toNat_natCast, *, cond_true, cond_false, Bool.true_and, Bool.and_true, Bool.false_and, Bool.and_false, Bool.true_or, Bool.or_true, Bool.false_or, Bool.or_false, Bool.not_true, Bool.not_false, beq_self_eq_true, Option.getD_some, Option.getD_none, Option.isSome_some, Option.isSome_none, List.map_nil]; done) | (simp only [setM, Int.toNat_natCast, *, cond_true, cond_false, Bool.true_and, Bool.and_true, Bool.false_and, Bool.and_false, Bool.true_or, Bool.or_true, Bool.false_or, Bool.or_false, Bool.not_true, Bool.not_false, beq_self_eq_true, Option.getD_some, Option.getD_none, Option.isSome_some, Option.isSome_none, List.map_nil]; rfl) | (simp [setM, Int.toNat_natCast, *]; done) | (simp_all [setM, Int.toNat_natCast]; done))
end Ch

/- What a world's numbers and lists may be, so that its operations go through; and that they stay so. -/
set_option maxRecDepth 100000
set_option maxHeartbeats 4000000
set_option linter.unusedSimpArgs false
set_option linter.unusedVariables false
namespace Ch
open Go Go.Ab
structure World.fit (w : World) (N : Nat) : Prop where
  ok : w.ok
  next0 : 0 ≤ w.draws.next
  nextN : w.draws.next ≤ N
  broom : 0 ≤ w.box.room ∧ w.box.room ≤ 1099511627776
  nroom : 0 ≤ w.net.room ∧ w.net.room ≤ 1099511627776
  list : w.draws.list.length ≤ N
  rows : w.box.rows.length ≤ N
  plain : ∀ s ∈ w.box.rows, s.plain.length ≤ N
  grams : w.net.grams.length ≤ N
  words : ∀ g ∈ w.net.grams, g.words.length ≤ N
  seen : w.net.seen.length ≤ N
  seens : ∀ l ∈ w.net.seen, l.length ≤ N
  people : w.people.length ≤ N
  used : ∀ p ∈ w.people, p.used.length ≤ N
  runs : ∀ p ∈ w.people, p.runs.length ≤ N
  log : w.log.length ≤ N
  regs : w.regs.length ≤ N
  reg : ∀ l ∈ w.regs, l.length ≤ N
  leaks : w.leaks.length ≤ N
theorem World.fit.ulist {w : World} {N : Nat} (h : w.fit N) : ∀ x ∈ w.draws.list, U x := h.ok.2.1.1.2
theorem LL.app {α : Type} {p : α → Prop} {l : List α} {x : α} {N : Nat} (h : LL p l) (hl : l.length ≤ N) (hN : N ≤ 1000000000000) (hx : p x) : LL p (l ++ [x]) :=
  ⟨by simp; omega, fun y hy => by
    rcases List.mem_append.1 hy with h1 | h1
    · exact h.2 y h1
    · simp only [List.mem_singleton] at h1; subst h1; exact hx⟩
theorem LL.set {α : Type} {p : α → Prop} {l : List α} {x : α} (h : LL p l) (n : Nat) (hx : p x) : LL p (l.set n x) :=
  ⟨by rw [List.length_set]; exact h.1, fun y hy => by
    rcases List.mem_or_eq_of_mem_set hy with h1 | rfl
    · exact h.2 y h1
    · exact hx⟩
theorem drawAt_U {l : List Int} (hl : ∀ x ∈ l, U x) (i : Nat) : U (drawAt l i) := by
  unfold drawAt
  have hw : ∀ x : Int, U (IntKind.u32.wrap x) := fun x => by rw [IntKind.wrap_u32]; exact ⟨by omega, by omega⟩
  cases h : l[i]? with
  | none =>
    simp only
    split
    · exact hw _
    · exact ⟨by simp only [dflt, orI, IntKind.wrap_u32]; omega, by simp only [dflt, orI, IntKind.wrap_u32]; omega⟩
  | some x =>
    simp only
    split
    · exact hw _
    · exact hl x (List.mem_of_getElem? h)
theorem World.fit.mono {w : World} {N M : Nat} (h : w.fit N) (hM : N ≤ M) : w.fit M :=
  ⟨h.ok, h.next0, by have := h.nextN; omega, h.broom, h.nroom, Nat.le_trans h.list hM, Nat.le_trans h.rows hM, fun s hs => Nat.le_trans (h.plain s hs) hM, Nat.le_trans h.grams hM, fun s hs => Nat.le_trans (h.words s hs) hM, Nat.le_trans h.seen hM, fun s hs => Nat.le_trans (h.seens s hs) hM, Nat.le_trans h.people hM,
    fun s hs => Nat.le_trans (h.used s hs) hM, fun s hs => Nat.le_trans (h.runs s hs) hM, Nat.le_trans h.log hM, Nat.le_trans h.regs hM, fun s hs => Nat.le_trans (h.reg s hs) hM, Nat.le_trans h.leaks hM⟩
theorem fit_draw {w : World} {N : Nat} (h : w.fit N) (hN : N ≤ 500000000000) : (drawW w).1.fit (N + 1) := by
  have h' := h.mono (Nat.le_succ N)
  exact { h' with ok := ⟨h.ok.1, ⟨h.ok.2.1.1, ⟨by have := h.next0; show _ ≤ w.draws.next + 1; omega, by have := h.nextN; show w.draws.next + 1 ≤ _; omega⟩⟩, h.ok.2.2⟩, next0 := by show 0 ≤ w.draws.next + 1; have := h.next0; omega, nextN := by show w.draws.next + 1 ≤ _; have := h.nextN; omega }
theorem partWs_len (label : Int) (p : Part) : (partWs label p).length ≤ 5 := by
  unfold partWs
  cases (label == 2) <;> cases (label == 3) <;> cases (label == 4 || label == 5) <;> cases (label == 6 || label == 7) <;> cases (label == 8 || label == 9) <;> simp
theorem partPut_len (label : Int) (p : Part) : (partPut label p).1.length ≤ 5 := by
  unfold partPut
  cases (label? label && eqPart p (partRd label (partWs label p)))
  · simp
  · exact partWs_len label p
theorem fit_box {w : World} {N : Nat} (h : w.fit N) (hN : N ≤ 500000000000) {hh key label : Int} {l : List Int} (h1 : U hh) (h2 : U key) (h3 : U label) (h4 : ∀ x ∈ l, U x) (hl : l.length ≤ N + 1) : ({ w with box := (boxSeal w.box hh key label l).1 } : World).fit (N + 1) := by
  have h' := h.mono (Nat.le_succ N)
  unfold boxSeal
  cases decide ((l.length : Int) > 64)
  · cases (boxFind w.box hh).isSome
    · cases decide (w.box.room - w.box.rows.length < 1)
      · exact { h' with
          ok := ⟨h.ok.1, h.ok.2.1, ⟨h.ok.2.2.1.1, LL.app h.ok.2.2.1.2 h.rows (by omega) ⟨h1, h2, h3, by show l.length ≤ _; omega, h4⟩⟩, h.ok.2.2.2⟩
          rows := by show (w.box.rows ++ _).length ≤ _; have := h.rows; simp; omega
          plain := fun s hs => by
            rcases List.mem_append.1 hs with hs | hs
            · exact h'.plain s hs
            · simp only [List.mem_singleton] at hs; subst hs; exact hl }
      · exact h'
    · exact h'
  · exact h'
theorem partWs_U {label : Int} {p : Part} (h : p.ok) : ∀ x ∈ partWs label p, U x := by
  obtain ⟨h1, h2, h3, h4, h5, h6, h7⟩ := h
  unfold partWs
  cases (label == 2) <;> cases (label == 3) <;> cases (label == 4 || label == 5) <;> cases (label == 6 || label == 7) <;> cases (label == 8 || label == 9) <;> simp [*]
theorem partPut_U {label : Int} {p : Part} (h : p.ok) : ∀ x ∈ (partPut label p).1, U x := by
  unfold partPut
  cases (label? label && eqPart p (partRd label (partWs label p)))
  · simp
  · exact partWs_U h
theorem drawW_U {w : World} {N : Nat} (h : w.fit N) : U (drawW w).2 := drawAt_U h.ulist _
theorem sealW_U {w : World} {N : Nat} (h : w.fit N) (key label : Int) (p : Part) : U (sealW w key label p).2.1 := by
  unfold sealW
  cases ((partPut label p).2 == 0)
  · exact (by decide : U 0)
  · cases ((boxSeal w.box (drawW w).2 key label (partPut label p).1).2 == 0)
    · exact (by decide : U 0)
    · exact drawW_U h
theorem fit_seal {w : World} {N : Nat} (h : w.fit N) (hN : 5 ≤ N) (hM : N ≤ 500000000000) {key label : Int} {p : Part} (hk : U key) (hl : U label) (hp : p.ok) : (sealW w key label p).1.fit (N + 1) := by
  unfold sealW
  cases ((partPut label p).2 == 0)
  · exact h.mono (Nat.le_succ N)
  · cases ((boxSeal w.box (drawW w).2 key label (partPut label p).1).2 == 0)
    · exact h.mono (Nat.le_succ N)
    · have h1 := fit_draw h hM
      have h2 := fit_box h hM (hh := (drawW w).2) (key := key) (label := label) (l := (partPut label p).1) (drawW_U h) hk hl (partPut_U hp) (by have := partPut_len label p; omega)
      exact { h1 with ok := ⟨h1.ok.1, h1.ok.2.1, h2.ok.2.2.1, h1.ok.2.2.2⟩, broom := h2.broom, rows := h2.rows, plain := h2.plain }
theorem msgWs_len (m : Msg) : (msgWs m).length ≤ 21 := by
  simp only [msgWs, tags, List.flatMap_cons, List.flatMap_nil, List.length_cons, List.length_append, List.length_nil]
  have : ∀ (c : Bool) (a b d : Int), (bif c then [a, b, d] else []).length ≤ 3 := by intro c a b d; cases c <;> simp
  have h2 := this (hasM m.kind 2) 2 1 (msgWord m 2)
  have h3 := this (hasM m.kind 3) 3 1 (msgWord m 3)
  have h4 := this (hasM m.kind 4) 4 1 (msgWord m 4)
  have h5 := this (hasM m.kind 5) 5 1 (msgWord m 5)
  have h6 := this (hasM m.kind 6) 6 1 (msgWord m 6)
  have h7 := this (hasM m.kind 7) 7 1 (msgWord m 7)
  omega
theorem msgPut_len (m : Msg) : (msgPut m).1.length ≤ 21 := by
  unfold msgPut
  cases msgMay m
  · simp
  · exact msgWs_len m
theorem msgWord_U {m : Msg} (h : m.ok) (t : Int) : U (msgWord m t) := by
  obtain ⟨h1, h2, h3, h4, h5, h6, h7⟩ := h
  unfold msgWord
  cases (t == 2) <;> cases (t == 3) <;> cases (t == 4) <;> cases (t == 5) <;> cases (t == 6) <;> simp [*]
theorem msgPut_U {m : Msg} (h : m.ok) : ∀ x ∈ (msgPut m).1, U x := by
  unfold msgPut
  cases msgMay m
  · simp
  · intro x hx
    simp only [cond_true, msgWs, List.mem_append, List.mem_flatMap] at hx
    rcases hx with hx | ⟨t, ht, hx⟩
    · simp only [List.mem_cons, List.not_mem_nil, or_false] at hx
      rcases hx with rfl | rfl | rfl
      · decide
      · decide
      · exact h.1
    · cases hM : hasM m.kind t with
      | false => rw [hM] at hx; simp at hx
      | true =>
        rw [hM] at hx
        simp only [cond_true, List.mem_cons, List.not_mem_nil, or_false] at hx
        rcases hx with rfl | rfl | rfl
        · have ht' : x = 2 ∨ x = 3 ∨ x = 4 ∨ x = 5 ∨ x = 6 ∨ x = 7 := by simpa [tags] using ht
          rcases ht' with rfl | rfl | rfl | rfl | rfl | rfl <;> decide
        · decide
        · exact msgWord_U h t
theorem fit_net {w : World} {N : Nat} (h : w.fit N) (hN : N ≤ 500000000000) {g : Gram} (ht : U g.to) (hu : ∀ x ∈ g.words, U x) (hg : g.words.length ≤ N + 1) : ({ w with net := (netSend w.net g).1 } : World).fit (N + 1) := by
  have h' := h.mono (Nat.le_succ N)
  unfold netSend
  cases decide (w.net.room - (w.net.grams.length : Int) < 1)
  · exact { h' with
      ok := ⟨h.ok.1, h.ok.2.1, h.ok.2.2.1, ⟨h.ok.2.2.2.1.1, LL.app h.ok.2.2.2.1.2.1 h.grams (by omega) ⟨ht, by show g.words.length ≤ _; omega, hu⟩, LL.app h.ok.2.2.2.1.2.2 h.seen (by omega) ⟨by show g.words.length ≤ _; omega, hu⟩⟩, h.ok.2.2.2.2⟩
      grams := by show (w.net.grams ++ [g]).length ≤ _; have := h.grams; simp; omega
      words := fun s hs => by
        rcases List.mem_append.1 hs with hs | hs
        · exact h'.words s hs
        · simp only [List.mem_singleton] at hs; subst hs; exact hg
      seen := by show (w.net.seen ++ [g.words]).length ≤ _; have := h.seen; simp; omega
      seens := fun s hs => by
        rcases List.mem_append.1 hs with hs | hs
        · exact h'.seens s hs
        · simp only [List.mem_singleton] at hs; subst hs; exact hg }
  · exact h'
theorem fit_send {w : World} {N : Nat} (h : w.fit N) (hN : 21 ≤ N) (hM : N ≤ 500000000000) {to : Int} {m : Msg} (ht : U to) (hm : m.ok) : (sendW w to m).1.fit (N + 1) := by
  unfold sendW
  cases ((msgPut m).2 == 0)
  · exact h.mono (Nat.le_succ N)
  · cases ((netSend w.net ⟨to, (msgPut m).1⟩).2 == 0)
    · exact h.mono (Nat.le_succ N)
    · exact fit_net h hM ht (msgPut_U hm) (by have := msgPut_len m; show (msgPut m).1.length ≤ _; omega)
theorem fit_log {w : World} {N : Nat} (h : w.fit N) (hN : N ≤ 500000000000) {e : Event} (he : e.ok) : (logW w e).fit (N + 1) := by
  have h' := h.mono (Nat.le_succ N)
  exact { h' with ok := ⟨h.ok.1, h.ok.2.1, h.ok.2.2.1, h.ok.2.2.2.1, h.ok.2.2.2.2.1, LL.app h.ok.2.2.2.2.2.1 h.log (by omega) he, h.ok.2.2.2.2.2.2⟩, log := by show (w.log ++ [e]).length ≤ _; have := h.log; simp; omega }
theorem setM_len (l : List Person) (p : Person) : (setM l p).1.length = l.length := by
  unfold setM; cases decide (p.name.toNat < l.length) <;> simp
theorem setM_mem {l : List Person} {p q : Person} (h : q ∈ (setM l p).1) : q ∈ l ∨ q = p := by
  unfold setM at h
  cases hd : decide (p.name.toNat < l.length) with
  | false => rw [hd] at h; exact .inl h
  | true => rw [hd] at h; exact List.mem_or_eq_of_mem_set h
theorem setM_ok {l : List Person} {p : Person} (h : LL Person.ok l) (hp : p.ok) : LL Person.ok (setM l p).1 := by
  unfold setM
  cases decide (p.name.toNat < l.length)
  · exact h
  · exact LL.set h _ hp
theorem fit_with {w : World} {N : Nat} (h : w.fit N) {p : Person} (hp : p.ok) (hu : p.used.length ≤ N) (hr : p.runs.length ≤ N) : (withW w p).fit N :=
  { h with
    ok := ⟨h.ok.1, h.ok.2.1, h.ok.2.2.1, h.ok.2.2.2.1, setM_ok h.ok.2.2.2.2.1 hp, h.ok.2.2.2.2.2⟩
    people := by show (setM w.people p).1.length ≤ _; rw [setM_len]; exact h.people
    used := fun q hq => by
      rcases setM_mem hq with h1 | rfl
      · exact h.used q h1
      · exact hu
    runs := fun q hq => by
      rcases setM_mem hq with h1 | rfl
      · exact h.runs q h1
      · exact hr }
theorem getP_ok {w : World} {N : Nat} (h : w.fit N) (n : Nat) : (getP w.people n).ok := by
  unfold getP
  cases hn : w.people[n]? with
  | none => exact ⟨by decide, by decide, by decide, ⟨by decide, by simp [zeroP]⟩, ⟨by decide, by simp [zeroP]⟩⟩
  | some p => exact h.ok.2.2.2.2.1.2 p (List.mem_of_getElem? hn)
theorem getP_used {w : World} {N : Nat} (h : w.fit N) (n : Nat) : (getP w.people n).used.length ≤ N := by
  unfold getP
  cases hn : w.people[n]? with
  | none => simp [zeroP]
  | some p => exact h.used p (List.mem_of_getElem? hn)
theorem getP_runs {w : World} {N : Nat} (h : w.fit N) (n : Nat) : (getP w.people n).runs.length ≤ N := by
  unfold getP
  cases hn : w.people[n]? with
  | none => simp [zeroP]
  | some p => exact h.runs p (List.mem_of_getElem? hn)
end Ch

/- The desk: the program's. -/
set_option maxRecDepth 100000
set_option maxHeartbeats 4000000
set_option linter.unusedSimpArgs false
set_option linter.unusedVariables false
namespace Ch
open Go Go.Ab
theorem dTake_spec (d : Draws) (hl : ∀ x ∈ d.list, U x) (h0 : 0 ≤ d.next) (h1 : d.next ≤ 1000000000000) : Spec PP GG 115 [d.v] (.tup [Draws.v ⟨d.list, d.next + 1⟩, u32 (drawAt d.list d.next.toNat)]) [] := by
  obtain ⟨l, nx⟩ := d
  obtain ⟨n, rfl⟩ := Int.eq_ofNat_of_zero_le h0
  simp only at h1 hl
  refine Spec.of_runs Go.Proofs.Tryz.f115 Go.Proofs.Tryz.func115 rfl ?_
  intro w0 M0
  simp only [Go.Proofs.Tryz.f115, List.replicate, List.cons_append, List.nil_append, z, seval]
  have hA := at_specU ⟨l, n⟩ hl n
  simp only [mv] at hA
  (refine CU (hA) (h := ?_); simp only [z, seval])
  simp only [w64 (n := (n : Int) + 1) (by omega) (by omega), Int.toNat_natCast, z, seval]
  (refine FINS_done ?_; simp only [z, seval])
theorem draw_spec (w : World) {N : Nat} (hw : w.fit N) (hN : N ≤ 500000000000) : Spec PP GG 49 [w.v] (.tup [(drawW w).1.v, u32 (drawW w).2]) [] := by
  have hT := dTake_spec w.draws hw.ulist hw.next0 (by have := hw.nextN; omega)
  refine Spec.of_runs Go.Proofs.Tryz.f49 Go.Proofs.Tryz.func49 rfl ?_
  intro w0 M0
  simp only [Go.Proofs.Tryz.f49, List.replicate, List.cons_append, List.nil_append, z, seval]
  (refine CU (hT) (h := ?_); simp only [z, seval])
  (refine FINS_done ?_; simp only [z, seval])
  simp only [drawW]
theorem seal_spec (w : World) {N : Nat} (hw : w.fit N) (hN : N ≤ 500000000000) (key label : Int) (p : Part) : Spec PP GG 50 [w.v, u32 key, u32 label, p.v] (.tup [(sealW w key label p).1.v, u32 (sealW w key label p).2.1, i64 (sealW w key label p).2.2]) [] := by
  have hr := hw.rows
  have hp := partPut_len label p
  refine Spec.of_runs Go.Proofs.Tryz.f50 Go.Proofs.Tryz.func50 rfl ?_
  intro w0 M0
  simp only [Go.Proofs.Tryz.f50, List.replicate, List.cons_append, List.nil_append, z, seval]
  (refine CU (pPut_spec label p) (h := ?_); simp only [z, seval])
  cases h1 : ((partPut label p).2 == 0) with
  | false =>
    simp only [h1, z, seval]
    (refine FINS_done ?_; simp only [z, seval])
    simp only [sealW, h1, cond_false]
  | true =>
    simp only [h1, z, seval]
    (refine CU (draw_spec w hw hN) (h := ?_); simp only [z, seval])
    (refine CU (bSeal_spec w.box (drawW w).2 key label (partPut label p).1 hw.broom (by omega) (by omega)) (h := ?_); simp only [z, seval])
    cases h2 : ((boxSeal w.box (drawW w).2 key label (partPut label p).1).2 == 0) with
    | false =>
      simp only [h2, z, seval]
      (refine FINS_done ?_; simp only [z, seval])
      simp only [sealW, h1, h2, cond_true, cond_false]
    | true =>
      simp only [h2, z, seval]
      (refine FINS_done ?_; simp only [z, seval])
      simp only [sealW, h1, h2, cond_true]
theorem open_spec (w : World) {N : Nat} (hw : w.fit N) (hN : N ≤ 500000000000) (key label hh : Int) : Spec PP GG 47 [w.v, u32 key, u32 label, u32 hh] (.tup [(openW w key label hh).1.v, .bool (openW w key label hh).2]) [] := by
  have hr := hw.rows
  refine Spec.of_runs Go.Proofs.Tryz.f47 Go.Proofs.Tryz.func47 rfl ?_
  intro w0 M0
  simp only [Go.Proofs.Tryz.f47, List.replicate, List.cons_append, List.nil_append, z, seval]
  (refine CU (bOpen_spec w.box key label hh (by omega) (fun s hs => by have := hw.plain s hs; omega)) (h := ?_); simp only [z, seval])
  cases hb : boxOpen w.box key label hh with
  | none =>
    simp only [hb, Option.isSome_none, Option.getD_none, z, seval]
    (refine FINS_done ?_; simp only [z, seval])
    simp only [openW, hb, zPart]
  | some l =>
    simp only [hb, Option.isSome_some, Option.getD_some, z, seval]
    (refine CU (pGet_spec label l) (h := ?_); simp only [z, seval])
    (refine FINS_done ?_; simp only [z, seval])
    simp only [openW, hb]
theorem send_spec (w : World) {N : Nat} (hw : w.fit N) (hN : N ≤ 500000000000) (to : Int) (m : Msg) (hm : m.ok) : Spec PP GG 54 [w.v, u32 to, m.v] (.tup [(sendW w to m).1.v, i64 (sendW w to m).2]) [] := by
  have hr := hw.grams
  have hs := hw.seen
  refine Spec.of_runs Go.Proofs.Tryz.f54 Go.Proofs.Tryz.func54 rfl ?_
  intro w0 M0
  simp only [Go.Proofs.Tryz.f54, List.replicate, List.cons_append, List.nil_append, z, seval]
  (refine CU (mPut_spec m hm) (h := ?_); simp only [z, seval])
  cases h1 : ((msgPut m).2 == 0) with
  | false =>
    simp only [h1, z, seval]
    (refine FINS_done ?_; simp only [z, seval])
    simp only [sendW, h1, cond_false]
  | true =>
    simp only [h1, z, seval]
    (refine CU (nSend_spec w.net ⟨to, (msgPut m).1⟩ hw.nroom (by omega) (by omega)) (h := ?_); simp only [z, seval])
    cases h2 : ((netSend w.net ⟨to, (msgPut m).1⟩).2 == 0) with
    | false =>
      simp only [h2, z, seval]
      (refine FINS_done ?_; simp only [z, seval])
      simp only [sendW, h1, h2, cond_true, cond_false]
    | true =>
      simp only [h2, z, seval]
      (refine FINS_done ?_; simp only [z, seval])
      simp only [sendW, h1, h2, cond_true]
theorem log_spec (w : World) {N : Nat} (hw : w.fit N) (hN : N ≤ 500000000000) (e : Event) : Spec PP GG 87 [w.v, e.v] (logW w e).v [] := by
  have hr := hw.log
  refine Spec.of_runs Go.Proofs.Tryz.f87 Go.Proofs.Tryz.func87 rfl ?_
  intro w0 M0
  simp only [Go.Proofs.Tryz.f87, List.replicate, List.cons_append, List.nil_append, z, seval]
  (refine CU (ConcatEvent_2 w.log [e] (by simp; omega)) (h := ?_); simp only [z, seval])
  (refine FINS_done ?_; simp only [z, seval])
  simp only [logW]
theorem room_spec' (w : World) {N : Nat} (hw : w.fit N) (hN : N ≤ 500000000000) (b f : Int) : Spec PP GG 114 [w.v, i64 b, i64 f] (.bool (roomW w b f)) [] := by
  have hr := hw.rows
  have hg := hw.grams
  refine Spec.of_runs Go.Proofs.Tryz.f114 Go.Proofs.Tryz.func114 rfl ?_
  intro w0 M0
  simp only [Go.Proofs.Tryz.f114, List.replicate, List.cons_append, List.nil_append, z, seval]
  (refine CU (bFree_spec w.box hw.broom (by omega)) (h := ?_); simp only [z, seval])
  repeat' (first | (refine CU (nFree_spec w.net hw.nroom (by omega)) (h := ?_); simp only [z, seval]) | ((first | refine brk (fun h => ?_) (fun h => ?_) | fail) <;> simp only [h, z, seval]))
  all_goals (refine FINS_done ?_; simp only [z, seval])
  all_goals (first | (simp only [roomW, *, cond_true, cond_false, Bool.true_and, Bool.and_true, Bool.false_and, Bool.and_false, Bool.true_or, Bool.or_true, Bool.false_or, Bool.or_false, Bool.not_true, Bool.not_false, beq_self_eq_true, Option.getD_some, Option.getD_none, Option.isSome_some, Option.isSome_none, List.map_nil]; done) | (simp only [roomW, *, cond_true, cond_false, Bool.true_and, Bool.and_true, Bool.false_and, Bool.and_false, Bool.true_or, Bool.or_true, Bool.false_or, Bool.or_false, Bool.not_true, Bool.not_false, beq_self_eq_true, Option.getD_some, Option.getD_none, Option.isSome_some, Option.isSome_none, List.map_nil]; rfl) | (simp [roomW, *]; done) | (simp_all [roomW]; done))
theorem person_spec (w : World) {N : Nat} (hw : w.fit N) (hN : N ≤ 500000000000) (n : Int) (hn : U n) : Spec PP GG 86 [w.v, u32 n] (personW w n).v [] := by
  obtain ⟨n, rfl⟩ := Int.eq_ofNat_of_zero_le hn.1
  have hn2 := hn.2
  exact Person_spec w n (by omega) (by have := hw.people; omega)
theorem with_spec (w : World) {N : Nat} (hw : w.fit N) (hN : N ≤ 500000000000) (p : Person) (hp : U p.name) : Spec PP GG 88 [w.v, p.v] (withW w p).v [] := by
  have hr := hw.people
  refine Spec.of_runs Go.Proofs.Tryz.f88 Go.Proofs.Tryz.func88 rfl ?_
  intro w0 M0
  simp only [Go.Proofs.Tryz.f88, List.replicate, List.cons_append, List.nil_append, z, seval]
  (refine CU (pSet_spec w.people p hp (by omega)) (h := ?_); simp only [z, seval])
  (refine FINS_done ?_; simp only [z, seval])
  simp only [withW]
theorem over_spec (now t w : Int) (h1 : U now) (h2 : U t) (h3 : U w) : Spec PP GG 198 [u32 now, u32 t, u32 w] (.bool (overM now t w)) [] := by
  obtain ⟨a1, a2⟩ := h1
  obtain ⟨b1, b2⟩ := h2
  obtain ⟨c1, c2⟩ := h3
  refine Spec.of_runs Go.Proofs.Tryz.f198 Go.Proofs.Tryz.func198 rfl ?_
  intro w0 M0
  simp only [Go.Proofs.Tryz.f198, List.replicate, List.cons_append, List.nil_append, z, seval]
  repeat' (first | (refine CALLS_in (fn := Go.Proofs.Tryz.f129) Go.Proofs.Tryz.func129 rfl (by kernel_rfl) ?_; simp only [Go.Proofs.Tryz.f129, List.replicate, List.cons_append, List.nil_append, z, seval]) | ((first | refine brk (fun h => ?_) (fun h => ?_) | fail) <;> simp only [h, z, seval]))
  all_goals try simp only [wu64 (n := now) (by omega) (by omega), wu64 (n := t) (by omega) (by omega), wu64 (n := w) (by omega) (by omega), wu64 (n := t + w) (by omega) (by omega), z, seval]
  all_goals (refine FINS_done ?_; simp only [z, seval])
  all_goals (first | (simp only [overM, *, cond_true, cond_false, Bool.true_and, Bool.and_true, Bool.false_and, Bool.and_false, Bool.true_or, Bool.or_true, Bool.false_or, Bool.or_false, Bool.not_true, Bool.not_false, beq_self_eq_true, Option.getD_some, Option.getD_none, Option.isSome_some, Option.isSome_none, List.map_nil]; done) | (simp only [overM, *, cond_true, cond_false, Bool.true_and, Bool.and_true, Bool.false_and, Bool.and_false, Bool.true_or, Bool.or_true, Bool.false_or, Bool.or_false, Bool.not_true, Bool.not_false, beq_self_eq_true, Option.getD_some, Option.getD_none, Option.isSome_some, Option.isSome_none, List.map_nil]; rfl) | (simp [overM, *]; done) | (simp_all [overM]; done))
end Ch

/- The document's 'alike' at the same thing twice. -/
set_option maxRecDepth 100000
set_option maxHeartbeats 4000000
set_option linter.unusedSimpArgs false
set_option linter.unusedVariables false
namespace Ch
open Go Go.Ab
theorem Same01 (l : List Int) (hl : l.length ≤ 1099511627776) : Spec PP GG 42 [wordsV l, wordsV l] (.bool true) [] := by
  refine Spec.of_runs Go.Proofs.Tryz.f42 Go.Proofs.Tryz.func42 rfl ?_
  intro w0 M0
  simp only [Go.Proofs.Tryz.f42, List.replicate, List.cons_append, List.nil_append, z, seval]
  refine RUNs_rangeS (l.length) (fun _ (_ : Unit) => True) (fun i _ => [(5, i64 i)]) (fun i _ => []) () ?_ (by simp only [z, seval]; exact wk) rfl ?_
  · trivial
  rintro ⟨i, _, hi, _⟩
  simp only [z, seval]
  first | refine brk (fun h => ?_) (fun h => ?_) | fail
  · have hlt : i < l.length := by have := of_decide_eq_true h; omega
    simp only [h, z, seval]
    (refine RUNs_draw 0 (by kernel_rfl) ?_; simp only [z, seval])
    simp only [getMap u32 l hlt, z, seval]
    (refine ⟨by kernel_rfl, ?_⟩)
    simp only [w64s (i := i) (by omega), z, seval]
    (refine NX () ?_ (by rfl) hlt ?_; simp only [z, seval]; exact wk)
    trivial
  · simp only [h, z, seval]
    (refine FINS_done ?_; simp only [z, seval])
theorem Rows01 (l : List (List Int)) (hl : l.length ≤ 1099511627776) (hw : ∀ x ∈ l, x.length ≤ 1099511627776) : Spec PP GG 68 [rowsV l, rowsV l] (.bool true) [] := by
  refine Spec.of_runs Go.Proofs.Tryz.f68 Go.Proofs.Tryz.func68 rfl ?_
  intro w0 M0
  simp only [Go.Proofs.Tryz.f68, List.replicate, List.cons_append, List.nil_append, z, seval]
  refine RUNs_rangeS (l.length) (fun _ (_ : Unit) => True) (fun i _ => [(5, i64 i)]) (fun i _ => []) () ?_ (by simp only [z, seval]; exact wk) rfl ?_
  · trivial
  rintro ⟨i, _, hi, _⟩
  simp only [z, seval]
  first | refine brk (fun h => ?_) (fun h => ?_) | fail
  · have hlt : i < l.length := by have := of_decide_eq_true h; omega
    simp only [h, z, seval]
    (refine RUNs_draw 0 (by kernel_rfl) ?_; simp only [z, seval])
    simp only [getMap wordsV l hlt, z, seval]
    (refine DU (Same01 l[i] (hw _ (List.getElem_mem hlt))) (h := ?_); simp only [z, seval])
    (refine ⟨by kernel_rfl, ?_⟩)
    simp only [w64s (i := i) (by omega), z, seval]
    (refine NX () ?_ (by rfl) hlt ?_; simp only [z, seval]; exact wk)
    trivial
  · simp only [h, z, seval]
    (refine FINS_done ?_; simp only [z, seval])
theorem Same04 (d : Draws) (hl : d.list.length ≤ 1099511627776) : Spec PP GG 63 [d.v, d.v] (.bool true) [] := by
  refine Spec.of_runs Go.Proofs.Tryz.f63 Go.Proofs.Tryz.func63 rfl ?_
  intro w0 M0
  simp only [Go.Proofs.Tryz.f63, List.replicate, List.cons_append, List.nil_append, z, seval]
  (refine CU (Same01 d.list hl) (h := ?_); simp only [z, seval])
  (refine FINS_done ?_; simp only [z, seval])
theorem Same07 (b : Box) (hl : b.rows.length ≤ 1099511627776) (hw : ∀ s ∈ b.rows, s.plain.length ≤ 1099511627776) : Spec PP GG 64 [b.v, b.v] (.bool true) [] := by
  refine Spec.of_runs Go.Proofs.Tryz.f64 Go.Proofs.Tryz.func64 rfl ?_
  intro w0 M0
  simp only [Go.Proofs.Tryz.f64, List.replicate, List.cons_append, List.nil_append, z, seval]
  refine RUNs_rangeS (b.rows.length) (fun _ (_ : Unit) => True) (fun i _ => [(5, i64 i)]) (fun i _ => []) () ?_ (by simp only [z, seval]; exact wk) rfl ?_
  · trivial
  rintro ⟨i, _, hi, _⟩
  simp only [z, seval]
  first | refine brk (fun h => ?_) (fun h => ?_) | fail
  · have hlt : i < b.rows.length := by have := of_decide_eq_true h; omega
    simp only [h, getMap Sld.v b.rows hlt, z, seval]
    (refine CU (Same01 b.rows[i].plain (hw _ (List.getElem_mem hlt))) (h := ?_); simp only [z, seval])
    simp only [w64s (i := i) (by omega), z, seval]
    (refine NX () ?_ (by rfl) hlt ?_; simp only [z, seval]; exact wk)
    trivial
  · simp only [h, z, seval]
    (refine FINS_done ?_; simp only [z, seval])
theorem One06 (g : Gram) (hl : g.words.length ≤ 1099511627776) : Spec PP GG 127 [g.v, g.v] (.bool true) [] := by
  refine Spec.of_runs Go.Proofs.Tryz.f127 Go.Proofs.Tryz.func127 rfl ?_
  intro w0 M0
  simp only [Go.Proofs.Tryz.f127, List.replicate, List.cons_append, List.nil_append, z, seval]
  (refine CU (Same01 g.words hl) (h := ?_); simp only [z, seval])
  (refine FINS_done ?_; simp only [z, seval])
theorem Same06 (n : Net) (hl : n.grams.length ≤ 1099511627776) (hw : ∀ g ∈ n.grams, g.words.length ≤ 1099511627776) (hs : n.seen.length ≤ 1099511627776) (hss : ∀ l ∈ n.seen, l.length ≤ 1099511627776) : Spec PP GG 65 [n.v, n.v] (.bool true) [] := by
  refine Spec.of_runs Go.Proofs.Tryz.f65 Go.Proofs.Tryz.func65 rfl ?_
  intro w0 M0
  simp only [Go.Proofs.Tryz.f65, List.replicate, List.cons_append, List.nil_append, z, seval]
  (refine CU (Rows01 n.seen hs hss) (h := ?_); simp only [z, seval])
  refine RUNs_rangeS (n.grams.length) (fun _ (_ : Unit) => True) (fun i _ => [(5, i64 i)]) (fun i _ => []) () ?_ (by simp only [z, seval]; exact wk) rfl ?_
  · trivial
  rintro ⟨i, _, hi, _⟩
  simp only [z, seval]
  first | refine brk (fun h => ?_) (fun h => ?_) | fail
  · have hlt : i < n.grams.length := by have := of_decide_eq_true h; omega
    simp only [h, z, seval]
    (refine RUNs_draw 0 (by kernel_rfl) ?_; simp only [z, seval])
    simp only [getMap Gram.v n.grams hlt, z, seval]
    (refine DU (One06 n.grams[i] (hw _ (List.getElem_mem hlt))) (h := ?_); simp only [z, seval])
    (refine ⟨by kernel_rfl, ?_⟩)
    simp only [w64s (i := i) (by omega), z, seval]
    (refine NX () ?_ (by rfl) hlt ?_; simp only [z, seval]; exact wk)
    trivial
  · simp only [h, z, seval]
    (refine FINS_done ?_; simp only [z, seval])
theorem Same09 (l : List Run) (hl : l.length ≤ 1099511627776) : Spec PP GG 106 [runsV l, runsV l] (.bool true) [] := by
  refine Spec.of_runs Go.Proofs.Tryz.f106 Go.Proofs.Tryz.func106 rfl ?_
  intro w0 M0
  simp only [Go.Proofs.Tryz.f106, List.replicate, List.cons_append, List.nil_append, z, seval]
  refine RUNs_rangeS (l.length) (fun _ (_ : Unit) => True) (fun i _ => [(5, i64 i)]) (fun i _ => []) () ?_ (by simp only [z, seval]; exact wk) rfl ?_
  · trivial
  rintro ⟨i, _, hi, _⟩
  simp only [z, seval]
  first | refine brk (fun h => ?_) (fun h => ?_) | fail
  · have hlt : i < l.length := by have := of_decide_eq_true h; omega
    simp only [h, z, seval]
    (refine RUNs_draw 0 (by kernel_rfl) ?_; simp only [z, seval])
    simp only [getMap Run.v l hlt, Run.v, z, seval]
    (refine ⟨by kernel_rfl, ?_⟩)
    simp only [w64s (i := i) (by omega), z, seval]
    (refine NX () ?_ (by rfl) hlt ?_; simp only [z, seval]; exact wk)
    trivial
  · simp only [h, z, seval]
    (refine FINS_done ?_; simp only [z, seval])
theorem One10 (p : Person) (hl : p.used.length ≤ 1099511627776) (hr : p.runs.length ≤ 1099511627776) : Spec PP GG 41 [p.v, p.v] (.bool true) [] := by
  refine Spec.of_runs Go.Proofs.Tryz.f41 Go.Proofs.Tryz.func41 rfl ?_
  intro w0 M0
  simp only [Go.Proofs.Tryz.f41, List.replicate, List.cons_append, List.nil_append, z, seval]
  (refine CU (Same01 p.used hl) (h := ?_); simp only [z, seval])
  (refine CU (Same09 p.runs hr) (h := ?_); simp only [z, seval])
  (refine FINS_done ?_; simp only [z, seval])
theorem Same10 (l : List Person) (hl : l.length ≤ 1099511627776) (hu : ∀ p ∈ l, p.used.length ≤ 1099511627776) (hr : ∀ p ∈ l, p.runs.length ≤ 1099511627776) : Spec PP GG 66 [peopleV l, peopleV l] (.bool true) [] := by
  refine Spec.of_runs Go.Proofs.Tryz.f66 Go.Proofs.Tryz.func66 rfl ?_
  intro w0 M0
  simp only [Go.Proofs.Tryz.f66, List.replicate, List.cons_append, List.nil_append, z, seval]
  refine RUNs_rangeS (l.length) (fun _ (_ : Unit) => True) (fun i _ => [(5, i64 i)]) (fun i _ => []) () ?_ (by simp only [z, seval]; exact wk) rfl ?_
  · trivial
  rintro ⟨i, _, hi, _⟩
  simp only [z, seval]
  first | refine brk (fun h => ?_) (fun h => ?_) | fail
  · have hlt : i < l.length := by have := of_decide_eq_true h; omega
    simp only [h, z, seval]
    (refine RUNs_draw 0 (by kernel_rfl) ?_; simp only [z, seval])
    simp only [getMap Person.v l hlt, z, seval]
    (refine DU (One10 l[i] (hu _ (List.getElem_mem hlt)) (hr _ (List.getElem_mem hlt))) (h := ?_); simp only [z, seval])
    (refine ⟨by kernel_rfl, ?_⟩)
    simp only [w64s (i := i) (by omega), z, seval]
    (refine NX () ?_ (by rfl) hlt ?_; simp only [z, seval]; exact wk)
    trivial
  · simp only [h, z, seval]
    (refine FINS_done ?_; simp only [z, seval])
theorem Events_same (l : List Event) (hl : l.length ≤ 9223372036854775807) : Spec PP GG 67 [eventsV l, eventsV l] (.bool true) [] := by
  refine Spec.of_runs Go.Proofs.Tryz.f67 Go.Proofs.Tryz.func67 rfl ?_
  intro w0 M0
  simp only [Go.Proofs.Tryz.f67, List.replicate, List.cons_append, List.nil_append, z, seval]
  refine RUNs_rangeF l.length (fun i (_ : Unit) => True) (fun i _ => [.sl (l.map Event.v) .plain, .sl (l.map Event.v) .plain, .any, .any, .bool false, i64 i, .any, .any, .any, .any, .any, .any, .any, .any, .any, .any, .any, .any, .any, .any, .any, .any, .any, .any, .any, .any]) () trivial wk rfl ?_
  rintro ⟨i, _, hi, hw⟩
  simp only [z, seval]
  refine CONDS_split (fun h => ?_) (fun h => ?_)
  · have hlt : i < l.length := by simpa using h
    simp only [z, seval]
    (refine RUNs_draw 0 (by kernel_rfl) ?_; simp only [z, seval])
    simp only [getMap Event.v l hlt, Event.v, z, seval]
    (refine ⟨by kernel_rfl, ?_⟩)
    simp only [w64s (i := i) (by omega), z, seval]
    refine NX () (hi := hlt) (hinv := ?_)
    trivial
  · simp only [z, seval]
    (refine FINS_done ?_; simp only [z, seval])
theorem Same12 (w : World) (hw : w.lim) : Spec PP GG 20 [w.v, w.v] (.bool true) [] := by
  have hl := hw.leaks
  refine Spec.of_runs Go.Proofs.Tryz.f20 Go.Proofs.Tryz.func20 rfl ?_
  intro w0 M0
  simp only [Go.Proofs.Tryz.f20, List.replicate, List.cons_append, List.nil_append, z, seval]
  (refine CU (Same04 w.draws hw.draws) (h := ?_); simp only [z, seval])
  (refine CU (Same07 w.box hw.rows hw.plain) (h := ?_); simp only [z, seval])
  (refine CU (Same06 w.net hw.grams hw.words hw.seen hw.seens) (h := ?_); simp only [z, seval])
  (refine CU (Same10 w.people hw.people hw.used hw.runs) (h := ?_); simp only [z, seval])
  (refine CU (Events_same w.log (by have := hw.log; omega)) (h := ?_); simp only [z, seval])
  (refine CU (Rows01 w.regs hw.regs hw.reg) (h := ?_); simp only [z, seval])
  refine RUNs_rangeS (w.leaks.length) (fun _ (_ : Unit) => True) (fun i _ => [(5, i64 i)]) (fun i _ => []) () ?_ (by simp only [z, seval]; exact wk) rfl ?_
  · trivial
  rintro ⟨i, _, hi, _⟩
  simp only [z, seval]
  first | refine brk (fun h => ?_) (fun h => ?_) | fail
  · have hlt : i < w.leaks.length := by have := of_decide_eq_true h; omega
    simp only [h, z, seval]
    (refine RUNs_draw 0 (by kernel_rfl) ?_; simp only [z, seval])
    simp only [getMap Leak.v w.leaks hlt, Leak.v, z, seval]
    (refine ⟨by kernel_rfl, ?_⟩)
    simp only [w64s (i := i) (by omega), z, seval]
    (refine NX () ?_ (by rfl) hlt ?_; simp only [z, seval]; exact wk)
    trivial
  · simp only [h, z, seval]
    (refine FINS_done ?_; simp only [z, seval])
end Ch

/- The document's messages. -/
set_option maxRecDepth 100000
set_option maxHeartbeats 4000000
set_option linter.unusedSimpArgs false
set_option linter.unusedVariables false
namespace Ch
open Go Go.Ab
theorem rHas_spec (kind tag : Int) : Spec PP GG 94 [u32 kind, u32 tag] (.bool (hasM kind tag)) [] := by
  refine Spec.of_runs Go.Proofs.Tryz.f94 Go.Proofs.Tryz.func94 rfl ?_
  intro w0 M0
  simp only [Go.Proofs.Tryz.f94, List.replicate, List.cons_append, List.nil_append, z, seval]
  repeat' ((first | refine brk (fun h => ?_) (fun h => ?_) | fail) <;> simp only [h, z, seval])
  all_goals (refine FINS_done ?_; simp only [z, seval])
  all_goals (first | (simp only [hasM, *, cond_true, cond_false, Bool.true_and, Bool.and_true, Bool.false_and, Bool.and_false, Bool.true_or, Bool.or_true, Bool.false_or, Bool.or_false, Bool.not_true, Bool.not_false, beq_self_eq_true, Option.getD_some, Option.getD_none, Option.isSome_some, Option.isSome_none, List.map_nil]; done) | (simp only [hasM, *, cond_true, cond_false, Bool.true_and, Bool.and_true, Bool.false_and, Bool.and_false, Bool.true_or, Bool.or_true, Bool.false_or, Bool.or_false, Bool.not_true, Bool.not_false, beq_self_eq_true, Option.getD_some, Option.getD_none, Option.isSome_some, Option.isSome_none, List.map_nil]; rfl) | (simp [hasM, *]; done) | (simp_all [hasM]; done))
theorem rword_spec (m : Msg) (tag : Int) : Spec PP GG 110 [m.v, u32 tag] (u32 (msgWord m tag)) [] := by
  refine Spec.of_runs Go.Proofs.Tryz.f110 Go.Proofs.Tryz.func110 rfl ?_
  intro w0 M0
  simp only [Go.Proofs.Tryz.f110, List.replicate, List.cons_append, List.nil_append, z, seval]
  repeat' ((first | refine brk (fun h => ?_) (fun h => ?_) | fail) <;> simp only [h, z, seval])
  all_goals (refine FINS_done ?_; simp only [z, seval])
  all_goals (first | (simp only [msgWord, *, cond_true, cond_false, Bool.true_and, Bool.and_true, Bool.false_and, Bool.and_false, Bool.true_or, Bool.or_true, Bool.false_or, Bool.or_false, Bool.not_true, Bool.not_false, beq_self_eq_true, Option.getD_some, Option.getD_none, Option.isSome_some, Option.isSome_none, List.map_nil]; done) | (simp only [msgWord, *, cond_true, cond_false, Bool.true_and, Bool.and_true, Bool.false_and, Bool.and_false, Bool.true_or, Bool.or_true, Bool.false_or, Bool.or_false, Bool.not_true, Bool.not_false, beq_self_eq_true, Option.getD_some, Option.getD_none, Option.isSome_some, Option.isSome_none, List.map_nil]; rfl) | (simp [msgWord, *]; done) | (simp_all [msgWord]; done))
theorem kind_cases {k : Int} (h : 1 ≤ k ∧ k ≤ 9) : k = 1 ∨ k = 2 ∨ k = 3 ∨ k = 4 ∨ k = 5 ∨ k = 6 ∨ k = 7 ∨ k = 8 ∨ k = 9 := by omega
theorem rMay_spec (m : Msg) (hm : m.ok) : Spec PP GG 45 [m.v] (.bool (msgMay m)) [] := by
  by_cases hk : 1 ≤ m.kind ∧ m.kind ≤ 9
  · have hc := kind_cases hk
    clear hm hk
    obtain ⟨kind, run, a, b, nonce, box, more⟩ := m
    simp only at hc
    rcases hc with rfl | rfl | rfl | rfl | rfl | rfl | rfl | rfl | rfl
    all_goals
      refine Spec.of_runs Go.Proofs.Tryz.f45 Go.Proofs.Tryz.func45 rfl ?_
      intro w0 M0
      simp only [Go.Proofs.Tryz.f45, List.replicate, List.cons_append, List.nil_append, z, seval]
      (refine RUNs_unroll 7 ?_; simp only [z, seval])
      (refine CU (rHas_spec _ 2) (h := ?_); simp only [z, seval])
      simp only [hasM, Int.reduceBEq, Bool.or_false, Bool.false_or, Bool.or_true, Bool.true_or, cond_true, cond_false, z, seval]
      try
        (refine CU (rword_spec ⟨_, run, a, b, nonce, box, more⟩ 2) (h := ?_); simp only [z, seval])
        simp only [msgWord, Int.reduceBEq, cond_true, cond_false, z, seval]
        refine brk (fun h2 => ?_) (fun h2 => ?_)
        rotate_left 1
        · simp only [z, seval]
          (refine FINS_done ?_; simp only [z, seval])
          simp_all [msgMay, tags, hasM, msgWord]
        simp only [z, seval]
      (refine RUNs_unr ?_; simp only [z, seval])
      (refine CU (rHas_spec _ 3) (h := ?_); simp only [z, seval])
      simp only [hasM, Int.reduceBEq, Bool.or_false, Bool.false_or, Bool.or_true, Bool.true_or, cond_true, cond_false, z, seval]
      try
        (refine CU (rword_spec ⟨_, run, a, b, nonce, box, more⟩ 3) (h := ?_); simp only [z, seval])
        simp only [msgWord, Int.reduceBEq, cond_true, cond_false, z, seval]
        refine brk (fun h3 => ?_) (fun h3 => ?_)
        rotate_left 1
        · simp only [z, seval]
          (refine FINS_done ?_; simp only [z, seval])
          simp_all [msgMay, tags, hasM, msgWord]
        simp only [z, seval]
      (refine RUNs_unr ?_; simp only [z, seval])
      (refine CU (rHas_spec _ 4) (h := ?_); simp only [z, seval])
      simp only [hasM, Int.reduceBEq, Bool.or_false, Bool.false_or, Bool.or_true, Bool.true_or, cond_true, cond_false, z, seval]
      try
        (refine CU (rword_spec ⟨_, run, a, b, nonce, box, more⟩ 4) (h := ?_); simp only [z, seval])
        simp only [msgWord, Int.reduceBEq, cond_true, cond_false, z, seval]
        refine brk (fun h4 => ?_) (fun h4 => ?_)
        rotate_left 1
        · simp only [z, seval]
          (refine FINS_done ?_; simp only [z, seval])
          simp_all [msgMay, tags, hasM, msgWord]
        simp only [z, seval]
      (refine RUNs_unr ?_; simp only [z, seval])
      (refine CU (rHas_spec _ 5) (h := ?_); simp only [z, seval])
      simp only [hasM, Int.reduceBEq, Bool.or_false, Bool.false_or, Bool.or_true, Bool.true_or, cond_true, cond_false, z, seval]
      try
        (refine CU (rword_spec ⟨_, run, a, b, nonce, box, more⟩ 5) (h := ?_); simp only [z, seval])
        simp only [msgWord, Int.reduceBEq, cond_true, cond_false, z, seval]
        refine brk (fun h5 => ?_) (fun h5 => ?_)
        rotate_left 1
        · simp only [z, seval]
          (refine FINS_done ?_; simp only [z, seval])
          simp_all [msgMay, tags, hasM, msgWord]
        simp only [z, seval]
      (refine RUNs_unr ?_; simp only [z, seval])
      (refine CU (rHas_spec _ 6) (h := ?_); simp only [z, seval])
      simp only [hasM, Int.reduceBEq, Bool.or_false, Bool.false_or, Bool.or_true, Bool.true_or, cond_true, cond_false, z, seval]
      try
        (refine CU (rword_spec ⟨_, run, a, b, nonce, box, more⟩ 6) (h := ?_); simp only [z, seval])
        simp only [msgWord, Int.reduceBEq, cond_true, cond_false, z, seval]
        refine brk (fun h6 => ?_) (fun h6 => ?_)
        rotate_left 1
        · simp only [z, seval]
          (refine FINS_done ?_; simp only [z, seval])
          simp_all [msgMay, tags, hasM, msgWord]
        simp only [z, seval]
      (refine RUNs_unr ?_; simp only [z, seval])
      (refine CU (rHas_spec _ 7) (h := ?_); simp only [z, seval])
      simp only [hasM, Int.reduceBEq, Bool.or_false, Bool.false_or, Bool.or_true, Bool.true_or, cond_true, cond_false, z, seval]
      try
        (refine CU (rword_spec ⟨_, run, a, b, nonce, box, more⟩ 7) (h := ?_); simp only [z, seval])
        simp only [msgWord, Int.reduceBEq, cond_true, cond_false, z, seval]
        refine brk (fun h7 => ?_) (fun h7 => ?_)
        rotate_left 1
        · simp only [z, seval]
          (refine FINS_done ?_; simp only [z, seval])
          simp_all [msgMay, tags, hasM, msgWord]
        simp only [z, seval]
      (refine RUNs_unr ?_; simp only [z, seval])
      (refine FINS_done ?_; simp only [z, seval])
      simp_all [msgMay, tags, hasM, msgWord]
  · have hM : msgMay m = false := by
      rw [msgMay]
      rcases Int.lt_or_le m.kind 1 with h | h
      · rw [decide_eq_false (show ¬ m.kind ≥ 1 by omega)]; rfl
      · rw [decide_eq_false (show ¬ m.kind ≤ 9 by omega)]; simp
    rw [hM]
    refine Spec.of_runs Go.Proofs.Tryz.f45 Go.Proofs.Tryz.func45 rfl ?_
    intro w0 M0
    simp only [Go.Proofs.Tryz.f45, List.replicate, List.cons_append, List.nil_append, z, seval]
    repeat' ((first | refine brk (fun h => ?_) (fun h => ?_) | fail) <;> simp only [h, z, seval])
    all_goals first | ((refine FINS_done ?_; simp only [z, seval]); done) | (simp at *; omega)
theorem rPut_spec (m : Msg) (hm : m.ok) : Spec PP GG 95 [m.v] (.tup [wordsV (msgPut m).1, i64 (msgPut m).2]) [] := by
  have hM := rMay_spec m hm
  cases hmay : msgMay m with
  | true =>
    have hk : 1 ≤ m.kind ∧ m.kind ≤ 9 := by
      simp only [msgMay, Bool.and_eq_true, decide_eq_true_eq] at hmay; exact ⟨hmay.1, hmay.2.1⟩
    have hc := kind_cases hk
    rw [msgPut, hmay]
    rw [hmay] at hM
    clear hm hk hmay
    obtain ⟨kind, run, a, b, nonce, box, more⟩ := m
    simp only at hc
    rcases hc with rfl | rfl | rfl | rfl | rfl | rfl | rfl | rfl | rfl
    all_goals
      refine Spec.of_runs Go.Proofs.Tryz.f95 Go.Proofs.Tryz.func95 rfl ?_
      intro w0 M0
      simp only [Go.Proofs.Tryz.f95, List.replicate, List.cons_append, List.nil_append, z, seval]
      (refine CU (hM) (h := ?_); simp only [z, seval])
      (refine RUNs_unroll 7 ?_; simp only [z, seval])
      (refine CU (rHas_spec _ 2) (h := ?_); simp only [z, seval])
      simp only [hasM, Int.reduceBEq, Bool.or_false, Bool.false_or, Bool.or_true, Bool.true_or, cond_true, cond_false, z, seval]
      try
        (refine CU (rword_spec ⟨_, run, a, b, nonce, box, more⟩ 2) (h := ?_); simp only [z, seval])
        simp only [msgWord, Int.reduceBEq, cond_true, cond_false, z, seval]
      (refine RUNs_unr ?_; simp only [z, seval])
      (refine CU (rHas_spec _ 3) (h := ?_); simp only [z, seval])
      simp only [hasM, Int.reduceBEq, Bool.or_false, Bool.false_or, Bool.or_true, Bool.true_or, cond_true, cond_false, z, seval]
      try
        (refine CU (rword_spec ⟨_, run, a, b, nonce, box, more⟩ 3) (h := ?_); simp only [z, seval])
        simp only [msgWord, Int.reduceBEq, cond_true, cond_false, z, seval]
      (refine RUNs_unr ?_; simp only [z, seval])
      (refine CU (rHas_spec _ 4) (h := ?_); simp only [z, seval])
      simp only [hasM, Int.reduceBEq, Bool.or_false, Bool.false_or, Bool.or_true, Bool.true_or, cond_true, cond_false, z, seval]
      try
        (refine CU (rword_spec ⟨_, run, a, b, nonce, box, more⟩ 4) (h := ?_); simp only [z, seval])
        simp only [msgWord, Int.reduceBEq, cond_true, cond_false, z, seval]
      (refine RUNs_unr ?_; simp only [z, seval])
      (refine CU (rHas_spec _ 5) (h := ?_); simp only [z, seval])
      simp only [hasM, Int.reduceBEq, Bool.or_false, Bool.false_or, Bool.or_true, Bool.true_or, cond_true, cond_false, z, seval]
      try
        (refine CU (rword_spec ⟨_, run, a, b, nonce, box, more⟩ 5) (h := ?_); simp only [z, seval])
        simp only [msgWord, Int.reduceBEq, cond_true, cond_false, z, seval]
      (refine RUNs_unr ?_; simp only [z, seval])
      (refine CU (rHas_spec _ 6) (h := ?_); simp only [z, seval])
      simp only [hasM, Int.reduceBEq, Bool.or_false, Bool.false_or, Bool.or_true, Bool.true_or, cond_true, cond_false, z, seval]
      try
        (refine CU (rword_spec ⟨_, run, a, b, nonce, box, more⟩ 6) (h := ?_); simp only [z, seval])
        simp only [msgWord, Int.reduceBEq, cond_true, cond_false, z, seval]
      (refine RUNs_unr ?_; simp only [z, seval])
      (refine CU (rHas_spec _ 7) (h := ?_); simp only [z, seval])
      simp only [hasM, Int.reduceBEq, Bool.or_false, Bool.false_or, Bool.or_true, Bool.true_or, cond_true, cond_false, z, seval]
      try
        (refine CU (rword_spec ⟨_, run, a, b, nonce, box, more⟩ 7) (h := ?_); simp only [z, seval])
        simp only [msgWord, Int.reduceBEq, cond_true, cond_false, z, seval]
      (refine RUNs_unr ?_; simp only [z, seval])
      (refine FINS_done ?_; simp only [z, seval])
      rfl
  | false =>
    rw [hmay] at hM
    refine Spec.of_runs Go.Proofs.Tryz.f95 Go.Proofs.Tryz.func95 rfl ?_
    intro w0 M0
    simp only [Go.Proofs.Tryz.f95, List.replicate, List.cons_append, List.nil_append, z, seval]
    (refine CU (hM) (h := ?_); simp only [z, seval])
    (refine FINS_done ?_; simp only [z, seval])
    simp [msgPut, hmay]
end Ch

/- The document's draws, nets, boxes, people. -/
set_option maxRecDepth 100000
set_option maxHeartbeats 4000000
set_option linter.unusedSimpArgs false
set_option linter.unusedVariables false
namespace Ch
open Go Go.Ab
theorem rTake_spec (d : Draws) (h0 : 0 ≤ d.next) (h1 : d.next ≤ 1000000000000) : Spec PP GG 124 [d.v] (.tup [Draws.v ⟨d.list, d.next + 1⟩, u32 (drawAt d.list d.next.toNat)]) [] := by
  have h := Take04_spec d d.next.toNat (by omega)
  have e : IntKind.i64.wrap (d.next + 1) = d.next + 1 := w64 (n := d.next + 1) (by omega) (by omega)
  rw [e] at h
  exact h
theorem okApp {α : Type} {f : α → V} {sz : Nat} (l : List α) (x : V) (h : ∀ a, okE sz (f a) = true) (hx : okE sz x = true) {p : Bool} (hp : p = true) : ((l.map f ++ [x]).all (okE sz) && p) = true := by
  rw [List.all_append, hp, Bool.and_true]
  simp only [List.all_cons, List.all_nil, hx, Bool.and_true, List.all_eq_true]
  intro y hy; obtain ⟨a, _, rfl⟩ := List.mem_map.1 hy; exact h a
theorem rNSend_spec (n : Net) (g : Gram) (hl : n.grams.length ≤ 1000000000000) (hs : n.seen.length ≤ 1000000000000) : Spec PP GG 126 [n.v, g.v] (.tup [(netSend n g).1.v, i64 (netSend n g).2]) [] := by
  refine Spec.of_runs Go.Proofs.Tryz.f126 Go.Proofs.Tryz.func126 rfl ?_
  intro w0 M0
  simp only [Go.Proofs.Tryz.f126, List.replicate, List.cons_append, List.nil_append, z, seval]
  first | refine brk (fun h => ?_) (fun h => ?_) | fail
  · have e : decide (n.room - (n.grams.length : Int) < 1) = true := by have := of_decide_eq_true h; exact decide_eq_true (by omega)
    simp only [h, z, seval]
    (refine FINS_done ?_; simp only [z, seval])
    simp only [netSend, e, cond_true]
  · have e : decide (n.room - (n.grams.length : Int) < 1) = false := by have := of_decide_eq_false h; exact decide_eq_false (by omega)
    simp only [h, z, seval]
    (refine RUNs_draw 4 (by kernel_rfl) ?_; simp only [z, seval])
    refine DOC_ok ?_ ?_
    · exact okMap _ (fun a => rfl) (by omega)
    simp only [z, seval]
    refine DOC_ok ?_ ?_
    · simp; omega
    simp only [z, seval]
    (refine ⟨by kernel_rfl, ?_⟩)
    (refine RUNs_draw 4 (by kernel_rfl) ?_; simp only [z, seval])
    refine DOC_ok ?_ ?_
    · exact okMap _ (fun a => rfl) (by omega)
    simp only [z, seval]
    refine DOC_ok ?_ ?_
    · simp; omega
    simp only [z, seval]
    (refine ⟨by kernel_rfl, ?_⟩)
    (refine FINS_done ?_; simp only [z, seval])
    simp only [netSend, e, cond_false, List.map_append, List.map_cons, List.map_nil, z, seval]
theorem there_find (b : Box) (h : Int) : There07 b.rows h = (boxFind b h).isSome := by
  rw [There07, boxFind]; exact (List.isSome_find? ..).symm
theorem rSeal07_spec (b : Box) (hh key label : Int) (plain : List Int) (hl : b.rows.length ≤ 1000000000000) (hp : plain.length ≤ 1099511627776) : Spec PP GG 109 [b.v, u32 hh, u32 key, u32 label, wordsV plain] (.tup [(boxSeal b hh key label plain).1.v, i64 (boxSeal b hh key label plain).2]) [] := by
  refine Spec.of_runs Go.Proofs.Tryz.f109 Go.Proofs.Tryz.func109 rfl ?_
  intro w0 M0
  simp only [Go.Proofs.Tryz.f109, List.replicate, List.cons_append, List.nil_append, z, seval]
  cases e1 : decide ((plain.length : Int) > 64) with
  | true =>
    simp only [e1, z, seval]
    (refine FINS_done ?_; simp only [z, seval])
    simp only [boxSeal, e1, cond_true]
  | false =>
    simp only [e1, z, seval]
    (refine CU (There07_spec b hh (by omega)) (h := ?_); simp only [z, seval])
    rw [there_find]
    cases e2 : (boxFind b hh).isSome with
    | true =>
      simp only [z, seval]
      (refine FINS_done ?_; simp only [z, seval])
      simp only [boxSeal, e1, e2, cond_true, cond_false]
    | false =>
      simp only [z, seval]
      first | refine brk (fun h => ?_) (fun h => ?_) | fail
      · have e : decide (b.room - (b.rows.length : Int) < 1) = true := by have := of_decide_eq_true h; exact decide_eq_true (by omega)
        simp only [h, z, seval]
        (refine FINS_done ?_; simp only [z, seval])
        simp only [boxSeal, e1, e2, e, cond_true, cond_false]
      · have e : decide (b.room - (b.rows.length : Int) < 1) = false := by have := of_decide_eq_false h; exact decide_eq_false (by omega)
        simp only [h, z, seval]
        refine OPC_ok ?_ ?_
        · exact okMap _ (fun a => rfl) hp
        simp only [z, seval]
        (refine RUNs_draw 4 (by kernel_rfl) ?_; simp only [z, seval])
        refine DOC_ok ?_ ?_
        · exact okMap _ (fun a => rfl) (by omega)
        simp only [z, seval]
        refine DOC_ok ?_ ?_
        · simp; omega
        simp only [z, seval]
        (refine ⟨by kernel_rfl, ?_⟩)
        (refine FINS_done ?_; simp only [z, seval])
        simp only [boxSeal, e1, e2, e, cond_true, cond_false, List.map_append, List.map_cons, List.map_nil, z, seval]
theorem rMay08_spec (l : List Int) (room w : Int) (hl : l.length ≤ 1099511627776) : Spec PP GG 57 [wordsV l, i64 room, u32 w] (i64 (usedMay l room w)) [] := by
  refine Spec.of_runs Go.Proofs.Tryz.f57 Go.Proofs.Tryz.func57 rfl ?_
  intro w0 M0
  simp only [Go.Proofs.Tryz.f57, List.replicate, List.cons_append, List.nil_append, z, seval]
  repeat' (first | (refine CU (Has_spec l w (by omega)) (h := ?_); simp only [z, seval]) | ((first | refine brk (fun h => ?_) (fun h => ?_) | fail) <;> simp only [h, z, seval]))
  all_goals (refine FINS_done ?_; simp only [z, seval])
  all_goals (first | (simp only [usedMay, *, cond_true, cond_false, Bool.true_and, Bool.and_true, Bool.false_and, Bool.and_false, Bool.true_or, Bool.or_true, Bool.false_or, Bool.or_false, Bool.not_true, Bool.not_false, beq_self_eq_true, Option.getD_some, Option.getD_none, Option.isSome_some, Option.isSome_none, List.map_nil]; done) | (simp only [usedMay, *, cond_true, cond_false, Bool.true_and, Bool.and_true, Bool.false_and, Bool.and_false, Bool.true_or, Bool.or_true, Bool.false_or, Bool.or_false, Bool.not_true, Bool.not_false, beq_self_eq_true, Option.getD_some, Option.getD_none, Option.isSome_some, Option.isSome_none, List.map_nil]; rfl) | (simp [usedMay, *]; done) | (simp_all [usedMay]; done))
def rGet (l : List Person) (n : Int) : Option Person := l.find? fun p => p.name == n
theorem find_none_succ {α : Type} {l : List α} {f : α → Bool} {i : Nat} (h : i < l.length) (h1 : (l.take i).find? f = none) (h2 : f l[i] = false) : (l.take (i + 1)).find? f = none := by
  rw [List.take_succ_eq_append_getElem h, List.find?_append, h1]; simp [h2]
theorem find_at {α : Type} {l : List α} {f : α → Bool} {i : Nat} (h : i < l.length) (h1 : (l.take i).find? f = none) (h2 : f l[i] = true) : l.find? f = some l[i] := by
  have : l = l.take i ++ l.drop i := (List.take_append_drop i l).symm
  conv => lhs; rw [this]
  rw [List.find?_append, h1, Option.none_or, List.drop_eq_getElem_cons h, List.find?_cons, h2]
theorem rGet_spec (l : List Person) (n : Int) (hl : l.length ≤ 1099511627776) : Spec PP GG 100 [peopleV l, u32 n] (.tup [((rGet l n).getD zeroP).v, .bool (rGet l n).isSome]) [] := by
  refine Spec.of_runs Go.Proofs.Tryz.f100 Go.Proofs.Tryz.func100 rfl ?_
  intro w0 M0
  simp only [Go.Proofs.Tryz.f100, List.replicate, List.cons_append, List.nil_append, z, seval]
  refine RUNs_rangeF l.length (fun i (_ : Unit) => rGet (l.take i) n = none) (fun i _ => [.sl (l.map Person.v) .plain, u32 n, .any, .any, .ptr 0 0, .bool false, i64 i, .any, .any, .any, .any, .any, .any, .any, .any, .any, .any, .any, .any, .any, .any, .any, .any, .any, .any]) () (by simp [rGet]) wk rfl ?_
  rintro ⟨i, _, hi, hw⟩
  simp only [z, seval]
  refine CONDS_split (fun h => ?_) (fun h => ?_)
  · have hlt : i < l.length := by simpa using h
    simp only [z, seval, getMap Person.v l hlt]
    refine CONDS_split (fun h => ?_) (fun h => ?_)
    · simp only [z, seval, getMap Person.v l hlt]
      (refine FINS_done ?_; simp only [z, seval])
      rw [rGet, find_at hlt hw (by simpa using h)]
      simp
    · simp only [z, seval, w64s (i := i) (by omega)]
      refine NX () (hi := hlt) (hinv := ?_)
      exact find_none_succ hlt hw (by simpa using h)
  · have hi' : i = l.length := by simp at h; omega
    subst hi'
    rw [List.take_length] at hw
    simp only [z, seval]
    (refine FINS_done ?_; simp only [z, seval])
    rw [hw]; simp [zeroP]
theorem names_of_right {l : List Person} (h : Right10 l = true) : ∀ i (hi : i < l.length), l[i].name = i := by
  simp only [Right10, Bool.and_eq_true, decide_eq_true_eq] at h
  obtain ⟨⟨h1, h2⟩, h3⟩ := h
  intro i hi
  cases hc : l[i].name == IntKind.u32.wrap ((l.take i).length : Int) with
  | true =>
    have e : (l.take i).length = i := by rw [List.length_take]; omega
    rw [e] at hc
    have := of_decide_eq_true hc
    rw [this, IntKind.wrap_u32]
    omega
  | false =>
    rw [allIx_false hi hc] at h1; cases h1
theorem rGet_right {l : List Person} (h : Right10 l = true) (n : Nat) : rGet l n = l[n]? := by
  have hn := names_of_right h
  rw [rGet]
  by_cases hl : n < l.length
  · rw [List.getElem?_eq_getElem hl]
    refine find_at hl ?_ (by rw [hn n hl]; simp)
    rw [List.find?_eq_none]
    intro p hp
    obtain ⟨j, hj, rfl⟩ := List.mem_take_iff_getElem.1 hp
    have := hn j (by omega)
    simp only [this, beq_iff_eq]
    omega
  · rw [List.getElem?_eq_none (by omega), List.find?_eq_none]
    intro p hp
    obtain ⟨j, hj, rfl⟩ := List.mem_iff_getElem.1 hp
    have := hn j hj
    simp only [this, beq_iff_eq]
    omega
theorem rGetD_right {l : List Person} (h : Right10 l = true) {n : Int} (hn : U n) : (rGet l n).getD zeroP = getP l n.toNat := by
  obtain ⟨n, rfl⟩ := Int.eq_ofNat_of_zero_le hn.1
  rw [rGet_right h, Int.toNat_natCast]; rfl
theorem rGetS_right {l : List Person} (h : Right10 l = true) {n : Int} (hn : U n) : (rGet l n).isSome = decide (n.toNat < l.length) := by
  obtain ⟨n, rfl⟩ := Int.eq_ofNat_of_zero_le hn.1
  rw [rGet_right h, Int.toNat_natCast]
  by_cases hl : n < l.length
  · rw [List.getElem?_eq_getElem hl]; simp [hl]
  · rw [List.getElem?_eq_none (by omega)]; simp [hl]
theorem rPair_spec (l : List Person) (hl : l.length ≤ 1099511627776) (h : Right10 l = true) (a b : Int) (ha : U a) (hb : U b) : Spec PP GG 56 [peopleV l, u32 a, u32 b] (.bool (pairM l a b)) [] := by
  have h1 := rGet_spec l a hl
  have h2 := rGet_spec l b hl
  rw [rGetS_right h ha] at h1
  rw [rGetS_right h hb] at h2
  obtain ⟨ha0, _⟩ := ha
  obtain ⟨hb0, _⟩ := hb
  have za : decide (a > 0) = !(a == 0) := by cases hz : (a == 0) <;> simp_all <;> omega
  have zb : decide (b > 0) = !(b == 0) := by cases hz : (b == 0) <;> simp_all <;> omega
  clear h
  refine Spec.of_runs Go.Proofs.Tryz.f56 Go.Proofs.Tryz.func56 rfl ?_
  intro w0 M0
  simp only [Go.Proofs.Tryz.f56, List.replicate, List.cons_append, List.nil_append, z, seval]
  (refine CU (h1) (h := ?_); simp only [z, seval])
  refine CU h2 (h := ?_)
  simp only [za, zb, z, seval]
  repeat' ((first | refine brk (fun h => ?_) (fun h => ?_) | fail) <;> simp only [h, z, seval])
  all_goals (refine FINS_done ?_; simp only [z, seval])
  all_goals first | ((first | (simp only [pairM, *, cond_true, cond_false, Bool.true_and, Bool.and_true, Bool.false_and, Bool.and_false, Bool.true_or, Bool.or_true, Bool.false_or, Bool.or_false, Bool.not_true, Bool.not_false, beq_self_eq_true, Option.getD_some, Option.getD_none, Option.isSome_some, Option.isSome_none, List.map_nil]; done) | (simp only [pairM, *, cond_true, cond_false, Bool.true_and, Bool.and_true, Bool.false_and, Bool.and_false, Bool.true_or, Bool.or_true, Bool.false_or, Bool.or_false, Bool.not_true, Bool.not_false, beq_self_eq_true, Option.getD_some, Option.getD_none, Option.isSome_some, Option.isSome_none, List.map_nil]; rfl) | (simp [pairM, *]; done) | (simp_all [pairM]; done)); done) | (simp_all [pairM]; done) | (simp_all [pairM]; rw [Bool.eq_iff_iff]; simp; omega)
def setL (l : List Person) (p : Person) : List Person := l.map fun q => bif q.name == p.name then p else q
def setE (l : List Person) (p : Person) : Int := bif l.any (fun q => q.name == p.name) then 0 else 1
theorem setL_succ {l : List Person} {p : Person} {i : Nat} (h : i < l.length) : (setL (l.take i) p).map Person.v ++ [(bif l[i].name == p.name then p else l[i]).v] = (setL (l.take (i + 1)) p).map Person.v := by
  rw [List.take_succ_eq_append_getElem h, setL, setL, List.map_append, List.map_append]; rfl
theorem setE_succ {l : List Person} {p : Person} {i : Nat} (h : i < l.length) : setE (l.take (i + 1)) p = bif l[i].name == p.name then 0 else setE (l.take i) p := by
  rw [List.take_succ_eq_append_getElem h, setE, setE, List.any_append, List.any_cons, List.any_nil]
  cases (l[i].name == p.name) <;> cases (List.any (List.take i l) fun q => q.name == p.name) <;> rfl
theorem rSet_spec (l : List Person) (p : Person) (hl : l.length ≤ 1099511627776) : Spec PP GG 125 [peopleV l, p.v] (.tup [.row 1 l.length, i64 (setE l p)]) [.dead, .row 6 ((setL l p).map Person.v) l.length false] := by
  refine Spec.of_runs Go.Proofs.Tryz.f125 Go.Proofs.Tryz.func125 rfl ?_
  intro w0 M0
  simp only [Go.Proofs.Tryz.f125, List.replicate, List.cons_append, List.nil_append, z, seval]
  (refine RUNs_row0 6 6 (h := ?_); simp only [z, seval])
  refine RUNs_rangeS (l.length) (fun _ (_ : Unit) => True) (fun i _ => [(6, .row 1 i), (7, i64 (setE (l.take i) p)), (8, i64 i)]) (fun i _ => [(1, .row 6 ((setL (l.take i) p).map Person.v) i false)]) () ?_ (by simp only [z, seval]; exact wk) rfl ?_
  · trivial
  rintro ⟨i, _, hi, _⟩
  simp only [z, seval]
  first | refine brk (fun h => ?_) (fun h => ?_) | fail
  · have hlt : i < l.length := by have := of_decide_eq_true h; omega
    simp only [h, z, seval]
    (refine RUNs_draw 0 (by kernel_rfl) ?_; simp only [z, seval])
    simp only [getMap Person.v l hlt, z, seval]
    (refine ⟨by kernel_rfl, ?_⟩)
    have e := setL_succ (p := p) hlt
    have e2 := setE_succ (p := p) hlt
    cases hc : (l[i].name == p.name) with
    | true =>
      rw [hc] at e e2
      simp only [hc, z, seval]
      refine OPC_ok (by simp [setL]; omega) ?_
      simp only [mv, cond_true, cond_false] at e e2
      simp only [e, w64s (i := i) (by omega), z, seval]
      (refine NX () ?_ (by rfl) hlt ?_; simp only [e2, z, seval]; exact wk)
      trivial
    | false =>
      rw [hc] at e e2
      simp only [hc, getMap Person.v l hlt, z, seval]
      refine OPC_ok (by simp [setL]; omega) ?_
      simp only [mv, cond_true, cond_false] at e e2
      simp only [e, w64s (i := i) (by omega), z, seval]
      (refine NX () ?_ (by rfl) hlt ?_; simp only [e2, z, seval]; exact wk)
      trivial
  · simp only [h, z, seval]
    obtain rfl : i = l.length := by have := of_decide_eq_false h; omega
    clear hi h
    simp only [List.take_length, z, seval]
    (refine FINS_keep [1] (by simp only [List.filter_cons, List.filter_nil, List.contains_cons, List.contains_nil, beq_self_eq_true, Bool.or_false, Bool.false_or, Bool.or_true, Bool.true_or, Bool.not_true, Bool.not_false, Bool.false_eq_true, if_false, if_true, z, seval, z, seval]) ?_; simp only [List.filter_cons, List.filter_nil, List.contains_cons, List.contains_nil, beq_self_eq_true, Bool.or_false, Bool.false_or, Bool.or_true, Bool.true_or, Bool.not_true, Bool.not_false, Bool.false_eq_true, if_false, if_true, z, seval, z, seval]; exact wk)
end Ch
