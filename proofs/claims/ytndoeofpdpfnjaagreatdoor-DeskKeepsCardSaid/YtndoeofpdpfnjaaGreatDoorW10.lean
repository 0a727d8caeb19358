/- Frames read: fields, and messages. -/
import Derived.Test.YtndoeofpdpfnjaaGreatDoorW9
set_option maxRecDepth 100000
set_option maxHeartbeats 4000000
set_option linter.unusedSimpArgs false
set_option linter.unusedVariables false
namespace Ch
open Go Go.Ab
def fieldBad (l : List Int) : Bool := decide ((l.length : Int) < 2) || (decide (l.getD 0 0 < 1) || (decide (l.getD 0 0 > 255) || (decide (l.getD 1 0 > 16) || decide (l.getD 1 0 > (l.length : Int) - 2))))
def fieldsM : Nat → List Int → List Field × Int
  | k, l => bif l.isEmpty then ([], 0) else match k with
    | 0 => ([], 3)
    | k + 1 => bif fieldBad l then ([], 2) else
      (bif (fieldsM k (l.drop (2 + (l.getD 1 0).toNat))).2 == 0 then (⟨l.getD 0 0, (l.drop 2).take (l.getD 1 0).toNat⟩ :: (fieldsM k (l.drop (2 + (l.getD 1 0).toNat))).1, 0) else ([], (fieldsM k (l.drop (2 + (l.getD 1 0).toNat))).2))
def getF (l : List Int) : List Field × Int := bif decide ((l.length : Int) > 64) then ([], 3) else fieldsM 8 l
def setTag (m : Msg) (t w : Int) : Msg :=
  bif t == 2 then { m with run := w } else bif t == 3 then { m with a := w } else bif t == 4 then { m with b := w } else bif t == 5 then { m with nonce := w } else bif t == 6 then { m with box := w } else bif t == 7 then { m with more := w } else m
def kindM (k : Int) : Msg := ⟨k, 0, 0, 0, 0, 0, 0⟩
def headOk (f : List Field) : Bool := match f with
  | [] => false
  | g :: _ => g.tag == 1 && (g.data.length == 1 && (decide (g.data.getD 0 0 ≥ 1) && decide (g.data.getD 0 0 ≤ 9)))
def headK (f : List Field) : Int := match f with
  | [] => 0
  | g :: _ => g.data.getD 0 0
/-- as the program reads: tag by tag -/
def msgSeq (m : Msg) : List Int → List Field → Option Msg
  | [], [] => some m
  | [], _ :: _ => none
  | t :: ts, fs => bif hasM m.kind t then (match fs with
    | [] => none
    | f :: r => bif f.tag == t && f.data.length == 1 then msgSeq (setTag m t (f.data.getD 0 0)) ts r else none) else msgSeq m ts fs
/-- as the document reads: whatever there is, and put again -/
def msgFold (m : Msg) : List Field → Option Msg
  | [] => some m
  | f :: r => bif f.data.length == 1 && hasM m.kind f.tag then msgFold (setTag m f.tag (f.data.getD 0 0)) r else none
def orBad : Option Msg → Msg × Int
  | none => (zMsg, 2)
  | some m => (m, 0)
def msgGet (l : List Int) : Msg × Int := bif (getF l).2 == 0 then (bif headOk (getF l).1 then orBad (msgSeq (kindM (headK (getF l).1)) tags (getF l).1.tail) else (zMsg, 4)) else (zMsg, (getF l).2)
def msgGetR (l : List Int) : Msg × Int := bif (getF l).2 == 0 then (bif headOk (getF l).1 then (match msgFold (kindM (headK (getF l).1)) (getF l).1.tail with
    | none => (zMsg, 2)
    | some m => bif decide ((msgPut m).1 = l) then (m, 0) else (zMsg, 2)) else (zMsg, 4)) else (zMsg, (getF l).2)
/-! fields and their words -/
def flatOne (f : Field) : List Int := f.tag :: (f.data.length : Int) :: f.data
def flatAll (l : List Field) : List Int := l.flatMap flatOne
def fieldOk (f : Field) : Prop := 1 ≤ f.tag ∧ f.tag ≤ 255 ∧ f.data.length ≤ 16
theorem fields_flat : ∀ (k : Nat) (l : List Int) (f : List Field), (∀ x ∈ l, U x) → fieldsM k l = (f, 0) → flatAll f = l ∧ (∀ x ∈ f, fieldOk x) ∧ f.length ≤ k := by
  intro k
  induction k with
  | zero =>
    intro l f hu h
    unfold fieldsM at h
    cases l with
    | nil => cases h; exact ⟨rfl, fun x hx => (by cases hx), Nat.le_refl _⟩
    | cons a l => cases h
  | succ k ih =>
    intro l f hu h
    unfold fieldsM at h
    cases l with
    | nil => cases h; exact ⟨rfl, fun x hx => (by cases hx), Nat.zero_le _⟩
    | cons a l =>
      simp only [List.isEmpty_cons, cond_false] at h
      cases hb : fieldBad (a :: l) with
      | true => rw [hb] at h; cases h
      | false =>
        rw [hb] at h
        simp only [cond_false] at h
        cases he : ((fieldsM k ((a :: l).drop (2 + ((a :: l).getD 1 0).toNat))).2 == 0) with
        | false =>
          rw [he] at h
          simp only [cond_false, Prod.mk.injEq] at h
          rw [h.2] at he; cases he
        | true =>
          rw [he] at h
          simp only [cond_true, Prod.mk.injEq, and_true] at h
          simp only [fieldBad, Bool.or_eq_false_iff, decide_eq_false_iff_not] at hb
          obtain ⟨b1, b2, b3, b4, b5⟩ := hb
          cases l with
          | nil => simp at b1
          | cons b l =>
            have hn := hu b (by simp)
            simp only [List.getD_cons_zero, List.getD_cons_succ, List.length_cons] at b2 b3 b4 b5 h he
            obtain ⟨n, rfl⟩ := Int.eq_ofNat_of_zero_le hn.1
            simp only [Int.toNat_natCast] at h he
            have hd : (a :: (n : Int) :: l).drop (2 + n) = l.drop n := by rw [Nat.add_comm]; rfl
            rw [hd] at h he
            have hd2 : (a :: (n : Int) :: l).drop 2 = l := rfl
            rw [hd2] at h
            obtain ⟨i1, i2, i3⟩ := ih (l.drop n) _ (fun x hx => hu x (by have := List.mem_of_mem_drop hx; simp [this])) (Prod.ext rfl (by simpa using he))
            have hl : (l.take n).length = n := by rw [List.length_take]; omega
            subst h
            refine ⟨?_, ?_, ?_⟩
            · simp only [flatAll, List.flatMap_cons, flatOne, hl] at i1 ⊢
              rw [i1]
              simp only [List.cons_append, List.take_append_drop]
            · intro x hx
              rcases List.mem_cons.1 hx with rfl | hx
              · exact ⟨by simp only; omega, by simp only; omega, by simp only [hl]; omega⟩
              · exact i2 x hx
            · exact Nat.succ_le_succ i3
theorem flat_fields : ∀ (f : List Field) (k : Nat), (∀ x ∈ f, fieldOk x) → f.length ≤ k → fieldsM k (flatAll f) = (f, 0) := by
  intro f
  induction f with
  | nil => intro k _ _; unfold fieldsM; rfl
  | cons g f ih =>
    intro k hf hk
    cases k with
    | zero => simp at hk
    | succ k =>
      obtain ⟨g1, g2, g3⟩ := hf g (by simp)
      have e : flatAll (g :: f) = g.tag :: (g.data.length : Int) :: (g.data ++ flatAll f) := by simp [flatAll, flatOne]
      unfold fieldsM
      rw [e]
      have hb : fieldBad (g.tag :: (g.data.length : Int) :: (g.data ++ flatAll f)) = false := by
        simp only [fieldBad, Bool.or_eq_false_iff, decide_eq_false_iff_not, List.getD_cons_zero, List.getD_cons_succ, List.length_cons, List.length_append]
        exact ⟨by omega, by omega, by omega, by omega, by omega⟩
      have hd : (g.tag :: (g.data.length : Int) :: (g.data ++ flatAll f)).drop (2 + g.data.length) = flatAll f := by
        rw [Nat.add_comm]; show (g.data ++ flatAll f).drop g.data.length = _; rw [List.drop_left]
      have hd2 : (g.tag :: (g.data.length : Int) :: (g.data ++ flatAll f)).drop 2 = g.data ++ flatAll f := rfl
      simp only [List.isEmpty_cons, cond_false, hb, List.getD_cons_zero, List.getD_cons_succ, Int.toNat_natCast]
      rw [hd, hd2, ih k (fun x hx => hf x (by simp [hx])) (by simp at hk; omega), List.take_left]
      rfl
/-! messages and their fields -/
def bodyF (m : Msg) : List Field := (tags.filter (hasM m.kind)).map fun t => ⟨t, [msgWord m t]⟩
theorem may_kd {m : Msg} (h : msgMay m = true) : 1 ≤ m.kind ∧ m.kind ≤ 9 := by
  simp only [msgMay, Bool.and_eq_true, decide_eq_true_eq] at h; exact ⟨h.1, h.2.1⟩
theorem kind9 {k : Int} (h : 1 ≤ k ∧ k ≤ 9) : k = 1 ∨ k = 2 ∨ k = 3 ∨ k = 4 ∨ k = 5 ∨ k = 6 ∨ k = 7 ∨ k = 8 ∨ k = 9 := by omega
theorem msgWs_flat (m : Msg) : msgWs m = flatAll (⟨1, [m.kind]⟩ :: bodyF m) := by
  simp only [msgWs, flatAll, bodyF, List.flatMap_cons, flatOne, List.flatMap_map, tags]
  simp only [List.flatMap_nil, List.filter_cons, List.filter_nil]
  cases hasM m.kind 2 <;> cases hasM m.kind 3 <;> cases hasM m.kind 4 <;> cases hasM m.kind 5 <;> cases hasM m.kind 6 <;> cases hasM m.kind 7 <;> rfl
theorem one_of {l : List Int} (h : (l.length == 1) = true) : l = [l.getD 0 0] := by
  match l, h with
  | [x], _ => rfl
theorem seq_of {m : Msg} (h : msgMay m = true) : msgSeq (kindM m.kind) tags (bodyF m) = some m := by
  have hk := kind9 (may_kd h)
  obtain ⟨k, run, a, b, nonce, box, more⟩ := m
  simp only at hk
  rcases hk with rfl | rfl | rfl | rfl | rfl | rfl | rfl | rfl | rfl
  all_goals
    simp [msgMay, tags, hasM, msgWord] at h
    simp [msgSeq, bodyF, tags, hasM, msgWord, kindM, setTag, h]
theorem fold_of {m : Msg} (h : msgMay m = true) : msgFold (kindM m.kind) (bodyF m) = some m := by
  have hk := kind9 (may_kd h)
  obtain ⟨k, run, a, b, nonce, box, more⟩ := m
  simp only at hk
  rcases hk with rfl | rfl | rfl | rfl | rfl | rfl | rfl | rfl | rfl
  all_goals
    simp [msgMay, tags, hasM, msgWord] at h
    simp [msgFold, bodyF, tags, hasM, msgWord, kindM, setTag, h]
theorem setTag_kind (m : Msg) (t w : Int) : (setTag m t w).kind = m.kind := by
  unfold setTag
  cases (t == 2) <;> cases (t == 3) <;> cases (t == 4) <;> cases (t == 5) <;> cases (t == 6) <;> cases (t == 7) <;> rfl
theorem fold_kind : ∀ (fs : List Field) (m m' : Msg), msgFold m fs = some m' → m'.kind = m.kind
  | [], m, m', h => by simp only [msgFold, Option.some.injEq] at h; rw [h]
  | f :: r, m, m', h => by
    rw [msgFold] at h
    cases c : f.data.length == 1 && hasM m.kind f.tag
    · rw [c] at h; cases h
    · rw [c] at h
      have := fold_kind r _ m' h
      rw [this, setTag_kind]
def seqStep (m : Msg) (t : Int) (ts : List Int) (fs : List Field) : Option Msg := match fs with
  | [] => none
  | f :: r => bif f.tag == t && f.data.length == 1 then msgSeq (setTag m t (f.data.getD 0 0)) ts r else none
theorem seq_yes {m : Msg} {t : Int} {ts : List Int} {fs : List Field} (h : hasM m.kind t = true) : msgSeq m (t :: ts) fs = seqStep m t ts fs := by cases fs <;> (rw [msgSeq.eq_def]; simp only [h, cond_true, seqStep])
theorem seq_no {m : Msg} {t : Int} {ts : List Int} {fs : List Field} (h : hasM m.kind t = false) : msgSeq m (t :: ts) fs = msgSeq m ts fs := by cases fs <;> (rw [msgSeq.eq_def]; simp only [h, cond_false])
theorem step_some {m m' : Msg} {t : Int} {ts : List Int} {fs : List Field} (h : seqStep m t ts fs = some m') : ∃ w r, fs = ⟨t, [w]⟩ :: r ∧ msgSeq (setTag m t w) ts r = some m' := by
  cases fs with
  | nil => cases h
  | cons f r =>
    simp only [seqStep] at h
    cases c : f.tag == t && f.data.length == 1
    · rw [c] at h; cases h
    · rw [c] at h
      rw [Bool.and_eq_true] at c
      obtain ⟨tg, dt⟩ := f
      have e1 : tg = t := by simpa using c.1
      have e2 := one_of c.2
      simp only at e2
      refine ⟨dt.getD 0 0, r, ?_, h⟩
      rw [e1, ← e2]
theorem seq_nil {m m' : Msg} {fs : List Field} (h : msgSeq m [] fs = some m') : fs = [] ∧ m' = m := by
  cases fs with
  | nil => rw [msgSeq] at h; exact ⟨rfl, (Option.some.inj h).symm⟩
  | cons f r => rw [msgSeq] at h; cases h
theorem seq_some {k : Int} (hk : 1 ≤ k ∧ k ≤ 9) {fs : List Field} {m : Msg} (h : msgSeq (kindM k) tags fs = some m) : fs = bodyF m ∧ m.kind = k ∧ msgMay m = true := by
  have key : ∀ (m0 : Msg) (t : Int) (ts : List Int) (fs : List Field), msgSeq m0 (t :: ts) fs = some m → (hasM m0.kind t = true ∧ ∃ w r, fs = ⟨t, [w]⟩ :: r ∧ msgSeq (setTag m0 t w) ts r = some m) ∨ (hasM m0.kind t = false ∧ msgSeq m0 ts fs = some m) := by
    intro m0 t ts fs h
    cases c : hasM m0.kind t
    · rw [seq_no c] at h; exact .inr ⟨rfl, h⟩
    · rw [seq_yes c] at h; exact .inl ⟨rfl, step_some h⟩
  rcases kind9 hk with rfl | rfl | rfl | rfl | rfl | rfl | rfl | rfl | rfl
  all_goals
    have q := key _ _ _ _ h
    clear h
    rcases q with ⟨c2, w2, r2, rfl, h⟩ | ⟨c2, h⟩ <;> first
      | (exfalso; revert c2; simp [kindM, hasM]; done)
      | skip
    all_goals
      have q := key _ _ _ _ h
      clear h
      rcases q with ⟨c3, w3, r3, rfl, h⟩ | ⟨c3, h⟩ <;> first
        | (exfalso; revert c3; simp [kindM, hasM, setTag_kind]; done)
        | skip
    all_goals
      have q := key _ _ _ _ h
      clear h
      rcases q with ⟨c4, w4, r4, rfl, h⟩ | ⟨c4, h⟩ <;> first
        | (exfalso; revert c4; simp [kindM, hasM, setTag_kind]; done)
        | skip
    all_goals
      have q := key _ _ _ _ h
      clear h
      rcases q with ⟨c5, w5, r5, rfl, h⟩ | ⟨c5, h⟩ <;> first
        | (exfalso; revert c5; simp [kindM, hasM, setTag_kind]; done)
        | skip
    all_goals
      have q := key _ _ _ _ h
      clear h
      rcases q with ⟨c6, w6, r6, rfl, h⟩ | ⟨c6, h⟩ <;> first
        | (exfalso; revert c6; simp [kindM, hasM, setTag_kind]; done)
        | skip
    all_goals
      have q := key _ _ _ _ h
      clear h
      rcases q with ⟨c7, w7, r7, rfl, h⟩ | ⟨c7, h⟩ <;> first
        | (exfalso; revert c7; simp [kindM, hasM, setTag_kind]; done)
        | skip
    all_goals
      obtain ⟨rfl, rfl⟩ := seq_nil h
      simp [bodyF, tags, hasM, msgWord, kindM, setTag, msgMay]
theorem headK_cons (t x : Int) (fs : List Field) : headK (⟨t, [x]⟩ :: fs) = x := rfl
theorem head_form {f : List Field} (h : headOk f = true) : ∃ fs, f = ⟨1, [headK f]⟩ :: fs ∧ 1 ≤ headK f ∧ headK f ≤ 9 := by
  cases f with
  | nil => cases h
  | cons g r =>
    simp only [headOk, Bool.and_eq_true, decide_eq_true_eq, beq_iff_eq] at h
    obtain ⟨h1, h2, h3, h4⟩ := h
    obtain ⟨tg, dt⟩ := g
    have e2 := one_of (l := dt) (by simpa using h2)
    simp only at h1 h3 h4
    subst h1
    exact ⟨r, by show _ = (⟨1, [dt.getD 0 0]⟩ : Field) :: r; rw [← e2], h3, h4⟩
theorem field_one {t w : Int} (h : 1 ≤ t ∧ t ≤ 255) : fieldOk ⟨t, [w]⟩ := ⟨h.1, h.2, by simp⟩
theorem tags_ok {t : Int} (h : t ∈ tags) : 1 ≤ t ∧ t ≤ 255 := by
  simp only [tags, List.mem_cons, List.not_mem_nil, or_false] at h; omega
theorem bodyF_ok (m : Msg) : (∀ x ∈ ((⟨1, [m.kind]⟩ : Field) :: bodyF m), fieldOk x) ∧ (bodyF m).length ≤ 6 := by
  constructor
  · intro x hx
    rcases List.mem_cons.1 hx with rfl | hx
    · exact field_one (by omega)
    · simp only [bodyF, List.mem_map, List.mem_filter] at hx
      obtain ⟨t, ⟨ht, _⟩, rfl⟩ := hx
      exact field_one (tags_ok ht)
  · simp only [bodyF, List.length_map]
    exact Nat.le_trans (List.length_filter_le _ _) (by decide)
theorem getF_msg (m : Msg) : getF (msgWs m) = (⟨1, [m.kind]⟩ :: bodyF m, 0) := by
  have h := bodyF_ok m
  have h2 := msgWs_len m
  rw [getF, decide_eq_false (by omega), cond_false, msgWs_flat]
  exact flat_fields _ 8 h.1 (by simp only [List.length_cons]; omega)
theorem msgGet_put {m : Msg} (h : msgMay m = true) : msgGet (msgWs m) = (m, 0) := by
  have hk := may_kd h
  rw [msgGet, getF_msg]
  have e : headOk ((⟨1, [m.kind]⟩ : Field) :: bodyF m) = true := by simp [headOk]; omega
  simp only [e, beq_self_eq_true, cond_true, headK_cons, List.tail_cons, seq_of h, orBad]
theorem msgGet_ok {l : List Int} {m : Msg} (hu : ∀ x ∈ l, U x) (h : msgGet l = (m, 0)) : msgMay m = true ∧ l = msgWs m := by
  rw [msgGet] at h
  cases c : ((getF l).2 == 0)
  · rw [c] at h
    simp only [cond_false, Prod.mk.injEq] at h
    rw [h.2] at c; cases c
  rw [c] at h
  simp only [cond_true] at h
  cases c2 : headOk (getF l).1
  · rw [c2] at h; cases h
  rw [c2] at h
  simp only [cond_true] at h
  obtain ⟨fs, e, h1, h2⟩ := head_form c2
  rw [e, List.tail_cons] at h
  simp only [headK_cons] at h h1 h2
  cases c3 : msgSeq (kindM (headK (getF l).1)) tags fs with
  | none => rw [c3] at h; cases h
  | some m' =>
    rw [c3] at h
    simp only [orBad, Prod.mk.injEq, and_true] at h
    subst h
    obtain ⟨s1, s2, s3⟩ := seq_some ⟨h1, h2⟩ c3
    have c' : getF l = ((getF l).1, 0) := Prod.ext rfl (by simpa using c)
    unfold getF at c'
    cases c4 : decide ((l.length : Int) > 64)
    · rw [c4, cond_false] at c'
      obtain ⟨g1, g2, g3⟩ := fields_flat 8 l _ hu c'
      have : (fieldsM 8 l).1 = (getF l).1 := by rw [getF, c4, cond_false]
      rw [this] at g1
      exact ⟨s3, by rw [msgWs_flat, ← g1, e, s1, s2]⟩
    · rw [c4, cond_true] at c'
      cases c'
theorem msgGet_eq {l : List Int} (hu : ∀ x ∈ l, U x) : msgGetR l = msgGet l := by
  have key := @msgGet_ok l
  rw [msgGetR]
  rw [msgGet] at key ⊢
  cases c : ((getF l).2 == 0)
  · rfl
  rw [c] at key
  simp only [cond_true] at key ⊢
  cases c2 : headOk (getF l).1
  · rfl
  rw [c2] at key
  simp only [cond_true] at key ⊢
  obtain ⟨fs, e, h1, h2⟩ := head_form c2
  cases c3 : msgSeq (kindM (headK (getF l).1)) tags (getF l).1.tail with
  | some m =>
    rw [c3] at key
    obtain ⟨k1, k2⟩ := key hu rfl
    rw [e, List.tail_cons] at c3
    simp only [headK_cons] at c3 h1 h2
    obtain ⟨s1, s2, s3⟩ := seq_some ⟨h1, h2⟩ c3
    have hf := fold_of k1
    rw [← s1, s2] at hf
    rw [e, List.tail_cons]
    simp only [headK_cons, hf]
    have hp : (msgPut m).1 = l := by rw [msgPut, k1]; exact k2.symm
    rw [decide_eq_true hp]; rfl
  | none =>
    cases c4 : msgFold (kindM (headK (getF l).1)) (getF l).1.tail with
    | none => rfl
    | some m =>
      simp only
      cases c5 : decide ((msgPut m).1 = l)
      · rfl
      · exfalso
        have hp := of_decide_eq_true c5
        have hk : m.kind = headK (getF l).1 := fold_kind _ _ _ c4
        have hm : msgMay m = true := by
          cases hm : msgMay m
          · rw [msgPut, hm] at hp
            simp only [cond_false] at hp
            subst hp
            have : headOk (getF []).1 = false := rfl
            rw [this] at c2; cases c2
          · rfl
        rw [msgPut, hm] at hp
        simp only [cond_true] at hp
        subst hp
        rw [getF_msg] at c3
        simp only [headK_cons, List.tail_cons, seq_of hm] at c3
        cases c3
end Ch

/- The desk, of whatever world. -/
set_option maxRecDepth 100000
set_option maxHeartbeats 4000000
set_option linter.unusedSimpArgs false
set_option linter.unusedVariables false
namespace Ch
open Go Go.Ab
def fits12 (w : World) : Bool := Few12 w && Form12 w
theorem fits12_spec (w : World) (hw : w.ok) : Spec PP GG 30 [w.v] (.bool (fits12 w)) [] := by
  have hL := Lim_of_ok hw
  have h1 := Few12_spec w hL
  have h2 := Form12_spec w hL
  clear hw hL
  refine Spec.of_runs Go.Proofs.Tryz.f30 Go.Proofs.Tryz.func30 rfl ?_
  intro w0 M0
  simp only [Go.Proofs.Tryz.f30, List.replicate, List.cons_append, List.nil_append, z, seval]
  (refine CU (h1) (h := ?_); simp only [z, seval])
  cases c1 : Few12 w with
  | false =>
    simp only [z, seval]
    (refine FINS_done ?_; simp only [z, seval])
    simp only [fits12, c1, Bool.false_and]
  | true =>
  simp only [z, seval]
  (refine CU (h2) (h := ?_); simp only [z, seval])
  (refine FINS_done ?_; simp only [z, seval])
  simp only [fits12, c1, Bool.true_and]
theorem DeskSeals_spec (w : World) (hw : w.ok) (key label : Int) (p : Part) (handle : Int) (hk : U key) (hl : U label) (hp : p.ok) : Spec PP GG 7 [w.v, u32 key, u32 label, p.v, u32 handle] (.bool true) [] := by
  have hA := L12.awake_spec
  have hF := fits12_spec w hw
  cases hf : fits12 w with
  | false =>
    rw [hf] at hF
    refine Spec.of_runs Go.Proofs.Tryz.f7 Go.Proofs.Tryz.func7 rfl ?_
    intro w0 M0
    simp only [Go.Proofs.Tryz.f7, List.replicate, List.cons_append, List.nil_append, z, seval]
    (refine CU (hA) (h := ?_); simp only [z, seval])
    (refine CU (hF) (h := ?_); simp only [z, seval])
    (refine CU (hA) (h := ?_); simp only [z, seval])
    (refine FINS_done ?_; simp only [z, seval])
  | true =>
    rw [hf] at hF
    simp only [fits12, Bool.and_eq_true] at hf
    have hfit := fit_of_few hw hf.1 hf.2
    have hb := (form_iff.1 hf.2).box
    have h1 := seal_spec w hfit (by decide) key label p
    have h2 := rSeal_spec w hfit (by decide) key label p
    have h3 := open_spec w hfit (by decide) key label handle
    have h4 := rOpen_spec w hfit (by decide) hb key label handle
    have h5 := draw_spec w hfit (by decide)
    have h6 := rDraw_spec w hfit (by decide)
    have h7 := Same12 (sealW w key label p).1 ((fit_seal hfit (by decide) (by decide) hk hl hp).toLim (by decide))
    have h8 := Same12 (drawW w).1 ((fit_draw hfit (by decide)).toLim (by decide))
    clear hw hb hfit
    refine Spec.of_runs Go.Proofs.Tryz.f7 Go.Proofs.Tryz.func7 rfl ?_
    intro w0 M0
    simp only [Go.Proofs.Tryz.f7, List.replicate, List.cons_append, List.nil_append, z, seval]
    (refine CU (hA) (h := ?_); simp only [z, seval])
    (refine CU (hF) (h := ?_); simp only [z, seval])
    (refine CU (h1) (h := ?_); simp only [z, seval])
    (refine CU (h2) (h := ?_); simp only [z, seval])
    (refine CU (h3) (h := ?_); simp only [z, seval])
    (refine CU (h4) (h := ?_); simp only [z, seval])
    (refine CU (h5) (h := ?_); simp only [z, seval])
    (refine CU (h6) (h := ?_); simp only [z, seval])
    (refine CU (h7) (h := ?_); simp only [z, seval])
    (refine CU (h8) (h := ?_); simp only [z, seval])
    (refine FINS_done ?_; simp only [z, seval])
theorem DeskSends_spec (w : World) (hw : w.ok) (to : Int) (ht : U to) (m : Msg) (hm : m.ok) (e : Event) (he : e.ok) (p : Person) (hp : p.ok) : Spec PP GG 8 [w.v, u32 to, m.v, e.v, p.v] (.bool true) [] := by
  have hA := L12.awake_spec
  have hF := fits12_spec w hw
  have hT := Few10_spec [p] (by simp)
  cases hf : fits12 w with
  | false =>
    rw [hf] at hF
    refine Spec.of_runs Go.Proofs.Tryz.f8 Go.Proofs.Tryz.func8 rfl ?_
    intro w0 M0
    simp only [Go.Proofs.Tryz.f8, List.replicate, List.cons_append, List.nil_append, z, seval]
    (refine CU (hA) (h := ?_); simp only [z, seval])
    (refine CU (hF) (h := ?_); simp only [z, seval])
    (refine CU (hA) (h := ?_); simp only [z, seval])
    (refine FINS_done ?_; simp only [z, seval])
  | true =>
    rw [hf] at hF
    simp only [fits12, Bool.and_eq_true] at hf
    cases hg : Few10 [p] with
    | false =>
      rw [hg] at hT
      refine Spec.of_runs Go.Proofs.Tryz.f8 Go.Proofs.Tryz.func8 rfl ?_
      intro w0 M0
      simp only [Go.Proofs.Tryz.f8, List.replicate, List.cons_append, List.nil_append, z, seval]
      (refine CU (hA) (h := ?_); simp only [z, seval])
      (refine CU (hF) (h := ?_); simp only [z, seval])
      (refine CU (hT) (h := ?_); simp only [z, seval])
      (refine CU (hA) (h := ?_); simp only [z, seval])
      (refine FINS_done ?_; simp only [z, seval])
    | true =>
    rw [hg] at hT
    have hpl : p.used.length ≤ 1048576 ∧ p.runs.length ≤ 1048576 := by
      simp [Few10, few] at hg; omega
    have hfit := fit_of_few hw hf.1 hf.2
    have hr := (form_iff.1 hf.2).right
    have hq := (personW_ok hfit to)
    have hu := personW_used hfit to
    have hs := personW_runs hfit to
    have h1 := send_spec w hfit (by decide) to m hm
    have h2 := rSend_spec w hfit (by decide) to m hm
    have h3 := Same12 (sendW w to m).1 ((fit_send hfit (by decide) (by decide) ht hm).toLim (by decide))
    have h4 := log_spec w hfit (by decide) e
    have h5 := rLog_spec w hfit (by decide) e
    have h6 := Same12 (logW w e) ((fit_log hfit (by decide) he).toLim (by decide))
    have h7 := person_spec w hfit (by decide) to ht
    have h8 := rPerson_spec w hfit (by decide) hr to ht
    have h9 := One10 (personW w to) (by omega) (by omega)
    have h10 := with_spec w hfit (by decide) p hp.1
    have h11 := rWith_spec w hfit (by decide) hr p hp.1
    have h12 := Same12 (withW w p) ((fit_with hfit hp hpl.1 hpl.2).toLim (by decide))
    clear hw hfit hm he ht hq
    refine Spec.of_runs Go.Proofs.Tryz.f8 Go.Proofs.Tryz.func8 rfl ?_
    intro w0 M0
    simp only [Go.Proofs.Tryz.f8, List.replicate, List.cons_append, List.nil_append, z, seval]
    (refine CU (hA) (h := ?_); simp only [z, seval])
    (refine CU (hF) (h := ?_); simp only [z, seval])
    (refine CU (hT) (h := ?_); simp only [z, seval])
    (refine CU (h1) (h := ?_); simp only [z, seval])
    (refine CU (h2) (h := ?_); simp only [z, seval])
    (refine RUNs_draw 0 (by kernel_rfl) ?_; simp only [z, seval])
    (refine DU (h3) (h := ?_); simp only [z, seval])
    (refine DU (h4) (h := ?_); simp only [z, seval])
    (refine DU (h5) (h := ?_); simp only [z, seval])
    (refine DU (h6) (h := ?_); simp only [z, seval])
    (refine DU (h7) (h := ?_); simp only [z, seval])
    (refine DU (h8) (h := ?_); simp only [z, seval])
    (refine DU (h9) (h := ?_); simp only [z, seval])
    (refine DU (h10) (h := ?_); simp only [z, seval])
    (refine DU (h11) (h := ?_); simp only [z, seval])
    (refine DU (h12) (h := ?_); simp only [z, seval])
    (refine ⟨by kernel_rfl, ?_⟩)
    (refine FINS_done ?_; simp only [z, seval])
end Ch

/- The desk: what is sealed is opened; what is sent is read. -/
set_option maxRecDepth 100000
set_option maxHeartbeats 4000000
set_option linter.unusedSimpArgs false
set_option linter.unusedVariables false
namespace Ch
open Go Go.Ab
theorem fit_sum {w : World} {N : Nat} (h : w.fit N) (hN : N ≤ 300000000000) : w.regs.length + w.net.seen.length + w.net.grams.length ≤ 1000000000000 := by
  have h1 := h.regs
  have h2 := h.seen
  have h3 := h.grams
  omega
theorem DeskOpens_spec (w : World) (hw : w.ok) (key label : Int) (p : Part) (k l handle : Int) (hk : U key) (hl : U label) (hp : p.ok) : Spec PP GG 9 [w.v, u32 key, u32 label, p.v, u32 k, u32 l, u32 handle] (.bool true) [] := by
  have hA := L12.awake_spec
  have hF := fits12_spec w hw
  cases hf : fits12 w with
  | false =>
    rw [hf] at hF
    refine Spec.of_runs Go.Proofs.Tryz.f9 Go.Proofs.Tryz.func9 rfl ?_
    intro w0 M0
    simp only [Go.Proofs.Tryz.f9, List.replicate, List.cons_append, List.nil_append, z, seval]
    (refine CU (hA) (h := ?_); simp only [z, seval])
    (refine CU (hF) (h := ?_); simp only [z, seval])
    (refine CU (hA) (h := ?_); simp only [z, seval])
    (refine FINS_done ?_; simp only [z, seval])
  | true =>
    rw [hf] at hF
    cases hn : decide (w.draws.next ≥ 1048576) with
    | true =>
      refine Spec.of_runs Go.Proofs.Tryz.f9 Go.Proofs.Tryz.func9 rfl ?_
      intro w0 M0
      simp only [Go.Proofs.Tryz.f9, List.replicate, List.cons_append, List.nil_append, z, seval]
      (refine CU (hA) (h := ?_); simp only [z, seval])
      (refine CU (hF) (h := ?_); simp only [z, seval])
      simp only [hn, z, seval]
      (refine CU (hA) (h := ?_); simp only [z, seval])
      (refine FINS_done ?_; simp only [z, seval])
    | false =>
    simp only [fits12, Bool.and_eq_true] at hf
    have hfit := fit_of_few hw hf.1 hf.2
    have hform := form_iff.1 hf.2
    have h1 := seal_spec w hfit (by decide) key label p
    cases he : ((sealW w key label p).2.2 == 0) with
    | false =>
      obtain ⟨q1, q2⟩ := seal_err (show (sealW w key label p).2.2 ≠ 0 by intro h; rw [h] at he; cases he)
      have h2 := Same12 w (hfit.toLim (by decide))
      rw [q1, q2] at h1
      clear hw hfit hform q1 q2
      refine Spec.of_runs Go.Proofs.Tryz.f9 Go.Proofs.Tryz.func9 rfl ?_
      intro w0 M0
      simp only [Go.Proofs.Tryz.f9, List.replicate, List.cons_append, List.nil_append, z, seval]
      (refine CU (hA) (h := ?_); simp only [z, seval])
      (refine CU (hF) (h := ?_); simp only [z, seval])
      simp only [hn, z, seval]
      (refine CU (h1) (h := ?_); simp only [z, seval])
      simp only [he, z, seval]
      (refine CU (h2) (h := ?_); simp only [z, seval])
      (refine FINS_done ?_; simp only [z, seval])
    | true =>
    have he' : (sealW w key label p).2.2 = 0 := by simpa using he
    obtain ⟨q1, q2, q3, q4, q5⟩ := seal_ok he'
    have hfa := fit_seal hfit (by decide) (by decide) hk hl hp
    have hfo := form_seal hform (by have := of_decide_eq_false hn; omega) key label p
    rw [q1] at h1 hfa hfo
    have htop := drawW_top hfit
    have h2 := open_spec (sealTo w key label p) hfa (by decide) key label (drawW w).2
    have h3 := open_spec (sealTo w key label p) hfa (by decide) k l (drawW w).2
    have h4 := pForm_spec (sealTo w key label p) (hfa.toLim (by decide)) (fit_sum hfa (by decide))
    have h5 := open_spec w hfit (by decide) k l handle
    have h6 := open_spec (sealTo w key label p) hfa (by decide) k l handle
    rw [open_new he'] at h2 h3
    simp only [beq_self_eq_true, Bool.true_and, cond_true] at h2
    rw [form_iff.2 hfo] at h4
    have htop2 : decide ((drawW w).2 < 2147483648) = false := decide_eq_false (by omega)
    have hold : handle ≠ (drawW w).2 → openW (sealTo w key label p) k l handle = openW w k l handle := fun h => open_old h k l
    clear hw hfit hform hfa hfo q1 q2 q3 q4 q5 he he'
    cases c1 : (key == k && label == l) with
    | true =>
      rw [c1] at h3
      rw [Bool.and_eq_true, beq_iff_eq, beq_iff_eq] at c1
      obtain ⟨rfl, rfl⟩ := c1
      cases c2 : (handle == (drawW w).2) with
      | true =>
        refine Spec.of_runs Go.Proofs.Tryz.f9 Go.Proofs.Tryz.func9 rfl ?_
        intro w0 M0
        simp only [Go.Proofs.Tryz.f9, List.replicate, List.cons_append, List.nil_append, z, seval]
        (refine CU (hA) (h := ?_); simp only [z, seval])
        (refine CU (hF) (h := ?_); simp only [z, seval])
        simp only [hn, z, seval]
        (refine CU (h1) (h := ?_); simp only [z, seval])
        (refine CU (h2) (h := ?_); simp only [z, seval])
        (refine CU (h3) (h := ?_); simp only [z, seval])
        simp only [htop2, z, seval]
        (refine CU (h4) (h := ?_); simp only [z, seval])
        (refine CU (h5) (h := ?_); simp only [z, seval])
        (refine CU (h6) (h := ?_); simp only [z, seval])
        simp only [c2, z, seval]
        (refine FINS_done ?_; simp only [z, seval])
      | false =>
        rw [hold (by simpa using c2)] at h6
        refine Spec.of_runs Go.Proofs.Tryz.f9 Go.Proofs.Tryz.func9 rfl ?_
        intro w0 M0
        simp only [Go.Proofs.Tryz.f9, List.replicate, List.cons_append, List.nil_append, z, seval]
        (refine CU (hA) (h := ?_); simp only [z, seval])
        (refine CU (hF) (h := ?_); simp only [z, seval])
        simp only [hn, z, seval]
        (refine CU (h1) (h := ?_); simp only [z, seval])
        (refine CU (h2) (h := ?_); simp only [z, seval])
        (refine CU (h3) (h := ?_); simp only [z, seval])
        simp only [htop2, z, seval]
        (refine CU (h4) (h := ?_); simp only [z, seval])
        (refine CU (h5) (h := ?_); simp only [z, seval])
        (refine CU (h6) (h := ?_); simp only [z, seval])
        simp only [c2, z, seval]
        (refine FINS_done ?_; simp only [z, seval])
    | false =>
      rw [c1] at h3
      simp only [cond_false, zPart] at h3
      cases c2 : (handle == (drawW w).2) with
      | true =>
        refine Spec.of_runs Go.Proofs.Tryz.f9 Go.Proofs.Tryz.func9 rfl ?_
        intro w0 M0
        simp only [Go.Proofs.Tryz.f9, List.replicate, List.cons_append, List.nil_append, z, seval]
        (refine CU (hA) (h := ?_); simp only [z, seval])
        (refine CU (hF) (h := ?_); simp only [z, seval])
        simp only [hn, z, seval]
        (refine CU (h1) (h := ?_); simp only [z, seval])
        (refine CU (h2) (h := ?_); simp only [z, seval])
        (refine CU (h3) (h := ?_); simp only [z, seval])
        simp only [htop2, z, seval]
        (refine CU (h4) (h := ?_); simp only [z, seval])
        (refine CU (h5) (h := ?_); simp only [z, seval])
        (refine CU (h6) (h := ?_); simp only [z, seval])
        simp only [c2, z, seval]
        (refine FINS_done ?_; simp only [z, seval])
      | false =>
        rw [hold (by simpa using c2)] at h6
        refine Spec.of_runs Go.Proofs.Tryz.f9 Go.Proofs.Tryz.func9 rfl ?_
        intro w0 M0
        simp only [Go.Proofs.Tryz.f9, List.replicate, List.cons_append, List.nil_append, z, seval]
        (refine CU (hA) (h := ?_); simp only [z, seval])
        (refine CU (hF) (h := ?_); simp only [z, seval])
        simp only [hn, z, seval]
        (refine CU (h1) (h := ?_); simp only [z, seval])
        (refine CU (h2) (h := ?_); simp only [z, seval])
        (refine CU (h3) (h := ?_); simp only [z, seval])
        simp only [htop2, z, seval]
        (refine CU (h4) (h := ?_); simp only [z, seval])
        (refine CU (h5) (h := ?_); simp only [z, seval])
        (refine CU (h6) (h := ?_); simp only [z, seval])
        simp only [c2, z, seval]
        (refine FINS_done ?_; simp only [z, seval])
theorem DeskKeeps_spec (w : World) (hw : w.ok) (key label : Int) (p : Part) (m : Msg) (hm : m.ok) (e : Event) : Spec PP GG 11 [w.v, u32 key, u32 label, p.v, m.v, e.v] (.bool true) [] := by
  have hA := L12.awake_spec
  have hF := fits12_spec w hw
  cases hf : fits12 w with
  | false =>
    rw [hf] at hF
    refine Spec.of_runs Go.Proofs.Tryz.f11 Go.Proofs.Tryz.func11 rfl ?_
    intro w0 M0
    simp only [Go.Proofs.Tryz.f11, List.replicate, List.cons_append, List.nil_append, z, seval]
    (refine CU (hA) (h := ?_); simp only [z, seval])
    (refine CU (hF) (h := ?_); simp only [z, seval])
    (refine CU (hA) (h := ?_); simp only [z, seval])
    (refine FINS_done ?_; simp only [z, seval])
  | true =>
    rw [hf] at hF
    simp only [fits12, Bool.and_eq_true] at hf
    have hfit := fit_of_few hw hf.1 hf.2
    have hC := Copied_spec w (hfit.toLim (by decide))
    have h1 := seal_spec w hfit (by decide) key label p
    have h2 := send_spec w hfit (by decide) 1 m hm
    have h3 := log_spec w hfit (by decide) e
    have h4 := draw_spec w hfit (by decide)
    have h5 := with_spec w hfit (by decide) ⟨1, 0, 0, [], [], false⟩ (by decide)
    have h6 := Same12 w (hfit.toLim (by decide))
    clear hw hm hfit
    refine Spec.of_runs Go.Proofs.Tryz.f11 Go.Proofs.Tryz.func11 rfl ?_
    intro w0 M0
    simp only [Go.Proofs.Tryz.f11, List.replicate, List.cons_append, List.nil_append, z, seval]
    (refine CU (hA) (h := ?_); simp only [z, seval])
    (refine CU (hF) (h := ?_); simp only [z, seval])
    (refine CU (hC) (h := ?_); simp only [z, seval])
    (refine CU (h1) (h := ?_); simp only [z, seval])
    (refine CU (h2) (h := ?_); simp only [z, seval])
    (refine CU (h3) (h := ?_); simp only [z, seval])
    (refine CU (h4) (h := ?_); simp only [z, seval])
    (refine CU (h5) (h := ?_); simp only [z, seval])
    (refine CU (h6) (h := ?_); simp only [z, seval])
    (refine FINS_done ?_; simp only [z, seval])
theorem DeskSeals_law (w : World) (hw : w.ok) (key : Int) (hk : U key) (label : Int) (hl : U label) (p : Part) (hp : p.ok) (handle : Int) (hh : U handle) : Spec PP GG 7 [w.v, u32 key, u32 label, p.v, u32 handle] (.bool true) [] := DeskSeals_spec w hw key label p handle hk hl hp
theorem DeskSends_law (w : World) (hw : w.ok) (to : Int) (ht : U to) (m : Msg) (hm : m.ok) (e : Event) (he : e.ok) (p : Person) (hp : p.ok) : Spec PP GG 8 [w.v, u32 to, m.v, e.v, p.v] (.bool true) [] := DeskSends_spec w hw to ht m hm e he p hp
theorem DeskOpens_law (w : World) (hw : w.ok) (key : Int) (hk : U key) (label : Int) (hl : U label) (p : Part) (hp : p.ok) (k : Int) (_ : U k) (l : Int) (_ : U l) (handle : Int) (_ : U handle) : Spec PP GG 9 [w.v, u32 key, u32 label, p.v, u32 k, u32 l, u32 handle] (.bool true) [] := DeskOpens_spec w hw key label p k l handle hk hl hp
theorem DeskKeeps_law (w : World) (hw : w.ok) (key : Int) (hk : U key) (label : Int) (hl : U label) (p : Part) (hp : p.ok) (m : Msg) (hm : m.ok) (e : Event) (he : e.ok) : Spec PP GG 11 [w.v, u32 key, u32 label, p.v, m.v, e.v] (.bool true) [] := DeskKeeps_spec w hw key label p m hm e
end Ch
