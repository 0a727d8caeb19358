/- Frames read: fields, and messages. -/
import Derived.Test.YtndoeofpdpfnjaaGreatDoorW9
set_option maxRecDepth 100000
set_option maxHeartbeats 4000000
set_option linter.unusedSimpArgs false
set_option linter.unusedVariables false
namespace Ch
open Go Go.Ab
def fieldBad (l : List Int) : Bool := decide ((l.length : Int) < 2) || (decide (l.getD 0 0 < 1) || (decide (l.getD 0 0 > 255) || (decide (l.getD 1 0 > 16) || decide (l.getD 1 0 > (l.length : Int) - 2))))
def fieldsM : Nat → List Int → List Field × Int
  | k, l => bif l.isEmpty then ([], 0) else match k with
    | 0 => ([], 3)
    | k + 1 => bif fieldBad l then ([], 2) else
      (bif (fieldsM k (l.drop (2 + (l.getD 1 0).toNat))).2 == 0 then (⟨l.getD 0 0, (l.drop 2).take (l.getD 1 0).toNat⟩ :: (fieldsM k (l.drop (2 + (l.getD 1 0).toNat))).1, 0) else ([], (fieldsM k (l.drop (2 + (l.getD 1 0).toNat))).2))
def getF (l : List Int) : List Field × Int := bif decide ((l.length : Int) > 64) then ([], 3) else fieldsM 8 l
def setTag (m : Msg) (t w : Int) : Msg :=
  bif t == 2 then { m with run := w } else bif t == 3 then { m with a := w } else bif t == 4 then { m with b := w } else bif t == 5 then { m with nonce := w } else bif t == 6 then { m with box := w } else bif t == 7 then { m with more := w } else m
def kindM (k : Int) : Msg := ⟨k, 0, 0, 0, 0, 0, 0⟩
def headOk (f : List Field) : Bool := match f with
  | [] => false
  | g :: _ => g.tag == 1 && (g.data.length == 1 && (decide (g.data.getD 0 0 ≥ 1) && decide (g.data.getD 0 0 ≤ 9)))
def headK (f : List Field) : Int := match f with
  | [] => 0
  | g :: _ => g.data.getD 0 0
/-- as the program reads: tag by tag -/
def msgSeq (m : Msg) : List Int → List Field → Option Msg
  | [], [] => some m
  | [], _ :: _ => none
  | t :: ts, fs => bif hasM m.kind t then (match fs with
    | [] => none
    | f :: r => bif f.tag == t && f.data.length == 1 then msgSeq (setTag m t (f.data.getD 0 0)) ts r else none) else msgSeq m ts fs
/-- as the document reads: whatever there is, and put again -/
def msgFold (m : Msg) : List Field → Option Msg
  | [] => some m
  | f :: r => bif f.data.length == 1 && hasM m.kind f.tag then msgFold (setTag m f.tag (f.data.getD 0 0)) r else none
def orBad : Option Msg → Msg × Int
  | none => (zMsg, 2)
  | some m => (m, 0)
def msgGet (l : List Int) : Msg × Int := bif (getF l).2 == 0 then (bif headOk (getF l).1 then orBad (msgSeq (kindM (headK (getF l).1)) tags (getF l).1.tail) else (zMsg, 4)) else (zMsg, (getF l).2)
def msgGetR (l : List Int) : Msg × Int := bif (getF l).2 == 0 then (bif headOk (getF l).1 then (match msgFold (kindM (headK (getF l).1)) (getF l).1.tail with
    | none => (zMsg, 2)
    | some m => bif decide ((msgPut m).1 = l) then (m, 0) else (zMsg, 2)) else (zMsg, 4)) else (zMsg, (getF l).2)
/-! fields and their words -/
def flatOne (f : Field) : List Int := f.tag :: (f.data.length : Int) :: f.data
def flatAll (l : List Field) : List Int := l.flatMap flatOne
def fieldOk (f : Field) : Prop := 1 ≤ f.tag ∧ f.tag ≤ 255 ∧ f.data.length ≤ 16
theorem fields_flat : ∀ (k : Nat) (l : List Int) (f : List Field), (∀ x ∈ l, U x) → fieldsM k l = (f, 0) → flatAll f = l ∧ (∀ x ∈ f, fieldOk x) ∧ f.length ≤ k := by
  intro k
  induction k with
  | zero =>
    intro l f hu h
    unfold fieldsM at h
    cases l with
    | nil => cases h; exact ⟨rfl, fun x hx => (by cases hx), Nat.le_refl _⟩
    | cons a l => cases h
  | succ k ih =>
    intro l f hu h
    unfold fieldsM at h
    cases l with
    | nil => cases h; exact ⟨rfl, fun x hx => (by cases hx), Nat.zero_le _⟩
    | cons a l =>
      simp only [List.isEmpty_cons, cond_false] at h
      cases hb : fieldBad (a :: l) with
      | true => rw [hb] at h; cases h
      | false =>
        rw [hb] at h
        simp only [cond_false] at h
        cases he : ((fieldsM k ((a :: l).drop (2 + ((a :: l).getD 1 0).toNat))).2 == 0) with
        | false =>
          rw [he] at h
          simp only [cond_false, Prod.mk.injEq] at h
          rw [h.2] at he; cases he
        | true =>
          rw [he] at h
          simp only [cond_true, Prod.mk.injEq, and_true] at h
          simp only [fieldBad, Bool.or_eq_false_iff, decide_eq_false_iff_not] at hb
          obtain ⟨b1, b2, b3, b4, b5⟩ := hb
          cases l with
          | nil => simp at b1
          | cons b l =>
            have hn := hu b (by simp)
            simp only [List.getD_cons_zero, List.getD_cons_succ, List.length_cons] at b2 b3 b4 b5 h he
            obtain ⟨n, rfl⟩ := Int.eq_ofNat_of_zero_le hn.1
            simp only [Int.toNat_natCast] at h he
            have hd : (a :: (n : Int) :: l).drop (2 + n) = l.drop n := by rw [Nat.add_comm]; rfl
            rw [hd] at h he
            have hd2 : (a :: (n : Int) :: l).drop 2 = l := rfl
            rw [hd2] at h
            obtain ⟨i1, i2, i3⟩ := ih (l.drop n) _ (fun x hx => hu x (by have := List.mem_of_mem_drop hx; simp [this])) (Prod.ext rfl (by simpa using he))
            have hl : (l.take n).length = n := by rw [List.length_take]; omega
            subst h
            refine ⟨?_, ?_, ?_⟩
            · simp only [flatAll, List.flatMap_cons, flatOne, hl] at i1 ⊢
              rw [i1]
              simp only [List.cons_append, List.take_append_drop]
            · intro x hx
              rcases List.mem_cons.1 hx with rfl | hx
              · exact ⟨by simp only; omega, by simp only; omega, by simp only [hl]; omega⟩
              · exact i2 x hx
            · exact Nat.succ_le_succ i3
theorem flat_fields : ∀ (f : List Field) (k : Nat), (∀ x ∈ f, fieldOk x) → f.length ≤ k → fieldsM k (flatAll f) = (f, 0) := by
  intro f
  induction f with
  | nil => intro k _ _; unfold fieldsM; rfl
  | cons g f ih =>
    intro k hf hk
    cases k with
    | zero => simp at hk
    | succ k =>
      obtain ⟨g1, g2, g3⟩ := hf g (by simp)
      have e : flatAll (g :: f) = g.tag :: (g.data.length : Int) :: (g.data ++ flatAll f) := by simp [flatAll, flatOne]
      unfold fieldsM
      rw [e]
      have hb : fieldBad (g.tag :: (g.data.length : Int) :: (g.data ++ flatAll f)) = false := by
        simp only [fieldBad, Bool.or_eq_false_iff, decide_eq_false_iff_not, List.getD_cons_zero, List.getD_cons_succ, List.length_cons, List.length_append]
        exact ⟨by omega, by omega, by omega, by omega, by omega⟩
      have hd : (g.tag :: (g.data.length : Int) :: (g.data ++ flatAll f)).drop (2 + g.data.length) = flatAll f := by
        rw [Nat.add_comm]; show (g.data ++ flatAll f).drop g.data.length = _; rw [List.drop_left]
      have hd2 : (g.tag :: (g.data.length : Int) :: (g.data ++ flatAll f)).drop 2 = g.data ++ flatAll f := rfl
      simp only [List.isEmpty_cons, cond_false, hb, List.getD_cons_zero, List.getD_cons_succ, Int.toNat_natCast]
      rw [hd, hd2, ih k (fun x hx => hf x (by simp [hx])) (by simp at hk; omega), List.take_left]
      rfl
/-! messages and their fields -/
def bodyF (m : Msg) : List Field := (tags.filter (hasM m.kind)).map fun t => ⟨t, [msgWord m t]⟩
theorem may_kd {m : Msg} (h : msgMay m = true) : 1 ≤ m.kind ∧ m.kind ≤ 9 := by
  simp only [msgMay, Bool.and_eq_true, decide_eq_true_eq] at h; exact ⟨h.1, h.2.1⟩
theorem kind9 {k : Int} (h : 1 ≤ k ∧ k ≤ 9) : k = 1 ∨ k = 2 ∨ k = 3 ∨ k = 4 ∨ k = 5 ∨ k = 6 ∨ k = 7 ∨ k = 8 ∨ k = 9 := by omega
theorem msgWs_flat (m : Msg) : msgWs m = flatAll (⟨1, [m.kind]⟩ :: bodyF m) := by
  simp only [msgWs, flatAll, bodyF, List.flatMap_cons, flatOne, List.flatMap_map, tags]
  simp only [List.flatMap_nil, List.filter_cons, List.filter_nil]
  cases hasM m.kind 2 <;> cases hasM m.kind 3 <;> cases hasM m.kind 4 <;> cases hasM m.kind 5 <;> cases hasM m.kind 6 <;> cases hasM m.kind 7 <;> rfl
theorem one_of {l : List Int} (h : (l.length == 1) = true) : l = [l.getD 0 0] := by
  match l, h with
  | [x], _ => rfl
theorem seq_of {m : Msg} (h : msgMay m = true) : msgSeq (kindM m.kind) tags (bodyF m) = some m := by
  have hk := kind9 (may_kd h)
  obtain ⟨k, run, a, b, nonce, box, more⟩ := m
  simp only at hk
  rcases hk with rfl | rfl | rfl | rfl | rfl | rfl | rfl | rfl | rfl
  all_goals
    simp [msgMay, tags, hasM, msgWord] at h
    simp [msgSeq, bodyF, tags, hasM, msgWord, kindM, setTag, h]
theorem fold_of {m : Msg} (h : msgMay m = true) : msgFold (kindM m.kind) (bodyF m) = some m := by
  have hk := kind9 (may_kd h)
  obtain ⟨k, run, a, b, nonce, box, more⟩ := m
  simp only at hk
  rcases hk with rfl | rfl | rfl | rfl | rfl | rfl | rfl | rfl | rfl
  all_goals
    simp [msgMay, tags, hasM, msgWord] at h
    simp [msgFold, bodyF, tags, hasM, msgWord, kindM, setTag, h]
theorem setTag_kind (m : Msg) (t w : Int) : (setTag m t w).kind = m.kind := by
  unfold setTag
  cases (t == 2) <;> cases (t == 3) <;> cases (t == 4) <;> cases (t == 5) <;> cases (t == 6) <;> cases (t == 7) <;> rfl
theorem fold_kind : ∀ (fs : List Field) (m m' : Msg), msgFold m fs = some m' → m'.kind = m.kind
  | [], m, m', h => by simp only [msgFold, Option.some.injEq] at h; rw [h]
  | f :: r, m, m', h => by
    rw [msgFold] at h
    cases c : f.data.length == 1 && hasM m.kind f.tag
    · rw [c] at h; cases h
    · rw [c] at h
      have := fold_kind r _ m' h
      rw [this, setTag_kind]
def seqStep (m : Msg) (t : Int) (ts : List Int) (fs : List Field) : Option Msg := match fs with
  | [] => none
  | f :: r => bif f.tag == t && f.data.length == 1 then msgSeq (setTag m t (f.data.getD 0 0)) ts r else none
theorem seq_yes {m : Msg} {t : Int} {ts : List Int} {fs : List Field} (h : hasM m.kind t = true) : msgSeq m (t :: ts) fs = seqStep m t ts fs := by cases fs <;> (rw [msgSeq.eq_def]; simp only [h, cond_true, seqStep])
theorem seq_no {m : Msg} {t : Int} {ts : List Int} {fs : List Field} (h : hasM m.kind t = false) : msgSeq m (t :: ts) fs = msgSeq m ts fs := by cases fs <;> (rw [msgSeq.eq_def]; simp only [h, cond_false])
theorem step_some {m m' : Msg} {t : Int} {ts : List Int} {fs : List Field} (h : seqStep m t ts fs = some m') : ∃ w r, fs = ⟨t, [w]⟩ :: r ∧ msgSeq (setTag m t w) ts r = some m' := by
  cases fs with
  | nil => cases h
  | cons f r =>
    simp only [seqStep] at h
    cases c : f.tag == t && f.data.length == 1
    · rw [c] at h; cases h
    · rw [c] at h
      rw [Bool.and_eq_true] at c
      obtain ⟨tg, dt⟩ := f
      have e1 : tg = t := by simpa using c.1
      have e2 := one_of c.2
      simp only at e2
      refine ⟨dt.getD 0 0, r, ?_, h⟩
      rw [e1, ← e2]
theorem seq_nil {m m' : Msg} {fs : List Field} (h : msgSeq m [] fs = some m') : fs = [] ∧ m' = m := by
  cases fs with
  | nil => rw [msgSeq] at h; exact ⟨rfl, (Option.some.inj h).symm⟩
  | cons f r => rw [msgSeq] at h; cases h
theorem seq_some {k : Int} (hk : 1 ≤ k ∧ k ≤ 9) {fs : List Field} {m : Msg} (h : msgSeq (kindM k) tags fs = some m) : fs = bodyF m ∧ m.kind = k ∧ msgMay m = true := by
  have key : ∀ (m0 : Msg) (t : Int) (ts : List Int) (fs : List Field), msgSeq m0 (t :: ts) fs = some m → (hasM m0.kind t = true ∧ ∃ w r, fs = ⟨t, [w]⟩ :: r ∧ msgSeq (setTag m0 t w) ts r = some m) ∨ (hasM m0.kind t = false ∧ msgSeq m0 ts fs = some m) := by
    intro m0 t ts fs h
    cases c : hasM m0.kind t
    · rw [seq_no c] at h; exact .inr ⟨rfl, h⟩
    · rw [seq_yes c] at h; exact .inl ⟨rfl, step_some h⟩
  rcases kind9 hk with rfl | rfl | rfl | rfl | rfl | rfl | rfl | rfl | rfl
  all_goals
    have q := key _ _ _ _ h
    clear h
    rcases q with ⟨c2, w2, r2, rfl, h⟩ | ⟨c2, h⟩ <;> first
      | (exfalso; revert c2; simp [kindM, hasM]; done)
      | skip
    all_goals
      have q := key _ _ _ _ h
      clear h
      rcases q with ⟨c3, w3, r3, rfl, h⟩ | ⟨c3, h⟩ <;> first
        | (exfalso; revert c3; simp [kindM, hasM, setTag_kind]; done)
        | skip
    all_goals
      have q := key _ _ _ _ h
      clear h
      rcases q with ⟨c4, w4, r4, rfl, h⟩ | ⟨c4, h⟩ <;> first
        | (exfalso; revert c4; simp [kindM, hasM, setTag_kind]; done)
        | skip
    all_goals
      have q := key _ _ _ _ h
      clear h
      rcases q with ⟨c5, w5, r5, rfl, h⟩ | ⟨c5, h⟩ <;> first
        | (exfalso; revert c5; simp [kindM, hasM, setTag_kind]; done)
        | skip
    all_goals
      have q := key _ _ _ _ h
      clear h
      rcases q with ⟨c6, w6, r6, rfl, h⟩ | ⟨c6, h⟩ <;> first
        | (exfalso; revert c6; simp [kindM, hasM, setTag_kind]; done)
        | skip
    all_goals
      have q := key _ _ _ _ h
      clear h
      rcases q with ⟨c7, w7, r7, rfl, h⟩ | ⟨c7, h⟩ <;> first
        | (exfalso; revert c7; simp [kindM, hasM, setTag_kind]; done)
        | skip
    all_goals
      obtain ⟨rfl, rfl⟩ := seq_nil h
      simp [bodyF, tags, hasM, msgWord, kindM, setTag, msgMay]
theorem headK_cons (t x : Int) (fs : List Field) : headK (⟨t, [x]⟩ :: fs) = x := rfl
theorem head_form {f : List Field} (h : headOk f = true) : ∃ fs, f = ⟨1, [headK f]⟩ :: fs ∧ 1 ≤ headK f ∧ headK f ≤ 9 := by
  cases f with
  | nil => cases h
  | cons g r =>
    simp only [headOk, Bool.and_eq_true, decide_eq_true_eq, beq_iff_eq] at h
    obtain ⟨h1, h2, h3, h4⟩ := h
    obtain ⟨tg, dt⟩ := g
    have e2 := one_of (l := dt) (by simpa using h2)
    simp only at h1 h3 h4
    subst h1
    exact ⟨r, by show _ = (⟨1, [dt.getD 0 0]⟩ : Field) :: r; rw [← e2], h3, h4⟩
theorem field_one {t w : Int} (h : 1 ≤ t ∧ t ≤ 255) : fieldOk ⟨t, [w]⟩ := ⟨h.1, h.2, by simp⟩
theorem tags_ok {t : Int} (h : t ∈ tags) : 1 ≤ t ∧ t ≤ 255 := by
  simp only [tags, List.mem_cons, List.not_mem_nil, or_false] at h; omega
theorem bodyF_ok (m : Msg) : (∀ x ∈ ((⟨1, [m.kind]⟩ : Field) :: bodyF m), fieldOk x) ∧ (bodyF m).length ≤ 6 := by
  constructor
  · intro x hx
    rcases List.mem_cons.1 hx with rfl | hx
    · exact field_one (by omega)
    · simp only [bodyF, List.mem_map, List.mem_filter] at hx
      obtain ⟨t, ⟨ht, _⟩, rfl⟩ := hx
      exact field_one (tags_ok ht)
  · simp only [bodyF, List.length_map]
    exact Nat.le_trans (List.length_filter_le _ _) (by decide)
theorem getF_msg (m : Msg) : getF (msgWs m) = (⟨1, [m.kind]⟩ :: bodyF m, 0) := by
  have h := bodyF_ok m
  have h2 := msgWs_len m
  rw [getF, decide_eq_false (by omega), cond_false, msgWs_flat]
  exact flat_fields _ 8 h.1 (by simp only [List.length_cons]; omega)
theorem msgGet_put {m : Msg} (h : msgMay m = true) : msgGet (msgWs m) = (m, 0) := by
  have hk := may_kd h
  rw [msgGet, getF_msg]
  have e : headOk ((⟨1, [m.kind]⟩ : Field) :: bodyF m) = true := by simp [headOk]; omega
  simp only [e, beq_self_eq_true, cond_true, headK_cons, List.tail_cons, seq_of h, orBad]
theorem msgGet_ok {l : List Int} {m : Msg} (hu : ∀ x ∈ l, U x) (h : msgGet l = (m, 0)) : msgMay m = true ∧ l = msgWs m := by
  rw [msgGet] at h
  cases c : ((getF l).2 == 0)
  · rw [c] at h
    simp only [cond_false, Prod.mk.injEq] at h
    rw [h.2] at c; cases c
  rw [c] at h
  simp only [cond_true] at h
  cases c2 : headOk (getF l).1
  · rw [c2] at h; cases h
  rw [c2] at h
  simp only [cond_true] at h
  obtain ⟨fs, e, h1, h2⟩ := head_form c2
  rw [e, List.tail_cons] at h
  simp only [headK_cons] at h h1 h2
  cases c3 : msgSeq (kindM (headK (getF l).1)) tags fs with
  | none => rw [c3] at h; cases h
  | some m' =>
    rw [c3] at h
    simp only [orBad, Prod.mk.injEq, and_true] at h
    subst h
    obtain ⟨s1, s2, s3⟩ := seq_some ⟨h1, h2⟩ c3
    have c' : getF l = ((getF l).1, 0) := Prod.ext rfl (by simpa using c)
    unfold getF at c'
    cases c4 : decide ((l.length : Int) > 64)
    · rw [c4, cond_false] at c'
      obtain ⟨g1, g2, g3⟩ := fields_flat 8 l _ hu c'
      have : (fieldsM 8 l).1 = (getF l).1 := by rw [getF, c4, cond_false]
      rw [this] at g1
      exact ⟨s3, by rw [msgWs_flat, ← g1, e, s1, s2]⟩
    · rw [c4, cond_true] at c'
      cases c'
theorem msgGet_eq {l : List Int} (hu : ∀ x ∈ l, U x) : msgGetR l = msgGet l := by
  have key := @msgGet_ok l
  rw [msgGetR]
  rw [msgGet] at key ⊢
  cases c : ((getF l).2 == 0)
  · rfl
  rw [c] at key
  simp only [cond_true] at key ⊢
  cases c2 : headOk (getF l).1
  · rfl
  rw [c2] at key
  simp only [cond_true] at key ⊢
  obtain ⟨fs, e, h1, h2⟩ := head_form c2
  cases c3 : msgSeq (kindM (headK (getF l).1)) tags (getF l).1.tail with
  | some m =>
    rw [c3] at key
    obtain ⟨k1, k2⟩ := key hu rfl
    rw [e, List.tail_cons] at c3
    simp only [headK_cons] at c3 h1 h2
    obtain ⟨s1, s2, s3⟩ := seq_some ⟨h1, h2⟩ c3
    have hf := fold_of k1
    rw [← s1, s2] at hf
    rw [e, List.tail_cons]
    simp only [headK_cons, hf]
    have hp : (msgPut m).1 = l := by rw [msgPut, k1]; exact k2.symm
    rw [decide_eq_true hp]; rfl
  | none =>
    cases c4 : msgFold (kindM (headK (getF l).1)) (getF l).1.tail with
    | none => rfl
    | some m =>
      simp only
      cases c5 : decide ((msgPut m).1 = l)
      · rfl
      · exfalso
        have hp := of_decide_eq_true c5
        have hk : m.kind = headK (getF l).1 := fold_kind _ _ _ c4
        have hm : msgMay m = true := by
          cases hm : msgMay m
          · rw [msgPut, hm] at hp
            simp only [cond_false] at hp
            subst hp
            have : headOk (getF []).1 = false := rfl
            rw [this] at c2; cases c2
          · rfl
        rw [msgPut, hm] at hp
        simp only [cond_true] at hp
        subst hp
        rw [getF_msg] at c3
        simp only [headK_cons, List.tail_cons, seq_of hm] at c3
        cases c3
end Ch

/- The desk, of whatever world. -/
set_option maxRecDepth 100000
set_option maxHeartbeats 4000000
set_option linter.unusedSimpArgs false
set_option linter.unusedVariables false
namespace Ch
open Go Go.Ab
def fits12 (w : World) : Bool := Few12 w && Form12 w
theorem fits12_spec (w : World) (hw : w.ok) : Spec PP GG 30 [w.v] (.bool (fits12 w)) [] := by
  have hL := Lim_of_ok hw
  have h1 := Few12_spec w hL
  have h2 := Form12_spec w hL
  clear hw hL
  refine Spec.of_runs Go.Proofs.Tryz.f30 Go.Proofs.Tryz.func30 rfl ?_
  intro w0 M0
  simp only [Go.Proofs.Tryz.f30, List.replicate, List.cons_append, List.nil_append, z, seval]
  (refine CU (h1) (h := ?_); simp only [z, seval])
  cases c1 : Few12 w with
  | false =>
    simp only [z, seval]
    (refine FINS_done ?_; simp only [z, seval])
    simp only [fits12, c1, Bool.false_and]
  | true =>
  simp only [z, seval]
  (refine CU (h2) (h := ?_); simp only [z, seval])
  (refine FINS_done ?_; simp only [z, seval])
  simp only [fits12, c1, Bool.true_and]
theorem DeskSeals_spec (w : World) (hw : w.ok) (key label : Int) (p : Part) (handle : Int) (hk : U key) (hl : U label) (hp : p.ok) : Spec PP GG 7 [w.v, u32 key, u32 label, p.v, u32 handle] (.bool true) [] := by
  have hA := L12.awake_spec
  have hF := fits12_spec w hw
  cases hf : fits12 w with
  | false =>
    rw [hf] at hF
    refine Spec.of_runs Go.Proofs.Tryz.f7 Go.Proofs.Tryz.func7 rfl ?_
    intro w0 M0
    simp only [Go.Proofs.Tryz.f7, List.replicate, List.cons_append, List.nil_append, z, seval]
    (refine CU (hA) (h := ?_); simp only [z, seval])
    (refine CU (hF) (h := ?_); simp only [z, seval])
    (refine CU (hA) (h := ?_); simp only [z, seval])
    (refine FINS_done ?_; simp only [z, seval])
  | true =>
    rw [hf] at hF
    simp only [fits12, Bool.and_eq_true] at hf
    have hfit := fit_of_few hw hf.1 hf.2
    have hb := (form_iff.1 hf.2).box
    have h1 := seal_spec w hfit (by decide) key label p
    have h2 := rSeal_spec w hfit (by decide) key label p
    have h3 := open_spec w hfit (by decide) key label handle
    have h4 := rOpen_spec w hfit (by decide) hb key label handle
    have h5 := draw_spec w hfit (by decide)
    have h6 := rDraw_spec w hfit (by decide)
    have h7 := Same12 (sealW w key label p).1 ((fit_seal hfit (by decide) (by decide) hk hl hp).toLim (by decide))
    have h8 := Same12 (drawW w).1 ((fit_draw hfit (by decide)).toLim (by decide))
    clear hw hb hfit
    refine Spec.of_runs Go.Proofs.Tryz.f7 Go.Proofs.Tryz.func7 rfl ?_
    intro w0 M0
    simp only [Go.Proofs.Tryz.f7, List.replicate, List.cons_append, List.nil_append, z, seval]
    (refine CU (hA) (h := ?_); simp only [z, seval])
    (refine CU (hF) (h := ?_); simp only [z, seval])
    (refine CU (h1) (h := ?_); simp only [z, seval])
    (refine CU (h2) (h := ?_); simp only [z, seval])
    (refine CU (h3) (h := ?_); simp only [z, seval])
    (refine CU (h4) (h := ?_); simp only [z, seval])
    (refine CU (h5) (h := ?_); simp only [z, seval])
    (refine CU (h6) (h := ?_); simp only [z, seval])
    (refine CU (h7) (h := ?_); simp only [z, seval])
    (refine CU (h8) (h := ?_); simp only [z, seval])
    (refine FINS_done ?_; simp only [z, seval])
theorem DeskSends_spec (w : World) (hw : w.ok) (to : Int) (ht : U to) (m : Msg) (hm : m.ok) (e : Event) (he : e.ok) (p : Person) (hp : p.ok) : Spec PP GG 8 [w.v, u32 to, m.v, e.v, p.v] (.bool true) [] := by
  have hA := L12.awake_spec
  have hF := fits12_spec w hw
  have hT := Few10_spec [p] (by simp)
  cases hf : fits12 w with
  | false =>
    rw [hf] at hF
    refine Spec.of_runs Go.Proofs.Tryz.f8 Go.Proofs.Tryz.func8 rfl ?_
    intro w0 M0
    simp only [Go.Proofs.Tryz.f8, List.replicate, List.cons_append, List.nil_append, z, seval]
    (refine CU (hA) (h := ?_); simp only [z, seval])
    (refine CU (hF) (h := ?_); simp only [z, seval])
    (refine CU (hA) (h := ?_); simp only [z, seval])
    (refine FINS_done ?_; simp only [z, seval])
  | true =>
    rw [hf] at hF
    simp only [fits12, Bool.and_eq_true] at hf
    cases hg : Few10 [p] with
    | false =>
      rw [hg] at hT
      refine Spec.of_runs Go.Proofs.Tryz.f8 Go.Proofs.Tryz.func8 rfl ?_
      intro w0 M0
      simp only [Go.Proofs.Tryz.f8, List.replicate, List.cons_append, List.nil_append, z, seval]
      (refine CU (hA) (h := ?_); simp only [z, seval])
      (refine CU (hF) (h := ?_); simp only [z, seval])
      (refine CU (hT) (h := ?_); simp only [z, seval])
      (refine CU (hA) (h := ?_); simp only [z, seval])
      (refine FINS_done ?_; simp only [z, seval])
    | true =>
    rw [hg] at hT
    have hpl : p.used.length ≤ 1048576 ∧ p.runs.length ≤ 1048576 := by
      simp [Few10, few] at hg; omega
    have hfit := fit_of_few hw hf.1 hf.2
    have hr := (form_iff.1 hf.2).right
    have hq := (personW_ok hfit to)
    have hu := personW_used hfit to
    have hs := personW_runs hfit to
    have h1 := send_spec w hfit (by decide) to m hm
    have h2 := rSend_spec w hfit (by decide) to m hm
    have h3 := Same12 (sendW w to m).1 ((fit_send hfit (by decide) (by decide) ht hm).toLim (by decide))
    have h4 := log_spec w hfit (by decide) e
    have h5 := rLog_spec w hfit (by decide) e
    have h6 := Same12 (logW w e) ((fit_log hfit (by decide) he).toLim (by decide))
    have h7 := person_spec w hfit (by decide) to ht
    have h8 := rPerson_spec w hfit (by decide) hr to ht
    have h9 := One10 (personW w to) (by omega) (by omega)
    have h10 := with_spec w hfit (by decide) p hp.1
    have h11 := rWith_spec w hfit (by decide) hr p hp.1
    have h12 := Same12 (withW w p) ((fit_with hfit hp hpl.1 hpl.2).toLim (by decide))
    clear hw hfit hm he ht hq
    refine Spec.of_runs Go.Proofs.Tryz.f8 Go.Proofs.Tryz.func8 rfl ?_
    intro w0 M0
    simp only [Go.Proofs.Tryz.f8, List.replicate, List.cons_append, List.nil_append, z, seval]
    (refine CU (hA) (h := ?_); simp only [z, seval])
    (refine CU (hF) (h := ?_); simp only [z, seval])
    (refine CU (hT) (h := ?_); simp only [z, seval])
    (refine CU (h1) (h := ?_); simp only [z, seval])
    (refine CU (h2) (h := ?_); simp only [z, seval])
    (refine RUNs_draw 0 (by kernel_rfl) ?_; simp only [z, seval])
    (refine DU (h3) (h := ?_); simp only [z, seval])
    (refine DU (h4) (h := ?_); simp only [z, seval])
    (refine DU (h5) (h := ?_); simp only [z, seval])
    (refine DU (h6) (h := ?_); simp only [z, seval])
    (refine DU (h7) (h := ?_); simp only [z, seval])
    (refine DU (h8) (h := ?_); simp only [z, seval])
    (refine DU (h9) (h := ?_); simp only [z, seval])
    (refine DU (h10) (h := ?_); simp only [z, seval])
    (refine DU (h11) (h := ?_); simp only [z, seval])
    (refine DU (h12) (h := ?_); simp only [z, seval])
    (refine ⟨by kernel_rfl, ?_⟩)
    (refine FINS_done ?_; simp only [z, seval])
end Ch

/- The desk: what is sealed is opened; what is sent is read. -/
set_option maxRecDepth 100000
set_option maxHeartbeats 4000000
set_option linter.unusedSimpArgs false
set_option linter.unusedVariables false
namespace Ch
open Go Go.Ab
theorem fit_sum {w : World} {N : Nat} (h : w.fit N) (hN : N ≤ 300000000000) : w.regs.length + w.net.seen.length + w.net.grams.length ≤ 1000000000000 := by
  have h1 := h.regs
  have h2 := h.seen
  have h3 := h.grams
  omega
theorem DeskOpens_spec (w : World) (hw : w.ok) (key label : Int) (p : Part) (k l handle : Int) (hk : U key) (hl : U label) (hp : p.ok) : Spec PP GG 9 [w.v, u32 key, u32 label, p.v, u32 k, u32 l, u32 handle] (.bool true) [] := by
  have hA := L12.awake_spec
  have hF := fits12_spec w hw
  cases hf : fits12 w with
  | false =>
    rw [hf] at hF
    refine Spec.of_runs Go.Proofs.Tryz.f9 Go.Proofs.Tryz.func9 rfl ?_
    intro w0 M0
    simp only [Go.Proofs.Tryz.f9, List.replicate, List.cons_append, List.nil_append, z, seval]
    (refine CU (hA) (h := ?_); simp only [z, seval])
    (refine CU (hF) (h := ?_); simp only [z, seval])
    (refine CU (hA) (h := ?_); simp only [z, seval])
    (refine FINS_done ?_; simp only [z, seval])
  | true =>
    rw [hf] at hF
    cases hn : decide (w.draws.next ≥ 1048576) with
    | true =>
      refine Spec.of_runs Go.Proofs.Tryz.f9 Go.Proofs.Tryz.func9 rfl ?_
      intro w0 M0
      simp only [Go.Proofs.Tryz.f9, List.replicate, List.cons_append, List.nil_append, z, seval]
      (refine CU (hA) (h := ?_); simp only [z, seval])
      (refine CU (hF) (h := ?_); simp only [z, seval])
      simp only [hn, z, seval]
      (refine CU (hA) (h := ?_); simp only [z, seval])
      (refine FINS_done ?_; simp only [z, seval])
    | false =>
    simp only [fits12, Bool.and_eq_true] at hf
    have hfit := fit_of_few hw hf.1 hf.2
    have hform := form_iff.1 hf.2
    have h1 := seal_spec w hfit (by decide) key label p
    cases he : ((sealW w key label p).2.2 == 0) with
    | false =>
      obtain ⟨q1, q2⟩ := seal_err (show (sealW w key label p).2.2 ≠ 0 by intro h; rw [h] at he; cases he)
      have h2 := Same12 w (hfit.toLim (by decide))
      rw [q1, q2] at h1
      clear hw hfit hform q1 q2
      refine Spec.of_runs Go.Proofs.Tryz.f9 Go.Proofs.Tryz.func9 rfl ?_
      intro w0 M0
      simp only [Go.Proofs.Tryz.f9, List.replicate, List.cons_append, List.nil_append, z, seval]
      (refine CU (hA) (h := ?_); simp only [z, seval])
      (refine CU (hF) (h := ?_); simp only [z, seval])
      simp only [hn, z, seval]
      (refine CU (h1) (h := ?_); simp only [z, seval])
      simp only [he, z, seval]
      (refine CU (h2) (h := ?_); simp only [z, seval])
      (refine FINS_done ?_; simp only [z, seval])
    | true =>
    have he' : (sealW w key label p).2.2 = 0 := by simpa using he
    obtain ⟨q1, q2, q3, q4, q5⟩ := seal_ok he'
    have hfa := fit_seal hfit (by decide) (by decide) hk hl hp
    have hfo := form_seal hform (by have := of_decide_eq_false hn; omega) key label p
    rw [q1] at h1 hfa hfo
    have htop := drawW_top hfit
    have h2 := open_spec (sealTo w key label p) hfa (by decide) key label (drawW w).2
    have h3 := open_spec (sealTo w key label p) hfa (by decide) k l (drawW w).2
    have h4 := pForm_spec (sealTo w key label p) (hfa.toLim (by decide)) (fit_sum hfa (by decide))
    have h5 := open_spec w hfit (by decide) k l handle
    have h6 := open_spec (sealTo w key label p) hfa (by decide) k l handle
    rw [open_new he'] at h2 h3
    simp only [beq_self_eq_true, Bool.true_and, cond_true] at h2
    rw [form_iff.2 hfo] at h4
    have htop2 : decide ((drawW w).2 < 2147483648) = false := decide_eq_false (by omega)
    have hold : handle ≠ (drawW w).2 → openW (sealTo w key label p) k l handle = openW w k l handle := fun h => open_old h k l
    clear hw hfit hform hfa hfo q1 q2 q3 q4 q5 he he'
    cases c1 : (key == k && label == l) with
    | true =>
      rw [c1] at h3
      rw [Bool.and_eq_true, beq_iff_eq, beq_iff_eq] at c1
      obtain ⟨rfl, rfl⟩ := c1
      cases c2 : (handle == (drawW w).2) with
      | true =>
        refine Spec.of_runs Go.Proofs.Tryz.f9 Go.Proofs.Tryz.func9 rfl ?_
        intro w0 M0
        simp only [Go.Proofs.Tryz.f9, List.replicate, List.cons_append, List.nil_append, z, seval]
        (refine CU (hA) (h := ?_); simp only [z, seval])
        (refine CU (hF) (h := ?_); simp only [z, seval])
        simp only [hn, z, seval]
        (refine CU (h1) (h := ?_); simp only [z, seval])
        (refine CU (h2) (h := ?_); simp only [z, seval])
        (refine CU (h3) (h := ?_); simp only [z, seval])
        simp only [htop2, z, seval]
        (refine CU (h4) (h := ?_); simp only [z, seval])
        (refine CU (h5) (h := ?_); simp only [z, seval])
        (refine CU (h6) (h := ?_); simp only [z, seval])
        simp only [c2, z, seval]
        (refine FINS_done ?_; simp only [z, seval])
      | false =>
        rw [hold (by simpa using c2)] at h6
        refine Spec.of_runs Go.Proofs.Tryz.f9 Go.Proofs.Tryz.func9 rfl ?_
        intro w0 M0
        simp only [Go.Proofs.Tryz.f9, List.replicate, List.cons_append, List.nil_append, z, seval]
        (refine CU (hA) (h := ?_); simp only [z, seval])
        (refine CU (hF) (h := ?_); simp only [z, seval])
        simp only [hn, z, seval]
        (refine CU (h1) (h := ?_); simp only [z, seval])
        (refine CU (h2) (h := ?_); simp only [z, seval])
        (refine CU (h3) (h := ?_); simp only [z, seval])
        simp only [htop2, z, seval]
        (refine CU (h4) (h := ?_); simp only [z, seval])
        (refine CU (h5) (h := ?_); simp only [z, seval])
        (refine CU (h6) (h := ?_); simp only [z, seval])
        simp only [c2, z, seval]
        (refine FINS_done ?_; simp only [z, seval])
    | false =>
      rw [c1] at h3
      simp only [cond_false, zPart] at h3
      cases c2 : (handle == (drawW w).2) with
      | true =>
        refine Spec.of_runs Go.Proofs.Tryz.f9 Go.Proofs.Tryz.func9 rfl ?_
        intro w0 M0
        simp only [Go.Proofs.Tryz.f9, List.replicate, List.cons_append, List.nil_append, z, seval]
        (refine CU (hA) (h := ?_); simp only [z, seval])
        (refine CU (hF) (h := ?_); simp only [z, seval])
        simp only [hn, z, seval]
        (refine CU (h1) (h := ?_); simp only [z, seval])
        (refine CU (h2) (h := ?_); simp only [z, seval])
        (refine CU (h3) (h := ?_); simp only [z, seval])
        simp only [htop2, z, seval]
        (refine CU (h4) (h := ?_); simp only [z, seval])
        (refine CU (h5) (h := ?_); simp only [z, seval])
        (refine CU (h6) (h := ?_); simp only [z, seval])
        simp only [c2, z, seval]
        (refine FINS_done ?_; simp only [z, seval])
      | false =>
        rw [hold (by simpa using c2)] at h6
        refine Spec.of_runs Go.Proofs.Tryz.f9 Go.Proofs.Tryz.func9 rfl ?_
        intro w0 M0
        simp only [Go.Proofs.Tryz.f9, List.replicate, List.cons_append, List.nil_append, z, seval]
        (refine CU (hA) (h := ?_); simp only [z, seval])
        (refine CU (hF) (h := ?_); simp only [z, seval])
        simp only [hn, z, seval]
        (refine CU (h1) (h := ?_); simp only [z, seval])
        (refine CU (h2) (h := ?_); simp only [z, seval])
        (refine CU (h3) (h := ?_); simp only [z, seval])
        simp only [htop2, z, seval]
        (refine CU (h4) (h := ?_); simp only [z, seval])
        (refine CU (h5) (h := ?_); simp only [z, seval])
        (refine CU (h6) (h := ?_); simp only [z, seval])
        simp only [c2, z, seval]
        (refine FINS_done ?_; simp only [z, seval])
theorem DeskKeeps_spec (w : World) (hw : w.ok) (key label : Int) (p : Part) (m : Msg) (hm : m.ok) (e : Event) : Spec PP GG 11 [w.v, u32 key, u32 label, p.v, m.v, e.v] (.bool true) [] := by
  have hA := L12.awake_spec
  have hF := fits12_spec w hw
  cases hf : fits12 w with
  | false =>
    rw [hf] at hF
    refine Spec.of_runs Go.Proofs.Tryz.f11 Go.Proofs.Tryz.func11 rfl ?_
    intro w0 M0
    simp only [Go.Proofs.Tryz.f11, List.replicate, List.cons_append, List.nil_append, z, seval]
    (refine CU (hA) (h := ?_); simp only [z, seval])
    (refine CU (hF) (h := ?_); simp only [z, seval])
    (refine CU (hA) (h := ?_); simp only [z, seval])
    (refine FINS_done ?_; simp only [z, seval])
  | true =>
    rw [hf] at hF
    simp only [fits12, Bool.and_eq_true] at hf
    have hfit := fit_of_few hw hf.1 hf.2
    have hC := Copied_spec w (hfit.toLim (by decide))
    have h1 := seal_spec w hfit (by decide) key label p
    have h2 := send_spec w hfit (by decide) 1 m hm
    have h3 := log_spec w hfit (by decide) e
    have h4 := draw_spec w hfit (by decide)
    have h5 := with_spec w hfit (by decide) ⟨1, 0, 0, [], [], false⟩ (by decide)
    have h6 := Same12 w (hfit.toLim (by decide))
    clear hw hm hfit
    refine Spec.of_runs Go.Proofs.Tryz.f11 Go.Proofs.Tryz.func11 rfl ?_
    intro w0 M0
    simp only [Go.Proofs.Tryz.f11, List.replicate, List.cons_append, List.nil_append, z, seval]
    (refine CU (hA) (h := ?_); simp only [z, seval])
    (refine CU (hF) (h := ?_); simp only [z, seval])
    (refine CU (hC) (h := ?_); simp only [z, seval])
    (refine CU (h1) (h := ?_); simp only [z, seval])
    (refine CU (h2) (h := ?_); simp only [z, seval])
    (refine CU (h3) (h := ?_); simp only [z, seval])
    (refine CU (h4) (h := ?_); simp only [z, seval])
    (refine CU (h5) (h := ?_); simp only [z, seval])
    (refine CU (h6) (h := ?_); simp only [z, seval])
    (refine FINS_done ?_; simp only [z, seval])
theorem DeskSeals_law (w : World) (hw : w.ok) (key : Int) (hk : U key) (label : Int) (hl : U label) (p : Part) (hp : p.ok) (handle : Int) (hh : U handle) : Spec PP GG 7 [w.v, u32 key, u32 label, p.v, u32 handle] (.bool true) [] := DeskSeals_spec w hw key label p handle hk hl hp
theorem DeskSends_law (w : World) (hw : w.ok) (to : Int) (ht : U to) (m : Msg) (hm : m.ok) (e : Event) (he : e.ok) (p : Person) (hp : p.ok) : Spec PP GG 8 [w.v, u32 to, m.v, e.v, p.v] (.bool true) [] := DeskSends_spec w hw to ht m hm e he p hp
theorem DeskOpens_law (w : World) (hw : w.ok) (key : Int) (hk : U key) (label : Int) (hl : U label) (p : Part) (hp : p.ok) (k : Int) (_ : U k) (l : Int) (_ : U l) (handle : Int) (_ : U handle) : Spec PP GG 9 [w.v, u32 key, u32 label, p.v, u32 k, u32 l, u32 handle] (.bool true) [] := DeskOpens_spec w hw key label p k l handle hk hl hp
theorem DeskKeeps_law (w : World) (hw : w.ok) (key : Int) (hk : U key) (label : Int) (hl : U label) (p : Part) (hp : p.ok) (m : Msg) (hm : m.ok) (e : Event) (he : e.ok) : Spec PP GG 11 [w.v, u32 key, u32 label, p.v, m.v, e.v] (.bool true) [] := DeskKeeps_spec w hw key label p m hm e
end Ch

/- Frames read, as the document does. -/
set_option maxRecDepth 100000
set_option maxHeartbeats 4000000
set_option linter.unusedSimpArgs false
set_option linter.unusedVariables false
namespace Ch
open Go Go.Ab
def extF (out : List Field) (r : List Field × Int) : List Field × Int := bif r.2 == 0 then (out ++ r.1, 0) else ([], r.2)
theorem fieldsM_nil (k : Nat) : fieldsM k [] = ([], 0) := by unfold fieldsM; rfl
theorem fieldsM_full {l : List Int} (h : l ≠ []) : fieldsM 0 l = ([], 3) := by
  unfold fieldsM
  cases l with
  | nil => exact absurd rfl h
  | cons a l => rfl
theorem fieldsM_bad {k : Nat} {l : List Int} (h : l ≠ []) (hb : fieldBad l = true) : fieldsM (k + 1) l = ([], 2) := by
  unfold fieldsM
  cases l with
  | nil => exact absurd rfl h
  | cons a l => simp only [List.isEmpty_cons, cond_false, hb, cond_true]
theorem fieldsM_good {k : Nat} {l : List Int} (h : l ≠ []) (hb : fieldBad l = false) : fieldsM (k + 1) l = extF [⟨l.getD 0 0, (l.drop 2).take (l.getD 1 0).toNat⟩] (fieldsM k (l.drop (2 + (l.getD 1 0).toNat))) := by
  conv => lhs; unfold fieldsM
  cases l with
  | nil => exact absurd rfl h
  | cons a l => simp only [List.isEmpty_cons, cond_false, hb]; rfl
theorem fieldsM_err (k : Nat) (l : List Int) (h : ((fieldsM k l).2 == 0) = false) : (fieldsM k l).1 = [] := by
  cases l with
  | nil => rw [fieldsM_nil] at h; cases h
  | cons a l =>
    cases k with
    | zero => rw [fieldsM_full (List.cons_ne_nil _ _)]
    | succ k =>
      cases c : fieldBad (a :: l) with
      | true => rw [fieldsM_bad (List.cons_ne_nil _ _) c]
      | false =>
        rw [fieldsM_good (List.cons_ne_nil _ _) c, extF] at h ⊢
        revert h
        cases (fieldsM k (List.drop (2 + ((a :: l).getD 1 0).toNat) (a :: l))).2 == 0
        · intro _; rfl
        · intro h; cases h
theorem extF_nil (k : Nat) (l : List Int) : extF [] (fieldsM k l) = fieldsM k l := by
  unfold extF
  cases c : ((fieldsM k l).2 == 0)
  · exact Prod.ext (fieldsM_err k l c).symm rfl
  · exact Prod.ext (List.nil_append _) (by have : (fieldsM k l).2 = 0 := by simpa using c
                                           exact this.symm)
theorem extF_ext (a b : List Field) (r : List Field × Int) : extF a (extF b r) = extF (a ++ b) r := by
  unfold extF
  cases c : (r.2 == 0)
  · simp only [cond_false, c]
  · simp only [cond_true, beq_self_eq_true, List.append_assoc]
theorem slc_ok2 {α : Type} {f : α → V} {l : List α} {a b sz : Nat} (h : a ≤ b) (hb : b ≤ l.length) (hf : ∀ a, lenE' sz (f a) = true) : (slcB (l.map f).length (some a) (some b) none && (l.map f).all (lenE' sz)) = true := by
  simp [slcB, h, hb, hf]
theorem sub_map {α : Type} {f : α → V} (l : List α) (a n : Nat) : ((l.map f).take (a + n)).drop a = ((l.drop a).take n).map f := by
  rw [List.map_take, List.map_drop, List.drop_take, Nat.add_sub_cancel_left]
theorem drop_ne {l : List Int} {i : Nat} (h : i < l.length) : l.drop i ≠ [] := by
  rw [List.drop_eq_getElem_cons h]; exact List.cons_ne_nil _ _
theorem drop_0 {l : List Int} {i : Nat} (h : i < l.length) : (l.drop i).getD 0 0 = l[i] := by rw [List.drop_eq_getElem_cons h]; rfl
theorem drop_1 {l : List Int} {i : Nat} (h : i + 1 < l.length) : (l.drop i).getD 1 0 = l[i + 1] := by rw [List.drop_eq_getElem_cons (by omega), List.drop_eq_getElem_cons h]; rfl
theorem rGet02_spec (l : List Int) (hu : ∀ x ∈ l, U x) (hl : l.length ≤ 1099511627776) : Spec PP GG 79 [wordsV l] (.tup [fieldsV (getF l).1, i64 (getF l).2]) [] := by
  refine Spec.of_runs Go.Proofs.Tryz.f79 Go.Proofs.Tryz.func79 rfl ?_
  intro w0 M0
  simp only [Go.Proofs.Tryz.f79, List.replicate, List.cons_append, List.nil_append, z, seval]
  cases c0 : decide ((l.length : Int) > 64) with
  | true =>
    simp only [c0, z, seval]
    (refine FINS_done ?_; simp only [z, seval])
    simp only [getF, c0, cond_true, List.map_nil]
  | false =>
  have hg : getF l = fieldsM 8 l := by simp only [getF, c0, cond_false]
  rw [hg]
  have h64 : l.length ≤ 64 := by have := of_decide_eq_false c0; omega
  simp only [c0, z, seval]
  (refine RUNs_row0 4 2 (h := ?_); simp only [z, seval])
  refine RUNs_rangeS (9) (fun i (s : Nat × List Field) => s.1 ≤ l.length ∧ s.2.length = i ∧ i ≤ 8 ∧ fieldsM 8 l = extF s.2 (fieldsM (8 - i) (l.drop s.1))) (fun i s => [(4, .row 0 i), (5, i64 s.1)]) (fun i s => [(0, .row 2 (s.2.map Field.v) i false)]) (0, []) ?_ (by simp only [z, seval]; exact wk) rfl ?_
  · refine ⟨Nat.zero_le _, rfl, Nat.zero_le _, ?_⟩
    exact (extF_nil 8 l).symm
  rintro ⟨i, ⟨at_, out⟩, hi9, hi, ho, hi8, hm⟩
  simp only at hi ho hi8 hm
  simp only [z, seval]
  first | refine brk (fun h => ?_) (fun h => ?_) | fail
  · have hlt : at_ < l.length := by have := of_decide_eq_true h; omega
    have hne := drop_ne hlt
    simp only [h, ho, z, seval]
    cases c1 : ((i : Int) == 8) with
    | true =>
      obtain rfl : i = 8 := by have : (i : Int) = 8 := by simpa using c1
                               omega
      simp only [c1, z, seval]
      (refine FINS_done ?_; simp only [z, seval])
      rw [hm, fieldsM_full hne]; rfl
    | false =>
    have hi7 : i < 8 := by have : (i : Int) ≠ 8 := by simpa using c1
                           omega
    obtain ⟨k, hk⟩ : ∃ k, 8 - i = k + 1 := ⟨7 - i, by omega⟩
    have hk2 : 8 - (i + 1) = k := by omega
    rw [hk] at hm
    simp only [c1, w64s (i := at_) (by omega), z, seval]
    cases c2 : decide (((at_ + 1 : Nat) : Int) ≥ l.length) with
    | true =>
      simp only [c2, z, seval]
      (refine FINS_done ?_; simp only [z, seval])
      rw [hm, fieldsM_bad hne (by have := of_decide_eq_true c2; simp only [fieldBad, List.length_drop]; rw [decide_eq_true (by omega)]; rfl)]; rfl
    | false =>
    have hlt1 : at_ + 1 < l.length := by have := of_decide_eq_false c2; omega
    have g0 := drop_0 hlt
    have g1 := drop_1 hlt1
    have u0 := hu _ (List.getElem_mem hlt)
    have u1 := hu _ (List.getElem_mem hlt1)
    generalize hx : l[at_] = x at g0 u0
    generalize hy : l[at_ + 1] = y at g1 u1
    have hgx : (l.map u32)[at_]? = some (u32 x) := by rw [getMap u32 l hlt, hx]
    have hgy : (l.map u32)[at_ + 1]? = some (u32 y) := by rw [getMap u32 l hlt1, hy]
    have hw1 : IntKind.i64.wrap ((at_ : Int) + 1) = ((at_ + 1 : Nat) : Int) := w64s (by omega)
    simp only [c2, hgx, hgy, hw1, z, seval]
    have hbad : (x = 0 ∨ x > 255 ∨ y > 16 ∨ (at_ : Int) + 2 + y > l.length) → fieldBad (l.drop at_) = true := by
      intro hb
      have := u0.1
      simp only [fieldBad, g0, g1, List.length_drop, Bool.or_eq_true, decide_eq_true_eq]
      omega
    refine brk (fun c3 => ?_) (fun c3 => ?_)
    rotate_left 1
    · simp only [c3, z, seval]
      (refine FINS_done ?_; simp only [z, seval])
      rw [hm, fieldsM_bad hne (hbad (.inl (by simpa using c3)))]; rfl
    simp only [c3, hgx, hgy, hw1, z, seval]
    refine brk (fun c4 => ?_) (fun c4 => ?_)
    rotate_left 1
    · simp only [c4, z, seval]
      (refine FINS_done ?_; simp only [z, seval])
      rw [hm, fieldsM_bad hne (hbad (.inr (.inl (of_decide_eq_true c4))))]; rfl
    simp only [c4, hgx, hgy, hw1, z, seval]
    refine brk (fun c5 => ?_) (fun c5 => ?_)
    rotate_left 1
    · simp only [c5, z, seval]
      (refine FINS_done ?_; simp only [z, seval])
      rw [hm, fieldsM_bad hne (hbad (.inr (.inr (.inl (of_decide_eq_true c5)))))]; rfl
    have hy16 := of_decide_eq_false c5
    obtain ⟨n, rfl⟩ := Int.eq_ofNat_of_zero_le u1.1
    have hw2 : IntKind.i64.wrap ((at_ : Int) + 2) = ((at_ + 2 : Nat) : Int) := by rw [w64 (by omega) (by omega)]; omega
    have hw3 : IntKind.i64.wrap (n : Int) = (n : Int) := w64 (by omega) (by omega)
    have hw4 : IntKind.i64.wrap (((at_ + 2 : Nat) : Int) + (n : Int)) = ((at_ + 2 + n : Nat) : Int) := by rw [w64 (by omega) (by omega)]; omega
    simp only [c5, hgx, hgy, hw1, hw2, hw3, hw4, z, seval]
    cases c6 : decide (((at_ + 2 + n : Nat) : Int) > l.length) with
    | true =>
      simp only [c6, z, seval]
      (refine FINS_done ?_; simp only [z, seval])
      rw [hm, fieldsM_bad hne (hbad (.inr (.inr (.inr (by have := of_decide_eq_true c6; omega)))))]; rfl
    | false =>
    have hle : at_ + 2 + n ≤ l.length := by have := of_decide_eq_false c6; omega
    simp only [c6, hgx, hgy, hw1, hw2, hw3, hw4, z, seval]
    (refine RUNs_draw 4 (by kernel_rfl) ?_; simp only [z, seval])
    simp only [hgx, hgy, hw1, hw2, hw3, hw4, z, seval]
    refine DOC_ok (by first | exact slc_ok2 (by omega) hle (fun a => rfl) | (rw [← List.length_map (f := u32)]; exact slc_ok2 (by omega) hle (fun a => rfl))) ?_
    have hsub : (l.take (at_ + 2 + n)).drop (at_ + 2) = ((l.drop at_).drop 2).take n := by rw [List.drop_take, Nat.add_sub_cancel_left, List.drop_drop]
    simp only [hsub, hgx, hgy, hw1, hw2, hw3, hw4, z, seval]
    have hlen : (((l.drop at_).drop 2).take n).length = n := by rw [List.length_take, List.length_drop, List.length_drop]; omega
    refine DOC_ok ?_ ?_
    · exact okMap _ (fun a => rfl) (by omega)
    simp only [z, seval]
    refine DOC_ok ?_ ?_
    · simp; omega
    simp only [z, seval]
    (refine ⟨by kernel_rfl, ?_⟩)
    simp only [hw2, hw4, z, seval]
    have hb : fieldBad (l.drop at_) = false := by
      have := u0.1
      simp only [fieldBad, g0, g1, List.length_drop, Bool.or_eq_false_iff, decide_eq_false_iff_not]
      have e3 : ¬ x = 0 := by simpa using c3
      have e4 := of_decide_eq_false c4
      omega
    have e : out.map Field.v ++ [Field.v ⟨x, ((l.drop at_).drop 2).take n⟩] = (out ++ [(⟨x, ((l.drop at_).drop 2).take n⟩ : Field)]).map Field.v := by simp
    simp only [mv] at e
    simp only [e, z, seval]
    have hlt9 : i < 9 := by omega
    (refine NX (at_ + 2 + n, out ++ [⟨x, ((l.drop at_).drop 2).take n⟩]) ?_ (by rfl) hlt9 ?_; simp only [z, seval]; exact wk)
    refine ⟨hle, by simp only [List.length_append, List.length_singleton, ho], by show i + 1 ≤ 8; omega, ?_⟩
    show fieldsM 8 l = extF (out ++ [⟨x, ((l.drop at_).drop 2).take n⟩]) (fieldsM (8 - (i + 1)) (l.drop (at_ + 2 + n)))
    rw [hm, fieldsM_good hne hb, g0, g1, Int.toNat_natCast, extF_ext, hk2]
    simp only [List.drop_drop, Nat.add_assoc]
  · have : at_ = l.length := by have := of_decide_eq_false h; omega
    subst this
    simp only [h, z, seval]
    (refine FINS_done ?_; simp only [z, seval])
    rw [hm, List.drop_length, fieldsM_nil, extF]
    simp
theorem rSame01_ne (a b : List Int) (ha : a.length ≤ 1099511627776) (hb : b.length ≤ 1099511627776) : Spec PP GG 48 [wordsV a, wordsV b] (.bool (decide (a = b))) [] := by
  refine Spec.of_runs Go.Proofs.Tryz.f48 Go.Proofs.Tryz.func48 rfl ?_
  intro w0 M0
  simp only [Go.Proofs.Tryz.f48, List.replicate, List.cons_append, List.nil_append, z, seval]
  cases c : ((a.length : Int) == b.length) with
  | false =>
    simp only [c, z, seval]
    (refine FINS_done ?_; simp only [z, seval])
    have : ¬ a = b := by rintro rfl; simp at c
    rw [decide_eq_false this]
  | true =>
  have hab : a.length = b.length := by have : (a.length : Int) = b.length := by simpa using c
                                       omega
  simp only [c, z, seval]
  refine RUNs_rangeS (a.length) (fun i (_ : Unit) => a.take i = b.take i) (fun i _ => [(5, i64 i)]) (fun i _ => []) () ?_ (by simp only [z, seval]; exact wk) rfl ?_
  · simp
  rintro ⟨i, _, hi, hw⟩
  simp only [z, seval]
  first | refine brk (fun h => ?_) (fun h => ?_) | fail
  · have hlt : i < a.length := by have := of_decide_eq_true h; omega
    have hlt2 : i < b.length := by omega
    simp only [h, z, seval]
    (refine RUNs_draw 0 (by kernel_rfl) ?_; simp only [z, seval])
    simp only [getMap u32 a hlt, getMap u32 b hlt2, z, seval]
    (refine ⟨by kernel_rfl, ?_⟩)
    cases d : (a[i] == b[i]) with
    | true =>
      simp only [d, w64s (i := i) (by omega), z, seval]
      (refine NX () ?_ (by rfl) hlt ?_; simp only [z, seval]; exact wk)
      rw [List.take_succ_eq_append_getElem hlt, List.take_succ_eq_append_getElem hlt2, hw]
      have : a[i] = b[i] := by simpa using d
      rw [this]
    | false =>
      simp only [d, z, seval]
      (refine FINS_done ?_; simp only [z, seval])
      have : ¬ a = b := by
        rintro rfl
        simp at d
      rw [decide_eq_false this]
  · have : i = a.length := by have := of_decide_eq_false h; omega
    subst this
    simp only [h, z, seval]
    (refine FINS_done ?_; simp only [z, seval])
    rw [List.take_length, hab, List.take_length] at hw
    rw [decide_eq_true hw]
theorem msgPut_len' (m : Msg) : (msgPut m).1.length ≤ 1099511627776 := by have := msgPut_len m; omega
theorem fold_step {m : Msg} {f : Field} {r : List Field} (h : (f.data.length == 1 && hasM m.kind f.tag) = true) : msgFold m (f :: r) = msgFold (setTag m f.tag (f.data.getD 0 0)) r := by rw [msgFold, h]; rfl
theorem fold_stop {m : Msg} {f : Field} {r : List Field} (h : (f.data.length == 1 && hasM m.kind f.tag) = false) : msgFold m (f :: r) = none := by rw [msgFold, h]; rfl
def endR (l : List Int) : Option Msg → Msg × Int
  | none => (zMsg, 2)
  | some m => bif decide ((msgPut m).1 = l) then (m, 0) else (zMsg, 2)
theorem setTag_ok {m : Msg} (h : m.ok) {w : Int} (hw : U w) (t : Int) : (setTag m t w).ok := by
  obtain ⟨h1, h2, h3, h4, h5, h6, h7⟩ := h
  unfold setTag
  cases (t == 2) <;> cases (t == 3) <;> cases (t == 4) <;> cases (t == 5) <;> cases (t == 6) <;> cases (t == 7) <;> exact ⟨by assumption, by assumption, by assumption, by assumption, by assumption, by assumption, by assumption⟩
theorem has_tag {k t : Int} (h : hasM k t = true) : t = 2 ∨ t = 3 ∨ t = 4 ∨ t = 5 ∨ t = 6 ∨ t = 7 := by
  revert h
  unfold hasM
  cases (k == 1) <;> cases (k == 2 || (k == 3 || (k == 4 || k == 5))) <;> cases (k == 6) <;> cases (k == 7) <;> cases (k == 8) <;> cases (k == 9) <;> simp <;> omega
theorem rGet03_spec (l : List Int) (hu : ∀ x ∈ l, U x) (hl : l.length ≤ 1099511627776) : Spec PP GG 25 [wordsV l] (.tup [(msgGet l).1.v, i64 (msgGet l).2]) [] := by
  have h1 := rGet02_spec l hu hl
  rw [← msgGet_eq hu, msgGetR]
  cases c1 : ((getF l).2 == 0) with
  | false =>
    refine Spec.of_runs Go.Proofs.Tryz.f25 Go.Proofs.Tryz.func25 rfl ?_
    intro w0 M0
    simp only [Go.Proofs.Tryz.f25, List.replicate, List.cons_append, List.nil_append, z, seval]
    (refine CU (h1) (h := ?_); simp only [z, seval])
    simp only [c1, z, seval]
    (refine FINS_done ?_; simp only [z, seval])
    rfl
  | true =>
  have hz : (getF l).2 = 0 := by simpa using c1
  rw [hz] at h1
  have hfl : (∀ x ∈ (getF l).1, ∀ y ∈ x.data, U y) ∧ (getF l).1.length ≤ 8 := by
    unfold getF at hz ⊢
    cases c3 : decide ((l.length : Int) > 64)
    · rw [c3, cond_false] at hz
      rw [cond_false]
      obtain ⟨f1, f2, f3⟩ := fields_flat 8 l (fieldsM 8 l).1 hu (Prod.ext rfl hz)
      exact ⟨fun x hx y hy => hu y (by rw [← f1]; simp only [flatAll, List.mem_flatMap]; exact ⟨x, hx, by simp [flatOne, hy]⟩), f3⟩
    · rw [c3] at hz; cases hz
  generalize hf : (getF l).1 = f at h1 hfl
  cases c2 : headOk f with
  | false =>
    refine Spec.of_runs Go.Proofs.Tryz.f25 Go.Proofs.Tryz.func25 rfl ?_
    intro w0 M0
    simp only [Go.Proofs.Tryz.f25, List.replicate, List.cons_append, List.nil_append, z, seval]
    (refine CU (h1) (h := ?_); simp only [z, seval])
    cases f with
    | nil =>
      simp only [List.map_nil, z, seval]
      (refine FINS_done ?_; simp only [z, seval])
      rfl
    | cons g fs =>
      have h0 : 0 < (g :: fs).length := by simp
      have hg : ((g :: fs).map Field.v)[0]? = some (Field.v g) := rfl
      simp only [mv] at hg
      have hlen : (((fs.length + 1 : Nat) : Int) == 0) = false := by simp; omega
      simp only [hlen, hg, z, seval]
      cases d1 : (g.tag == 1) with
      | false =>
        simp only [d1, z, seval]
        (refine FINS_done ?_; simp only [z, seval])
        rfl
      | true =>
      simp only [d1, hg, z, seval]
      cases d2 : ((g.data.length : Int) == 1) with
      | false =>
        simp only [d2, z, seval]
        (refine FINS_done ?_; simp only [z, seval])
        rfl
      | true =>
      have d2' : (g.data.length == 1) = true := by simp at d2 ⊢; omega
      have e0 := one_of d2'
      have hk : (g.data.map u32)[0]? = some (u32 (g.data.getD 0 0)) := by rw [e0]; rfl
      simp only [d2, hg, hk, z, seval]
      simp only [headOk, d1, d2', Bool.true_and, Bool.and_eq_false_iff, decide_eq_false_iff_not] at c2
      refine brk (fun d3 => ?_) (fun d3 => ?_)
      · simp only [d3, hg, hk, z, seval]
        have d4 : decide (g.data.getD 0 0 > 9) = true := by have := of_decide_eq_false d3; exact decide_eq_true (by omega)
        simp only [d4, z, seval]
        (refine FINS_done ?_; simp only [z, seval])
        rfl
      · simp only [d3, z, seval]
        (refine FINS_done ?_; simp only [z, seval])
        rfl
  | true =>
    obtain ⟨fs, e, k1, k2⟩ := head_form c2
    generalize hk : headK f = k at e k1 k2
    subst e
    clear c2
    have e1 : decide (k < 1) = false := decide_eq_false (by omega)
    have e2 : decide (k > 9) = false := decide_eq_false (by omega)
    have hlen : (((fs.length + 1 : Nat) : Int) == 0) = false := by simp; omega
    have hg : ((⟨1, [k]⟩ :: fs : List Field).map Field.v)[0]? = some (Field.v ⟨1, [k]⟩) := rfl
    simp only [mv] at hg
    simp only [headK_cons, List.tail_cons, cond_true]
    have kU : U k := hfl.1 _ (List.mem_cons_self) k (by simp)
    have hd : ∀ x ∈ fs, ∀ y ∈ x.data, U y := fun x hx => hfl.1 x (List.mem_cons_of_mem _ hx)
    have h8 : fs.length ≤ 8 := by have := hfl.2; simp only [List.length_cons] at this; omega
    suffices key : Spec PP GG 25 [wordsV l] (.tup [(endR l (msgFold (kindM k) fs)).1.v, i64 (endR l (msgFold (kindM k) fs)).2]) [] by
      cases hq : msgFold (kindM k) fs <;> rw [hq] at key <;> exact key
    clear hfl hf hz c1 hk
    refine Spec.of_runs Go.Proofs.Tryz.f25 Go.Proofs.Tryz.func25 rfl ?_
    intro w0 M0
    simp only [Go.Proofs.Tryz.f25, List.replicate, List.cons_append, List.nil_append, z, seval]
    (refine CU (h1) (h := ?_); simp only [z, seval])
    simp only [hlen, hg, e1, e2, List.map_cons, List.map_nil, z, seval]
    refine RUNs_rangeS (fs.length) (fun j (m : Msg) => msgFold (kindM k) fs = msgFold m (fs.drop j) ∧ m.kind = k ∧ m.ok) (fun j _ => [(7, i64 ((j + 1 : Nat) : Int))]) (fun _ m => [(1, .var [u32 m.kind, u32 m.run, u32 m.a, u32 m.b, u32 m.nonce, u32 m.box, u32 m.more])]) (kindM k) ?_ (by simp only [z, seval]; exact wk) rfl ?_
    · exact ⟨rfl, rfl, kU, U0, U0, U0, U0, U0, U0⟩
    rintro ⟨j, m, hj, hm, hmk, hmo⟩
    simp only [z, seval]
    cases c : decide (((j + 1 : Nat) : Int) < ((fs.length + 1 : Nat) : Int)) with
    | true =>
      have hlt : j < fs.length := by have := of_decide_eq_true c; omega
      have u0 := hd _ (List.getElem_mem hlt)
      have hdr : fs.drop j = fs[j] :: fs.drop (j + 1) := List.drop_eq_getElem_cons hlt
      rw [hdr] at hm
      have hgj := getMap Field.v fs hlt
      generalize fs[j] = g at hm hgj u0
      simp only [mv] at hgj
      have hH := rHas_spec m.kind g.tag
      simp only [c, z, seval]
      (refine RUNs_draw 0 (by kernel_rfl) ?_; simp only [z, seval])
      simp only [hgj, z, seval]
      cases d1 : ((g.data.length : Int) == 1) with
      | false =>
        have d1' : (g.data.length == 1) = false := by simp at d1 ⊢; omega
        simp only [d1, z, seval]
        (refine ⟨by kernel_rfl, ?_⟩)
        (refine FINS_done ?_; simp only [z, seval])
        simp only [hm, fold_stop (by rw [d1']; rfl), endR, zMsg, z, seval]
      | true =>
      have d1' : (g.data.length == 1) = true := by simp at d1 ⊢; omega
      have hk0 : (g.data.map u32)[0]? = some (u32 (g.data.getD 0 0)) := by rw [one_of d1']; rfl
      have u00 : U (g.data.getD 0 0) := u0 _ (by have := one_of d1'; rw [this]; simp)
      simp only [d1, hgj, z, seval]
      (refine DU (hH) (h := ?_); simp only [z, seval])
      (refine ⟨by kernel_rfl, ?_⟩)
      cases d2 : hasM m.kind g.tag with
      | false =>
        simp only [d2, z, seval]
        (refine FINS_done ?_; simp only [z, seval])
        simp only [hm, fold_stop (by rw [d2, Bool.and_false]), endR, zMsg, z, seval]
      | true =>
      rw [fold_step (by rw [d1', d2]; rfl)] at hm
      have hmo' := setTag_ok hmo u00 g.tag
      have hmk' := setTag_kind m g.tag (g.data.getD 0 0)
      simp only [d2, hgj, hk0, z, seval]
      have ht := has_tag d2
      generalize g.data.getD 0 0 = wd at *
      generalize g.tag = tg at *
      rcases ht with rfl | rfl | rfl | rfl | rfl | rfl
      all_goals
        simp only [w64s (i := j + 1) (by omega), z, seval]
        refine NX (setTag m _ wd) ?_ (by rfl) hlt ⟨hm, hmk'.trans hmk, hmo'⟩
        simp only [setTag, Int.reduceBEq, cond_true, cond_false, z, seval]
        exact wk
    | false =>
      have : j = fs.length := by have := of_decide_eq_false c; omega
      subst this
      rw [List.drop_length, msgFold] at hm
      have hP := rPut_spec m hmo
      have hS := rSame01_ne (msgPut m).1 l (msgPut_len' m) hl
      simp only [c, z, seval]
      (refine CU (hP) (h := ?_); simp only [z, seval])
      (refine CU (hS) (h := ?_); simp only [z, seval])
      cases d : decide ((msgPut m).1 = l) with
      | false =>
        simp only [d, z, seval]
        (refine FINS_done ?_; simp only [z, seval])
        simp only [hm, endR, d, cond_false, zMsg, z, seval]
      | true =>
        simp only [d, z, seval]
        (refine FINS_done ?_; simp only [z, seval])
        simp only [hm, endR, d, cond_true, z, seval]
end Ch

/- The desk: what is sent is read. -/
set_option maxRecDepth 100000
set_option maxHeartbeats 4000000
set_option linter.unusedSimpArgs false
set_option linter.unusedVariables false
namespace Ch
open Go Go.Ab
theorem lastMap {α : Type} (f : α → V) (l : List α) (x : α) : ((l ++ [x]).map f)[l.length]? = some (f x) := by simp
theorem snocLen {α : Type} (l : List α) (x : α) : (l ++ [x]).length = l.length + 1 := by simp
theorem msgWs_U {m : Msg} (hm : m.ok) (h : msgMay m = true) : ∀ x ∈ msgWs m, U x := by
  have := msgPut_U hm
  rw [msgPut, h] at this
  exact this
theorem DeskSent_law (w : World) (hw : w.ok) (to : Int) (ht : U to) (m : Msg) (hm : m.ok) : Spec PP GG 10 [w.v, u32 to, m.v] (.bool true) [] := by
  have hA := L12.awake_spec
  have hF := fits12_spec w hw
  cases hf : fits12 w with
  | false =>
    rw [hf] at hF
    refine Spec.of_runs Go.Proofs.Tryz.f10 Go.Proofs.Tryz.func10 rfl ?_
    intro w0 M0
    simp only [Go.Proofs.Tryz.f10, List.replicate, List.cons_append, List.nil_append, z, seval]
    (refine CU (hA) (h := ?_); simp only [z, seval])
    (refine CU (hF) (h := ?_); simp only [z, seval])
    (refine CU (hA) (h := ?_); simp only [z, seval])
    (refine FINS_done ?_; simp only [z, seval])
  | true =>
    rw [hf] at hF
    simp only [fits12, Bool.and_eq_true] at hf
    have hfit := fit_of_few hw hf.1 hf.2
    have hform := form_iff.1 hf.2
    have h1 := send_spec w hfit (by decide) to m hm
    cases he : ((sendW w to m).2 == 0) with
    | false =>
      obtain ⟨q1, q2⟩ := send_err (show (sendW w to m).2 ≠ 0 by intro h; rw [h] at he; cases he)
      have h2 := Same12 w (hfit.toLim (by decide))
      have h3 := rMay_spec m hm
      rw [q1] at h1
      clear hw hfit hform q1
      rcases q2 with ⟨q2, q3⟩ | ⟨q2, q3⟩
      · rw [q2] at h1
        have q4 : decide ((w.net.grams.length : Int) ≥ w.net.room) = true := decide_eq_true (by omega)
        refine Spec.of_runs Go.Proofs.Tryz.f10 Go.Proofs.Tryz.func10 rfl ?_
        intro w0 M0
        simp only [Go.Proofs.Tryz.f10, List.replicate, List.cons_append, List.nil_append, z, seval]
        (refine CU (hA) (h := ?_); simp only [z, seval])
        (refine CU (hF) (h := ?_); simp only [z, seval])
        (refine CU (h1) (h := ?_); simp only [z, seval])
        (refine CU (h2) (h := ?_); simp only [z, seval])
        simp only [q4, z, seval]
        (refine FINS_done ?_; simp only [z, seval])
      · rw [q2] at h1
        rw [q3] at h3
        refine Spec.of_runs Go.Proofs.Tryz.f10 Go.Proofs.Tryz.func10 rfl ?_
        intro w0 M0
        simp only [Go.Proofs.Tryz.f10, List.replicate, List.cons_append, List.nil_append, z, seval]
        (refine CU (hA) (h := ?_); simp only [z, seval])
        (refine CU (hF) (h := ?_); simp only [z, seval])
        (refine CU (h1) (h := ?_); simp only [z, seval])
        (refine CU (h2) (h := ?_); simp only [z, seval])
        (refine CU (h3) (h := ?_); simp only [z, seval])
        (refine FINS_done ?_; simp only [z, seval])
    | true =>
    have he' : (sendW w to m).2 = 0 := by simpa using he
    obtain ⟨q1, q2⟩ := send_to he'
    have hfa := fit_send hfit (by decide) (by decide) ht hm
    have hfo := form_send hform to m
    rw [q1] at h1 hfa hfo
    have h4 := pForm_spec (sendTo w to m) (hfa.toLim (by decide)) (fit_sum hfa (by decide))
    rw [form_iff.2 hfo] at h4
    have hu := msgWs_U hm q2
    have hl : (msgWs m).length ≤ 1099511627776 := by have := msgWs_len m; omega
    have h5 := rGet03_spec (msgWs m) hu hl
    rw [msgGet_put q2] at h5
    have h6 := Same01 (msgWs m) hl
    have b1 := lastMap Gram.v w.net.grams ⟨to, msgWs m⟩
    have b2 := lastMap wordsV w.net.seen (msgWs m)
    have b3 := snocLen w.net.grams ⟨to, msgWs m⟩
    have b4 := snocLen w.net.seen (msgWs m)
    have g1 := hfit.grams
    have g2 := hfit.seen
    have w1 : IntKind.i64.wrap ((w.net.grams.length : Int) + 1) = ((w.net.grams.length + 1 : Nat) : Int) := w64s (by omega)
    have w2 : IntKind.i64.wrap ((w.net.seen.length : Int) + 1) = ((w.net.seen.length + 1 : Nat) : Int) := w64s (by omega)
    simp only [mv] at b1 b2
    simp only [sendTo] at h1 h4
    clear hw hfit hform hfa hfo q1 he he' hu
    refine Spec.of_runs Go.Proofs.Tryz.f10 Go.Proofs.Tryz.func10 rfl ?_
    intro w0 M0
    simp only [Go.Proofs.Tryz.f10, List.replicate, List.cons_append, List.nil_append, z, seval]
    (refine CU (hA) (h := ?_); simp only [z, seval])
    (refine CU (hF) (h := ?_); simp only [z, seval])
    (refine CU (h1) (h := ?_); simp only [z, seval])
    simp only [b3, b4, w1, w2, z, seval]
    (refine CU (h4) (h := ?_); simp only [z, seval])
    simp only [b1, b2, z, seval]
    (refine CU (h5) (h := ?_); simp only [z, seval])
    (refine RUNs_draw 0 (by kernel_rfl) ?_; simp only [z, seval])
    simp only [b1, b2, z, seval]
    (refine DU (h6) (h := ?_); simp only [z, seval])
    (refine ⟨by kernel_rfl, ?_⟩)
    (refine FINS_done ?_; simp only [z, seval])
end Ch
