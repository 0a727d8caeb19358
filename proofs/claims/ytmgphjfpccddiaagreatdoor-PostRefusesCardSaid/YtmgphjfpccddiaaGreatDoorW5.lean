/- The abstract machine: statements with more than one order, for 'simp'. -/
import Derived.Test.YtmgphjfpccddiaaGreatDoorW4
import Derived.DataReads
import GoSem.ClaimChange
import Derived.ProofKit
import Derived.SizedLaws
import Derived.Handed
import Derived.LaidMore
import Derived.LaidLaws
import Derived.OpenShut
import Derived.Stop.Joined
set_option linter.unusedVariables false
set_option linter.unusedSimpArgs false
namespace Go.Ab
open Go Go.RowKit

def insN : V → V → List (Nat × List Int)
  | .mp i, k => [(i, keyN k)]
  | _, _ => []
def keyNs : List V → List Int
  | [] => []
  | .val (.int _ n) :: cs => n :: keyNs cs
  | _ :: cs => 0 :: keyNs cs
structure DM where
  nid : Nat
  tr : List TrE
def isHole : AB → Bool
  | .hole => true
  | _ => false
section
variable (P : Program) (G : Glob) (w0 : World) (M0 : Nat → Nat → Prop) (R : Value → World → Prop) (all : List Oper) (k : List It) (st : List (List V))
def DRP : List Oper → DM → List V → List AB → Prop
  | [], d, fr, H => drawOK all d.tr = true ∧ RUNs P G w0 M0 R ⟨k, fr, st, H⟩
  | o :: l, d, fr, H => match guardV all fr o with
    | none => False
    | some false => DRP l ⟨d.nid, d.tr ++ [⟨[], [], d.nid, []⟩]⟩ (putV fr o.dst undefV) H
    | some true => match eff P G fr H d.nid o.op with
      | some (v, ⟨s, none⟩) => DRP l ⟨d.nid, d.tr ++ [⟨rdOf G fr o.op, s.map (·.1), d.nid, insK G fr o.op⟩]⟩ (putV fr o.dst v) (setH H s)
      | some (v, ⟨[], some b⟩) => isHole (getH H d.nid) = true ∧ DRP l ⟨d.nid + 1, d.tr ++ [⟨rdOf G fr o.op, [d.nid], d.nid, []⟩]⟩ (putV fr o.dst v) (H.set d.nid b)
      | some _ => False
      | none => match o.op with
        | .call c => match c.callee with
          | .value f => ∃ n first cap args' r, evalO G fr f = .fn (.func n) first cap ∧ callB P n = true ∧ fzL H (first ++ c.args.toList.map (evalO G fr) ++ cap) = some args' ∧ Spec P G n args' r [] ∧
              DRP l ⟨d.nid, d.tr ++ [⟨rdOf G fr o.op, [], d.nid, []⟩]⟩ (putV fr o.dst r) H
          | _ => False
        | _ => False
end
section
variable {P : Program} {G : Glob} {w0 : World} {M0 : Nat → Nat → Prop} {R : Value → World → Prop} {all : List Oper} {k : List It} {st : List (List V)}
theorem setH_nil (H : List AB) : setH H [] = H := rfl
theorem DRP_sound : ∀ (l : List Oper) (d : DM) (fr : List V) (H : List AB), l = all.drop d.tr.length → DRP P G w0 M0 R all k st l d fr H →
    ∃ t frF HF, SEQ P G all (fun j => (d.tr ++ t).getD j ⟨[], [], 0, []⟩) (List.range' d.tr.length l.length) fr H frF HF ∧ drawOK all (d.tr ++ t) = true ∧ RUNs P G w0 M0 R ⟨k, frF, st, HF⟩
  | [], d, fr, H, hl, h => by
    simp only [DRP] at h
    exact ⟨[], fr, H, .nil _ _, by simpa using h.1, h.2⟩
  | o :: l, d, fr, H, hl, h => by
    have ho : all[d.tr.length]? = some o := by
      have := congrArg (fun l => l[0]?) hl
      simpa [List.getElem?_drop] using this.symm
    have hl' : ∀ (e : TrE) (nid : Nat), l = all.drop (⟨nid, d.tr ++ [e]⟩ : DM).tr.length := by
      intro e nid
      have := congrArg List.tail hl
      simpa [List.tail_drop] using this
    have hget : ∀ (e : TrE) (t : List TrE), ((d.tr ++ [e]) ++ t).getD d.tr.length ⟨[], [], 0, []⟩ = e := by
      intro e t
      simp [List.getD_eq_getElem?_getD]
    have hap : ∀ (e : TrE) (t : List TrE), (d.tr ++ [e]) ++ t = d.tr ++ (e :: t) := by intro e t; simp
    have hlen : ∀ (e : TrE), (d.tr ++ [e]).length = d.tr.length + 1 := by intro e; simp
    simp only [DRP] at h
    split at h
    · exact h.elim
    · rename_i hg
      obtain ⟨t, frF, HF, h1, h2, h3⟩ := DRP_sound l _ _ _ (hl' _ _) h
      refine ⟨_ :: t, frF, HF, ?_, by rw [← hap]; exact h2, h3⟩
      simp only [List.length_cons, List.range'_succ]
      refine .skip ho hg ?_
      simp only [hlen, hap] at h1
      exact h1
    · rename_i hg
      split at h
      · rename_i v s he
        obtain ⟨t, frF, HF, h1, h2, h3⟩ := DRP_sound l _ _ _ (hl' _ _) h
        refine ⟨_ :: t, frF, HF, ?_, by rw [← hap]; exact h2, h3⟩
        simp only [List.length_cons, List.range'_succ]
        simp only [hlen] at h1
        rw [← hap]
        refine .run (v := v) (u := ⟨s, none⟩) ho hg ⟨.inl (by rw [hget]; exact he), fun p hp => by rw [hget] at hp; exact hp⟩ (fun b hb => by rw [hget]; exact hb) (fun p hp => ?_) (fun b hb => by cases hb) ?_
        · rw [hget]
          simp only [updS, newS, List.append_nil] at hp
          exact List.mem_map.2 ⟨p, hp, rfl⟩
        · simpa only [updS, newS, List.append_nil] using h1
      · rename_i v b he
        obtain ⟨hh, h⟩ := h
        obtain ⟨t, frF, HF, h1, h2, h3⟩ := DRP_sound l _ _ _ (hl' _ _) h
        refine ⟨_ :: t, frF, HF, ?_, by rw [← hap]; exact h2, h3⟩
        simp only [List.length_cons, List.range'_succ]
        simp only [hlen] at h1
        rw [← hap]
        have hhole : H[d.nid]? = some .hole := by
          rcases getH_cases H d.nid with hq | ⟨_, hq⟩
          · rw [hq]
            cases hz : getH H d.nid <;> rw [hz] at hh <;> first | rfl | cases hh
          · rw [hq] at hh; cases hh
        refine .run (v := v) (u := ⟨[], some b⟩) ho hg ⟨.inl (by rw [hget]; exact he), fun p hp => by rw [hget] at hp; cases hp⟩ (fun b hb => by rw [hget]; exact hb) (fun p hp => ?_) (fun b' hb => ⟨by rw [hget]; exact hhole, by rw [hget]; simp, rfl⟩) ?_
        · rw [hget] at hp ⊢
          simp only [updS, newS, List.nil_append, List.mem_singleton] at hp
          subst hp; simp
        · rw [hget]
          exact h1
      · exact h.elim
      · rename_i he
        split at h
        · rename_i c hc
          split at h
          · rename_i f hf
            obtain ⟨n, first, cap, args', r, g1, g2, g3, g4, h⟩ := h
            obtain ⟨t, frF, HF, h1, h2, h3⟩ := DRP_sound l _ _ _ (hl' _ _) h
            refine ⟨_ :: t, frF, HF, ?_, by rw [← hap]; exact h2, h3⟩
            simp only [List.length_cons, List.range'_succ]
            simp only [hlen] at h1
            rw [← hap]
            refine .run (v := r) (u := .no) ho hg ⟨.inr ⟨c, f, n, first, cap, args', hc, hf, g1, g2, g3, g4, rfl⟩, fun p hp => by rw [hget] at hp; cases hp⟩ (fun b hb => by rw [hget]; exact hb) (fun p hp => ?_) (fun b hb => by cases hb) ?_
            · simp [updS, Upd.no, newS] at hp
            · simpa only [updS, newS, Upd.no, List.append_nil, setH_nil] using h1
          · exact h.elim
        · exact h.elim
theorem RUNs_draw (n : Nat) {id : Nat} {fr : List V} {H : List AB} (hm : P.follows .mixedOrders = true) (h : DRP P G w0 M0 R all k st all ⟨H.length, []⟩ fr (H ++ List.replicate n .hole)) :
    RUNs P G w0 M0 R ⟨.code (.region id all.toArray true) :: k, fr, st, H⟩ := by
  obtain ⟨t, frF, HF, h1, h2, h3⟩ := DRP_sound all ⟨H.length, []⟩ _ _ (by simp) h
  refine RUNs_stop (by rfl) (RUN_draw (X := ⟨P, G, w0, M0, R⟩) n (t := t) hm (by simpa using h2) ?_ (RUN_of_RUNs h3))
  have e : List.range' (⟨H.length, []⟩ : DM).tr.length all.length = List.range all.length := by simp [List.range_eq_range']
  rw [e] at h1
  simpa using h1

/-! The rules. -/
variable {dst : Option Tmp} {t ty : TypeId} {p : String} {af : Array Edge} {l : List Oper} {fr : List V} {H : List AB} {d : DM}
theorem D_end : DRP P G w0 M0 R all k st [] d fr H = (drawOK all d.tr = true ∧ RUNs P G w0 M0 R ⟨k, fr, st, H⟩) := rfl
def DGR (P : Program) (G : Glob) (w0 : World) (M0 : Nat → Nat → Prop) (R : Value → World → Prop) (all : List Oper) (k : List It) (st : List (List V)) (g : Option Bool) (o : Oper) (l : List Oper) (d : DM) (fr : List V) (H : List AB) : Prop := match g with
  | none => False
  | some false => DRP P G w0 M0 R all k st l ⟨d.nid, d.tr ++ [⟨[], [], d.nid, []⟩]⟩ (putV fr o.dst undefV) H
  | some true => DRP P G w0 M0 R all k st ({ o with guard := none } :: l) d fr H
theorem D_guard {op : Op} {jw : Nat × Bool} : DRP P G w0 M0 R all k st (⟨dst, op, ty, p, af, some jw⟩ :: l) d fr H = DGR P G w0 M0 R all k st (guardV all fr ⟨dst, op, ty, p, af, some jw⟩) ⟨dst, op, ty, p, af, some jw⟩ l d fr H := by
  unfold DGR
  cases hg : guardV all fr ⟨dst, op, ty, p, af, some jw⟩ with
  | none => simp only [DRP, hg]
  | some b =>
    cases b with
    | false => simp only [DRP, hg]
    | true =>
      have h2 : guardV all fr ⟨dst, op, ty, p, af, none⟩ = some true := rfl
      simp only [DRP, hg, h2]
def DOV (P : Program) (G : Glob) (w0 : World) (M0 : Nat → Nat → Prop) (R : Value → World → Prop) (all : List Oper) (k : List It) (st : List (List V)) (r : Option V) (rd : List Nat) (dst : Option Tmp) (l : List Oper) (d : DM) (fr : List V) (H : List AB) : Prop := match r with
  | some v => DRP P G w0 M0 R all k st l ⟨d.nid, d.tr ++ [⟨rd, [], d.nid, []⟩]⟩ (putV fr dst v) H
  | none => False
def DON (P : Program) (G : Glob) (w0 : World) (M0 : Nat → Nat → Prop) (R : Value → World → Prop) (all : List Oper) (k : List It) (st : List (List V)) (r : Option AB) (rd : List Nat) (dst : Option Tmp) (l : List Oper) (d : DM) (fr : List V) (H : List AB) : Prop := match r with
  | some b => isHole (getH H d.nid) = true ∧ DRP P G w0 M0 R all k st l ⟨d.nid + 1, d.tr ++ [⟨rd, [d.nid], d.nid, []⟩]⟩ (putV fr dst (.ptr d.nid 0)) (H.set d.nid b)
  | none => False
def DOU (P : Program) (G : Glob) (w0 : World) (M0 : Nat → Nat → Prop) (R : Value → World → Prop) (all : List Oper) (k : List It) (st : List (List V)) (r : Option (List (Nat × AB))) (rd : List Nat) (ins : List (Nat × List Int)) (dst : Option Tmp) (l : List Oper) (d : DM) (fr : List V) (H : List AB) : Prop := match r with
  | some s => DRP P G w0 M0 R all k st l ⟨d.nid, d.tr ++ [⟨rd, s.map (·.1), d.nid, ins⟩]⟩ (putV fr dst undefV) (setH H s)
  | none => False
def DOC (P : Program) (G : Glob) (w0 : World) (M0 : Nat → Nat → Prop) (R : Value → World → Prop) (all : List Oper) (k : List It) (st : List (List V)) (r : Option (Bool × V × Upd)) (rd : List Nat) (dst : Option Tmp) (l : List Oper) (d : DM) (fr : List V) (H : List AB) : Prop := match r with
  | some (true, v, ⟨s, none⟩) => DRP P G w0 M0 R all k st l ⟨d.nid, d.tr ++ [⟨rd, s.map (·.1), d.nid, []⟩]⟩ (putV fr dst v) (setH H s)
  | some (true, v, ⟨[], some b⟩) => isHole (getH H d.nid) = true ∧ DRP P G w0 M0 R all k st l ⟨d.nid + 1, d.tr ++ [⟨rd, [d.nid], d.nid, []⟩]⟩ (putV fr dst v) (H.set d.nid b)
  | _ => False
theorem DOV_of {o : Oper} (hg : o.guard = none) {r : Option V} (h : eff P G fr H d.nid o.op = r.map fun v => (v, Upd.no)) (hc : ∀ c, o.op = .call c → ∀ f, c.callee ≠ .value f) (hi : insK G fr o.op = []) : DRP P G w0 M0 R all k st (o :: l) d fr H = DOV P G w0 M0 R all k st r (rdOf G fr o.op) o.dst l d fr H := by
  have hgv : guardV all fr o = some true := by unfold guardV; rw [hg]
  cases r with
  | some v => simp only [DRP, hgv, h, Option.map_some, Upd.no, DOV, List.map_nil, setH_nil, hi]
  | none =>
    simp only [DRP, hgv, h, Option.map_none, DOV]
    split
    · rename_i c hcc
      split
      · rename_i f hf; exact absurd hf (hc c hcc f)
      · rfl
    · rfl
theorem DON_of {o : Oper} (hg : o.guard = none) {r : Option AB} (h : eff P G fr H d.nid o.op = r.map fun b => (V.ptr d.nid 0, (⟨[], some b⟩ : Upd))) (hc : ∀ c, o.op = .call c → ∀ f, c.callee ≠ .value f) : DRP P G w0 M0 R all k st (o :: l) d fr H = DON P G w0 M0 R all k st r (rdOf G fr o.op) o.dst l d fr H := by
  have hgv : guardV all fr o = some true := by unfold guardV; rw [hg]
  cases r with
  | some v => simp only [DRP, hgv, h, Option.map_some, DON]
  | none =>
    simp only [DRP, hgv, h, Option.map_none, DON]
    split
    · rename_i c hcc
      split
      · rename_i f hf; exact absurd hf (hc c hcc f)
      · rfl
    · rfl
theorem DOU_of {o : Oper} (hg : o.guard = none) {r : Option (List (Nat × AB))} (h : eff P G fr H d.nid o.op = r.map fun u => (undefV, (⟨u, none⟩ : Upd))) (hc : ∀ c, o.op = .call c → ∀ f, c.callee ≠ .value f) : DRP P G w0 M0 R all k st (o :: l) d fr H = DOU P G w0 M0 R all k st r (rdOf G fr o.op) (insK G fr o.op) o.dst l d fr H := by
  have hgv : guardV all fr o = some true := by unfold guardV; rw [hg]
  cases r with
  | some v => simp only [DRP, hgv, h, Option.map_some, DOU]
  | none =>
    simp only [DRP, hgv, h, Option.map_none, DOU]
    split
    · rename_i c hcc
      split
      · rename_i f hf; exact absurd hf (hc c hcc f)
      · rfl
    · rfl
theorem DOC_of {o : Oper} (hg : o.guard = none) {r : Option (Bool × V × Upd)} (h : eff P G fr H d.nid o.op = condR r) (hc : ∀ c, o.op = .call c → ∀ f, c.callee ≠ .value f) (hi : insK G fr o.op = []) : DRP P G w0 M0 R all k st (o :: l) d fr H = DOC P G w0 M0 R all k st r (rdOf G fr o.op) o.dst l d fr H := by
  have hgv : guardV all fr o = some true := by unfold guardV; rw [hg]
  have hnone : eff P G fr H d.nid o.op = none → DRP P G w0 M0 R all k st (o :: l) d fr H = False := by
    intro h0
    simp only [DRP, hgv, h0]
    split
    · rename_i c hcc
      split
      · rename_i f hf; exact absurd hf (hc c hcc f)
      · rfl
    · rfl
  cases r with
  | none => exact hnone h
  | some q =>
    obtain ⟨b, v, s, nw⟩ := q
    cases b with
    | false => exact hnone h
    | true =>
      have h' : eff P G fr H d.nid o.op = some (v, ⟨s, nw⟩) := h
      cases nw with
      | none => simp only [DRP, hgv, h', DOC, hi]
      | some b => cases s <;> simp only [DRP, hgv, h', DOC]
def DCALLS (P : Program) (G : Glob) (w0 : World) (M0 : Nat → Nat → Prop) (R : Value → World → Prop) (all : List Oper) (k : List It) (st : List (List V)) (vf : V) (vargs : List V) (rd : List Nat) (dst : Option Tmp) (l : List Oper) (d : DM) (fr : List V) (H : List AB) : Prop :=
  ∃ n first cap args' r, vf = .fn (.func n) first cap ∧ callB P n = true ∧ fzL H (first ++ vargs ++ cap) = some args' ∧ Spec P G n args' r [] ∧ DRP P G w0 M0 R all k st l ⟨d.nid, d.tr ++ [⟨rd, [], d.nid, []⟩]⟩ (putV fr dst r) H
theorem D_call {f : Operand} {args : List Operand} {ats : Array TypeId} : DRP P G w0 M0 R all k st (⟨dst, .call ⟨.value f, args.toArray, ats⟩, ty, p, af, none⟩ :: l) d fr H =
    DCALLS P G w0 M0 R all k st (evalO G fr f) (args.map (evalO G fr)) (idsL ((f :: args).map (evalO G fr))) dst l d fr H := by
  have hgv : guardV all fr ⟨dst, .call ⟨.value f, args.toArray, ats⟩, ty, p, af, none⟩ = some true := rfl
  have he : eff P G fr H d.nid (.call ⟨.value f, args.toArray, ats⟩) = none := rfl
  have hrd : rdOf G fr (.call ⟨.value f, args.toArray, ats⟩) = idsL ((f :: args).map (evalO G fr)) := by simp [rdOf, isMv, Op.operands, Call.operands]
  simp only [DRP, hgv, he, DCALLS, hrd]
theorem DCALLS_spec {n : FuncId} {first cap vargs args' : List V} {r : V} {rd : List Nat} (hn : callB P n = true) (ha : fzL H (first ++ vargs ++ cap) = some args') (hs : Spec P G n args' r []) (h : DRP P G w0 M0 R all k st l ⟨d.nid, d.tr ++ [⟨rd, [], d.nid, []⟩]⟩ (putV fr dst r) H) :
    DCALLS P G w0 M0 R all k st (.fn (.func n) first cap) vargs rd dst l d fr H := ⟨n, first, cap, args', r, rfl, hn, ha, hs, h⟩
theorem DGR_split {b : Bool} {op : Op} {g : Option (Nat × Bool)} (h1 : b = true → DRP P G w0 M0 R all k st (⟨dst, op, t, p, af, none⟩ :: l) d fr H) (h2 : b = false → DRP P G w0 M0 R all k st l ⟨d.nid, d.tr ++ [⟨[], [], d.nid, []⟩]⟩ (putV fr dst undefV) H) :
    DGR P G w0 M0 R all k st (some b) ⟨dst, op, t, p, af, g⟩ l d fr H := by
  cases b
  · exact h2 rfl
  · exact h1 rfl
theorem DGR_splitN {b : Bool} {op : Op} {g : Option (Nat × Bool)} (h1 : b = false → DRP P G w0 M0 R all k st (⟨dst, op, t, p, af, none⟩ :: l) d fr H) (h2 : b = true → DRP P G w0 M0 R all k st l ⟨d.nid, d.tr ++ [⟨[], [], d.nid, []⟩]⟩ (putV fr dst undefV) H) :
    DGR P G w0 M0 R all k st (some (!b)) ⟨dst, op, t, p, af, g⟩ l d fr H := by
  cases b
  · exact h1 rfl
  · exact h2 rfl
def DGRN (P : Program) (G : Glob) (w0 : World) (M0 : Nat → Nat → Prop) (R : Value → World → Prop) (all : List Oper) (k : List It) (st : List (List V)) (b : Bool) (o : Oper) (l : List Oper) (d : DM) (fr : List V) (H : List AB) : Prop := match b with
  | true => DRP P G w0 M0 R all k st l ⟨d.nid, d.tr ++ [⟨[], [], d.nid, []⟩]⟩ (putV fr o.dst undefV) H
  | false => DRP P G w0 M0 R all k st ({ o with guard := none } :: l) d fr H
theorem DGR_not {b : Bool} {o : Oper} : DGR P G w0 M0 R all k st (some (!b)) o l d fr H = DGRN P G w0 M0 R all k st b o l d fr H := by cases b <;> rfl
theorem DGRN_split {b : Bool} {op : Op} {g : Option (Nat × Bool)} (h1 : b = false → DRP P G w0 M0 R all k st (⟨dst, op, t, p, af, none⟩ :: l) d fr H) (h2 : b = true → DRP P G w0 M0 R all k st l ⟨d.nid, d.tr ++ [⟨[], [], d.nid, []⟩]⟩ (putV fr dst undefV) H) :
    DGRN P G w0 M0 R all k st b ⟨dst, op, t, p, af, g⟩ l d fr H := by
  cases b
  · exact h1 rfl
  · exact h2 rfl
theorem DGR_true {op : Op} {g : Option (Nat × Bool)} : DGR P G w0 M0 R all k st (some true) ⟨dst, op, t, p, af, g⟩ l d fr H = DRP P G w0 M0 R all k st (⟨dst, op, t, p, af, none⟩ :: l) d fr H := rfl
theorem DGR_false {op : Op} {g : Option (Nat × Bool)} : DGR P G w0 M0 R all k st (some false) ⟨dst, op, t, p, af, g⟩ l d fr H = DRP P G w0 M0 R all k st l ⟨d.nid, d.tr ++ [⟨[], [], d.nid, []⟩]⟩ (putV fr dst (.tup [])) H := rfl
theorem DGRN_t {op : Op} {g : Option (Nat × Bool)} : DGRN P G w0 M0 R all k st true ⟨dst, op, t, p, af, g⟩ l d fr H = DRP P G w0 M0 R all k st l ⟨d.nid, d.tr ++ [⟨[], [], d.nid, []⟩]⟩ (putV fr dst (.tup [])) H := rfl
theorem DGRN_f {op : Op} {g : Option (Nat × Bool)} : DGRN P G w0 M0 R all k st false ⟨dst, op, t, p, af, g⟩ l d fr H = DRP P G w0 M0 R all k st (⟨dst, op, t, p, af, none⟩ :: l) d fr H := rfl
theorem DOV_some {v : V} {rd : List Nat} : DOV P G w0 M0 R all k st (some v) rd dst l d fr H = DRP P G w0 M0 R all k st l ⟨d.nid, d.tr ++ [⟨rd, [], d.nid, []⟩]⟩ (putV fr dst v) H := rfl
theorem DON_some {b : AB} {rd : List Nat} : DON P G w0 M0 R all k st (some b) rd dst l d fr H = (isHole (getH H d.nid) = true ∧ DRP P G w0 M0 R all k st l ⟨d.nid + 1, d.tr ++ [⟨rd, [d.nid], d.nid, []⟩]⟩ (putV fr dst (.ptr d.nid 0)) (H.set d.nid b)) := rfl
theorem DOU_some {s : List (Nat × AB)} {rd : List Nat} {ins : List (Nat × List Int)} : DOU P G w0 M0 R all k st (some s) rd ins dst l d fr H = DRP P G w0 M0 R all k st l ⟨d.nid, d.tr ++ [⟨rd, s.map (·.1), d.nid, ins⟩]⟩ (putV fr dst (.tup [])) (setH H s) := rfl
theorem DOC_set {v : V} {s : List (Nat × AB)} {rd : List Nat} : DOC P G w0 M0 R all k st (some (true, v, ⟨s, none⟩)) rd dst l d fr H = DRP P G w0 M0 R all k st l ⟨d.nid, d.tr ++ [⟨rd, s.map (·.1), d.nid, []⟩]⟩ (putV fr dst v) (setH H s) := rfl
theorem DOC_no {v : V} {rd : List Nat} : DOC P G w0 M0 R all k st (some (true, v, .no)) rd dst l d fr H = DRP P G w0 M0 R all k st l ⟨d.nid, d.tr ++ [⟨rd, [], d.nid, []⟩]⟩ (putV fr dst v) H := rfl
theorem DOC_new {v : V} {b : AB} {rd : List Nat} : DOC P G w0 M0 R all k st (some (true, v, ⟨[], some b⟩)) rd dst l d fr H = (isHole (getH H d.nid) = true ∧ DRP P G w0 M0 R all k st l ⟨d.nid + 1, d.tr ++ [⟨rd, [d.nid], d.nid, []⟩]⟩ (putV fr dst v) (H.set d.nid b)) := rfl
theorem DOC_ok {q : Bool} {v : V} {u : Upd} {rd : List Nat} (hp : q = true) (h : DOC P G w0 M0 R all k st (some (true, v, u)) rd dst l d fr H) : DOC P G w0 M0 R all k st (some (q, v, u)) rd dst l d fr H := by subst hp; exact h
theorem insN_mp {i : Nat} {k : V} : insN (.mp i) k = [(i, keyN k)] := rfl
theorem keyN_val {j : IntKind} {n : Int} : keyN (.val (.int j n)) = [n] := rfl
theorem keyN_agg {cs : List V} : keyN (.agg cs) = keyNs cs := by
  simp only [keyN]
  induction cs with
  | nil => rfl
  | cons c cs ih =>
    simp only [List.map_cons, ih]
    cases c <;> first | rfl | (rename_i w; cases w <;> rfl)
theorem keyNs_nil : keyNs [] = [] := rfl
theorem keyNs_cons {j : IntKind} {n : Int} {cs : List V} : keyNs (.val (.int j n) :: cs) = n :: keyNs cs := rfl
theorem isHole_hole : isHole .hole = true := rfl
theorem mapS_nil : ([] : List (Nat × AB)).map (·.1) = [] := rfl
theorem mapS_cons {i : Nat} {b : AB} {s : List (Nat × AB)} : ((i, b) :: s).map (·.1) = i :: s.map (·.1) := rfl
theorem D_move {x : Operand} : DRP P G w0 M0 R all k st (⟨dst, .move x, ty, p, af, none⟩ :: l) d fr H = DRP P G w0 M0 R all k st l ⟨d.nid, d.tr ++ [⟨[], [], d.nid, []⟩]⟩ (putV fr dst (evalO G fr x)) H := rfl
theorem D_assign {x : Operand} : DRP P G w0 M0 R all k st (⟨dst, .assign x, ty, p, af, none⟩ :: l) d fr H = DRP P G w0 M0 R all k st l ⟨d.nid, d.tr ++ [⟨[], [], d.nid, []⟩]⟩ (putV fr dst (evalO G fr x)) H := rfl
theorem D_pick {c x y : Operand}  : DRP P G w0 M0 R all k st (⟨dst, .pick c x y, ty, p, af, none⟩ :: l) d fr H = DOV P G w0 M0 R all k st (pickE (evalO G fr c) (evalO G fr x) (evalO G fr y)) (idsL [evalO G fr c, evalO G fr x, evalO G fr y]) dst l d fr H := by
  rw [DOV_of (o := ⟨dst, .pick c x y, ty, p, af, none⟩) rfl (E_pick) (fun c hc f => by cases hc) rfl]
  have hrd : rdOf G fr (.pick c x y) = idsL [evalO G fr c, evalO G fr x, evalO G fr y] := by simp [rdOf, isMv, Op.operands, Call.operands, Function.comp_def]
  rw [hrd]
theorem D_alloc  : DRP P G w0 M0 R all k st (⟨dst, .alloc t, ty, p, af, none⟩ :: l) d fr H = DON P G w0 M0 R all k st (allocE (tdOf P t)) (idsL []) dst l d fr H := by
  rw [DON_of (o := ⟨dst, .alloc t, ty, p, af, none⟩) rfl (E_alloc) (fun c hc f => by cases hc)]
  have hrd : rdOf G fr (.alloc t) = idsL [] := by simp [rdOf, isMv, Op.operands, Call.operands, Function.comp_def]
  rw [hrd]
theorem D_box {x : Operand}  : DRP P G w0 M0 R all k st (⟨dst, .box t x, ty, p, af, none⟩ :: l) d fr H = DON P G w0 M0 R all k st (boxE (evalO G fr x)) (idsL [evalO G fr x]) dst l d fr H := by
  rw [DON_of (o := ⟨dst, .box t x, ty, p, af, none⟩) rfl (E_box) (fun c hc f => by cases hc)]
  have hrd : rdOf G fr (.box t x) = idsL [evalO G fr x] := by simp [rdOf, isMv, Op.operands, Call.operands, Function.comp_def]
  rw [hrd]
theorem D_load {x : Operand}  : DRP P G w0 M0 R all k st (⟨dst, .load t x, ty, p, af, none⟩ :: l) d fr H = DOV P G w0 M0 R all k st (loadE (tdOf P t) H (evalO G fr x)) (idsL [evalO G fr x]) dst l d fr H := by
  rw [DOV_of (o := ⟨dst, .load t x, ty, p, af, none⟩) rfl (E_load) (fun c hc f => by cases hc) rfl]
  have hrd : rdOf G fr (.load t x) = idsL [evalO G fr x] := by simp [rdOf, isMv, Op.operands, Call.operands, Function.comp_def]
  rw [hrd]
theorem D_store {a x : Operand}  : DRP P G w0 M0 R all k st (⟨dst, .store t a x, ty, p, af, none⟩ :: l) d fr H = DOU P G w0 M0 R all k st (storeE (tdOf P t) H (evalO G fr x) (evalO G fr a)) (idsL [evalO G fr a, evalO G fr x]) (stK (evalO G fr a) (evalO G fr x)) dst l d fr H := by
  rw [DOU_of (o := ⟨dst, .store t a x, ty, p, af, none⟩) rfl (E_store) (fun c hc f => by cases hc)]
  have hrd : rdOf G fr (.store t a x) = idsL [evalO G fr a, evalO G fr x] := by simp [rdOf, isMv, Op.operands, Call.operands, Function.comp_def]
  rw [hrd]
  rfl
theorem D_nilCheck {x : Operand}  : DRP P G w0 M0 R all k st (⟨dst, .nilCheck x, ty, p, af, none⟩ :: l) d fr H = DOV P G w0 M0 R all k st (nilCheckE (evalO G fr x)) (idsL [evalO G fr x]) dst l d fr H := by
  rw [DOV_of (o := ⟨dst, .nilCheck x, ty, p, af, none⟩) rfl (E_nilCheck) (fun c hc f => by cases hc) rfl]
  have hrd : rdOf G fr (.nilCheck x) = idsL [evalO G fr x] := by simp [rdOf, isMv, Op.operands, Call.operands, Function.comp_def]
  rw [hrd]
theorem D_fieldAddr {x : Operand} {f : Nat}  : DRP P G w0 M0 R all k st (⟨dst, .fieldAddr t x f, ty, p, af, none⟩ :: l) d fr H = DOV P G w0 M0 R all k st (faE (tdOf P t) H f (evalO G fr x)) (idsL [evalO G fr x]) dst l d fr H := by
  rw [DOV_of (o := ⟨dst, .fieldAddr t x f, ty, p, af, none⟩) rfl (E_fieldAddr) (fun c hc f => by cases hc) rfl]
  have hrd : rdOf G fr (.fieldAddr t x f) = idsL [evalO G fr x] := by simp [rdOf, isMv, Op.operands, Call.operands, Function.comp_def]
  rw [hrd]
theorem D_field {x : Operand} {f : Nat}  : DRP P G w0 M0 R all k st (⟨dst, .field t x f, ty, p, af, none⟩ :: l) d fr H = DOV P G w0 M0 R all k st (fieldE (tdOf P t) f (evalO G fr x)) (idsL [evalO G fr x]) dst l d fr H := by
  rw [DOV_of (o := ⟨dst, .field t x f, ty, p, af, none⟩) rfl (E_field) (fun c hc f => by cases hc) rfl]
  have hrd : rdOf G fr (.field t x f) = idsL [evalO G fr x] := by simp [rdOf, isMv, Op.operands, Call.operands, Function.comp_def]
  rw [hrd]
theorem D_indexAddr {x ix : Operand}  : DRP P G w0 M0 R all k st (⟨dst, .indexAddr t x ix, ty, p, af, none⟩ :: l) d fr H = DOV P G w0 M0 R all k st (iaE (tdOf P t) H (evalO G fr x) (evalO G fr ix)) (idsL [evalO G fr x, evalO G fr ix]) dst l d fr H := by
  rw [DOV_of (o := ⟨dst, .indexAddr t x ix, ty, p, af, none⟩) rfl (E_indexAddr) (fun c hc f => by cases hc) rfl]
  have hrd : rdOf G fr (.indexAddr t x ix) = idsL [evalO G fr x, evalO G fr ix] := by simp [rdOf, isMv, Op.operands, Call.operands, Function.comp_def]
  rw [hrd]
theorem D_index {x ix : Operand}  : DRP P G w0 M0 R all k st (⟨dst, .index t x ix, ty, p, af, none⟩ :: l) d fr H = DOV P G w0 M0 R all k st (indexE (tdOf P t) (evalO G fr x) (evalO G fr ix)) (idsL [evalO G fr x, evalO G fr ix]) dst l d fr H := by
  rw [DOV_of (o := ⟨dst, .index t x ix, ty, p, af, none⟩) rfl (E_index) (fun c hc f => by cases hc) rfl]
  have hrd : rdOf G fr (.index t x ix) = idsL [evalO G fr x, evalO G fr ix] := by simp [rdOf, isMv, Op.operands, Call.operands, Function.comp_def]
  rw [hrd]
theorem D_binOp {op : BinOp} {x y : Operand} {t2 : TypeId}  : DRP P G w0 M0 R all k st (⟨dst, .binOp op t x y t2, ty, p, af, none⟩ :: l) d fr H = DOV P G w0 M0 R all k st (binV P op t (evalO G fr x) (evalO G fr y)) (idsL [evalO G fr x, evalO G fr y]) dst l d fr H := by
  rw [DOV_of (o := ⟨dst, .binOp op t x y t2, ty, p, af, none⟩) rfl (E_binOp) (fun c hc f => by cases hc) rfl]
  have hrd : rdOf G fr (.binOp op t x y t2) = idsL [evalO G fr x, evalO G fr y] := by simp [rdOf, isMv, Op.operands, Call.operands, Function.comp_def]
  rw [hrd]
theorem D_unOp {op : UnOp} {x : Operand}  : DRP P G w0 M0 R all k st (⟨dst, .unOp op t x, ty, p, af, none⟩ :: l) d fr H = DOV P G w0 M0 R all k st (unE op (evalO G fr x)) (idsL [evalO G fr x]) dst l d fr H := by
  rw [DOV_of (o := ⟨dst, .unOp op t x, ty, p, af, none⟩) rfl (E_unOp) (fun c hc f => by cases hc) rfl]
  have hrd : rdOf G fr (.unOp op t x) = idsL [evalO G fr x] := by simp [rdOf, isMv, Op.operands, Call.operands, Function.comp_def]
  rw [hrd]
theorem D_convert {s : TypeId} {x : Operand}  : DRP P G w0 M0 R all k st (⟨dst, .convert s t x, ty, p, af, none⟩ :: l) d fr H = DOV P G w0 M0 R all k st (convE (tdOf P s) (tdOf P t) (evalO G fr x)) (idsL [evalO G fr x]) dst l d fr H := by
  rw [DOV_of (o := ⟨dst, .convert s t x, ty, p, af, none⟩) rfl (E_convert) (fun c hc f => by cases hc) rfl]
  have hrd : rdOf G fr (.convert s t x) = idsL [evalO G fr x] := by simp [rdOf, isMv, Op.operands, Call.operands, Function.comp_def]
  rw [hrd]
theorem D_makeFunc {f : Fn} {a b : Array Operand}  : DRP P G w0 M0 R all k st (⟨dst, .makeFunc f a b, ty, p, af, none⟩ :: l) d fr H = DOV P G w0 M0 R all k st (some (.fn f (a.toList.map (evalO G fr)) (b.toList.map (evalO G fr)))) (idsL ((a.toList ++ b.toList).map (evalO G fr))) dst l d fr H := by
  rw [DOV_of (o := ⟨dst, .makeFunc f a b, ty, p, af, none⟩) rfl (E_makeFunc) (fun c hc f => by cases hc) rfl]
  have hrd : rdOf G fr (.makeFunc f a b) = idsL ((a.toList ++ b.toList).map (evalO G fr)) := by simp [rdOf, isMv, Op.operands, Call.operands, Function.comp_def]
  rw [hrd]
theorem D_extract {x : Operand} {i : Nat}  : DRP P G w0 M0 R all k st (⟨dst, .extract x i, ty, p, af, none⟩ :: l) d fr H = DOV P G w0 M0 R all k st (extractE (evalO G fr x) i) (idsL [evalO G fr x]) dst l d fr H := by
  rw [DOV_of (o := ⟨dst, .extract x i, ty, p, af, none⟩) rfl (E_extract) (fun c hc f => by cases hc) rfl]
  have hrd : rdOf G fr (.extract x i) = idsL [evalO G fr x] := by simp [rdOf, isMv, Op.operands, Call.operands, Function.comp_def]
  rw [hrd]
theorem D_build {ps : Array (Nat × Operand)}  : DRP P G w0 M0 R all k st (⟨dst, .build t ps, ty, p, af, none⟩ :: l) d fr H = DOV P G w0 M0 R all k st (buildE (tdOf P t) (ps.toList.map fun p => (p.1, evalO G fr p.2))) (idsL (ps.toList.map fun p => evalO G fr p.2)) dst l d fr H := by
  rw [DOV_of (o := ⟨dst, .build t ps, ty, p, af, none⟩) rfl (E_build) (fun c hc f => by cases hc) rfl]
  have hrd : rdOf G fr (.build t ps) = idsL (ps.toList.map fun p => evalO G fr p.2) := by simp [rdOf, isMv, Op.operands, Call.operands, Function.comp_def]
  rw [hrd]
theorem D_buildSlice {n : Nat} {ps : Array (Nat × Operand)}  : DRP P G w0 M0 R all k st (⟨dst, .buildSlice t n ps, ty, p, af, none⟩ :: l) d fr H = DOC P G w0 M0 R all k st (buildSliceE P H d.nid (tdOf P t) n (ps.toList.map fun p => (p.1, evalO G fr p.2))) (idsL (ps.toList.map fun p => evalO G fr p.2)) dst l d fr H := by
  rw [DOC_of (o := ⟨dst, .buildSlice t n ps, ty, p, af, none⟩) rfl (E_buildSlice) (fun c hc f => by cases hc) rfl]
  have hrd : rdOf G fr (.buildSlice t n ps) = idsL (ps.toList.map fun p => evalO G fr p.2) := by simp [rdOf, isMv, Op.operands, Call.operands, Function.comp_def]
  rw [hrd]
theorem D_len {x : Operand}  : DRP P G w0 M0 R all k st (⟨dst, .call ⟨.builtin .len, #[x], #[t]⟩, ty, p, af, none⟩ :: l) d fr H = DOV P G w0 M0 R all k st (lenE (tdOf P t) H (evalO G fr x)) (idsL [evalO G fr x]) dst l d fr H := by
  rw [DOV_of (o := ⟨dst, .call ⟨.builtin .len, #[x], #[t]⟩, ty, p, af, none⟩) rfl (E_len) (fun c hc f => by cases hc; simp) rfl]
  have hrd : rdOf G fr (.call ⟨.builtin .len, #[x], #[t]⟩) = idsL [evalO G fr x] := by simp [rdOf, isMv, Op.operands, Call.operands, Function.comp_def]
  rw [hrd]
theorem D_append {x y : Operand} {tx : TypeId}  : DRP P G w0 M0 R all k st (⟨dst, .call ⟨.builtin .append, #[x, y], #[t, tx]⟩, ty, p, af, none⟩ :: l) d fr H = DOC P G w0 M0 R all k st (appE (appT P t tx) (srcV H (evalO G fr y)) H d.nid (evalO G fr x)) (idsL [evalO G fr x, evalO G fr y]) dst l d fr H := by
  rw [DOC_of (o := ⟨dst, .call ⟨.builtin .append, #[x, y], #[t, tx]⟩, ty, p, af, none⟩) rfl (E_append) (fun c hc f => by cases hc; simp) rfl]
  have hrd : rdOf G fr (.call ⟨.builtin .append, #[x, y], #[t, tx]⟩) = idsL [evalO G fr x, evalO G fr y] := by simp [rdOf, isMv, Op.operands, Call.operands, Function.comp_def]
  rw [hrd]
theorem D_slice {x : Operand} {lo hi mx : Option Operand}  : DRP P G w0 M0 R all k st (⟨dst, .slice t x lo hi mx, ty, p, af, none⟩ :: l) d fr H = DOC P G w0 M0 R all k st (slcE (slcT P t) (optN G fr lo) (optN G fr hi) (optN G fr mx) H (evalO G fr x)) (idsL ((x :: (lo.toList ++ hi.toList ++ mx.toList)).map (evalO G fr))) dst l d fr H := by
  rw [DOC_of (o := ⟨dst, .slice t x lo hi mx, ty, p, af, none⟩) rfl (E_slice) (fun c hc f => by cases hc) rfl]
  have hrd : rdOf G fr (.slice t x lo hi mx) = idsL ((x :: (lo.toList ++ hi.toList ++ mx.toList)).map (evalO G fr)) := by simp [rdOf, isMv, Op.operands, Call.operands, Function.comp_def]
  rw [hrd]
theorem D_makeInterface {x : Operand}  : DRP P G w0 M0 R all k st (⟨dst, .makeInterface t x, ty, p, af, none⟩ :: l) d fr H = DOV P G w0 M0 R all k st (bif ifcT P t then ifc t (evalO G fr x) else none) (idsL [evalO G fr x]) dst l d fr H := by
  rw [DOV_of (o := ⟨dst, .makeInterface t x, ty, p, af, none⟩) rfl (E_makeInterface) (fun c hc f => by cases hc) rfl]
  have hrd : rdOf G fr (.makeInterface t x) = idsL [evalO G fr x] := by simp [rdOf, isMv, Op.operands, Call.operands, Function.comp_def]
  rw [hrd]
theorem D_makeMap  : DRP P G w0 M0 R all k st (⟨dst, .makeMap t none, ty, p, af, none⟩ :: l) d fr H = DOC P G w0 M0 R all k st (mkE P (mapT P t) d.nid) (idsL []) dst l d fr H := by
  rw [DOC_of (o := ⟨dst, .makeMap t none, ty, p, af, none⟩) rfl (E_makeMap) (fun c hc f => by cases hc) rfl]
  have hrd : rdOf G fr (.makeMap t none) = idsL [] := by simp [rdOf, isMv, Op.operands, Call.operands, Function.comp_def]
  rw [hrd]
theorem D_insert {m k2 x : Operand}  : DRP P G w0 M0 R all k st (⟨dst, .insert t m k2 x, ty, p, af, none⟩ :: l) d fr H = DOU P G w0 M0 R all k st (insE P (mapT P t) H (evalO G fr m) (evalO G fr k2) (evalO G fr x)) (idsL [evalO G fr m, evalO G fr k2, evalO G fr x]) (insN (evalO G fr m) (evalO G fr k2)) dst l d fr H := by
  rw [DOU_of (o := ⟨dst, .insert t m k2 x, ty, p, af, none⟩) rfl (E_insert) (fun c hc f => by cases hc)]
  have hrd : rdOf G fr (.insert t m k2 x) = idsL [evalO G fr m, evalO G fr k2, evalO G fr x] := by simp [rdOf, isMv, Op.operands, Call.operands, Function.comp_def]
  rw [hrd]
  have hk : insK G fr (.insert t m k2 x) = insN (evalO G fr m) (evalO G fr k2) := by simp only [insK, insN]; cases evalO G fr m <;> rfl
  rw [hk]
theorem D_mapUpdate {m k2 x : Operand}  : DRP P G w0 M0 R all k st (⟨dst, .mapUpdate t m k2 x, ty, p, af, none⟩ :: l) d fr H = DOU P G w0 M0 R all k st (insE P (mapT P t) H (evalO G fr m) (evalO G fr k2) (evalO G fr x)) (idsL [evalO G fr m, evalO G fr k2, evalO G fr x]) ([] : List (Nat × List Int)) dst l d fr H := by
  rw [DOU_of (o := ⟨dst, .mapUpdate t m k2 x, ty, p, af, none⟩) rfl (E_mapUpdate) (fun c hc f => by cases hc)]
  have hrd : rdOf G fr (.mapUpdate t m k2 x) = idsL [evalO G fr m, evalO G fr k2, evalO G fr x] := by simp [rdOf, isMv, Op.operands, Call.operands, Function.comp_def]
  rw [hrd]
  rfl
theorem D_lookup {m k2 : Operand} {ok : Bool}  : DRP P G w0 M0 R all k st (⟨dst, .lookup t m k2 ok, ty, p, af, none⟩ :: l) d fr H = DOV P G w0 M0 R all k st (lkE P (mapT P t) H ok (evalO G fr m) (evalO G fr k2)) (idsL [evalO G fr m, evalO G fr k2]) dst l d fr H := by
  rw [DOV_of (o := ⟨dst, .lookup t m k2 ok, ty, p, af, none⟩) rfl (E_lookup) (fun c hc f => by cases hc) rfl]
  have hrd : rdOf G fr (.lookup t m k2 ok) = idsL [evalO G fr m, evalO G fr k2] := by simp [rdOf, isMv, Op.operands, Call.operands, Function.comp_def]
  rw [hrd]
theorem ids_val (w : Value) : ids (.val w) = [] := by simp only [ids]
theorem ids_sl (es : List V) (m : Mk) : ids (.sl es m) = [] := by simp only [ids]
theorem ids_cp (cs : List V) : ids (.cp cs) = [] := by simp only [ids]
theorem ids_any  : ids (.any) = [] := by simp only [ids]
theorem ids_ptr (i o : Nat) : ids (.ptr i o) = [i] := by simp only [ids]
theorem ids_ptrE (i v x s o : Nat) : ids (.ptrE i v x s o) = [i] := by simp only [ids]
theorem ids_row (i v : Nat) : ids (.row i v) = [i] := by simp only [ids]
theorem ids_vs (i o n s : Nat) : ids (.vs i o n s) = [i] := by simp only [ids]
theorem ids_mp (i : Nat) : ids (.mp i) = [i] := by simp only [ids]
theorem ids_agg (cs : List V) : ids (.agg cs) = idsL cs := by simp only [ids]
theorem ids_tup (cs : List V) : ids (.tup cs) = idsL cs := by simp only [ids]
theorem ids_fn (f : Fn) (a b : List V) : ids (.fn f a b) = idsL a ++ idsL b := by simp only [ids]
theorem ids_iface (t : TypeId) (v : V) : ids (.iface t v) = ids v := by simp only [ids]
theorem idsL_nil : idsL [] = [] := by simp only [idsL]
theorem idsL_cons (v : V) (vs : List V) : idsL (v :: vs) = ids v ++ idsL vs := by simp only [idsL]
theorem appT_nil (l : List TrE) : [] ++ l = l := rfl
theorem appT_cons (a : TrE) (l m : List TrE) : (a :: l) ++ m = a :: (l ++ m) := rfl
theorem appO_nil (l : List Operand) : [] ++ l = l := rfl
theorem appO_cons (a : Operand) (l m : List Operand) : (a :: l) ++ m = a :: (l ++ m) := rfl
theorem toO_none : (none : Option Operand).toList = [] := rfl
theorem toO_some (x : Operand) : (some x).toList = [x] := rfl
theorem repH_zero : List.replicate 0 AB.hole = [] := rfl
theorem repH_succ (n : Nat) : List.replicate (n + 1) AB.hole = .hole :: List.replicate n .hole := rfl
end
theorem AB7 : (((((((type_of% @DGR_not) ∧ (type_of% @DGRN_t)) ∧ ((type_of% @DGRN_f) ∧ (type_of% @D_end))) ∧ (((type_of% @D_guard) ∧ (type_of% @D_call)) ∧ ((type_of% @DGR_true) ∧ ((type_of% @DGR_false) ∧ (type_of% @DOV_some))))) ∧ ((((type_of% @DON_some) ∧ (type_of% @DOU_some)) ∧ ((type_of% @DOC_set) ∧ (type_of% @DOC_no))) ∧ (((type_of% @DOC_new) ∧ (type_of% @isHole_hole)) ∧ ((type_of% @insN_mp) ∧ ((type_of% @keyN_val) ∧ (type_of% @keyN_agg)))))) ∧ (((((type_of% @keyNs_nil) ∧ (type_of% @keyNs_cons)) ∧ ((type_of% @mapS_nil) ∧ (type_of% @mapS_cons))) ∧ (((type_of% @D_move) ∧ (type_of% @D_assign)) ∧ ((type_of% @D_pick) ∧ ((type_of% @D_alloc) ∧ (type_of% @D_box))))) ∧ ((((type_of% @D_load) ∧ (type_of% @D_store)) ∧ ((type_of% @D_nilCheck) ∧ (type_of% @D_fieldAddr))) ∧ (((type_of% @D_field) ∧ (type_of% @D_indexAddr)) ∧ ((type_of% @D_index) ∧ ((type_of% @D_binOp) ∧ (type_of% @D_unOp))))))) ∧ ((((((type_of% @D_convert) ∧ (type_of% @D_makeFunc)) ∧ ((type_of% @D_extract) ∧ (type_of% @D_build))) ∧ (((type_of% @D_buildSlice) ∧ (type_of% @D_len)) ∧ ((type_of% @D_append) ∧ ((type_of% @D_slice) ∧ (type_of% @D_makeInterface))))) ∧ ((((type_of% @D_makeMap) ∧ (type_of% @D_insert)) ∧ ((type_of% @D_mapUpdate) ∧ (type_of% @D_lookup))) ∧ (((type_of% @ids_val) ∧ (type_of% @ids_sl)) ∧ ((type_of% @ids_cp) ∧ ((type_of% @ids_any) ∧ (type_of% @ids_ptr)))))) ∧ (((((type_of% @ids_ptrE) ∧ (type_of% @ids_row)) ∧ ((type_of% @ids_vs) ∧ (type_of% @ids_mp))) ∧ (((type_of% @ids_agg) ∧ (type_of% @ids_tup)) ∧ ((type_of% @ids_fn) ∧ ((type_of% @ids_iface) ∧ (type_of% @idsL_nil))))) ∧ ((((type_of% @idsL_cons) ∧ (type_of% @appT_nil)) ∧ ((type_of% @appT_cons) ∧ (type_of% @appO_nil))) ∧ (((type_of% @appO_cons) ∧ (type_of% @toO_none)) ∧ ((type_of% @toO_some) ∧ ((type_of% @repH_zero) ∧ (type_of% @repH_succ)))))))) := ⟨⟨⟨⟨⟨⟨@DGR_not, @DGRN_t⟩, ⟨@DGRN_f, @D_end⟩⟩, ⟨⟨@D_guard, @D_call⟩, ⟨@DGR_true, ⟨@DGR_false, @DOV_some⟩⟩⟩⟩, ⟨⟨⟨@DON_some, @DOU_some⟩, ⟨@DOC_set, @DOC_no⟩⟩, ⟨⟨@DOC_new, @isHole_hole⟩, ⟨@insN_mp, ⟨@keyN_val, @keyN_agg⟩⟩⟩⟩⟩, ⟨⟨⟨⟨@keyNs_nil, @keyNs_cons⟩, ⟨@mapS_nil, @mapS_cons⟩⟩, ⟨⟨@D_move, @D_assign⟩, ⟨@D_pick, ⟨@D_alloc, @D_box⟩⟩⟩⟩, ⟨⟨⟨@D_load, @D_store⟩, ⟨@D_nilCheck, @D_fieldAddr⟩⟩, ⟨⟨@D_field, @D_indexAddr⟩, ⟨@D_index, ⟨@D_binOp, @D_unOp⟩⟩⟩⟩⟩⟩, ⟨⟨⟨⟨⟨@D_convert, @D_makeFunc⟩, ⟨@D_extract, @D_build⟩⟩, ⟨⟨@D_buildSlice, @D_len⟩, ⟨@D_append, ⟨@D_slice, @D_makeInterface⟩⟩⟩⟩, ⟨⟨⟨@D_makeMap, @D_insert⟩, ⟨@D_mapUpdate, @D_lookup⟩⟩, ⟨⟨@ids_val, @ids_sl⟩, ⟨@ids_cp, ⟨@ids_any, @ids_ptr⟩⟩⟩⟩⟩, ⟨⟨⟨⟨@ids_ptrE, @ids_row⟩, ⟨@ids_vs, @ids_mp⟩⟩, ⟨⟨@ids_agg, @ids_tup⟩, ⟨@ids_fn, ⟨@ids_iface, @idsL_nil⟩⟩⟩⟩, ⟨⟨⟨@idsL_cons, @appT_nil⟩, ⟨@appT_cons, @appO_nil⟩⟩, ⟨⟨@appO_cons, @toO_none⟩, ⟨@toO_some, ⟨@repH_zero, @repH_succ⟩⟩⟩⟩⟩⟩⟩
end Go.Ab

/- The abstract machine: loops that count, numbers, lists. -/
set_option linter.unusedVariables false
set_option linter.unusedSimpArgs false
namespace Go.Ab
open Go Go.RowKit

theorem w64 {n : Int} (h0 : -9223372036854775808 ≤ n) (h1 : n < 9223372036854775808) : IntKind.i64.wrap n = n := by
  rw [IntKind.wrap_i64]; omega
theorem w64s {i : Nat} (h : i < 9223372036854775807) : IntKind.i64.wrap ((i : Int) + 1) = ((i + 1 : Nat) : Int) := by
  rw [w64 (by omega) (by omega)]; rfl
theorem w64n {i : Nat} (h : i < 9223372036854775808) : IntKind.i64.wrap (i : Int) = (i : Int) := w64 (by omega) (by omega)
theorem wu32 {n : Int} (h0 : 0 ≤ n) (h1 : n < 4294967296) : IntKind.u32.wrap n = n := by
  rw [IntKind.wrap_u32]; omega

structure RSt (σ : Type) (n : Nat) (inv : Nat → σ → Prop) where
  i : Nat
  s : σ
  le : i ≤ n
  ok : inv i s

section
variable {P : Program} {G : Glob} {w0 : World} {M0 : Nat → Nat → Prop} {R : Value → World → Prop}
def RJ {σ : Type} (P : Program) (G : Glob) (w0 : World) (M0 : Nat → Nat → Prop) (R : Value → World → Prop) (n : Nat) (inv : Nat → σ → Prop) (I : Nat → σ → List V × List AB) (x : RSt σ n inv) (st : List (List V)) : List Act → Act → World → Prop :=
  LoopJ ⟨P, G, w0, M0, R⟩ (fun x : RSt σ n inv => I x.i x.s) (fun x => n - x.i) x st
/-- A loop that counts up to n. -/
theorem RUNs_range {σ : Type} (n : Nat) (inv : Nat → σ → Prop) (I : Nat → σ → List V × List AB) (s0 : σ) {body : Code} {k : List It} {fr : List V} {st : List (List V)} {H : List AB}
    (hinv : inv 0 s0) (h0 : Weak fr H (I 0 s0).1 (I 0 s0).2) (hst : st.all (okL (I 0 s0).2.length) = true)
    (round : ∀ x : RSt σ n inv, RUNs P G w0 M0 R ⟨.code body :: .inv (RJ P G w0 M0 R n inv I x st) :: k, (I x.i x.s).1, st, (I x.i x.s).2⟩) : RUNs P G w0 M0 R ⟨.code (.loop body) :: k, fr, st, H⟩ :=
  RUNs_loop (fun x : RSt σ n inv => I x.i x.s) (fun x => n - x.i) ⟨0, s0, Nat.zero_le _, hinv⟩ h0 hst round
theorem RUNs_next {σ : Type} {n : Nat} {inv : Nat → σ → Prop} {I : Nat → σ → List V × List AB} {x : RSt σ n inv} (s : σ) {k : List It} {fr : List V} {st : List (List V)} {H : List AB}
    (hw : Weak fr H (I (x.i + 1) s).1 (I (x.i + 1) s).2) (hst : st.all (okL (I (x.i + 1) s).2.length) = true) (hi : x.i < n) (hinv : inv (x.i + 1) s) :
    RUNs P G w0 M0 R ⟨.inv (RJ P G w0 M0 R n inv I x st) :: k, fr, st, H⟩ :=
  RUNs_inv (I := fun x : RSt σ n inv => I x.i x.s) (μ := fun x => n - x.i) (x := x) ⟨x.i + 1, s, hi, hinv⟩ (by show n - (x.i + 1) < n - x.i; omega) hw hst
end

/-! What is told of a place in the code, once for all ways to it. -/
def CUT {σ : Type} (P : Program) (G : Glob) (w0 : World) (M0 : Nat → Nat → Prop) (R : Value → World → Prop) (I : σ → List V × List AB) (ok : σ → Prop) (st : List (List V)) : List Act → Act → World → Prop :=
  fun sa a w => ∃ s E, ok s ∧ E.w = w ∧ E.H = (I s).2 ∧ RelE ⟨P, G, w0, M0, R⟩ (I s).1 st sa a E
section
variable {P : Program} {G : Glob} {w0 : World} {M0 : Nat → Nat → Prop} {R : Value → World → Prop}
theorem RUNs_cut {σ : Type} (I : σ → List V × List AB) (ok : σ → Prop) {c : Code} {id : Nat} {k : List It} {fr : List V} {st : List (List V)} {H : List AB}
    (h : RUNs P G w0 M0 R ⟨.code c :: .blk id :: .inv (CUT P G w0 M0 R I ok st) :: k, fr, st, H⟩) (hk : ∀ s, ok s → RUNs P G w0 M0 R ⟨k, (I s).1, st, (I s).2⟩) (hs : step P G ⟨.code c :: .blk id :: k, fr, st, H⟩ = none) :
    RUNs P G w0 M0 R ⟨.code c :: .blk id :: k, fr, st, H⟩ := by
  refine RUNs_stop hs ?_
  have hr := RUN_of_RUNs h
  intro sa a E hH hR hD
  have := hr sa a E hH hR (by simpa only [DF] using hD)
  simp only [post, rd] at this ⊢
  refine wpIn_mono this (fun e a' w' q => ?_)
  have key : ∀ a' w', CUT P G w0 M0 R I ok st sa a' w' ∧ DF k a'.defers sa → post P R k sa .normal a' w' := by
    rintro a' w' ⟨⟨s, E', h1, rfl, h2, h3⟩, h4⟩
    exact RUN_of_RUNs (hk s h1) sa a' E' h2 h3 h4
  cases e with
  | normal => exact key a' w' q
  | exit id' =>
    simp only [post] at q ⊢
    split
    · rename_i hi; rw [if_pos hi] at q; exact key a' w' q
    · rename_i hi; rw [if_neg hi] at q; exact q
  | _ => exact q
theorem RUNs_cut_in {σ : Type} {I : σ → List V × List AB} {ok : σ → Prop} (s : σ) {k : List It} {fr : List V} {st : List (List V)} {H : List AB} (hw : Weak fr H (I s).1 (I s).2) (hst : st.all (okL (I s).2.length) = true) (h : ok s) :
    RUNs P G w0 M0 R ⟨.inv (CUT P G w0 M0 R I ok st) :: k, fr, st, H⟩ := by
  refine RUNs_stop (by rfl) ?_
  intro sa a E hH hR hD
  simp only at hH hR; subst hH
  obtain ⟨E', h1, h2, h3⟩ := hR.weak hw hst
  simp only [post]
  exact ⟨⟨s, E', h, h1, h2, h3⟩, by simpa only [DF] using hD⟩
end
theorem getMap {α : Type} (f : α → V) (l : List α) {i : Nat} (h : i < l.length) : (l.map f)[i]? = some (f l[i]) := by simp [h]
theorem lenMap {α : Type} (f : α → V) (l : List α) : (l.map f).length = l.length := List.length_map ..

theorem all_succ {α : Type} {l : List α} {p : α → Bool} {i : Nat} (h : i < l.length) : (l.take (i + 1)).all p = ((l.take i).all p && p l[i]) := by
  rw [List.take_succ_eq_append_getElem h, List.all_append, List.all_cons, List.all_nil, Bool.and_true]
theorem all_false {α : Type} {l : List α} {p : α → Bool} {i : Nat} (h : i < l.length) (hp : p l[i] = false) : l.all p = false := by
  rw [← Bool.not_eq_true]; intro hc
  rw [List.all_eq_true] at hc
  rw [hc _ (List.getElem_mem h)] at hp; cases hp
theorem any_true {α : Type} {l : List α} {p : α → Bool} {i : Nat} (h : i < l.length) (hp : p l[i] = true) : l.any p = true :=
  List.any_eq_true.2 ⟨_, List.getElem_mem h, hp⟩
def allIx {α : Type} (f : List α → α → Bool) (l : List α) : Bool := (List.range l.length).all fun i => match l[i]? with
  | some x => f (l.take i) x
  | none => true
theorem allIx_nil {α : Type} (f : List α → α → Bool) : allIx f [] = true := rfl
theorem allIx_succ {α : Type} {f : List α → α → Bool} {l : List α} {i : Nat} (h : i < l.length) : allIx f (l.take (i + 1)) = (allIx f (l.take i) && f (l.take i) l[i]) := by
  have e1 : (l.take (i + 1)).length = i + 1 := by rw [List.length_take]; omega
  have e2 : (l.take i).length = i := by rw [List.length_take]; omega
  unfold allIx
  rw [e1, e2, List.range_succ, List.all_append, List.all_cons, List.all_nil, Bool.and_true]
  have e3 : (l.take (i + 1))[i]? = some l[i] := by rw [List.getElem?_take_of_lt (Nat.lt_succ_self i), List.getElem?_eq_getElem h]
  rw [e3]
  have e4 : (l.take (i + 1)).take i = l.take i := by rw [List.take_take]; congr 1; omega
  simp only [e4]
  congr 1
  rw [Bool.eq_iff_iff, List.all_eq_true, List.all_eq_true]
  refine forall_congr' fun j => forall_congr' fun hj => ?_
  rw [List.mem_range] at hj
  have e5 : (l.take (i + 1))[j]? = (l.take i)[j]? := by rw [List.getElem?_take_of_lt (by omega), List.getElem?_take_of_lt hj]
  have e6 : (l.take (i + 1)).take j = (l.take i).take j := by rw [List.take_take, List.take_take]; congr 1; omega
  rw [e5, e6]
theorem allIx_false {α : Type} {f : List α → α → Bool} {l : List α} {i : Nat} (h : i < l.length) (hp : f (l.take i) l[i] = false) : allIx f l = false := by
  rw [← Bool.not_eq_true]; intro hc
  unfold allIx at hc
  rw [List.all_eq_true] at hc
  have := hc i (List.mem_range.2 h)
  rw [List.getElem?_eq_getElem h] at this
  simp only [hp] at this; cases this
theorem take_end {α : Type} {l : List α} {i m : Nat} (hi : i ≤ l.length) (hm : i ≤ m) (h : ¬ i < l.length ∨ ¬ i < m) : l.take i = l.take m := by
  rcases h with h | h
  · have : i = l.length := by omega
    subst this; rw [List.take_length, List.take_of_length_le (by omega)]
  · have : i = m := by omega
    rw [this]
theorem all_take_false {α : Type} {l : List α} {p : α → Bool} {i m : Nat} (h : i < l.length) (hm : i < m) (hp : p l[i] = false) : (l.take m).all p = false := by
  refine all_false (i := i) (by rw [List.length_take]; omega) ?_
  rw [List.getElem_take]; exact hp
theorem slc_ok {α : Type} {f : α → V} {l : List α} {i sz : Nat} (h : i ≤ l.length) (hf : ∀ a, lenE' sz (f a) = true) : (slcB l.length none (some i) none && (l.map f).all (lenE' sz)) = true := by
  simp [slcB, h, hf]
theorem takeMap {α : Type} (f : α → V) (l : List α) (i : Nat) : (l.map f).take i = (l.take i).map f := by rw [List.map_take]
theorem dropMap {α : Type} (f : α → V) (l : List α) (i : Nat) : (l.map f).drop i = (l.drop i).map f := by rw [List.map_drop]
theorem take_drop0 {α : Type} {f : α → V} {l : List α} {i : Nat} : ((l.map f).take i).drop 0 = (l.take i).map f := by
  rw [List.drop_zero, List.map_take]
end Go.Ab

/- The abstract machine: what is read as data, as deep values. -/
set_option linter.unusedVariables false
set_option linter.unusedSimpArgs false
namespace Go.Ab
open Go Go.RowKit

/-- The types of what is handed in. -/
inductive Ty where
  | int (k : IntKind)
  | bool
  | slice (e : Ty) (agg : Bool)
  | struct (fs : Ty)
  | prod (a b : Ty)
  | unit
def Ty.den : Ty → Type
  | .int _ => Int
  | .bool => Bool
  | .slice e _ => List e.den
  | .struct fs => fs.den
  | .prod a b => a.den × b.den
  | .unit => Unit
def Ty.cells : Ty → Nat
  | .int _ => 1
  | .bool => 1
  | .slice _ _ => 1
  | .struct fs => fs.cells
  | .prod a b => a.cells + b.cells
  | .unit => 0
def elV (agg : Bool) (cs : List V) : V := bif agg then .agg cs else (match cs with | c :: _ => c | [] => .any)
def encC : (t : Ty) → t.den → List V
  | .int k, n => [.int k n]
  | .bool, b => [.bool b]
  | .slice e agg, l => [.sl (List.map (fun x => elV agg (encC e x)) l) .plain]
  | .struct fs, x => encC fs x
  | .prod a b, x => encC a x.1 ++ encC b x.2
  | .unit, _ => []
def lim : (t : Ty) → t.den → Prop
  | .int k, n => k.min ≤ (show Int from n) ∧ (show Int from n) ≤ k.max
  | .bool, _ => True
  | .slice e agg, l => List.length (show List e.den from l) ≤ 9223372036854775807 ∧ ∀ x : e.den, x ∈ (show List e.den from l) → lim e x
  | .struct fs, x => lim fs x
  | .prod a b, x => lim a x.1 ∧ lim b x.2
  | .unit, _ => True
def matchF (P : Program) (mt : TypeId → Ty → Bool) : List Field → Nat → Ty → Bool
  | [], _, .unit => true
  | f :: r, off, .prod a b => f.offset == off && mt f.type a && P.cellsOf f.type == a.cells && matchF P mt r (off + a.cells) b
  | _, _, _ => false
def isScalar : Ty → Bool
  | .int _ => true
  | .bool => true
  | .slice _ _ => true
  | _ => false
def matchT (P : Program) : Nat → TypeId → Ty → Bool
  | 0, _, _ => false
  | n + 1, t, .int k => match P.underlying t with
    | some (.int k') => k == k'
    | _ => false
  | n + 1, t, .bool => match P.underlying t with
    | some .bool => true
    | _ => false
  | n + 1, t, .slice e agg => match P.underlying t with
    | some (.slice e') => matchT P n e' e && P.cellsOf e' == e.cells && decide (0 < e.cells) && (agg || isScalar e)
    | _ => false
  | n + 1, t, .struct fs => match P.underlying t with
    | some (.struct fields) => matchF P (matchT P n) fields.toList 0 fs && P.cellsOf t == fs.cells
    | _ => false
  | _ + 1, _, _ => false
theorem encC_len : (t : Ty) → (x : t.den) → (encC t x).length = t.cells
  | .int _, _ => rfl
  | .bool, _ => rfl
  | .slice _ _, _ => rfl
  | .struct fs, x => encC_len fs x
  | .prod a b, x => by simp only [encC, List.length_append, encC_len a, encC_len b, Ty.cells]
  | .unit, _ => rfl
theorem elV_cells {agg : Bool} {e : Ty} (h : (agg || isScalar e) = true) (x : e.den) : (elV agg (encC e x)).cells = encC e x := by
  cases agg with
  | true => rfl
  | false =>
    cases e <;> simp [isScalar] at h <;> simp [elV, encC, V.cells]

def E0 (w : World) : Env := ⟨w, fun _ _ => none, fun _ => .bool false, fun _ _ => False, []⟩
theorem E0_bare (w : World) : (E0 w).bare = E0 w := rfl

theorem choose_list {α β : Type} {p : Nat → α → β → Prop} : ∀ (l : List α) (k : Nat), (∀ i a, l[i]? = some a → ∃ b, p (k + i) a b) → ∃ r : List β, r.length = l.length ∧ ∀ i a, l[i]? = some a → ∃ b, r[i]? = some b ∧ p (k + i) a b
  | [], k, h => ⟨[], rfl, fun i a ha => by simp at ha⟩
  | a :: l, k, h => by
    obtain ⟨b, hb⟩ := h 0 a (by simp)
    obtain ⟨r, h1, h2⟩ := choose_list (p := p) l (k + 1) fun i a ha => by
      have := h (i + 1) a (by simpa using ha)
      rwa [show k + (i + 1) = k + 1 + i by omega] at this
    refine ⟨b :: r, by simp [h1], fun i a' ha => ?_⟩
    cases i with
    | zero => simp at ha; subst ha; exact ⟨b, by simp, hb⟩
    | succ i =>
      obtain ⟨b', k1, k2⟩ := h2 i a' (by simpa using ha)
      exact ⟨b', by simpa using k1, by rwa [show k + (i + 1) = k + 1 + i by omega]⟩

section
variable {H : Type} {enc : TypeId × Value → H} {P : Program} {w : World} {base : Nat} {spare : Nat → Bool} {held : Bool}

theorem trodF (n fuel : Nat) (ih : ∀ (t : TypeId) (ty : Ty) (cs : List Value) (d : DataW H) (ps : List MemPlace), matchT P n t ty = true → DataW.trod enc P w base spare held fuel t cs = some (d, ps) → ∃ x : ty.den, RepL (E0 w) (encC ty x) cs ∧ lim ty x) :
    ∀ (fs : List Field) (off : Nat) (ty : Ty) (cs : List Value) (xs : List (DataW H × List MemPlace)), matchF P (matchT P n) fs off ty = true → cs.length = off + ty.cells →
      (fs.mapM fun f => DataW.trod enc P w base spare held fuel f.type ((cs.drop f.offset).take (P.cellsOf f.type))) = some xs → ∃ x : ty.den, RepL (E0 w) (encC ty x) (cs.drop off) ∧ lim ty x
  | [], off, ty, cs, xs, hm, hl, hx => by
    cases ty <;> simp only [matchF] at hm <;> try (cases hm; done)
    refine ⟨(), ?_, trivial⟩
    simp only [Ty.cells] at hl
    rw [List.drop_eq_nil_of_le (by omega)]
    exact RepL.nil _
  | f :: fs, off, ty, cs, xs, hm, hl, hx => by
    cases ty <;> simp only [matchF] at hm <;> try (cases hm; done)
    rename_i a b
    simp only [Bool.and_eq_true, beq_iff_eq] at hm
    obtain ⟨⟨⟨h1, h2⟩, h3⟩, h4⟩ := hm
    rw [List.mapM_cons] at hx
    simp only [Option.bind_eq_bind, Option.bind_eq_some_iff, Option.pure_def, Option.some.injEq] at hx
    obtain ⟨⟨d, ps⟩, hx1, xs', hx2, _⟩ := hx
    obtain ⟨x, k1, k2⟩ := ih f.type a _ d ps h2 hx1
    simp only [Ty.cells] at hl
    obtain ⟨y, k3, k4⟩ := trodF n fuel ih fs (off + a.cells) b cs xs' h4 (by omega) hx2
    refine ⟨(x, y), ?_, k2, k4⟩
    simp only [encC]
    have e : cs.drop off = (cs.drop off).take a.cells ++ cs.drop (off + a.cells) := by
      rw [← List.drop_drop, List.take_append_drop]
    rw [e]
    rw [h1, h3] at k1
    exact k1.append k3

theorem trod_rep : ∀ (fuel n : Nat) (t : TypeId) (ty : Ty) (cs : List Value) (d : DataW H) (ps : List MemPlace), matchT P n t ty = true → DataW.trod enc P w base spare held fuel t cs = some (d, ps) → ∃ x : ty.den, RepL (E0 w) (encC ty x) cs ∧ lim ty x
  | 0, n, t, ty, cs, d, ps, hm, h => by simp [DataW.trod] at h
  | fuel + 1, 0, t, ty, cs, d, ps, hm, h => by simp [matchT] at hm
  | fuel + 1, n + 1, t, ty, cs, d, ps, hm, h => by
    cases ty with
    | int k =>
      simp only [matchT] at hm
      split at hm <;> try (cases hm; done)
      rename_i k' hu
      have hk : k = k' := by simpa using hm
      subst hk
      simp only [DataW.trod, hu] at h
      split at h <;> try (cases h; done)
      all_goals (try (rename_i he; cases he; done))
      all_goals (try (rename_i he _; cases he; done))
      rename_i k1 k2 m he
      split at h
      · rename_i hc
        cases he
        obtain ⟨rfl, hwf⟩ := hc
        refine ⟨m, ?_, ?_⟩
        · simp only [encC]; exact RepL.cons (by simp [Rep, Value.oneCell']) (RepL.nil _)
        · simpa [Lit.wf, lim] using hwf
      · cases h
    | bool =>
      simp only [matchT] at hm
      split at hm <;> try (cases hm; done)
      rename_i hu
      simp only [DataW.trod, hu] at h
      split at h <;> try (cases h; done)
      all_goals (try (rename_i he; cases he; done))
      all_goals (try (rename_i he _; cases he; done))
      rename_i b he
      exact ⟨b, by simp only [encC]; exact RepL.cons (by simp [Rep, Value.oneCell']) (RepL.nil _), trivial⟩
    | slice e agg =>
      simp only [matchT] at hm
      split at hm <;> try (cases hm; done)
      rename_i e' hu
      simp only [Bool.and_eq_true, beq_iff_eq, decide_eq_true_eq] at hm
      obtain ⟨⟨⟨m1, m2⟩, m3⟩, m4⟩ := hm
      simp only [DataW.trod, hu] at h
      split at h <;> try (cases h; done)
      all_goals (try (rename_i he; cases he; done))
      all_goals (try (rename_i he _; cases he; done))
      · refine ⟨[], ?_, by simp [lim]⟩
        simp only [encC]
        refine RepL.cons ?_ (RepL.nil _)
        simp only [Rep]
        exact ⟨none, 0, 0, rfl, by simp, Nat.le_refl _, by simp [maxLen], by simp, by simp, by simp⟩
      · rename_i e2 a len cap he
        cases he
        split at h
        · rename_i hc
          obtain ⟨c1, c2, c3⟩ := hc
          simp only [Option.bind_eq_some_iff] at h
          obtain ⟨elems, h1, _⟩ := h
          have hlen := mapM_some_length h1
          simp only [List.length_range] at hlen
          have hget := mapM_some_get h1
          obtain ⟨r, r1, r2⟩ := choose_list (α := Nat) (β := e.den) (p := fun _ i x => ∃ cs, w.cells? base (a.add (i * P.cellsOf e')) (P.cellsOf e') = some cs ∧ RepL (E0 w) (encC e x) cs ∧ lim e x) (List.range len) 0 (fun i i' hi => by
            have hx := hget i i' hi
            have hil : i < elems.length := by
              rw [hlen]
              have := (List.getElem?_eq_some_iff.1 hi).1
              simpa using this
            rw [List.getElem?_eq_getElem hil, Option.bind_eq_some_iff] at hx
            obtain ⟨cs, k1, k2⟩ := hx
            obtain ⟨x, k3, k4⟩ := trod_rep fuel n e' e cs elems[i].1 elems[i].2 m1 k2
            exact ⟨x, cs, k1, k3, k4⟩)
          simp only [List.length_range] at r1
          have hr : ∀ i (hi : i < r.length), ∃ cs, w.cells? base (a.add (i * P.cellsOf e')) (P.cellsOf e') = some cs ∧ RepL (E0 w) (encC e r[i]) cs ∧ lim e r[i] := by
            intro i hi
            obtain ⟨b, q1, q2⟩ := r2 i i (by rw [List.getElem?_range (by omega)])
            rw [List.getElem?_eq_getElem hi] at q1
            injection q1 with q1; subst q1
            exact q2
          refine ⟨r, ?_, by show r.length ≤ _; simp only [maxLen] at c3; omega, fun x hx => ?_⟩
          · simp only [encC]
            refine RepL.cons ?_ (RepL.nil _)
            simp only [Rep]
            refine ⟨some a, len, cap, rfl, by rw [List.length_map]; exact r1.symm, c2, c3, by simp, by simp, fun hne => ?_⟩
            have hpos : 0 < r.length := by
              rcases Nat.eq_zero_or_pos r.length with h0 | h0
              · exfalso; apply hne; rw [List.eq_nil_of_length_eq_zero h0]; rfl
              · exact h0
            have hsp : a.spot = none := by
              obtain ⟨cs, q1, _⟩ := hr 0 hpos
              obtain ⟨_, q3, q4⟩ := World.cells?_some q1
              have := q4 0 (by omega)
              rw [List.getElem?_eq_getElem (by omega)] at this
              have := World.cell?_spot this
              obtain ⟨b, o, sp⟩ := a
              simpa [Addr.add] using this
            obtain ⟨b, o, sp⟩ := a
            simp only at hsp; subst hsp
            refine ⟨e.cells, b, o, rfl, RepEs.flat.2 ⟨fun v hv => ?_, ?_⟩⟩
            · obtain ⟨x, _, rfl⟩ := List.mem_map.1 hv
              rw [elV_cells m4, encC_len]
            · rw [E0_bare]
              have hfl : ∀ (l : List e.den) (k : Nat), (∀ i (hi : i < l.length), ∃ cs, w.cells? base ((⟨b, o, none⟩ : Addr).add ((k + i) * P.cellsOf e')) (P.cellsOf e') = some cs ∧ RepL (E0 w) (encC e l[i]) cs) →
                  RepAt (E0 w) (flatV (List.map (fun x => elV agg (encC e x)) l)) b (o + k * e.cells) := by
                intro l
                induction l with
                | nil => intro k _; simp [flatV, RepAt]
                | cons x l ih =>
                  intro k hk
                  simp only [List.map_cons, flatV, List.flatMap_cons]
                  rw [elV_cells m4, RepAt.append, encC_len]
                  constructor
                  · obtain ⟨cs, q1, q2⟩ := hk 0 (by simp)
                    obtain ⟨_, q3, q4⟩ := World.cells?_some q1
                    refine RepAt.of q2 fun j u hj => ⟨?_, fun hm => hm⟩
                    have hjl : j < P.cellsOf e' := by rw [← q3]; exact (List.getElem?_eq_some_iff.1 hj).1
                    have := q4 j hjl
                    rw [hj, Addr.add_none, Addr.add_none, m2] at this
                    exact this
                  · have := ih (k + 1) fun i hi => by
                      have := hk (i + 1) (by simpa using hi)
                      rw [show k + (i + 1) = k + 1 + i by omega] at this
                      simpa using this
                    rw [show o + k * e.cells + e.cells = o + (k + 1) * e.cells by rw [Nat.add_mul]; omega]
                    exact this
              have := hfl r 0 fun i hi => by
                obtain ⟨cs, q1, q2, _⟩ := hr i hi
                rw [Nat.zero_add]; exact ⟨cs, q1, q2⟩
              simpa using this
          · obtain ⟨i, hi, rfl⟩ := List.getElem_of_mem hx
            obtain ⟨_, _, _, q⟩ := hr i hi
            exact q
        · cases h
    | struct fs =>
      simp only [matchT] at hm
      split at hm <;> try (cases hm; done)
      rename_i fields hu
      simp only [Bool.and_eq_true, beq_iff_eq] at hm
      obtain ⟨m1, m2⟩ := hm
      simp only [DataW.trod, hu] at h
      split at h
      · rename_i hc
        simp only [Option.map_eq_some_iff] at h
        obtain ⟨xs, h1, _⟩ := h
        obtain ⟨x, k1, k2⟩ := trodF n fuel (fun t ty cs d ps hm hh => trod_rep fuel n t ty cs d ps hm hh) fields.toList 0 fs cs xs m1 (by omega) h1
        exact ⟨x, by simpa only [encC, List.drop_zero] using k1, k2⟩
      · cases h
    | prod a b => simp [matchT] at hm
    | unit => simp [matchT] at hm
end
end Go.Ab

/- The abstract machine: from a law's contract to its row. -/
set_option linter.unusedVariables false
set_option linter.unusedSimpArgs false
namespace Go.Ab
open Go Go.RowKit Go.ChangeShapes

theorem E0_ok (w : World) : EOK [] (E0 w).w (E0 w).M (E0 w).bare :=
  ⟨Below.refl _ _, fun _ _ _ => Iff.rfl, fun _ _ h => h.elim, fun i v b hp => by simp [E0, Env.bare] at hp, fun i v j u b hp => by simp [E0, Env.bare] at hp, fun i h hh => by simp [E0, Env.bare] at hh, fun g cs hg => by simp at hg⟩

/-- A value, out of its cells. -/
theorem Rep_of_cells {P : Program} {W : World} {r : Go.Reach} {base : Nat} {t : TypeId} {v : Value} {vs : List V} (hv : Value.okWide P W r base t v) (h : RepL (E0 W) vs v.cells.toList) : Rep (E0 W) (elV (aggOf P t) vs) v := by
  unfold Value.okWide at hv
  have hs : (∃ fs, P.underlying t = some (.struct fs)) ∨ (∃ n e, P.underlying t = some (.array n e)) ∨ (aggOf P t = false ∧ Cell.okWide P W r base t v) := by
    unfold aggOf
    split at hv
    · rename_i fs hu; exact .inl ⟨fs, hu⟩
    · rename_i n e hu; exact .inr (.inl ⟨n, e, hu⟩)
    · rename_i hu1 hu2
      refine .inr (.inr ⟨?_, hv⟩)
      split
      · rename_i fs hu; exact absurd hu (hu1 fs)
      · rename_i n e hu; exact absurd hu (hu2 n e)
      · rfl
  rcases hs with ⟨fs, hu⟩ | ⟨n, e, hu⟩ | ⟨ha, hc⟩
  · rw [hu] at hv
    simp only at hv
    obtain ⟨cs, rfl, _⟩ := hv
    have : aggOf P t = true := by unfold aggOf; rw [hu]
    rw [this]
    simp only [elV, cond_true, Rep]
    exact ⟨cs.toList, by simp, by simpa [Value.cells] using h⟩
  · rw [hu] at hv
    simp only at hv
    obtain ⟨cs, rfl, _⟩ := hv
    have : aggOf P t = true := by unfold aggOf; rw [hu]
    rw [this]
    simp only [elV, cond_true, Rep]
    exact ⟨cs.toList, by simp, by simpa [Value.cells] using h⟩
  · rw [ha]
    simp only [elV, cond_false]
    cases vs with
    | nil => simp [Rep]
    | cons c cs =>
      simp only
      have hone : v.cells = #[v] ∨ ∃ xs, v = .agg xs := by cases v <;> first | exact .inl rfl | exact .inr ⟨_, rfl⟩
      rcases hone with h1 | ⟨xs, rfl⟩
      · rw [h1] at h
        exact (RepL.cons_iff.1 h).1
      · exfalso
        cases hu : P.underlying t with
        | none => simp [Cell.okWide, Cell.ok, hu] at hc
        | some ds => cases ds <;> simp [Cell.okWide, Cell.ok, hu] at hc

theorem args_later {H : Type} {enc : TypeId × Value → H} {P : Program} {W W' : World} (hl : laidOutB P = true) (hb : Below W.heap.size W W') : ∀ (ts : List TypeId) (vs : List Value) (ds : List (DataW H)) (ps : List MemPlace), (ts.all fun t => P.readableRec t && decide (t < P.types.size)) = true →
    DataW.TrodAll enc P W 0 (fun _ => true) true ts vs ds ps → (∀ x ∈ ps, x.block < W.heap.size) → DataW.TrodAll enc P W' 0 (fun b => decide (b < W.heap.size)) true ts vs ds ps
  | [], vs, ds, ps, hr, h, hlt => by
    obtain ⟨rfl, rfl, rfl⟩ := trodAll_nil h; exact trodAll_mk0
  | t :: ts, vs, ds, ps, hr, h, hlt => by
    simp only [List.all_cons, Bool.and_eq_true, decide_eq_true_eq] at hr
    obtain ⟨v, vs', d, ds', p, q, rfl, rfl, rfl, h1, h2⟩ := trodAll_cons h
    refine ⟨p, q, Below.trod hl hr.1.1 hr.1.2 h1 hb (fun x hx => hlt x (List.mem_append_left _ hx)), args_later hl hb ts vs' ds' q (by simpa using hr.2) h2 (fun x hx => hlt x (List.mem_append_right _ hx)), rfl⟩

theorem law_lifted {H : Type} {enc : TypeId × Value → H} {C : Checked} {os : Os} {f : FuncId} {fn : Func} {s : ChangeSpec} {conds : List PathCond} {fresh handsOn : Bool} {tb : TypeId} (own : ownKnob C.prog.godebug = none) (laid : laidOutB C.prog = true) (started : os.Started) (noInit : C.prog.inits.idxOf? f = none) (hfn : C.prog.funcs[f]? = some fn)
    (hres : fn.resultTypes = #[tb]) (hb : C.prog.underlying tb = some .bool) (hvars : s.vars = []) (hS : ∀ ds : List (DataW H), ds.length = fn.params.toList.length → (s.fn H (ds ++ [])).results = [.lit (.bool true)] ∧ (s.fn H (ds ++ [])).args = ds ∧ (s.fn H (ds ++ [])).vars = [])
    (hread : (fn.params.toList.all fun t => C.prog.readableRec t && decide (t < C.prog.types.size)) = true)
    (witness : ∃ (w : World) (tape : Tape) (i : Input), w.os = os ∧ (w.forCall tape i).Shaped C.prog ∧ i.vars = [] ∧ Input.okWide C.prog (w.forCall tape i) .any w.heap.size f i ∧
      s.pre6 enc C.prog fn conds false (w.forCall tape i).memory i.args ∧ ({} : Assume).holds C.prog (lone (Frame.enter C.prog f i.args .normal) [] (w.forCall tape i)))
    (contract : ∀ (W : World) (base : Nat) (args : Array Value) (ds : List (DataW H)) (ps : List MemPlace), DataW.TrodAll enc C.prog W 0 (fun _ => true) true fn.params.toList args.toList ds ps →
      (∀ (j : Nat) t v, fn.params[j]? = some t → args[j]? = some v → Value.okWide C.prog W .any base t v) → ∃ vs : List V, RepL (E0 W) vs args.toList ∧ Spec C.prog [] f vs (.bool true) []) :
    ReturnsInHanded {} C os f .any (s.pre6 enc C.prog fn conds false) (s.post enc C.prog fn false fresh handsOn false) := by
  refine returnsInHanded_of_change_sized own started noInit hfn witness ?_
  intro W base args ds gs before hval hW _ _ _
  have hW' := hW
  obtain ⟨p, q, hA, hV, rfl, _, _⟩ := hW
  rw [hvars] at hV
  obtain ⟨rfl, rfl⟩ : gs = [] ∧ q = [] := by
    cases gs <;> cases q <;> simp [DataW.TrodVars] at hV
    exact ⟨rfl, rfl⟩
  obtain ⟨vs, hr, hs⟩ := contract W base args ds p hA hval
  have hlt : ∀ x ∈ p, x.block < W.heap.size := fun x hx => hW'.lt x (List.mem_append_left _ hx)
  have hlen : ds.length = fn.params.toList.length := by
    have : ∀ (ts : List TypeId) (vs : List Value) (ds : List (DataW H)) (ps : List MemPlace), DataW.TrodAll enc C.prog W 0 (fun _ => true) true ts vs ds ps → ds.length = ts.length := by
      intro ts
      induction ts with
      | nil => intro vs ds ps h; obtain ⟨_, rfl, _⟩ := trodAll_nil h; rfl
      | cons t ts ih => intro vs ds ps h; obtain ⟨v, vs', d, ds', p, q, rfl, rfl, rfl, h1, h2⟩ := trodAll_cons h; simp [ih _ _ _ h2]
    exact this _ _ _ _ hA
  obtain ⟨s1, s2, s3⟩ := hS ds hlen
  have hcalls := hs (E0 W) args.toList (E0_ok W) hr
  rw [show args.toList.toArray = args by simp] at hcalls
  refine hcalls.mono ?_
  rintro e W' ⟨v, E', rfl, rfl, _, hok, _, hv⟩
  simp only [Rep] at hv
  obtain ⟨rfl, _⟩ := hv
  refine ⟨_, rfl, ds, [], p ++ [], [], p, [], hW', ?_, ?_, ?_, hok.below.frame _, fun h => by cases h⟩
  · rw [s1, hres]
    exact trodAll_mk1 (shut_bool hb true)
  · rw [s2]
    exact args_later laid hok.below _ _ _ _ hread hA hlt
  · rw [s3, hvars]; rfl
end Go.Ab
namespace Go.Ab
open Go Go.RowKit Go.ChangeShapes
/-- An argument that is handed in, as Lean has it. -/
theorem arg_in {P : Program} {H : Type} {W : World} {enc : TypeId × Value → H} {base b2 : Nat} {sp : Nat → Bool} {t : TypeId} {v : Value} {d : DataW H} {ps : List MemPlace} (ty : Ty) {α : Type} (f : ty.den → α) (g : α → V) (p : α → Prop) (agg : Bool) (henc : ∀ x, elV agg (encC ty x) = g (f x)) (hlim : ∀ x, lim ty x → p (f x))
    (h : DataW.Trod enc P W base sp true t v d ps) (hv : Value.okWide P W .any b2 t v) (hm : matchT P 20 t ty = true) (ha : aggOf P t = agg) : ∃ a : α, Rep (E0 W) (g a) v ∧ p a := by
  obtain ⟨fuel, h⟩ := h
  obtain ⟨x, h1, h2⟩ := trod_rep fuel 20 t ty _ _ _ hm h
  have := Rep_of_cells hv h1
  rw [ha, henc] at this
  exact ⟨f x, this, hlim x h2⟩
end Go.Ab

/- The abstract machine: from a law's contract to its row, where variables of the program are laid. -/
set_option linter.unusedVariables false
set_option linter.unusedSimpArgs false
namespace Go.Ab
open Go Go.RowKit Go.ChangeShapes
theorem E0_okG {G : Glob} {w : World} (hG : ∀ g cs, G.lookup g = some cs → RepAt (E0 w) cs g 0) : EOK G (E0 w).w (E0 w).M (E0 w).bare :=
  ⟨Below.refl _ _, fun _ _ _ => Iff.rfl, fun _ _ h => h.elim, fun i v b hp => by simp [E0, Env.bare] at hp, fun i v j u b hp => by simp [E0, Env.bare] at hp, fun i h hh => by simp [E0, Env.bare] at hh, fun g cs hg => hG g cs hg⟩
theorem law_liftedG {G : Glob} {laid : List (String × DataW Unit)} {H : Type} {enc : TypeId × Value → H} {C : Checked} {os : Os} {f : FuncId} {fn : Func} {s : ChangeSpec} {conds : List PathCond} {fresh handsOn : Bool} {tb : TypeId} (own : ownKnob C.prog.godebug = none) (laidB : laidOutB C.prog = true) (started : os.Started) (noInit : C.prog.inits.idxOf? f = none) (hfn : C.prog.funcs[f]? = some fn)
    (hres : fn.resultTypes = #[tb]) (hb : C.prog.underlying tb = some .bool) (hvars : s.vars = []) (hS : ∀ ds : List (DataW H), ds.length = fn.params.toList.length → (s.fn H (ds ++ [])).results = [.lit (.bool true)] ∧ (s.fn H (ds ++ [])).args = ds ∧ (s.fn H (ds ++ [])).vars = [])
    (hread : (fn.params.toList.all fun t => C.prog.readableRec t && decide (t < C.prog.types.size)) = true)
    (hG : ∀ W : World, laidMetH C.prog laid W → ∀ g cs, G.lookup g = some cs → RepAt (E0 W) cs g 0)
    (witness : ∃ (w : World) (tape : Tape) (i : Input), w.os = os ∧ (w.forCall tape i).Shaped C.prog ∧ i.vars = [] ∧ Input.okWide C.prog (w.forCall tape i) .any w.heap.size f i ∧
      ((s.pre enc C.prog fn conds false (w.forCall tape i).memory i.args ∧ laidMetH C.prog laid (w.forCall tape i).memory) ∧ sizedMet enc C.prog fn (OpenSpec.ofChange s) false (w.forCall tape i).memory i.args) ∧ ({} : Assume).holds C.prog (lone (Frame.enter C.prog f i.args .normal) [] (w.forCall tape i)))
    (contract : ∀ (W : World) (base : Nat) (args : Array Value) (ds : List (DataW H)) (ps : List MemPlace), DataW.TrodAll enc C.prog W 0 (fun _ => true) true fn.params.toList args.toList ds ps →
      (∀ (j : Nat) t v, fn.params[j]? = some t → args[j]? = some v → Value.okWide C.prog W .any base t v) → ∃ vs : List V, RepL (E0 W) vs args.toList ∧ Spec C.prog G f vs (.bool true) []) :
    ReturnsInHanded {} C os f .any (fun w args => (s.pre enc C.prog fn conds false w args ∧ laidMetH C.prog laid w) ∧ sizedMet enc C.prog fn (OpenSpec.ofChange s) false w args) (s.post enc C.prog fn false fresh handsOn false) := by
  refine returnsInHanded_of_change_and (X := fun w _ => laidMetH C.prog laid w) (fun _ _ _ hh h => h.of_heap hh) own started noInit hfn witness ?_
  intro W base args ds gs before hval hW _ _ hL _
  have hW' := hW
  obtain ⟨p, q, hA, hV, rfl, _, _⟩ := hW
  rw [hvars] at hV
  obtain ⟨rfl, rfl⟩ : gs = [] ∧ q = [] := by
    cases gs <;> cases q <;> simp [DataW.TrodVars] at hV
    exact ⟨rfl, rfl⟩
  obtain ⟨vs, hr, hs⟩ := contract W base args ds p hA hval
  have hlt : ∀ x ∈ p, x.block < W.heap.size := fun x hx => hW'.lt x (List.mem_append_left _ hx)
  have hlen : ds.length = fn.params.toList.length := by
    have : ∀ (ts : List TypeId) (vs : List Value) (ds : List (DataW H)) (ps : List MemPlace), DataW.TrodAll enc C.prog W 0 (fun _ => true) true ts vs ds ps → ds.length = ts.length := by
      intro ts
      induction ts with
      | nil => intro vs ds ps h; obtain ⟨_, rfl, _⟩ := trodAll_nil h; rfl
      | cons t ts ih => intro vs ds ps h; obtain ⟨v, vs', d, ds', p, q, rfl, rfl, rfl, h1, h2⟩ := trodAll_cons h; simp [ih _ _ _ h2]
    exact this _ _ _ _ hA
  obtain ⟨s1, s2, s3⟩ := hS ds hlen
  have hcalls := hs (E0 W) args.toList (E0_okG (hG W hL)) hr
  rw [show args.toList.toArray = args by simp] at hcalls
  refine hcalls.mono ?_
  rintro e W' ⟨v, E', rfl, rfl, _, hok, _, hv⟩
  simp only [Rep] at hv
  obtain ⟨rfl, _⟩ := hv
  refine ⟨_, rfl, ds, [], p ++ [], [], p, [], hW', ?_, ?_, ?_, hok.below.frame _, fun h => by cases h⟩
  · rw [s1, hres]
    exact trodAll_mk1 (shut_bool hb true)
  · rw [s2]
    exact args_later laidB hok.below _ _ _ _ hread hA hlt
  · rw [s3, hvars]; rfl
end Go.Ab

/- The abstract machine: what a laid table of numbers holds. -/
set_option linter.unusedVariables false
set_option linter.unusedSimpArgs false
namespace Go.Ab
open Go Go.RowKit Go.ChangeShapes Go.WideShapes Go.ChangeAt
theorem RepAt_of {E : Env} {b : Nat} : ∀ {vs : List V} {o : Nat}, (∀ i v, vs[i]? = some v → ∃ u, E.stab b (o + i) u ∧ Rep E v u) → RepAt E vs b o
  | [], o, h => trivial
  | v :: vs, o, h => ⟨by simpa using h 0 v rfl, RepAt_of fun i w hw => by
      have := h (i + 1) w (by simpa using hw)
      rwa [show o + (i + 1) = o + 1 + i by omega] at this⟩
theorem arr_cells {H : Type} {enc : TypeId × Value → H} {P : Program} {w : World} {base : Nat} {spare : Nat → Bool} {held : Bool} {fuel : Nat} {t e : TypeId} {n : Nat} {k : IntKind} {cs : List Value} {ns : List Int} {q : List MemPlace} (ht : P.underlying t = some (.array n e)) (he : P.underlying e = some (.int k)) (h1 : P.cellsOf e = 1)
    (h : DataW.trod enc P w base spare held fuel t cs = some (.agg (ns.map fun n => .lit (.int k n)), q)) : ∀ (i : Nat) m, ns[i]? = some m → cs[i]? = some (.int k m) := by
  obtain ⟨xs, m, rfl, hx, hlen, hn, hel⟩ := DataW.trod_array ht h
  intro i c hc
  simp only [Prod.mk.injEq, DataW.agg.injEq] at hx
  have hi : i < ns.length := (List.getElem?_eq_some_iff.1 hc).1
  have hl : xs.length = ns.length := by have := congrArg List.length hx.1; simpa using this.symm
  have h2 := hel i (by omega)
  rw [h1, Nat.mul_one] at h2
  have hxi : xs[i]? = some xs[i] := List.getElem?_eq_getElem (by omega)
  rw [hxi] at h2
  obtain ⟨c', e1, e2, _⟩ := DataW.trod_int he h2
  have h3 : (xs.map (·.1))[i]? = some (.lit (.int k c)) := by rw [← hx.1, List.getElem?_map, hc]; rfl
  rw [List.getElem?_map, hxi, e2] at h3
  simp only [Option.map_some, Option.some.injEq, DataW.lit.injEq, Lit.int.injEq, true_and] at h3
  subst h3
  have h4 : ((cs.drop i).take 1)[0]? = some (.int k c') := by rw [e1]; rfl
  rw [List.getElem?_take_of_lt (by omega), List.getElem?_drop, Nat.add_zero] at h4
  exact h4
end Go.Ab

/- The abstract machine: methods called through an interface. -/
set_option linter.unusedVariables false
set_option linter.unusedSimpArgs false
namespace Go.Ab
open Go Go.RowKit
/-- The method of a type that is no pointer, its receiver the value itself. -/
def methB (P : Program) (t : TypeId) (name : String) : Option FuncId := match P.info? t with
  | some i => match i.methods.find? (·.name == name) with
    | some m => match m.path.toList, m.func, P.underlying t with
      | [], some (f, false), some (.struct _) => some f
      | [], some (f, false), some (.func _ _ _) => some f
      | _, _, _ => none
    | none => none
  | none => none
theorem methB_run {P : Program} {t : TypeId} {name : String} {f : FuncId} (h : methB P t name = some f) (n : Nat) (v : Value) (w : World) : (method (n + 1) t v name).run P w = .ok (f, v) w := by
  unfold methB at h
  split at h
  · rename_i i hi
    split at h
    · rename_i m hm
      split at h
      · rename_i fs hp hf hu
        injection h with h; subst h
        simp [method, typeInfo, hi, hm, hp, hf, follow, receiverAt, underlying, hu, Place.get]
      · rename_i hp hf hu
        injection h with h; subst h
        simp [method, typeInfo, hi, hm, hp, hf, follow, receiverAt, underlying, hu, Place.get]
      · cases h
    · cases h
  · cases h

theorem RUN_invoke {X : Ctx} {all l : List Oper} {o : Oper} {k : List It} {fr : List V} {st : List (List V)} {H : List AB} {c : Call} {f : Operand} {name : String} {t : TypeId} {n : FuncId} {v : V}
    (hg : guardV all fr o = some true) (ho : o.op = .call c) (hc : c.callee = .invoke f name) (hf : evalO X.G fr f = .iface t v) (hm : methB X.P t name = some n) (hn : callB X.P n = true)
    (h : RUNc X n (v :: c.args.toList.map (evalO X.G fr)) o.dst ⟨.ops all l :: k, fr, st, H⟩) : RUN X ⟨.ops all (o :: l) :: k, fr, st, H⟩ := by
  intro sa a E hH hR hD
  simp only at hH hR hD
  simp only [DF] at hD
  simp only [post]
  unfold wpListIn
  rw [if_pos (guardV_sound (X := X) hR.fr hg)]
  refine ⟨fun _ _ => trivial, ?_⟩
  have hfr := evalO_sound hR.ok hR.fr f
  rw [hf] at hfr; simp only [Rep] at hfr
  obtain ⟨y, hfv, h1⟩ := hfr
  have hargs := evalL_sound hR.ok hR.fr c.args.toList
  unfold callB at hn
  split at hn
  · rename_i fn hfn
    simp only [Bool.and_eq_true, Bool.not_eq_true'] at hn
    have hbn : fn.body.isNone = false := by cases hb : fn.body <;> simp_all
    have hrun : (execOp a.eval o).run X.P E.w = .ok (.enter n (y :: c.args.toList.map a.eval).toArray) E.w := by
      have e : (#[a.eval f] ++ c.args.map a.eval).extract 1 (#[a.eval f] ++ c.args.map a.eval).size = (c.args.toList.map a.eval).toArray := by
        apply Array.ext'; simp [List.take_of_length_le]
      have e0 : (#[a.eval f] ++ c.args.map a.eval)[0]? = some (a.eval f) := by rw [← Array.getElem?_toList, Array.toList_append]; rfl
      have e2 : #[y] ++ (c.args.toList.map a.eval).toArray = (y :: c.args.toList.map a.eval).toArray := by apply Array.ext'; rw [Array.toList_append]; rfl
      simp only [execOp, ho, resolve, hc, Sem.run_bind, Sem.run_pure, Result.andThen_ok, invoke]
      rw [e0]
      rw [hfv] at e
      simp only [e, callMethod, hfv, Sem.run_bind, Sem.run_pure, Result.andThen_ok, run_program, Made.depth, ← Nat.add_assoc, methB_run hm, callFunc, hfn, hn.2, hbn, Bool.false_eq_true, if_false, e2]
    rw [Oper.semAt_eq _ _ _ (by intro c' hc'; rw [ho] at hc'; cases hc'), hrun, Oper.uponIn_enter]
    refine ⟨(fun hd => by simp [FR, Fence.wide] at hd), callsFR _ _ ((h sa a E _ hH hR (by simpa only [DF] using hD) (RepL.cons h1 hargs)).mono ?_)⟩
    rintro e w' ⟨v, rfl, hp⟩
    simpa only [post] using hp
  · cases hn
section
variable {P : Program} {G : Glob} {w0 : World} {M0 : Nat → Nat → Prop} {R : Value → World → Prop}
def INVS (P : Program) (G : Glob) (w0 : World) (M0 : Nat → Nat → Prop) (R : Value → World → Prop) (c : Cfg) (f : Operand) (name : String) (args : List Operand) (vf : V) (vargs : List V) (dst : Option Tmp) (all l : List Oper) (k : List It) (fr : List V) (st : List (List V)) (H : List AB) : Prop :=
  evalO G fr f = vf → args.map (evalO G fr) = vargs → RUNs P G w0 M0 R c
theorem S_inv {f : Operand} {name : String} {args : List Operand} {ats : Array TypeId} {dst : Option Tmp} {ty : TypeId} {p : String} {af : Array Edge} {all l : List Oper} {k : List It} {fr : List V} {st : List (List V)} {H : List AB} :
    RUNs P G w0 M0 R ⟨.ops all (⟨dst, .call ⟨.invoke f name, args.toArray, ats⟩, ty, p, af, none⟩ :: l) :: k, fr, st, H⟩ =
      INVS P G w0 M0 R ⟨.ops all (⟨dst, .call ⟨.invoke f name, args.toArray, ats⟩, ty, p, af, none⟩ :: l) :: k, fr, st, H⟩ f name args (evalO G fr f) (args.map (evalO G fr)) dst all l k fr st H :=
  propext ⟨fun h _ _ => h, fun h => h rfl rfl⟩
theorem INVS_call {f : Operand} {name : String} {args : List Operand} {ats : Array TypeId} {t : TypeId} {v : V} {n : FuncId} {vargs : List V} {dst : Option Tmp} {ty : TypeId} {p : String} {af : Array Edge} {all l : List Oper} {k : List It} {fr : List V} {st : List (List V)} {H : List AB}
    (hm : methB P t name = some n) (hn : callB P n = true) (h : RUNc ⟨P, G, w0, M0, R⟩ n (v :: vargs) dst ⟨.ops all l :: k, fr, st, H⟩) :
    INVS P G w0 M0 R ⟨.ops all (⟨dst, .call ⟨.invoke f name, args.toArray, ats⟩, ty, p, af, none⟩ :: l) :: k, fr, st, H⟩ f name args (.iface t v) vargs dst all l k fr st H := by
  intro h1 h2
  refine RUNs_stop (by rfl) ?_
  refine RUN_invoke (X := ⟨P, G, w0, M0, R⟩) (c := ⟨.invoke f name, args.toArray, ats⟩) rfl rfl rfl h1 hm hn ?_
  rw [show (Call.args ⟨.invoke f name, args.toArray, ats⟩).toList = args by rfl, h2]; exact h
theorem INVS_spec2 {f : Operand} {name : String} {args : List Operand} {ats : Array TypeId} {t : TypeId} {v : V} {n : FuncId} {vargs args' : List V} {r : V} {dst : Option Tmp} {ty : TypeId} {p : String} {af : Array Edge} {all l : List Oper} {k : List It} {fr : List V} {st : List (List V)} {H : List AB}
    (hm : methB P t name = some n) (hn : callB P n = true) (ha : fzL (immL H (rowsInL (v :: vargs))) (v :: vargs) = some args') (hs : Spec P G n args' r []) (h : RUNs P G w0 M0 R ⟨.ops all l :: k, putV fr dst r, st, immL H (rowsInL (v :: vargs))⟩) :
    INVS P G w0 M0 R ⟨.ops all (⟨dst, .call ⟨.invoke f name, args.toArray, ats⟩, ty, p, af, none⟩ :: l) :: k, fr, st, H⟩ f name args (.iface t v) vargs dst all l k fr st H :=
  INVS_call hm hn (RUNc_spec (X := ⟨P, G, w0, M0, R⟩) ha hs (RUN_of_RUNs h))
end
end Go.Ab
namespace Go.Ab
open Go Go.RowKit
section
variable {P : Program} {G : Glob} {w0 : World} {M0 : Nat → Nat → Prop} {R : Value → World → Prop}
theorem OPV_is {c : Cfg} {o : Option V} {r : V} {dst : Option Tmp} {all l : List Oper} {k : List It} {fr : List V} {st : List (List V)} {H : List AB} (h : o = some r) (hr : RUNs P G w0 M0 R ⟨.ops all l :: k, putV fr dst r, st, H⟩) : OPV P G w0 M0 R c o dst all l k fr st H := by
  subst h; exact hr
end
end Go.Ab
namespace Go.Ab
theorem lookR_enc {α : Type} {o : Option V} {z : V} (m : Option α) (f : α → V) (d : α) (h : o = m.map f) (hz : z = f d) : lookR true z o = .tup [f (m.getD d), .bool m.isSome] := by
  subst h; subst hz; cases m <;> rfl
theorem lookR_encF {α : Type} {o : Option V} {z : V} (m : Option α) (f : α → V) (d : α) (h : o = m.map f) (hz : z = f d) : lookR false z o = f (m.getD d) := by
  subst h; subst hz; cases m <;> rfl
theorem bif_map {α β : Type} (f : α → β) (b : Bool) (x y : Option α) : Option.map f (bif b then x else y) = bif b then Option.map f x else Option.map f y := by cases b <;> rfl
end Go.Ab
namespace Go.Ab
open Go Go.RowKit
section
variable {P : Program} {G : Glob} {w0 : World} {M0 : Nat → Nat → Prop} {R : Value → World → Prop}
theorem GRDN_f {dst : Option Tmp} {op : Op} {t : TypeId} {p : String} {af : Array Edge} {g : Option (Nat × Bool)} {all l : List Oper} {k : List It} {fr : List V} {st : List (List V)} {H : List AB} :
    GRDN P G w0 M0 R false ⟨dst, op, t, p, af, g⟩ all l k fr st H = RUNs P G w0 M0 R ⟨.ops all (⟨dst, op, t, p, af, none⟩ :: l) :: k, fr, st, H⟩ := rfl
theorem GRDN_t {dst : Option Tmp} {op : Op} {t : TypeId} {p : String} {af : Array Edge} {g : Option (Nat × Bool)} {all l : List Oper} {k : List It} {fr : List V} {st : List (List V)} {H : List AB} :
    GRDN P G w0 M0 R true ⟨dst, op, t, p, af, g⟩ all l k fr st H = RUNs P G w0 M0 R ⟨.ops all l :: k, putV fr dst (.tup []), st, H⟩ := rfl
end
end Go.Ab

/- The abstract machine: calls that hand back what may still be written. -/
set_option linter.unusedVariables false
set_option linter.unusedSimpArgs false
set_option linter.unnecessarySimpa false
namespace Go.Ab
open Go Go.RowKit
mutual
def shV (n : Nat) : V → V
  | .ptr i o => .ptr (n + i) o
  | .ptrE i v x s o => .ptrE (n + i) v x s o
  | .row i v => .row (n + i) v
  | .vs i o k s => .vs (n + i) o k s
  | .mp i => .mp (n + i)
  | .agg cs => .agg (shL n cs)
  | .tup cs => .tup (shL n cs)
  | .fn f a b => .fn f (shL n a) (shL n b)
  | .iface t v => .iface t (shV n v)
  | v => v
def shL (n : Nat) : List V → List V
  | [] => []
  | v :: vs => shV n v :: shL n vs
end
def shO (n : Nat) (own : Bool) (o : Option V) : Option V := bif own then o.map (shV n) else o
def shAB (n : Nat) : AB → AB
  | .var cs => .var (shL n cs)
  | .map own sg f => .map own sg (fun q => shO n own (f q))
  | .lp l s pend fr ps asg body => .lp l s pend (shL n fr) ps asg body
  | b => b
structure Moved (n : Nat) (E E' : Env) : Prop where
  w : E'.w = E.w
  stab : ∀ b o u, E.stab b o u → E'.stab b o u
  phi : ∀ i, E'.φ (n + i) = E.φ i
  tau : ∀ i, E'.τ (n + i) = E.τ i
  H : ∀ i, E'.H[n + i]? = (E.H[i]?).map (shAB n)
theorem Moved.bare {n : Nat} {E E' : Env} (h : Moved n E E') : E.bare.le E'.bare := ⟨h.stab, fun _ _ _ h => by simp [Env.bare] at h, fun _ _ _ _ _ h => by simp [Env.bare] at h, fun _ h => by simp [Env.bare] at h⟩
mutual
theorem Rep.moved {n : Nat} {E E' : Env} (hm : Moved n E E') : (v : V) → ∀ {x : Value}, Rep E v x → Rep E' (shV n v) x
  | .any, x, _ => by simp only [shV, Rep]
  | .val v, x, h => by simpa only [shV, Rep] using h
  | .ptr i o, x, h => by simp only [shV, Rep, hm.phi] at h ⊢; exact h
  | .ptrE i ver idx sz off, x, h => by
    simp only [shV, Rep, hm.phi, hm.H] at h ⊢
    obtain ⟨h0, h⟩ := h
    refine ⟨h0, ?_⟩
    cases hH : E.H[i]? with
    | none => rw [hH] at h; exact h.elim
    | some b => rw [hH] at h; cases b <;> simpa only [Option.map_some, shAB] using h
  | .cp cs, x, h => by
    simp only [shV, Rep] at h ⊢
    obtain ⟨b, o, h1, h2⟩ := h
    exact ⟨b, o, h1, RepAt.mono cs hm.bare h2⟩
  | .sl es m, x, h => by
    simp only [shV, Rep] at h ⊢
    obtain ⟨a, k, c, h1, h2, h3, h4, h5, h6, h7⟩ := h
    refine ⟨a, k, c, h1, h2, h3, h4, h5, h6, fun he => ?_⟩
    obtain ⟨sz, b, o, h8, h9⟩ := h7 he
    exact ⟨sz, b, o, h8, RepEs.mono es hm.bare h9⟩
  | .row i ver, x, h => by
    simp only [shV, Rep, hm.H, hm.tau] at h ⊢
    obtain ⟨h0, h⟩ := h
    refine ⟨h0, ?_⟩
    cases hH : E.H[i]? with
    | none => rw [hH] at h; exact h.elim
    | some b => rw [hH] at h; cases b <;> simpa only [Option.map_some, shAB] using h
  | .vs i o k s, x, h => by simp only [shV, Rep, hm.phi] at h ⊢; exact h
  | .mp i, x, h => by simp only [shV, Rep, hm.phi] at h ⊢; exact h
  | .agg cs, x, h => by
    simp only [shV, Rep] at h ⊢
    obtain ⟨xs, h1, h2⟩ := h; exact ⟨xs, h1, RepL.moved hm cs h2⟩
  | .tup cs, x, h => by
    simp only [shV, Rep] at h ⊢
    obtain ⟨xs, h1, h2⟩ := h; exact ⟨xs, h1, RepL.moved hm cs h2⟩
  | .fn f a b, x, h => by
    simp only [shV, Rep] at h ⊢
    obtain ⟨xs, ys, h1, h2, h3⟩ := h; exact ⟨xs, ys, h1, RepL.moved hm a h2, RepL.moved hm b h3⟩
  | .iface t v, x, h => by
    simp only [shV, Rep] at h ⊢
    obtain ⟨y, h1, h2⟩ := h; exact ⟨y, h1, Rep.moved hm v h2⟩
theorem RepL.moved {n : Nat} {E E' : Env} (hm : Moved n E E') : (vs : List V) → ∀ {xs : List Value}, RepL E vs xs → RepL E' (shL n vs) xs
  | [], xs, h => by simpa only [shL, RepL] using h
  | v :: vs, xs, h => by
    simp only [shL, RepL] at h ⊢
    obtain ⟨y, ys, h1, h2, h3⟩ := h
    exact ⟨y, ys, h1, Rep.moved hm v h2, RepL.moved hm vs h3⟩
end
theorem shL_map (n : Nat) : ∀ (vs : List V), shL n vs = vs.map (shV n)
  | [] => rfl
  | v :: vs => by simp only [shL, List.map_cons, shL_map n vs]
theorem lookL_sh (n : Nat) (own : Bool) : ∀ (L : List (List Int × V)) (q : List Int), lookL (L.map fun p => (p.1, bif own then shV n p.2 else p.2)) q = shO n own (lookL L q)
  | [], q => by cases own <;> rfl
  | p :: L, q => by
    simp only [List.map_cons, lookL]
    cases eqIs q p.1 with
    | true => cases own <;> rfl
    | false => exact lookL_sh n own L q
theorem HOK.moved {n : Nat} {E E' : Env} (hm : Moved n E E') {i : Nat} {ab : AB} (hM : ∀ v b, E.φ i v = some b → ∀ o, E'.M b o ↔ E.M b o) (h : HOK E i ab) : HOK E' (n + i) (shAB n ab) := by
  cases ab with
  | dead => trivial
  | hole => intro v; rw [hm.phi]; exact h v
  | var cs =>
    obtain ⟨b, C, e, h1, h2, h3, h4⟩ := h
    exact ⟨b, C, e, by rw [hm.phi, h1], by rw [hm.w, h2], RepL.moved hm cs h3, fun o => (hM _ b h1 o).2 (h4 o)⟩
  | row sz es ver imm =>
    obtain ⟨a, k, c, h1, h2, h3, h4, h5, h6⟩ := h
    refine ⟨a, k, c, by rw [hm.tau, h1], h2, h3, h4, ⟨h5.1, fun u hu => by rw [hm.phi]; exact h5.2 u hu⟩, ?_⟩
    rcases h6 with h6 | ⟨b, C, e, h6, h7, h8, h9, h10, h11, h12⟩
    · exact .inl h6
    · exact .inr ⟨b, C, e, by rw [hm.phi, h6], h7, by rw [hm.w, h8], h9, RepL.mono _ hm.bare h10, fun o ho => (hM _ b h6 o).2 (h11 o ho), fun o ho => (hM _ b h6 o).trans (h12 o ho)⟩
  | map own sg f =>
    obtain ⟨b, C, k, L, h1, h2, h3, h4, h5, rfl⟩ := h
    refine ⟨b, C, k, L.map fun p => (p.1, bif own then shV n p.2 else p.2), by rw [hm.phi, h1], by rw [hm.w, h2], by rw [h3, List.map_map]; rfl, ?_, ?_, ?_⟩
    · rw [List.map_map]
      cases own with
      | true =>
        have := RepL.moved hm _ h4
        rw [shL_map, List.map_map] at this
        exact this
      | false => exact RepL.mono _ hm.bare h4
    · intro p hp
      obtain ⟨q, hq, rfl⟩ := List.mem_map.1 hp
      exact h5 q hq
    · funext q; exact (lookL_sh n own L q).symm
  | dfr D =>
    obtain ⟨h1, h2⟩ := h
    exact ⟨by rw [hm.phi, h1], by rw [hm.w, h2]⟩
  | lp l s pend fr ps asg body =>
    obtain ⟨fn, tmps, D, h1, h2, h3⟩ := h
    exact ⟨fn, tmps, D, by rw [hm.phi, h1], by rw [hm.w, h2], RepL.moved hm fr h3⟩

theorem RUNc_specC {X : Ctx} {n : FuncId} {args args' : List V} {r : V} {Hr : List AB} {dst : Option Tmp} {k : List It} {fr : List V} {st : List (List V)} {H : List AB}
    (hc : ∀ E xs, EOK X.G X.w0 X.M0 E → E.H = immL H (rowsInL args) → RepL E args xs → RepL E.bare args' xs) (hs : Spec X.P X.G n args' r Hr)
    (h : RUN X ⟨k, putV fr dst (shV (immL H (rowsInL args)).length r), st, immL H (rowsInL args) ++ Hr.map (shAB (immL H (rowsInL args)).length)⟩) : RUNc X n args dst ⟨k, fr, st, H⟩ := by
  intro sa a E xs hH hR hD hx
  obtain ⟨E1, e1, e2, e3, e4⟩ := EOK.immL (rowsInL args) hR.ok
  simp only at hH
  rw [hH] at e2
  have hx1 := RepL.mono _ e4 hx
  have hx' := hc E1 xs e3 e2 hx1
  have hb : EOK X.G E1.w E1.M E1.bare := ⟨Below.refl _ _, fun _ _ _ => Iff.rfl, e3.mlt, fun i v b hp => by simp [Env.bare] at hp, fun i v j u b hp => by simp [Env.bare] at hp, fun i h hh => by simp [Env.bare] at hh, e3.glob⟩
  have hcalls := hs E1 xs hb hx'
  rw [e1] at hcalls
  refine hcalls.mono ?_
  rintro e w' ⟨v, E2, rfl, hw, hH2, hok, hle, hv⟩
  refine ⟨v, rfl, ?_⟩
  let N := (immL H (rowsInL args)).length
  have hN : E1.H.length = N := by rw [e2]
  let E3 : Env := { w := E2.w, φ := fun i v => if i < N then E1.φ i v else E2.φ (i - N) v, τ := fun i => if i < N then E1.τ i else E2.τ (i - N), M := fun b o => if b < E.w.heap.size then E1.M b o else E2.M b o, H := E1.H ++ E2.H.map (shAB N) }
  have hstab : ∀ b o u, E1.stab b o u → E3.stab b o u := by
    intro b o u hs
    have hlt : b < E.w.heap.size := by rw [← e1]; exact EOK.lt_of_stab E1 hs
    have := hle.stab b o u hs
    refine ⟨this.1, ?_⟩
    show ¬ (if b < E.w.heap.size then E1.M b o else E2.M b o)
    rw [if_pos hlt]; exact hs.2
  have hget : ∀ (i : Nat) (x : AB), E1.H[i]? = some x → E3.H[i]? = some x := fun i x hx => by
    show (E1.H ++ _)[i]? = _
    rw [List.getElem?_append_left (List.getElem?_eq_some_iff.1 hx).1]; exact hx
  have hlt1 : ∀ (i : Nat) (x : AB), E1.H[i]? = some x → i < N := fun i x hx => by rw [← hN]; exact (List.getElem?_eq_some_iff.1 hx).1
  have hphi1 : ∀ i v b, E1.φ i v = some b → i < N := fun i v b hp => by
    obtain ⟨⟨x, hx⟩, _⟩ := e3.phi i v b hp
    exact hlt1 i x hx
  have hle3 : E1.le E3 := by
    refine ⟨hstab, fun i v b hp => ?_, fun i sz es v m hr => .inr ⟨_, _, _, _, hget _ _ hr, Nat.le_refl _, fun _ => ?_⟩, fun i hd => hget _ _ hd⟩
    · show (if i < N then E1.φ i v else _) = _
      rw [if_pos (hphi1 i v b hp)]; exact hp
    · show (if i < N then E1.τ i else _) = _
      rw [if_pos (hlt1 _ _ hr)]
  have hmv : Moved N E2 E3 := by
    refine ⟨rfl, fun b o u hs => ⟨hs.1, ?_⟩, fun i => ?_, fun i => ?_, fun i => ?_⟩
    · show ¬ (if b < E.w.heap.size then E1.M b o else E2.M b o)
      split
      · rename_i hlt; exact fun hm => hs.2 ((hok.old b o hlt).2 hm)
      · exact hs.2
    · funext v
      show (if N + i < N then _ else E2.φ (N + i - N) v) = _
      rw [if_neg (by omega), Nat.add_sub_cancel_left]
    · show (if N + i < N then _ else E2.τ (N + i - N)) = _
      rw [if_neg (by omega), Nat.add_sub_cancel_left]
    · show (E1.H ++ E2.H.map (shAB N))[N + i]? = _
      rw [List.getElem?_append_right (by omega), hN, Nat.add_sub_cancel_left, List.getElem?_map]
  have hsize := hok.below.size
  have h0 : X.w0.heap.size ≤ E.w.heap.size := by
    have h1 : Below X.w0.heap.size X.w0 E.w := by rw [← e1]; exact e3.below
    exact h1.size
  have hphi3 : ∀ i v b, E3.φ i v = some b → (i < N ∧ E1.φ i v = some b) ∨ ∃ j, i = N + j ∧ E2.φ j v = some b := by
    intro i v b hp
    have hp' : (if i < N then E1.φ i v else E2.φ (i - N) v) = some b := hp
    split at hp'
    · rename_i hlt; exact .inl ⟨hlt, hp'⟩
    · exact .inr ⟨i - N, by omega, hp'⟩
  have hE3 : EOK X.G X.w0 X.M0 E3 := by
    refine ⟨?_, fun b o hb => ?_, fun b o hm => ?_, fun i v b hp => ?_, fun i v j u b hi hj => ?_, fun i x hx => ?_, fun g cs hg => RepAt.mono cs hle3.bare (e3.glob g cs hg)⟩
    · have h1 : Below X.w0.heap.size X.w0 E.w := by rw [← e1]; exact e3.below
      exact h1.trans (hok.below.mono h1.size)
    · show (if b < E.w.heap.size then E1.M b o else E2.M b o) ↔ _
      rw [if_pos (Nat.lt_of_lt_of_le hb h0)]
      exact e3.old b o hb
    · have hm' : (if b < E.w.heap.size then E1.M b o else E2.M b o) := hm
      split at hm'
      · rename_i hb; exact Nat.lt_of_lt_of_le hb hsize
      · exact hok.mlt b o hm'
    · rcases hphi3 i v b hp with ⟨hlt, hq⟩ | ⟨j, rfl, hq⟩
      · obtain ⟨⟨x, k1⟩, k2, k3, k4⟩ := e3.phi i v b hq
        rw [e1] at k4
        exact ⟨⟨x, hget _ _ k1⟩, by rw [hget _ _ k1, ← k1]; exact k2, k3, Nat.lt_of_lt_of_le k4 hsize⟩
      · obtain ⟨⟨x, k1⟩, k2, k3, k4⟩ := hok.phi j v b hq
        refine ⟨⟨shAB N x, by rw [hmv.H, k1]; rfl⟩, ?_, Nat.le_trans h0 k3, k4⟩
        rw [hmv.H, k1]
        rw [k1] at k2
        cases x <;> simp [shAB] at k2 ⊢
    · rcases hphi3 i v b hi with ⟨hlt, gi⟩ | ⟨i', rfl, gi⟩ <;> rcases hphi3 j u b hj with ⟨hlt', gj⟩ | ⟨j', rfl, gj⟩
      · exact e3.inj i v j u b gi gj
      · have h1 := (e3.phi i v b gi).2.2.2
        have h2 := (hok.phi j' u b gj).2.2.1
        rw [e1] at h1; omega
      · have h1 := (e3.phi j u b gj).2.2.2
        have h2 := (hok.phi i' v b gi).2.2.1
        rw [e1] at h1; omega
      · rw [hok.inj i' v j' u b gi gj]
    · rcases Nat.lt_or_ge i N with hi | hi
      · have hx1 : E1.H[i]? = some x := by
          have hx' : (E1.H ++ E2.H.map (shAB N))[i]? = some x := hx
          rwa [List.getElem?_append_left (by omega)] at hx'
        refine HOK.mono hle3 ?_ ?_ (fun v b hb => ?_) (e3.blk i x hx1)
        · funext v
          show (if i < N then E1.φ i v else _) = _
          rw [if_pos hi]
        · show (if i < N then E1.τ i else _) = _
          rw [if_pos hi]
        · have hb4 := (e3.phi i v b hb).2.2.2
          rw [e1] at hb4
          refine ⟨?_, fun o => ?_⟩
          · show E2.w.heap[b]? = E1.w.heap[b]?
            rw [e1]; exact hok.below.block b hb4
          · show (if b < E.w.heap.size then E1.M b o else E2.M b o) ↔ _
            rw [if_pos hb4]
      · obtain ⟨j, rfl⟩ : ∃ j, i = N + j := ⟨i - N, by omega⟩
        rw [hmv.H, Option.map_eq_some_iff] at hx
        obtain ⟨y, hy, rfl⟩ := hx
        refine HOK.moved hmv (fun v b hp o => ?_) (hok.blk j y hy)
        have h2 := (hok.phi j v b hp).2.2.1
        show (if b < E.w.heap.size then E1.M b o else E2.M b o) ↔ _
        rw [if_neg (by omega)]
  have hR1 : RelE X fr st sa a E1 := ⟨e3, RepL.mono _ e4 hR.fr, hR.st.mono e4⟩
  have := h sa (a.put dst v) E3 (by show E1.H ++ E2.H.map (shAB N) = _; rw [e2, hH2]) (hR1.put hle3 hE3 (Rep.moved hmv r hv) dst) (by rw [put_defers]; exact hD)
  rw [← hw]; exact this
section
variable {P : Program} {G : Glob} {w0 : World} {M0 : Nat → Nat → Prop} {R : Value → World → Prop}
theorem RUNc_specH {X : Ctx} {n : FuncId} {args args' : List V} {r : V} {Hr : List AB} {dst : Option Tmp} {k : List It} {fr : List V} {st : List (List V)} {H : List AB}
    (ha : fzL (immL H (rowsInL args)) args = some args') (hs : Spec X.P X.G n args' r Hr)
    (h : RUN X ⟨k, putV fr dst (shV (immL H (rowsInL args)).length r), st, immL H (rowsInL args) ++ Hr.map (shAB (immL H (rowsInL args)).length)⟩) : RUNc X n args dst ⟨k, fr, st, H⟩ :=
  RUNc_specC (fun E xs he h2 hx => fzL_sound he args hx (by rw [h2]; exact ha)) hs h
def pureV : V → Bool
  | .val _ => true
  | .sl _ _ => true
  | .cp _ => true
  | _ => false
theorem RepL.pure {E : Env} : ∀ {vs : List V} {xs : List Value}, vs.all pureV = true → RepL E vs xs → RepL E.bare vs xs
  | [], xs, _, h => h
  | v :: vs, xs, hp, h => by
    simp only [List.all_cons, Bool.and_eq_true] at hp
    simp only [RepL] at h ⊢
    obtain ⟨y, ys, h1, h2, h3⟩ := h
    refine ⟨y, ys, h1, ?_, RepL.pure hp.2 h3⟩
    cases v <;> simp [pureV] at hp <;> (simp only [Rep] at h2 ⊢; exact h2)
theorem pure_rows : ∀ {vs : List V}, vs.all pureV = true → rowsInL vs = []
  | [], _ => rfl
  | v :: vs, hp => by
    simp only [List.all_cons, Bool.and_eq_true] at hp
    simp only [rowsInL, pure_rows hp.2, List.append_nil]
    cases v <;> simp [pureV] at hp <;> rfl
/-- A contract that takes what it is handed as it is. -/
theorem RUNc_specP {X : Ctx} {n : FuncId} {args : List V} {r : V} {Hr : List AB} {dst : Option Tmp} {k : List It} {fr : List V} {st : List (List V)} {H : List AB}
    (hp : args.all pureV = true) (hs : Spec X.P X.G n args r Hr) (h : RUN X ⟨k, putV fr dst (shV H.length r), st, H ++ Hr.map (shAB H.length)⟩) : RUNc X n args dst ⟨k, fr, st, H⟩ := by
  refine RUNc_specC (fun E xs he h2 hx => RepL.pure hp hx) hs ?_
  rw [pure_rows hp]; exact h
theorem CALLS_specP {f : Operand} {args : List Operand} {ats : Array TypeId} {n : FuncId} {first cap vargs : List V} {r : V} {Hr : List AB} {dst : Option Tmp} {ty : TypeId} {p : String} {af : Array Edge} {all l : List Oper} {k : List It} {fr : List V} {st : List (List V)} {H : List AB}
    (hn : callB P n = true) (hp : (first ++ vargs ++ cap).all pureV = true) (hs : Spec P G n (first ++ vargs ++ cap) r Hr)
    (h : RUNs P G w0 M0 R ⟨.ops all l :: k, putV fr dst (shV H.length r), st, H ++ Hr.map (shAB H.length)⟩) :
    CALLS P G w0 M0 R ⟨.ops all (⟨dst, .call ⟨.value f, args.toArray, ats⟩, ty, p, af, none⟩ :: l) :: k, fr, st, H⟩ f args (.fn (.func n) first cap) vargs dst all l k fr st H :=
  RUNs_call hn (RUNc_specP (X := ⟨P, G, w0, M0, R⟩) hp hs (RUN_of_RUNs h))
theorem CALLS_specH {f : Operand} {args : List Operand} {ats : Array TypeId} {n : FuncId} {first cap vargs args' : List V} {r : V} {Hr : List AB} {dst : Option Tmp} {ty : TypeId} {p : String} {af : Array Edge} {all l : List Oper} {k : List It} {fr : List V} {st : List (List V)} {H : List AB}
    (hn : callB P n = true) (ha : fzL (immL H (rowsInL (first ++ vargs ++ cap))) (first ++ vargs ++ cap) = some args') (hs : Spec P G n args' r Hr)
    (h : RUNs P G w0 M0 R ⟨.ops all l :: k, putV fr dst (shV (immL H (rowsInL (first ++ vargs ++ cap))).length r), st, immL H (rowsInL (first ++ vargs ++ cap)) ++ Hr.map (shAB (immL H (rowsInL (first ++ vargs ++ cap))).length)⟩) :
    CALLS P G w0 M0 R ⟨.ops all (⟨dst, .call ⟨.value f, args.toArray, ats⟩, ty, p, af, none⟩ :: l) :: k, fr, st, H⟩ f args (.fn (.func n) first cap) vargs dst all l k fr st H :=
  RUNs_call hn (RUNc_specH (X := ⟨P, G, w0, M0, R⟩) ha hs (RUN_of_RUNs h))
end
-- the rules
theorem shM_nil (n : Nat) : ([] : List AB).map (shAB n) = [] := rfl
theorem shM_cons (n : Nat) (b : AB) (l : List AB) : (b :: l).map (shAB n) = shAB n b :: l.map (shAB n) := rfl
theorem shAB_dead (n : Nat) : shAB n .dead = .dead := rfl
theorem shAB_var (n : Nat) (cs : List V) : shAB n (.var cs) = .var (shL n cs) := rfl
theorem shAB_row (n sz : Nat) (es : List V) (v : Nat) (m : Bool) : shAB n (.row sz es v m) = .row sz es v m := rfl
theorem shAB_map (n : Nat) (sg : KS) (f : List Int → Option V) : shAB n (.map false sg f) = .map false sg f := rfl
theorem shAB_mapO (n : Nat) (sg : KS) (f : List Int → Option V) : shAB n (.map true sg f) = .map true sg (fun q => (f q).map (shV n)) := rfl
theorem shAB_dfr (n D : Nat) : shAB n (.dfr D) = .dfr D := rfl
theorem shAB_lp (n l : Nat) (s : LoopState) (pend : Option Code) (fr : List V) (ps : List Tmp) (asg body : Code) : shAB n (.lp l s pend fr ps asg body) = .lp l s pend (shL n fr) ps asg body := rfl
theorem shV_val (n : Nat) (w : Value) : shV n (.val w) = .val w := by simp only [shV]
theorem shV_any (n : Nat) : shV n .any = .any := by simp only [shV]
theorem shV_ptr (n i o : Nat) : shV n (.ptr i o) = .ptr (n + i) o := by simp only [shV]
theorem shV_cp (n : Nat) (cs : List V) : shV n (.cp cs) = .cp cs := by simp only [shV]
theorem shV_sl (n : Nat) (es : List V) (m : Mk) : shV n (.sl es m) = .sl es m := by simp only [shV]
theorem shV_row (n i v : Nat) : shV n (.row i v) = .row (n + i) v := by simp only [shV]
theorem shV_vs (n i o k s : Nat) : shV n (.vs i o k s) = .vs (n + i) o k s := by simp only [shV]
theorem shV_mp (n i : Nat) : shV n (.mp i) = .mp (n + i) := by simp only [shV]
theorem shV_agg (n : Nat) (cs : List V) : shV n (.agg cs) = .agg (shL n cs) := by simp only [shV]
theorem shV_tup (n : Nat) (cs : List V) : shV n (.tup cs) = .tup (shL n cs) := by simp only [shV]
theorem shV_fn (n : Nat) (f : Fn) (a b : List V) : shV n (.fn f a b) = .fn f (shL n a) (shL n b) := by simp only [shV]
theorem shV_iface (n : Nat) (t : TypeId) (v : V) : shV n (.iface t v) = .iface t (shV n v) := by simp only [shV]
theorem shL_nil (n : Nat) : shL n [] = [] := by simp only [shL]
theorem shL_cons (n : Nat) (v : V) (vs : List V) : shL n (v :: vs) = shV n v :: shL n vs := by simp only [shL]

/-! The end, where some rows are handed on to be written, the others for good. -/
mutual
def fzK (keep : List Nat) (H : List AB) : V → Option V
  | .row i ver => bif keep.contains i then some (.row i ver) else fzRow H i ver
  | .agg cs => (fzKL keep H cs).map .agg
  | .tup cs => (fzKL keep H cs).map .tup
  | .val v => some (.val v)
  | .sl es m => some (.sl es .plain)
  | .cp cs => some (.cp cs)
  | _ => none
def fzKL (keep : List Nat) (H : List AB) : List V → Option (List V)
  | [] => some []
  | v :: vs => (fzK keep H v).bind fun v' => (fzKL keep H vs).map (v' :: ·)
end
mutual
theorem fzK_sound {G : Glob} {w0 : World} {M0 : Nat → Nat → Prop} {E : Env} (hE : EOK G w0 M0 E) {keep : List Nat} : (v : V) → ∀ {v' : V} {x : Value}, Rep E v x → fzK keep E.H v = some v' → Rep E v' x
  | .row i ver, v', x, h, k => by
    simp only [fzK] at k
    cases hc : keep.contains i with
    | true => rw [hc] at k; simp only [cond_true] at k; injection k with k; subst k; exact h
    | false =>
      rw [hc] at k; simp only [cond_false] at k
      exact Rep.mono _ E.bare_le (fz_sound hE (.row i ver) h (by simp only [fz]; exact k))
  | .agg cs, v', x, h, k => by
    simp only [fzK, Option.map_eq_some_iff] at k
    obtain ⟨cs', k1, rfl⟩ := k
    simp only [Rep] at h ⊢
    obtain ⟨xs, h1, h2⟩ := h; exact ⟨xs, h1, fzKL_sound hE cs h2 k1⟩
  | .tup cs, v', x, h, k => by
    simp only [fzK, Option.map_eq_some_iff] at k
    obtain ⟨cs', k1, rfl⟩ := k
    simp only [Rep] at h ⊢
    obtain ⟨xs, h1, h2⟩ := h; exact ⟨xs, h1, fzKL_sound hE cs h2 k1⟩
  | .val v, v', x, h, k => by simp only [fzK] at k; injection k with k; subst k; exact h
  | .sl es m, v', x, h, k => by simp only [fzK] at k; injection k with k; subst k; exact Rep.le (.sl es m) h
  | .cp cs, v', x, h, k => by simp only [fzK] at k; injection k with k; subst k; exact h
  | .any, v', x, h, k => by simp [fzK] at k
  | .ptr _ _, v', x, h, k => by simp [fzK] at k
  | .ptrE _ _ _ _ _, v', x, h, k => by simp [fzK] at k
  | .vs _ _ _ _, v', x, h, k => by simp [fzK] at k
  | .fn _ _ _, v', x, h, k => by simp [fzK] at k
  | .iface _ _, v', x, h, k => by simp [fzK] at k
  | .mp _, v', x, h, k => by simp [fzK] at k
theorem fzKL_sound {G : Glob} {w0 : World} {M0 : Nat → Nat → Prop} {E : Env} (hE : EOK G w0 M0 E) {keep : List Nat} : (vs : List V) → ∀ {vs' : List V} {xs : List Value}, RepL E vs xs → fzKL keep E.H vs = some vs' → RepL E vs' xs
  | [], vs', xs, h, k => by simp only [fzKL] at k; injection k with k; subst k; exact h
  | v :: vs, vs', xs, h, k => by
    simp only [fzKL, Option.bind_eq_some_iff, Option.map_eq_some_iff] at k
    obtain ⟨v', k1, vs'', k2, rfl⟩ := k
    simp only [RepL] at h ⊢
    obtain ⟨y, ys, h1, h2, h3⟩ := h
    exact ⟨y, ys, h1, fzK_sound hE v h2 k1, fzKL_sound hE vs h3 k2⟩
end
section
variable {P : Program} {G : Glob} {w0 : World} {M0 : Nat → Nat → Prop} {R : Value → World → Prop}
theorem FINS_keep (keep : List Nat) {r : V} {Hr : List AB} {rs : List ResultVar} {k : List It} {fr : List V} {st : List (List V)} {H : List AB} {vs : List V}
    (h : fzK keep (immL H ((rowsIn (resV vs)).filter fun i => !keep.contains i)) (resV vs) = some r) (hw : Weak [r] (immL H ((rowsIn (resV vs)).filter fun i => !keep.contains i)) [r] Hr) : FINS P G w0 M0 r Hr ⟨.fin rs :: k, fr, st, H⟩ rs (some vs) fr H := by
  intro h1
  refine RUNs_stop (by rfl) ?_
  intro sa a E hH hRel hD
  simp only at hH hRel; subst hH
  simp only [post]
  obtain ⟨x, k1, k2⟩ := results_sound hRel.ok hRel.fr h1
  obtain ⟨E1, e1, e2, e3, e4⟩ := EOK.immL ((rowsIn (resV vs)).filter fun i => !keep.contains i) hRel.ok
  simp only [DF] at hD
  rw [hD]
  refine ⟨x, k1, ?_⟩
  have hr : Rep E1 r x := fzK_sound e3 _ (Rep.mono _ e4 k2) (by rw [e2]; exact h)
  have hR1 : RelE ⟨P, G, w0, M0, RES G w0 M0 r Hr⟩ [r] [] [] ⟨#[x], []⟩ E1 := ⟨e3, RepL.cons hr (RepL.nil _), rfl⟩
  rw [← e2] at hw
  obtain ⟨E2, f1, f2, f3⟩ := hR1.weak hw (by rfl)
  have := f3.fr
  simp only [RepL.cons_iff] at this
  exact ⟨E2, by rw [f1, e1], f2, f3.ok, this.1⟩
end
theorem fzK_row (keep : List Nat) (H : List AB) (i ver : Nat) : fzK keep H (.row i ver) = bif keep.contains i then some (.row i ver) else fzRow H i ver := by simp only [fzK]
theorem fzK_agg (keep : List Nat) (H : List AB) (cs : List V) : fzK keep H (.agg cs) = (fzKL keep H cs).map .agg := by simp only [fzK]
theorem fzK_tup (keep : List Nat) (H : List AB) (cs : List V) : fzK keep H (.tup cs) = (fzKL keep H cs).map .tup := by simp only [fzK]
theorem fzK_val (keep : List Nat) (H : List AB) (v : Value) : fzK keep H (.val v) = some (.val v) := by simp only [fzK]
theorem fzK_sl (keep : List Nat) (H : List AB) (es : List V) (m : Mk) : fzK keep H (.sl es m) = some (.sl es .plain) := by simp only [fzK]
theorem fzK_cp (keep : List Nat) (H : List AB) (cs : List V) : fzK keep H (.cp cs) = some (.cp cs) := by simp only [fzK]
theorem fzKL_nil (keep : List Nat) (H : List AB) : fzKL keep H [] = some [] := by simp only [fzKL]
theorem fzKL_cons (keep : List Nat) (H : List AB) (v : V) (vs : List V) : fzKL keep H (v :: vs) = (fzK keep H v).bind fun v' => (fzKL keep H vs).map (v' :: ·) := by simp only [fzKL]

/-! A row that is written no more: from here on it is read as a slice. -/
mutual
def frV (i ver : Nat) (s : V) : V → V
  | .row j v => bif j == i && v == ver then s else .row j v
  | .agg cs => .agg (frL i ver s cs)
  | .tup cs => .tup (frL i ver s cs)
  | .fn f a b => .fn f (frL i ver s a) (frL i ver s b)
  | .iface t v => .iface t (frV i ver s v)
  | v => v
def frL (i ver : Nat) (s : V) : List V → List V
  | [] => []
  | v :: vs => frV i ver s v :: frL i ver s vs
end
def frAB (i ver : Nat) (s : V) : AB → AB
  | .var cs => .var (frL i ver s cs)
  | .lp l st pend fr ps asg body => .lp l st pend (frL i ver s fr) ps asg body
  | b => b
mutual
theorem Rep.fr {G : Glob} {w0 : World} {M0 : Nat → Nat → Prop} {E : Env} (hE : EOK G w0 M0 E) {i ver : Nat} {s : V} (hs : fzRow E.H i ver = some s) : (v : V) → ∀ {x : Value}, Rep E v x → Rep E (frV i ver s v) x
  | .row j v, x, h => by
    simp only [frV]
    cases hc : (j == i && v == ver) with
    | false => exact h
    | true =>
      simp only [Bool.and_eq_true, beq_iff_eq] at hc
      obtain ⟨rfl, rfl⟩ := hc
      exact Rep.mono _ E.bare_le (fz_sound hE (.row j v) h (by simp only [fz]; exact hs))
  | .agg cs, x, h => by
    simp only [frV, Rep] at h ⊢
    obtain ⟨xs, h1, h2⟩ := h; exact ⟨xs, h1, RepL.fr hE hs cs h2⟩
  | .tup cs, x, h => by
    simp only [frV, Rep] at h ⊢
    obtain ⟨xs, h1, h2⟩ := h; exact ⟨xs, h1, RepL.fr hE hs cs h2⟩
  | .fn f a b, x, h => by
    simp only [frV, Rep] at h ⊢
    obtain ⟨xs, ys, h1, h2, h3⟩ := h; exact ⟨xs, ys, h1, RepL.fr hE hs a h2, RepL.fr hE hs b h3⟩
  | .iface t v, x, h => by
    simp only [frV, Rep] at h ⊢
    obtain ⟨y, h1, h2⟩ := h; exact ⟨y, h1, Rep.fr hE hs v h2⟩
  | .any, x, h => by simpa only [frV] using h
  | .val v, x, h => by simpa only [frV] using h
  | .ptr _ _, x, h => by simpa only [frV] using h
  | .ptrE _ _ _ _ _, x, h => by simpa only [frV] using h
  | .cp _, x, h => by simpa only [frV] using h
  | .sl _ _, x, h => by simpa only [frV] using h
  | .vs _ _ _ _, x, h => by simpa only [frV] using h
  | .mp _, x, h => by simpa only [frV] using h
theorem RepL.fr {G : Glob} {w0 : World} {M0 : Nat → Nat → Prop} {E : Env} (hE : EOK G w0 M0 E) {i ver : Nat} {s : V} (hs : fzRow E.H i ver = some s) : (vs : List V) → ∀ {xs : List Value}, RepL E vs xs → RepL E (frL i ver s vs) xs
  | [], xs, h => by simpa only [frL] using h
  | v :: vs, xs, h => by
    simp only [frL, RepL] at h ⊢
    obtain ⟨y, ys, h1, h2, h3⟩ := h
    exact ⟨y, ys, h1, Rep.fr hE hs v h2, RepL.fr hE hs vs h3⟩
end
theorem RepStack.fr {G : Glob} {w0 : World} {M0 : Nat → Nat → Prop} {E : Env} (hE : EOK G w0 M0 E) {i ver : Nat} {s : V} (hs : fzRow E.H i ver = some s) : ∀ {st : List (List V)} {sa : List Act}, RepStack E st sa → RepStack E (st.map (frL i ver s)) sa
  | [], sa, h => h
  | f :: st, sa, h => by
    obtain ⟨a, sa', rfl, h1, h3⟩ := h
    exact ⟨a, sa', rfl, RepL.fr hE hs f h1, RepStack.fr hE hs h3⟩
theorem EOK.frozen {G : Glob} {w0 : World} {M0 : Nat → Nat → Prop} {E : Env} (hE : EOK G w0 M0 E) {i ver : Nat} {s : V} (hs : fzRow E.H i ver = some s) : EOK G w0 M0 { E with H := E.H.map (frAB i ver s) } ∧ E.le { E with H := E.H.map (frAB i ver s) } := by
  have hget : ∀ j, (E.H.map (frAB i ver s))[j]? = (E.H[j]?).map (frAB i ver s) := fun j => List.getElem?_map ..
  have hle : E.le { E with H := E.H.map (frAB i ver s) } := by
    refine ⟨fun _ _ _ h => h, fun _ _ _ h => h, fun j sz es v m hr => .inr ⟨sz, es, v, m, ?_, Nat.le_refl _, fun _ => rfl⟩, fun j hd => ?_⟩
    · show (E.H.map _)[j]? = _
      rw [hget, hr]; rfl
    · show (E.H.map _)[j]? = _
      rw [hget, hd]; rfl
  refine ⟨⟨hE.below, hE.old, hE.mlt, fun j v b hp => ?_, hE.inj, fun j x hx => ?_, fun g cs hg => RepAt.mono cs hle.bare (hE.glob g cs hg)⟩, hle⟩
  · obtain ⟨⟨x, k1⟩, k2, k3⟩ := hE.phi j v b hp
    refine ⟨⟨frAB i ver s x, by show (E.H.map _)[j]? = _; rw [hget, k1]; rfl⟩, ?_, k3⟩
    show (E.H.map _)[j]? ≠ _
    rw [hget, k1]; rw [k1] at k2
    cases x <;> simp [frAB] at k2 ⊢
  · have hx' : (E.H.map (frAB i ver s))[j]? = some x := hx
    rw [hget, Option.map_eq_some_iff] at hx'
    obtain ⟨y, hy, rfl⟩ := hx'
    have hb := hE.blk j y hy
    cases y with
    | var cs =>
      obtain ⟨b, C, e, h1, h2, h3, h4⟩ := hb
      exact ⟨b, C, e, h1, h2, RepL.mono _ hle (RepL.fr hE hs cs h3), h4⟩
    | lp l st pend fr ps asg body =>
      obtain ⟨fn, tmps, D, h1, h2, h3⟩ := hb
      exact ⟨fn, tmps, D, h1, h2, RepL.mono _ hle (RepL.fr hE hs fr h3)⟩
    | _ => exact HOK.mono hle rfl rfl (fun v b hb => ⟨rfl, fun _ => Iff.rfl⟩) hb
theorem RUN_freeze {X : Ctx} (i ver : Nat) (s : V) {k : List It} {fr : List V} {st : List (List V)} {H : List AB} (hs : fzRow (immAt H i) i ver = some s)
    (h : RUN X ⟨k, frL i ver s fr, st.map (frL i ver s), (immAt H i).map (frAB i ver s)⟩) : RUN X ⟨k, fr, st, H⟩ := by
  intro sa a E hH hR hD
  simp only at hH hR; subst hH
  obtain ⟨E1, e1, e2, e3, e4⟩ := hR.ok.immAt i
  rw [← e2] at hs
  obtain ⟨f1, f2⟩ := e3.frozen hs
  have := h sa a { E1 with H := E1.H.map (frAB i ver s) } (by show E1.H.map _ = _; rw [e2]) ⟨f1, RepL.mono _ f2 (RepL.fr e3 hs fr (RepL.mono _ e4 hR.fr)), (RepStack.fr e3 hs (hR.st.mono e4)).mono f2⟩ hD
  rw [← e1]; exact this
section
variable {P : Program} {G : Glob} {w0 : World} {M0 : Nat → Nat → Prop} {R : Value → World → Prop}
theorem RUNs_freeze (i ver : Nat) (s : V) {k : List It} {fr : List V} {st : List (List V)} {H : List AB} (hn : step P G ⟨k, fr, st, H⟩ = none) (hs : fzRow (immAt H i) i ver = some s)
    (h : RUNs P G w0 M0 R ⟨k, frL i ver s fr, st.map (frL i ver s), (immAt H i).map (frAB i ver s)⟩) : RUNs P G w0 M0 R ⟨k, fr, st, H⟩ :=
  RUNs_stop hn (RUN_freeze (X := ⟨P, G, w0, M0, R⟩) i ver s hs (RUN_of_RUNs h))
theorem RUNs_weak {k : List It} {fr fr' : List V} {st : List (List V)} {H H' : List AB} (hn : step P G ⟨k, fr, st, H⟩ = none) (hw : Weak fr H fr' H') (hst : st.all (okL H'.length) = true) (h : RUNs P G w0 M0 R ⟨k, fr', st, H'⟩) : RUNs P G w0 M0 R ⟨k, fr, st, H⟩ :=
  RUNs_stop hn (RUN_weak (X := ⟨P, G, w0, M0, R⟩) hw hst (RUN_of_RUNs h))
end
theorem frV_row (i ver : Nat) (s : V) (j v : Nat) : frV i ver s (.row j v) = bif j == i && v == ver then s else .row j v := by simp only [frV]
theorem frV_agg (i ver : Nat) (s : V) (cs : List V) : frV i ver s (.agg cs) = .agg (frL i ver s cs) := by simp only [frV]
theorem frV_tup (i ver : Nat) (s : V) (cs : List V) : frV i ver s (.tup cs) = .tup (frL i ver s cs) := by simp only [frV]
theorem frV_fn (i ver : Nat) (s : V) (f : Fn) (a b : List V) : frV i ver s (.fn f a b) = .fn f (frL i ver s a) (frL i ver s b) := by simp only [frV]
theorem frV_iface (i ver : Nat) (s : V) (t : TypeId) (v : V) : frV i ver s (.iface t v) = .iface t (frV i ver s v) := by simp only [frV]
theorem frV_any (i ver : Nat) (s : V) : frV i ver s .any = .any := by simp only [frV]
theorem frV_val (i ver : Nat) (s : V) (w : Value) : frV i ver s (.val w) = .val w := by simp only [frV]
theorem frV_ptr (i ver : Nat) (s : V) (j o : Nat) : frV i ver s (.ptr j o) = .ptr j o := by simp only [frV]
theorem frV_ptrE (i ver : Nat) (s : V) (j v x z o : Nat) : frV i ver s (.ptrE j v x z o) = .ptrE j v x z o := by simp only [frV]
theorem frV_cp (i ver : Nat) (s : V) (cs : List V) : frV i ver s (.cp cs) = .cp cs := by simp only [frV]
theorem frV_sl (i ver : Nat) (s : V) (es : List V) (m : Mk) : frV i ver s (.sl es m) = .sl es m := by simp only [frV]
theorem frV_vs (i ver : Nat) (s : V) (j o n z : Nat) : frV i ver s (.vs j o n z) = .vs j o n z := by simp only [frV]
theorem frV_mp (i ver : Nat) (s : V) (j : Nat) : frV i ver s (.mp j) = .mp j := by simp only [frV]
theorem frL_nil (i ver : Nat) (s : V) : frL i ver s [] = [] := by simp only [frL]
theorem frL_cons (i ver : Nat) (s : V) (v : V) (vs : List V) : frL i ver s (v :: vs) = frV i ver s v :: frL i ver s vs := by simp only [frL]
theorem frM_nil (i ver : Nat) (s : V) : ([] : List AB).map (frAB i ver s) = [] := rfl
theorem frM_cons (i ver : Nat) (s : V) (b : AB) (l : List AB) : (b :: l).map (frAB i ver s) = frAB i ver s b :: l.map (frAB i ver s) := rfl
theorem stM_nil (i ver : Nat) (s : V) : ([] : List (List V)).map (frL i ver s) = [] := rfl
theorem stM_cons (i ver : Nat) (s : V) (f : List V) (l : List (List V)) : (f :: l).map (frL i ver s) = frL i ver s f :: l.map (frL i ver s) := rfl
theorem frAB_var (i ver : Nat) (s : V) (cs : List V) : frAB i ver s (.var cs) = .var (frL i ver s cs) := rfl
theorem frAB_row (i ver : Nat) (s : V) (sz : Nat) (es : List V) (v : Nat) (m : Bool) : frAB i ver s (.row sz es v m) = .row sz es v m := rfl
theorem frAB_dfr (i ver : Nat) (s : V) (D : Nat) : frAB i ver s (.dfr D) = .dfr D := rfl
theorem frAB_lp (i ver : Nat) (s : V) (l : Nat) (st : LoopState) (pend : Option Code) (fr : List V) (ps : List Tmp) (asg body : Code) : frAB i ver s (.lp l st pend fr ps asg body) = .lp l st pend (frL i ver s fr) ps asg body := rfl
theorem frAB_dead (i ver : Nat) (s : V) : frAB i ver s .dead = .dead := rfl
theorem frAB_map (i ver : Nat) (s : V) (own : Bool) (sg : KS) (f : List Int → Option V) : frAB i ver s (.map own sg f) = .map own sg f := rfl
end Go.Ab
