import Derived.Test.YtaebkmmjjabnaaaGreatDoorW19
set_option maxRecDepth 100000
set_option maxHeartbeats 4000000
set_option linter.unusedSimpArgs false
set_option linter.unusedVariables false
namespace Ch
open Go Go.Ab Go.Proofs.Tryz
theorem wGet_spec (l:List Int) (hu:∀ x∈l,U x) (hl:l.length≤1099511627776):Spec PP GG 248 [wordsV l] (.tup [fieldsV (getF l).1,i64 (getF l).2]) []:=by
 refine Qs func248 ?_
 intro w0 M0
 simp only [f248,lf,z,seval]
 cases c0:decide ((l.length:Int) > 64) with
 | true =>
   simp only [c0,z,seval]
   (refine Qf ?_;simp only [z,seval])
   simp only [getF,c0,cond_true,List.map_nil]
 | false =>
 have hg:getF l=fieldsM 8 l:=by simp only [getF,c0,cond_false]
 rw [hg]
 have h64:l.length≤64:=by have:=of_decide_eq_false c0;omega
 simp only [c0,z,seval]
 (refine RUNs_row0 4 2 (h:=?_);simp only [z,seval])
 refine RUNs_rangeS (9) (fun i (s:List Int×List Field)=>(∀ x∈s.1,U x)∧s.1.length≤64∧s.2.length=i∧i≤8∧fieldsM 8 l=extF s.2 (fieldsM (8 - i) s.1)) (fun i s=>[(0,wordsV s.1),(4,.row 0 i)]) (fun i s=>[(0,.row 2 (s.2.map Field.v) i false)]) (l,[]) ?_ (by simp only [z,seval];exact wk) rfl ?_
 ·exact ⟨hu,h64,rfl,Nat.zero_le _,(extF_nil 8 l).symm⟩
 rintro ⟨i,⟨l',out⟩,hi9,hu',h64',ho,hi8,hm⟩
 simp only at hu' h64' ho hi8 hm
 simp only [z,seval]
 first|refine brk (fun h=>?_) (fun h=>?_)|fail
 ·have hlt:0 < l'.length:=by have:=of_decide_eq_true h;omega
  have hne:l'≠[]:=by rintro rfl;simp at hlt
  simp only [h,ho,z,seval]
  cases c1:((i:Int)==8) with
  | true =>
    obtain rfl:i=8:=by have:(i:Int)=8:=by simpa using c1
                       omega
    simp only [c1,z,seval]
    (refine Qf ?_;simp only [z,seval])
    rw [hm,fieldsM_full hne];rfl
  | false =>
  have hi7:i < 8:=by have:(i:Int)≠8:=by simpa using c1
                     omega
  obtain ⟨k,hk⟩:∃ k,8 - i=k + 1:=⟨7 - i,by omega⟩
  have hk2:8 - (i + 1)=k:=by omega
  rw [hk] at hm
  simp only [c1,z,seval]
  cases c2:decide ((l'.length:Int) < 2) with
  | true =>
    simp only [c2,z,seval]
    (refine Qf ?_;simp only [z,seval])
    rw [hm,fieldsM_bad hne (by have:=of_decide_eq_true c2;simp only [fieldBad];rw [decide_eq_true (by omega)];rfl)];rfl
  | false =>
  have hlt1:1 < l'.length:=by have:=of_decide_eq_false c2;omega
  have g0:l'.getD 0 0=l'[0]:=drop_0 (l:=l') (i:=0) hlt
  have g1:l'.getD 1 0=l'[1]:=drop_1 (l:=l') (i:=0) hlt1
  have u0:=hu' _ (List.getElem_mem hlt)
  have u1:=hu' _ (List.getElem_mem hlt1)
  generalize hx:l'[0]=x at g0 u0
  generalize hy:l'[1]=y at g1 u1
  have hgx:(l'.map u32)[0]?=some (u32 x):=by rw [getMap u32 l' hlt,hx]
  have hgy:(l'.map u32)[1]?=some (u32 y):=by rw [getMap u32 l' hlt1,hy]
  simp only [c2,hgx,hgy,z,seval]
  have hbad:(x < 1∨x > 255∨y > 16∨y > (l'.length:Int) - 2)→fieldBad l'=true:=by
   intro hb
   simp only [fieldBad,g0,g1,Bool.or_eq_true,decide_eq_true_eq]
   omega
  cases c3:decide (x < 1) with
  | true =>
    simp only [c3,z,seval]
    (refine Qf ?_;simp only [z,seval])
    rw [hm,fieldsM_bad hne (hbad (.inl (of_decide_eq_true c3)))];rfl
  | false =>
  simp only [c3,hgx,hgy,z,seval]
  cases c4:decide (x > 255) with
  | true =>
    simp only [c4,z,seval]
    (refine Qf ?_;simp only [z,seval])
    rw [hm,fieldsM_bad hne (hbad (.inr (.inl (of_decide_eq_true c4))))];rfl
  | false =>
  simp only [c4,hgx,hgy,z,seval]
  cases c5:decide (y > 16) with
  | true =>
    simp only [c5,z,seval]
    (refine Qf ?_;simp only [z,seval])
    rw [hm,fieldsM_bad hne (hbad (.inr (.inr (.inl (of_decide_eq_true c5)))))];rfl
  | false =>
  have hy16:=of_decide_eq_false c5
  obtain ⟨n,rfl⟩:=Int.eq_ofNat_of_zero_le u1.1
  have hw3:IntKind.i64.wrap (n:Int)=(n:Int):=w64 (by omega) (by omega)
  have hw4:IntKind.i64.wrap ((l'.length:Int) - 2)=(l'.length:Int) - 2:=w64 (by omega) (by omega)
  have hw5:IntKind.i64.wrap (2 + (n:Int))=((2 + n:Nat):Int):=by rw [w64 (by omega) (by omega)];omega
  simp only [c5,hgx,hgy,hw3,hw4,hw5,z,seval]
  cases c6:decide ((n:Int) > (l'.length:Int) - 2) with
  | true =>
    simp only [c6,z,seval]
    (refine Qf ?_;simp only [z,seval])
    rw [hm,fieldsM_bad hne (hbad (.inr (.inr (.inr (of_decide_eq_true c6)))))];rfl
  | false =>
  have hle:2 + n≤l'.length:=by have:=of_decide_eq_false c6;omega
  have hsub:(l'.take (2 + n)).drop 2=(l'.drop 2).take n:=by rw [List.drop_take,Nat.add_sub_cancel_left]
  have hlen:((l'.drop 2).take n).length=n:=by rw [List.length_take,List.length_drop];omega
  have hOne:=One_spec x ((l'.drop 2).take n) (by omega)
  have hb:fieldBad l'=false:=by
   simp only [fieldBad,g0,g1,Bool.or_eq_false_iff,decide_eq_false_iff_not]
   have e3:=of_decide_eq_false c3
   have e4:=of_decide_eq_false c4
   omega
  have e:out.map Field.v++[Field.v ⟨x,(l'.drop 2).take n⟩]=(out++[(⟨x,(l'.drop 2).take n⟩:Field)]).map Field.v:=by simp
  simp only [mv] at e
  simp only [c6,hgx,hgy,hw3,hw4,hw5,z,seval]
  (refine Qw 1 ?_;simp only [z,seval])
  simp only [hgx,hgy,hw3,hw4,hw5,z,seval]
  refine DOC_ok (by first|exact slc_ok2 (by omega) hle (fun a=>rfl)|(rw [← List.length_map (f:=u32)];exact slc_ok2 (by omega) hle (fun a=>rfl))) ?_
  simp only [hsub,hgx,hgy,hw3,hw4,hw5,z,seval]
  (refine DU hOne (h:=?_);simp only [z,seval])
  refine DOC_ok ?_ ?_
  ·simp;omega
  simp only [z,seval]
  (refine ⟨by kernel_rfl,?_⟩)
  have hdrop:(l'.map u32).drop (2 + n)=(l'.drop (2 + n)).map u32:=by rw [List.map_drop]
  refine OPC_ok ?_ ?_
  ·simp [slcB,hle,lenE']
   intro x _;rfl
  have hfull:(l'.map u32).take l'.length=l'.map u32:=List.take_of_length_le (by simp)
  simp only [List.length_map,List.take_length,hfull,hdrop,e,z,seval]
  have hlt9:i < 9:=by omega
  (refine NX (l'.drop (2 + n),out++[⟨x,(l'.drop 2).take n⟩]) ?_ (by rfl) hlt9 ?_;simp only [z,seval];exact wk)
  refine ⟨fun y hy=>hu' y (List.mem_of_mem_drop hy),by show (l'.drop (2 + n)).length≤64;rw [List.length_drop];omega,by simp only [List.length_append,List.length_singleton,ho],by show i + 1≤8;omega,?_⟩
  show fieldsM 8 l=extF (out++[⟨x,(l'.drop 2).take n⟩]) (fieldsM (8 - (i + 1)) (l'.drop (2 + n)))
  rw [hm,fieldsM_good hne hb,g0,g1,Int.toNat_natCast,extF_ext,hk2]
 ·have:l'=[]:=by have:=of_decide_eq_false h;exact List.eq_nil_of_length_eq_zero (by omega)
  subst this
  simp only [h,z,seval]
  (refine Qf ?_;simp only [z,seval])
  rw [hm,fieldsM_nil,extF]
  simp
theorem mGet_spec (l:List Int) (hu:∀ x∈l,U x) (hl:l.length≤1099511627776):Spec PP GG 226 [wordsV l] (.tup [(msgGet l).1.v,i64 (msgGet l).2]) []:=by
 have h1:=wGet_spec l hu hl
 rw [msgGet]
 cases c1:((getF l).2==0) with
 | false =>
   refine Qs func226 ?_
   intro w0 M0
   simp only [f226,lf,z,seval]
   (refine CU h1 (h:=?_);simp only [z,seval])
   simp only [c1,z,seval]
   (refine Qf ?_;simp only [z,seval])
   rfl
 | true =>
 have hz:(getF l).2=0:=by simpa using c1
 rw [hz] at h1
 have hfl:(∀ x∈(getF l).1,∀ y∈x.data,U y)∧(getF l).1.length≤8:=by
  unfold getF at hz ⊢
  cases c3:decide ((l.length:Int) > 64)
  ·rw [c3,cond_false] at hz
   rw [cond_false]
   obtain ⟨f1,f2,f3⟩:=fields_flat 8 l (fieldsM 8 l).1 hu (Prod.ext rfl hz)
   exact ⟨fun x hx y hy=>hu y (by rw [← f1];simp only [flatAll,List.mem_flatMap];exact ⟨x,hx,by simp [flatOne,hy]⟩),f3⟩
  ·rw [c3] at hz;cases hz
 generalize hf:(getF l).1=f at h1 hfl
 cases c2:headOk f with
 | false =>
   refine Qs func226 ?_
   intro w0 M0
   simp only [f226,lf,z,seval]
   (refine CU h1 (h:=?_);simp only [z,seval])
   cases f with
   | nil =>
     simp only [List.map_nil,z,seval]
     (refine Qf ?_;simp only [z,seval])
     rfl
   | cons g fs =>
     have h0:0 < (g::fs).length:=by simp
     have hg:((g::fs).map Field.v)[0]?=some (Field.v g):=rfl
     simp only [mv] at hg
     have hlen:(((fs.length + 1:Nat):Int)==0)=false:=by simp;omega
     simp only [hlen,hg,z,seval]
     cases d1:(g.tag==1) with
     | false =>
       simp only [d1,z,seval]
       (refine Qf ?_;simp only [z,seval])
       rfl
     | true =>
     simp only [d1,hg,z,seval]
     cases d2:((g.data.length:Int)==1) with
     | false =>
       simp only [d2,z,seval]
       (refine Qf ?_;simp only [z,seval])
       rfl
     | true =>
     have d2':(g.data.length==1)=true:=by simp at d2 ⊢;omega
     have e0:=one_of d2'
     have hk:(g.data.map u32)[0]?=some (u32 (g.data.getD 0 0)):=by rw [e0];rfl
     simp only [d2,hg,hk,z,seval]
     simp only [headOk,d1,d2',Bool.true_and,Bool.and_eq_false_iff,decide_eq_false_iff_not] at c2
     cases d3:decide (g.data.getD 0 0 < 1) with
     | false =>
       simp only [d3,hg,hk,z,seval]
       have d4:decide (g.data.getD 0 0 > 9)=true:=by have:=of_decide_eq_false d3;exact decide_eq_true (by omega)
       simp only [d4,z,seval]
       (refine Qf ?_;simp only [z,seval])
       rfl
     | true =>
       simp only [d3,z,seval]
       (refine Qf ?_;simp only [z,seval])
       rfl
 | true =>
   obtain ⟨fs,e,k1,k2⟩:=head_form c2
   generalize hk:headK f=k at e k1 k2
   subst e
   clear c2
   have e1:decide (k < 1)=false:=decide_eq_false (by omega)
   have e2:decide (k > 9)=false:=decide_eq_false (by omega)
   have hlen:(((fs.length + 1:Nat):Int)==0)=false:=by simp;omega
   have hg:((⟨1,[k]⟩::fs:List Field).map Field.v)[0]?=some (Field.v ⟨1,[k]⟩):=rfl
   simp only [mv] at hg
   simp only [headK_cons,List.tail_cons,cond_true]
   have kU:U k:=hfl.1 _ (List.mem_cons_self) k (by simp)
   have hd:∀ x∈fs,∀ y∈x.data,U y:=fun x hx=>hfl.1 x (List.mem_cons_of_mem _ hx)
   have h8:fs.length≤8:=by have:=hfl.2;simp only [List.length_cons] at this;omega
   suffices key:Spec PP GG 226 [wordsV l] (.tup [(orBad (msgSeq (kindM k) tags fs)).1.v,i64 (orBad (msgSeq (kindM k) tags fs)).2]) [] by
    exact key
   clear hfl hf hz c1 hk
   refine Qs func226 ?_
   intro w0 M0
   simp only [f226,lf,z,seval]
   (refine CU h1 (h:=?_);simp only [z,seval])
   simp only [hlen,hg,e1,e2,List.map_cons,List.map_nil,z,seval]
   refine OPC_ok ?_ ?_
   ·simp [slcB,lenE']
    exact ⟨rfl,fun x _=>rfl⟩
   have hfull:((⟨1,[k]⟩::fs:List Field).map Field.v).take (fs.length + 1)=(⟨1,[k]⟩::fs:List Field).map Field.v:=List.take_of_length_le (by simp)
   simp only [List.map_cons,List.map_nil,mv] at hfull
   simp only [hfull,List.drop_succ_cons,List.drop_zero,z,seval]
   (refine qc func244 ?_;simp only [f244,lf,z,seval])
   (refine Qw 0 ?_;simp only [z,seval])
   (refine ⟨by kernel_rfl,?_⟩)
   refine RUNs_rangeS (8) (fun i (s:Msg×List Field)=>s.1.kind=k∧s.2.length≤8∧msgSeq (kindM k) tags fs=msgSeq s.1 (tags.drop (i - 2)) s.2) (fun i s=>[(67,i64 i),(4,.sl (s.2.map Field.v) .plain)]) (fun _ s=>[(1,.var [u32 s.1.kind,u32 s.1.run,u32 s.1.a,u32 s.1.b,u32 s.1.nonce,u32 s.1.box,u32 s.1.more])]) (kindM k,fs) ?_ (by simp only [z,seval];exact wk) rfl ?_
   ·exact ⟨rfl,h8,rfl⟩
   rintro ⟨i,⟨m,f⟩,hi,hm1,hm3,hm2⟩
   simp only at hm1 hm2 hm3
   have hk9:1≤m.kind∧m.kind≤9:=by rw [hm1];exact ⟨k1,k2⟩
   have hcase:i=0∨i=1∨i=2∨i=3∨i=4∨i=5∨i=6∨i=7∨i=8:=by omega
   rcases hcase with rfl|rfl|rfl|rfl|rfl|rfl|rfl|rfl|rfl
   iterate 2
    ·simp only [Int.cast_ofNat_Int,z,seval]
     refine NX (m,f) (hi:=by simp) (hinv:=⟨hm1,hm3,hm2⟩)
   ·simp only [Int.cast_ofNat_Int,z,seval]
    (refine CU (mpart_spec m.kind 2 hk9 (by decide)) (h:=?_);simp only [z,seval])
    cases hh:hasM m.kind 2 with
    | false =>
      simp only [hh,z,seval]
      refine NX (m,f) (hi:=by simp) (hinv:=⟨hm1,hm3,hm2.trans (seq_no hh)⟩)
    | true =>
      have hq:msgSeq m (tags.drop (2 - 2)) f=seqStep m 2 (tags.drop (3 - 2)) f:=seq_yes hh
      rw [hq] at hm2
      simp only [hh,z,seval]
      cases f with
      | nil =>
        simp only [List.map_nil,z,seval]
        (refine Qf ?_;simp only [z,seval])
        rw [hm2];rfl
      | cons g r =>
        have hlen:(((r.length + 1:Nat):Int)==0)=false:=by simp;omega
        have hg:((g::r).map Field.v)[0]?=some (Field.v g):=rfl
        simp only [mv] at hg
        simp only [hlen,hg,List.length_cons,List.map_cons,z,seval]
        cases d1:(g.tag==2) with
        | false =>
          simp only [d1,z,seval]
          (refine Qf ?_;simp only [z,seval])
          rw [hm2,seqStep,d1];rfl
        | true =>
        simp only [d1,hg,z,seval]
        cases d2:((g.data.length:Int)==1) with
        | false =>
          simp only [d2,z,seval]
          (refine Qf ?_;simp only [z,seval])
          rw [hm2,seqStep,d1,show (g.data.length==1)=false by simp at d2 ⊢;omega];rfl
        | true =>
        have d2':(g.data.length==1)=true:=by simp at d2 ⊢;omega
        have e0:=one_of d2'
        have hk:(g.data.map u32)[0]?=some (u32 (g.data.getD 0 0)):=by rw [e0];rfl
        simp only [d2,hg,hk,z,seval]
        refine OPC_ok ?_ ?_
        ·simp [slcB,lenE']
         exact ⟨rfl,fun x _=>rfl⟩
        have hfull:((g::r).map Field.v).take (r.length + 1)=(g::r).map Field.v:=List.take_of_length_le (by simp)
        simp only [List.map_cons,mv] at hfull
        simp only [hfull,List.drop_succ_cons,List.drop_zero,z,seval]
        (refine NX (setTag m 2 (g.data.getD 0 0),r) ?_ (by rfl) (by decide:(2:Nat) < 8) ?_;simp only [setTag,Int.reduceBEq,cond_true,cond_false,z,seval];exact wk)
        exact ⟨(setTag_kind _ _ _).trans hm1,by simp only [List.length_cons] at hm3;show r.length≤8;omega,hm2.trans (by rw [seqStep,d1,d2'];rfl)⟩
   ·simp only [Int.cast_ofNat_Int,z,seval]
    (refine CU (mpart_spec m.kind 3 hk9 (by decide)) (h:=?_);simp only [z,seval])
    cases hh:hasM m.kind 3 with
    | false =>
      simp only [hh,z,seval]
      refine NX (m,f) (hi:=by simp) (hinv:=⟨hm1,hm3,hm2.trans (seq_no hh)⟩)
    | true =>
      have hq:msgSeq m (tags.drop (3 - 2)) f=seqStep m 3 (tags.drop (4 - 2)) f:=seq_yes hh
      rw [hq] at hm2
      simp only [hh,z,seval]
      cases f with
      | nil =>
        simp only [List.map_nil,z,seval]
        (refine Qf ?_;simp only [z,seval])
        rw [hm2];rfl
      | cons g r =>
        have hlen:(((r.length + 1:Nat):Int)==0)=false:=by simp;omega
        have hg:((g::r).map Field.v)[0]?=some (Field.v g):=rfl
        simp only [mv] at hg
        simp only [hlen,hg,List.length_cons,List.map_cons,z,seval]
        cases d1:(g.tag==3) with
        | false =>
          simp only [d1,z,seval]
          (refine Qf ?_;simp only [z,seval])
          rw [hm2,seqStep,d1];rfl
        | true =>
        simp only [d1,hg,z,seval]
        cases d2:((g.data.length:Int)==1) with
        | false =>
          simp only [d2,z,seval]
          (refine Qf ?_;simp only [z,seval])
          rw [hm2,seqStep,d1,show (g.data.length==1)=false by simp at d2 ⊢;omega];rfl
        | true =>
        have d2':(g.data.length==1)=true:=by simp at d2 ⊢;omega
        have e0:=one_of d2'
        have hk:(g.data.map u32)[0]?=some (u32 (g.data.getD 0 0)):=by rw [e0];rfl
        simp only [d2,hg,hk,z,seval]
        refine OPC_ok ?_ ?_
        ·simp [slcB,lenE']
         exact ⟨rfl,fun x _=>rfl⟩
        have hfull:((g::r).map Field.v).take (r.length + 1)=(g::r).map Field.v:=List.take_of_length_le (by simp)
        simp only [List.map_cons,mv] at hfull
        simp only [hfull,List.drop_succ_cons,List.drop_zero,z,seval]
        (refine NX (setTag m 3 (g.data.getD 0 0),r) ?_ (by rfl) (by decide:(3:Nat) < 8) ?_;simp only [setTag,Int.reduceBEq,cond_true,cond_false,z,seval];exact wk)
        exact ⟨(setTag_kind _ _ _).trans hm1,by simp only [List.length_cons] at hm3;show r.length≤8;omega,hm2.trans (by rw [seqStep,d1,d2'];rfl)⟩
   ·simp only [Int.cast_ofNat_Int,z,seval]
    (refine CU (mpart_spec m.kind 4 hk9 (by decide)) (h:=?_);simp only [z,seval])
    cases hh:hasM m.kind 4 with
    | false =>
      simp only [hh,z,seval]
      refine NX (m,f) (hi:=by simp) (hinv:=⟨hm1,hm3,hm2.trans (seq_no hh)⟩)
    | true =>
      have hq:msgSeq m (tags.drop (4 - 2)) f=seqStep m 4 (tags.drop (5 - 2)) f:=seq_yes hh
      rw [hq] at hm2
      simp only [hh,z,seval]
      cases f with
      | nil =>
        simp only [List.map_nil,z,seval]
        (refine Qf ?_;simp only [z,seval])
        rw [hm2];rfl
      | cons g r =>
        have hlen:(((r.length + 1:Nat):Int)==0)=false:=by simp;omega
        have hg:((g::r).map Field.v)[0]?=some (Field.v g):=rfl
        simp only [mv] at hg
        simp only [hlen,hg,List.length_cons,List.map_cons,z,seval]
        cases d1:(g.tag==4) with
        | false =>
          simp only [d1,z,seval]
          (refine Qf ?_;simp only [z,seval])
          rw [hm2,seqStep,d1];rfl
        | true =>
        simp only [d1,hg,z,seval]
        cases d2:((g.data.length:Int)==1) with
        | false =>
          simp only [d2,z,seval]
          (refine Qf ?_;simp only [z,seval])
          rw [hm2,seqStep,d1,show (g.data.length==1)=false by simp at d2 ⊢;omega];rfl
        | true =>
        have d2':(g.data.length==1)=true:=by simp at d2 ⊢;omega
        have e0:=one_of d2'
        have hk:(g.data.map u32)[0]?=some (u32 (g.data.getD 0 0)):=by rw [e0];rfl
        simp only [d2,hg,hk,z,seval]
        refine OPC_ok ?_ ?_
        ·simp [slcB,lenE']
         exact ⟨rfl,fun x _=>rfl⟩
        have hfull:((g::r).map Field.v).take (r.length + 1)=(g::r).map Field.v:=List.take_of_length_le (by simp)
        simp only [List.map_cons,mv] at hfull
        simp only [hfull,List.drop_succ_cons,List.drop_zero,z,seval]
        (refine NX (setTag m 4 (g.data.getD 0 0),r) ?_ (by rfl) (by decide:(4:Nat) < 8) ?_;simp only [setTag,Int.reduceBEq,cond_true,cond_false,z,seval];exact wk)
        exact ⟨(setTag_kind _ _ _).trans hm1,by simp only [List.length_cons] at hm3;show r.length≤8;omega,hm2.trans (by rw [seqStep,d1,d2'];rfl)⟩
   ·simp only [Int.cast_ofNat_Int,z,seval]
    (refine CU (mpart_spec m.kind 5 hk9 (by decide)) (h:=?_);simp only [z,seval])
    cases hh:hasM m.kind 5 with
    | false =>
      simp only [hh,z,seval]
      refine NX (m,f) (hi:=by simp) (hinv:=⟨hm1,hm3,hm2.trans (seq_no hh)⟩)
    | true =>
      have hq:msgSeq m (tags.drop (5 - 2)) f=seqStep m 5 (tags.drop (6 - 2)) f:=seq_yes hh
      rw [hq] at hm2
      simp only [hh,z,seval]
      cases f with
      | nil =>
        simp only [List.map_nil,z,seval]
        (refine Qf ?_;simp only [z,seval])
        rw [hm2];rfl
      | cons g r =>
        have hlen:(((r.length + 1:Nat):Int)==0)=false:=by simp;omega
        have hg:((g::r).map Field.v)[0]?=some (Field.v g):=rfl
        simp only [mv] at hg
        simp only [hlen,hg,List.length_cons,List.map_cons,z,seval]
        cases d1:(g.tag==5) with
        | false =>
          simp only [d1,z,seval]
          (refine Qf ?_;simp only [z,seval])
          rw [hm2,seqStep,d1];rfl
        | true =>
        simp only [d1,hg,z,seval]
        cases d2:((g.data.length:Int)==1) with
        | false =>
          simp only [d2,z,seval]
          (refine Qf ?_;simp only [z,seval])
          rw [hm2,seqStep,d1,show (g.data.length==1)=false by simp at d2 ⊢;omega];rfl
        | true =>
        have d2':(g.data.length==1)=true:=by simp at d2 ⊢;omega
        have e0:=one_of d2'
        have hk:(g.data.map u32)[0]?=some (u32 (g.data.getD 0 0)):=by rw [e0];rfl
        simp only [d2,hg,hk,z,seval]
        refine OPC_ok ?_ ?_
        ·simp [slcB,lenE']
         exact ⟨rfl,fun x _=>rfl⟩
        have hfull:((g::r).map Field.v).take (r.length + 1)=(g::r).map Field.v:=List.take_of_length_le (by simp)
        simp only [List.map_cons,mv] at hfull
        simp only [hfull,List.drop_succ_cons,List.drop_zero,z,seval]
        (refine NX (setTag m 5 (g.data.getD 0 0),r) ?_ (by rfl) (by decide:(5:Nat) < 8) ?_;simp only [setTag,Int.reduceBEq,cond_true,cond_false,z,seval];exact wk)
        exact ⟨(setTag_kind _ _ _).trans hm1,by simp only [List.length_cons] at hm3;show r.length≤8;omega,hm2.trans (by rw [seqStep,d1,d2'];rfl)⟩
   ·simp only [Int.cast_ofNat_Int,z,seval]
    (refine CU (mpart_spec m.kind 6 hk9 (by decide)) (h:=?_);simp only [z,seval])
    cases hh:hasM m.kind 6 with
    | false =>
      simp only [hh,z,seval]
      refine NX (m,f) (hi:=by simp) (hinv:=⟨hm1,hm3,hm2.trans (seq_no hh)⟩)
    | true =>
      have hq:msgSeq m (tags.drop (6 - 2)) f=seqStep m 6 (tags.drop (7 - 2)) f:=seq_yes hh
      rw [hq] at hm2
      simp only [hh,z,seval]
      cases f with
      | nil =>
        simp only [List.map_nil,z,seval]
        (refine Qf ?_;simp only [z,seval])
        rw [hm2];rfl
      | cons g r =>
        have hlen:(((r.length + 1:Nat):Int)==0)=false:=by simp;omega
        have hg:((g::r).map Field.v)[0]?=some (Field.v g):=rfl
        simp only [mv] at hg
        simp only [hlen,hg,List.length_cons,List.map_cons,z,seval]
        cases d1:(g.tag==6) with
        | false =>
          simp only [d1,z,seval]
          (refine Qf ?_;simp only [z,seval])
          rw [hm2,seqStep,d1];rfl
        | true =>
        simp only [d1,hg,z,seval]
        cases d2:((g.data.length:Int)==1) with
        | false =>
          simp only [d2,z,seval]
          (refine Qf ?_;simp only [z,seval])
          rw [hm2,seqStep,d1,show (g.data.length==1)=false by simp at d2 ⊢;omega];rfl
        | true =>
        have d2':(g.data.length==1)=true:=by simp at d2 ⊢;omega
        have e0:=one_of d2'
        have hk:(g.data.map u32)[0]?=some (u32 (g.data.getD 0 0)):=by rw [e0];rfl
        simp only [d2,hg,hk,z,seval]
        refine OPC_ok ?_ ?_
        ·simp [slcB,lenE']
         exact ⟨rfl,fun x _=>rfl⟩
        have hfull:((g::r).map Field.v).take (r.length + 1)=(g::r).map Field.v:=List.take_of_length_le (by simp)
        simp only [List.map_cons,mv] at hfull
        simp only [hfull,List.drop_succ_cons,List.drop_zero,z,seval]
        (refine NX (setTag m 6 (g.data.getD 0 0),r) ?_ (by rfl) (by decide:(6:Nat) < 8) ?_;simp only [setTag,Int.reduceBEq,cond_true,cond_false,z,seval];exact wk)
        exact ⟨(setTag_kind _ _ _).trans hm1,by simp only [List.length_cons] at hm3;show r.length≤8;omega,hm2.trans (by rw [seqStep,d1,d2'];rfl)⟩
   ·simp only [Int.cast_ofNat_Int,z,seval]
    (refine CU (mpart_spec m.kind 7 hk9 (by decide)) (h:=?_);simp only [z,seval])
    cases hh:hasM m.kind 7 with
    | false =>
      simp only [hh,z,seval]
      refine NX (m,f) (hi:=by simp) (hinv:=⟨hm1,hm3,hm2.trans (seq_no hh)⟩)
    | true =>
      have hq:msgSeq m (tags.drop (7 - 2)) f=seqStep m 7 (tags.drop (8 - 2)) f:=seq_yes hh
      rw [hq] at hm2
      simp only [hh,z,seval]
      cases f with
      | nil =>
        simp only [List.map_nil,z,seval]
        (refine Qf ?_;simp only [z,seval])
        rw [hm2];rfl
      | cons g r =>
        have hlen:(((r.length + 1:Nat):Int)==0)=false:=by simp;omega
        have hg:((g::r).map Field.v)[0]?=some (Field.v g):=rfl
        simp only [mv] at hg
        simp only [hlen,hg,List.length_cons,List.map_cons,z,seval]
        cases d1:(g.tag==7) with
        | false =>
          simp only [d1,z,seval]
          (refine Qf ?_;simp only [z,seval])
          rw [hm2,seqStep,d1];rfl
        | true =>
        simp only [d1,hg,z,seval]
        cases d2:((g.data.length:Int)==1) with
        | false =>
          simp only [d2,z,seval]
          (refine Qf ?_;simp only [z,seval])
          rw [hm2,seqStep,d1,show (g.data.length==1)=false by simp at d2 ⊢;omega];rfl
        | true =>
        have d2':(g.data.length==1)=true:=by simp at d2 ⊢;omega
        have e0:=one_of d2'
        have hk:(g.data.map u32)[0]?=some (u32 (g.data.getD 0 0)):=by rw [e0];rfl
        simp only [d2,hg,hk,z,seval]
        refine OPC_ok ?_ ?_
        ·simp [slcB,lenE']
         exact ⟨rfl,fun x _=>rfl⟩
        have hfull:((g::r).map Field.v).take (r.length + 1)=(g::r).map Field.v:=List.take_of_length_le (by simp)
        simp only [List.map_cons,mv] at hfull
        simp only [hfull,List.drop_succ_cons,List.drop_zero,z,seval]
        (refine NX (setTag m 7 (g.data.getD 0 0),r) ?_ (by rfl) (by decide:(7:Nat) < 8) ?_;simp only [setTag,Int.reduceBEq,cond_true,cond_false,z,seval];exact wk)
        exact ⟨(setTag_kind _ _ _).trans hm1,by simp only [List.length_cons] at hm3;show r.length≤8;omega,hm2.trans (by rw [seqStep,d1,d2'];rfl)⟩
   ·simp only [Int.cast_ofNat_Int,z,seval]
    have e8:msgSeq (kindM k) tags fs=msgSeq m [] f:=hm2
    cases f with
    | nil =>
      simp only [List.map_nil,z,seval]
      (refine Qf ?_;simp only [z,seval])
      rw [e8];rfl
    | cons g r =>
      have hlen:decide (((r.length + 1:Nat):Int) > 0)=true:=decide_eq_true (by omega)
      simp only [hlen,List.map_cons,List.length_cons,z,seval]
      (refine Qf ?_;simp only [z,seval])
      rw [e8];rfl
theorem fresh_spec (now t w:Int) (h1:U now) (h2:U t) (h3:U w):Spec PP GG 144 [u32 now,u32 t,u32 w] (.bool (freshM now t w)) []:=by
 obtain ⟨a1,a2⟩:=h1
 obtain ⟨b1,b2⟩:=h2
 obtain ⟨c1,c2⟩:=h3
 refine Qs func144 ?_
 intro w0 M0
 simp only [f144,lf,z,seval]
 have k1:IntKind.u64.wrap now=now:=wu64 (by omega) (by omega)
 have k2:IntKind.u64.wrap t=t:=wu64 (by omega) (by omega)
 have k3:IntKind.u64.wrap w=w:=wu64 (by omega) (by omega)
 have k4:IntKind.u64.wrap (t + w)=t + w:=wu64 (by omega) (by omega)
 have k5:IntKind.u64.wrap (now + w)=now + w:=wu64 (by omega) (by omega)
 repeat' (first|((refine qc func200 ?_;simp only [f200,lf,z,seval]);simp only [k1,k2,k3,k4,k5,z,seval])|((try simp only [k1,k2,k3,k4,k5,z,seval]);(first|refine brk (fun h=>?_) (fun h=>?_)|fail)<;>simp only [h,k1,k2,k3,k4,k5,z,seval]))
 all_goals (refine Qf ?_;simp only [z,seval])
 all_goals (first|(simp only [freshM, *,cond_true,cond_false,Bool.true_and,Bool.and_true,Bool.false_and,Bool.and_false,Bool.true_or,Bool.or_true,Bool.false_or,Bool.or_false,Bool.not_true,Bool.not_false,beq_self_eq_true,Option.getD_some,Option.getD_none,Option.isSome_some,Option.isSome_none,List.map_nil];done)|(simp only [freshM, *,cond_true,cond_false,Bool.true_and,Bool.and_true,Bool.false_and,Bool.and_false,Bool.true_or,Bool.or_true,Bool.false_or,Bool.or_false,Bool.not_true,Bool.not_false,beq_self_eq_true,Option.getD_some,Option.getD_none,Option.isSome_some,Option.isSome_none,List.map_nil];rfl)|(simp [freshM, *];done)|(simp_all [freshM];done))
theorem TicketB_spec (w:World) (me:Int) (m:Msg) {N:Nat} (hw:w.fit N) (h5:21≤N) (hN:N≤400000000000) (hme:U me) (hr:Right10 w.people=true) (hin:me.toNat < w.people.length):Spec PP GG 252 [w.v,u32 me,m.v] (.tup [(ticketB w me m).1.v,i64 (ticketB w me m).2]) []:=by
 have hP:=person_spec w hw (by omega) me hme
 have hO:=open_spec w hw (by omega) (personW w me).key 3 m.box
 rw [← tG] at hO
 have hg:(tG w me m).1.ok:=openW_ok hw _ _ _
 have hPr:=pPair_spec w.people (tG w me m).1.a me hg.2.2.1 hme (by have:=hw.people;omega)
 have hFr:=fresh_spec (personW w me).clock (tG w me m).1.t w.conf.window (personW_ok hw me).2.2.1 hg.2.2.2.2.2.1 hw.ok.1.1
 have hMy:=uMay_spec (personW w me).used w.conf.used (tG w me m).1.k (by have:=personW_used hw me;omega)
 have hNo:=uNote_spec (personW w me).used w.conf.used (tG w me m).1.k (by have:=personW_used hw me;omega)
 have hRm:=room_spec' w hw (by omega) 1 1
 have hD:=draw_spec w hw (by omega)
 have hS:Spec PP GG 187 _ (.tup [(tS w (tG w me m).1).1.v,u32 (tS w (tG w me m).1).2.1,i64 (tS w (tG w me m).1).2.2]) []:=seal_spec (drawW w).1 (fit_draw hw (by omega)) (by omega) (tG w me m).1.k 4 ⟨(drawW w).2,0,0,0,0,0,0⟩
 have hU:(personW w me).runs.length≤N:=personW_runs hw me
 have hAd:=pAdd_spec (personW w me).runs w.conf.runs (tkRun w (tG w me m).1) (by omega)
 have hW:Spec PP GG 180 [(tS w (tG w me m).1).1.v,Person.v ⟨(personW w me).name,(personW w me).key,(personW w me).clock,(personW w me).used++[(tG w me m).1.k],(personW w me).runs++[tkRun w (tG w me m).1],(personW w me).corrupt⟩] (withW (tS w (tG w me m).1).1 (tP w me (tG w me m).1)).v []:=with_spec (tS w (tG w me m).1).1 (tS_fit hw h5 hN hg) (by omega) (tP w me (tG w me m).1) (tP_ok hw hN me hg).1
 have hL:Spec PP GG 184 _ (tY w me (tG w me m).1).v []:=log_spec (withW (tS w (tG w me m).1).1 (tP w me (tG w me m).1)) (tW_fit hw h5 hN me hg) (by omega) (tEv w me (tG w me m).1)
 have hSn:=send_spec (tY w me (tG w me m).1) (tY_fit hw h5 hN hme hg) (by omega) (tG w me m).1.a ⟨4,0,0,0,0,(tS w (tG w me m).1).2.1,0⟩ (boxMsg_ok (by decide) (tS_U hw hN _))
 rw [← tZ] at hSn
 have hz:=fun h => @tZ_ok w me (tG w me m).1 (tG w me m).1.a h
 have hnm:=name_of hr hme hin
 rw [hnm] at hW
 have ht := @toldT w (personW w me).key m.box
 rw [← tG] at ht
 clear hw hr hg
 cases c0:(tG w me m).2 with
 | false =>
   have e:ticketB w me m=(w,6):=by simp only [ticketB,c0,cond_false]
   rw [e]
   rw [c0] at hO
   refine Qs func252 ?_
   intro w0 M0
   simp only [f252,lf,z,seval]
   (refine qc func281 ?_;simp only [f281,lf,z,seval])
   (refine Qw 1 ?_;simp only [z,seval])
   (refine DU hP (h:=?_);simp only [z,seval])
   (refine ⟨by kernel_rfl,?_⟩)
   simp only [hnm,z,seval]
   (refine Qw 1 ?_;simp only [z,seval])
   (refine DU hO (h:=?_);simp only [z,seval])
   (refine ⟨by kernel_rfl,?_⟩)
   (refine Qf ?_;simp only [z,seval])
 | true =>
 rw [c0] at hO
 have ht:=ht c0
 cases c1:pairM w.people (tG w me m).1.a me with
 | false =>
   rw [c1] at hPr
   have e:ticketB w me m=(w,5):=by simp only [ticketB,c0,c1,cond_true,cond_false]
   rw [e]
   refine Qs func252 ?_
   intro w0 M0
   simp only [f252,lf,z,seval]
   (refine qc func281 ?_;simp only [f281,lf,z,seval])
   (refine Qw 1 ?_;simp only [z,seval])
   (refine DU hP (h:=?_);simp only [z,seval])
   (refine ⟨by kernel_rfl,?_⟩)
   simp only [hnm,z,seval]
   (refine Qw 1 ?_;simp only [z,seval])
   (refine DU hO (h:=?_);simp only [z,seval])
   (refine ⟨by kernel_rfl,?_⟩)
   (refine qc func282 ?_;simp only [f282,lf,z,seval])
   (refine Qw 0 ?_;simp only [z,seval])
   (refine DU hPr (h:=?_);simp only [z,seval])
   (refine ⟨by kernel_rfl,?_⟩)
   (refine Qf ?_;simp only [z,seval])
 | true =>
 rw [c1] at hPr
 cases c2:freshM (personW w me).clock (tG w me m).1.t w.conf.window with
 | false =>
   rw [c2] at hFr
   have e:ticketB w me m=(w,7):=by simp only [ticketB,c0,c1,c2,cond_true,cond_false]
   rw [e]
   refine Qs func252 ?_
   intro w0 M0
   simp only [f252,lf,z,seval]
   (refine qc func281 ?_;simp only [f281,lf,z,seval])
   (refine Qw 1 ?_;simp only [z,seval])
   (refine DU hP (h:=?_);simp only [z,seval])
   (refine ⟨by kernel_rfl,?_⟩)
   simp only [hnm,z,seval]
   (refine Qw 1 ?_;simp only [z,seval])
   (refine DU hO (h:=?_);simp only [z,seval])
   (refine ⟨by kernel_rfl,?_⟩)
   (refine qc func282 ?_;simp only [f282,lf,z,seval])
   (refine Qw 0 ?_;simp only [z,seval])
   (refine DU hPr (h:=?_);simp only [z,seval])
   (refine ⟨by kernel_rfl,?_⟩)
   (refine Qw 0 ?_;simp only [z,seval])
   (refine DU hFr (h:=?_);simp only [z,seval])
   (refine ⟨by kernel_rfl,?_⟩)
   (refine Qf ?_;simp only [z,seval])
 | true =>
 rw [c2] at hFr
 cases c3:(usedMay (personW w me).used w.conf.used (tG w me m).1.k==0) with
 | false =>
   have e:ticketB w me m=(w,usedMay (personW w me).used w.conf.used (tG w me m).1.k):=by simp only [ticketB,c0,c1,c2,c3,cond_true,cond_false]
   rw [e]
   refine Qs func252 ?_
   intro w0 M0
   simp only [f252,lf,z,seval]
   (refine qc func281 ?_;simp only [f281,lf,z,seval])
   (refine Qw 1 ?_;simp only [z,seval])
   (refine DU hP (h:=?_);simp only [z,seval])
   (refine ⟨by kernel_rfl,?_⟩)
   simp only [hnm,z,seval]
   (refine Qw 1 ?_;simp only [z,seval])
   (refine DU hO (h:=?_);simp only [z,seval])
   (refine ⟨by kernel_rfl,?_⟩)
   (refine qc func282 ?_;simp only [f282,lf,z,seval])
   (refine Qw 0 ?_;simp only [z,seval])
   (refine DU hPr (h:=?_);simp only [z,seval])
   (refine ⟨by kernel_rfl,?_⟩)
   (refine Qw 0 ?_;simp only [z,seval])
   (refine DU hFr (h:=?_);simp only [z,seval])
   (refine ⟨by kernel_rfl,?_⟩)
   (refine Qw 0 ?_;simp only [z,seval])
   (refine DU hMy (h:=?_);simp only [z,seval])
   (refine ⟨by kernel_rfl,?_⟩)
   simp only [c3,z,seval]
   (refine Qf ?_;simp only [z,seval])
 | true =>
 have hno:usedNote (personW w me).used w.conf.used (tG w me m).1.k=((personW w me).used++[(tG w me m).1.k],0):=by rw [usedNote,c3];rfl
 rw [hno] at hNo
 cases c4:full w (personW w me) with
 | true =>
   have e:ticketB w me m=(w,10):=by simp only [ticketB,c0,c1,c2,c3,c4,cond_true,cond_false,Bool.not_true,Bool.false_and]
   rw [e]
   simp only [full] at c4
   refine Qs func252 ?_
   intro w0 M0
   simp only [f252,lf,z,seval]
   (refine qc func281 ?_;simp only [f281,lf,z,seval])
   (refine Qw 1 ?_;simp only [z,seval])
   (refine DU hP (h:=?_);simp only [z,seval])
   (refine ⟨by kernel_rfl,?_⟩)
   simp only [hnm,z,seval]
   (refine Qw 1 ?_;simp only [z,seval])
   (refine DU hO (h:=?_);simp only [z,seval])
   (refine ⟨by kernel_rfl,?_⟩)
   (refine qc func282 ?_;simp only [f282,lf,z,seval])
   (refine Qw 0 ?_;simp only [z,seval])
   (refine DU hPr (h:=?_);simp only [z,seval])
   (refine ⟨by kernel_rfl,?_⟩)
   (refine Qw 0 ?_;simp only [z,seval])
   (refine DU hFr (h:=?_);simp only [z,seval])
   (refine ⟨by kernel_rfl,?_⟩)
   (refine Qw 0 ?_;simp only [z,seval])
   (refine DU hMy (h:=?_);simp only [z,seval])
   (refine ⟨by kernel_rfl,?_⟩)
   simp only [c3,z,seval]
   (refine Qw 0 ?_;simp only [z,seval])
   simp only [c4,z,seval]
   (refine ⟨by kernel_rfl,?_⟩)
   (refine Qf ?_;simp only [z,seval])
 | false =>
 have hadd:runsAdd (personW w me).runs w.conf.runs (tkRun w (tG w me m).1)=((personW w me).runs++[tkRun w (tG w me m).1],0):=by
  rw [full] at c4
  rw [runsAdd,c4];rfl
 rw [hadd] at hAd
 simp only [full] at c4
 cases c5:roomW w 1 1 with
 | false =>
   rw [c5] at hRm
   have e:ticketB w me m=(w,10):=by simp only [ticketB,c0,c1,c2,c3,c5,Bool.and_false,cond_true,cond_false]
   rw [e]
   refine Qs func252 ?_
   intro w0 M0
   simp only [f252,lf,z,seval]
   (refine qc func281 ?_;simp only [f281,lf,z,seval])
   (refine Qw 1 ?_;simp only [z,seval])
   (refine DU hP (h:=?_);simp only [z,seval])
   (refine ⟨by kernel_rfl,?_⟩)
   simp only [hnm,z,seval]
   (refine Qw 1 ?_;simp only [z,seval])
   (refine DU hO (h:=?_);simp only [z,seval])
   (refine ⟨by kernel_rfl,?_⟩)
   (refine qc func282 ?_;simp only [f282,lf,z,seval])
   (refine Qw 0 ?_;simp only [z,seval])
   (refine DU hPr (h:=?_);simp only [z,seval])
   (refine ⟨by kernel_rfl,?_⟩)
   (refine Qw 0 ?_;simp only [z,seval])
   (refine DU hFr (h:=?_);simp only [z,seval])
   (refine ⟨by kernel_rfl,?_⟩)
   (refine Qw 0 ?_;simp only [z,seval])
   (refine DU hMy (h:=?_);simp only [z,seval])
   (refine ⟨by kernel_rfl,?_⟩)
   simp only [c3,z,seval]
   (refine Qw 0 ?_;simp only [z,seval])
   simp only [c4,z,seval]
   (refine DU hRm (h:=?_);simp only [z,seval])
   (refine ⟨by kernel_rfl,?_⟩)
   (refine Qf ?_;simp only [z,seval])
 | true =>
 rw [c5] at hRm
 rw [hz c5] at hSn
 have e0:ticketB w me m=(bif (tS w (tG w me m).1).2.2==0 then (tZ w me (tG w me m).1,0) else (w,(tS w (tG w me m).1).2.2)):=by
  have c4':full w (personW w me)=false:=c4
  simp only [ticketB,c0,c1,c2,c3,c4',c5,Bool.true_and,cond_true,Bool.not_false]
 rw [e0]
 clear e0
 refine Qs func252 ?_
 intro w0 M0
 simp only [f252,lf,z,seval]
 (refine qc func281 ?_;simp only [f281,lf,z,seval])
 (refine Qw 1 ?_;simp only [z,seval])
 (refine DU hP (h:=?_);simp only [z,seval])
 (refine ⟨by kernel_rfl,?_⟩)
 simp only [hnm,z,seval]
 (refine Qw 1 ?_;simp only [z,seval])
 (refine DU hO (h:=?_);simp only [z,seval])
 (refine ⟨by kernel_rfl,?_⟩)
 (refine qc func282 ?_;simp only [f282,lf,z,seval])
 (refine Qw 0 ?_;simp only [z,seval])
 (refine DU hPr (h:=?_);simp only [z,seval])
 (refine ⟨by kernel_rfl,?_⟩)
 (refine Qw 0 ?_;simp only [z,seval])
 (refine DU hFr (h:=?_);simp only [z,seval])
 (refine ⟨by kernel_rfl,?_⟩)
 (refine Qw 0 ?_;simp only [z,seval])
 (refine DU hMy (h:=?_);simp only [z,seval])
 (refine ⟨by kernel_rfl,?_⟩)
 simp only [c3,z,seval]
 (refine Qw 0 ?_;simp only [z,seval])
 simp only [c4,z,seval]
 (refine DU hRm (h:=?_);simp only [z,seval])
 (refine ⟨by kernel_rfl,?_⟩)
 (refine CU hD (h:=?_);simp only [z,seval])
 (refine CU hS (h:=?_);simp only [z,seval])
 cases c6:((tS w (tG w me m).1).2.2==0) with
 | false =>
   simp only [c6,z,seval]
   (refine Qf ?_;simp only [z,seval])
 | true =>
 simp only [c6,z,seval]
 have hcf:(tS w (tG w me m).1).1.conf=w.conf:=by rw [tS,conf_seal];rfl
 rw [← hcf] at hNo hAd
 (refine Qw 0 ?_;simp only [z,seval])
 (refine DU hNo (h:=?_);simp only [z,seval])
 (refine ⟨by kernel_rfl,?_⟩)
 (refine Qw 0 ?_;simp only [z,seval])
 (refine DU hAd (h:=?_);simp only [z,seval])
 (refine ⟨by kernel_rfl,?_⟩)
 (refine qc func283 ?_;simp only [f283,lf,z,seval])
 (refine Qw 0 ?_;simp only [z,seval])
 (refine DU hW (h:=?_);simp only [z,seval])
 (refine DU hL (h:=?_);simp only [z,seval])
 (refine ⟨by kernel_rfl,?_⟩)
 (refine Qw 0 ?_;simp only [z,seval])
 (refine DU hSn (h:=?_);simp only [z,seval])
 (refine ⟨by kernel_rfl,?_⟩)
 (refine Qf ?_;simp only [z,seval])
theorem BackB_spec (w:World) (me:Int) (m:Msg) {N:Nat} (hw:w.fit N) (hN:N≤400000000000) (hme:U me) (hr:Right10 w.people=true):Spec PP GG 254 [w.v,u32 me,m.v] (.tup [(backB w me m).1.v,i64 (backB w me m).2]) []:=by
 have hP:=person_spec w hw (by omega) me hme
 have hU:(personW w me).runs.length≤N:=personW_runs hw me
 have hO:=fun k=>open_spec w hw (by omega) k 5 m.box
 have hNx:=fun f=>pNext_spec (personW w me).runs f 1 2 2 (by omega)
 have hFr:∀ i,(hi:i < (personW w me).runs.length)→_:=fun i hi=>fresh_spec (personW w me).clock (personW w me).runs[i].t w.conf.window (personW_ok hw me).2.2.1 (by have:=(runAt_ok hw me i).2.2.2.2.2.2.2.1;rw [runAt_get hi] at this;exact this) hw.ok.1.1
 have hS:∀ i,(hi:i < (personW w me).runs.length)→May09 (endR' (runAt (personW w me).runs i))=true→_:=fun i hi hm9=>pSetR_spec (personW w me).runs i (endR' (runAt (personW w me).runs i)) hi hm9 (by omega)
 have hwt:=fun i=>with_spec w hw (by omega) (setRun (personW w me) i (endR' (runAt (personW w me).runs i))) (personW_ok hw me).1
 have hL:∀ i,Spec PP GG 184 _ (kT w me i).v []:=fun i=>log_spec (withW w (setRun (personW w me) i (endR' (runAt (personW w me).runs i)))) (set_fit hw me i (endR'_ok (runAt_ok hw me i))) (by omega) ⟨4,1,2,(runAt (personW w me).runs i).peer,me,(runAt (personW w me).runs i).k,(runAt (personW w me).runs i).t,0,(runAt (personW w me).runs i).mine,(personW w me).clock⟩
 have hnm:=fun h=>name_of hr hme h
 have hfa := @first_at (personW w me).runs (kQ w m)
 have hfn := @first_none (personW w me).runs (kQ w m)
 have hsh:backB w me m=match (personW w me).runs.findIdx? (kQ w m) with
  | none=>(w,(6:Int))
  | some i=>bif freshM (personW w me).clock (runAt (personW w me).runs i).t w.conf.window then (kT w me i,(0:Int)) else (w,(7:Int)):=rfl
 have hkq:∀ r,isRun 1 2 2 r=false→kQ w m r=false:=fun r h=>by rw [kQ,h];rfl
 have hin:∀ i,i < (personW w me).runs.length→me.toNat < w.people.length:=fun i h=>has_runs h
 have hrun:∀ i,i < (personW w me).runs.length→isRun 1 2 2 (runAt (personW w me).runs i)=true→May09 (endR' (runAt (personW w me).runs i))=true:=fun i _ h=>by
  simp only [isRun,Bool.and_eq_true,beq_iff_eq] at h
  rw [endR',h.1,h.2.1];rfl
 clear hw hr
 generalize hp:personW w me=p at *
 refine Qs func254 ?_
 intro w0 M0
 simp only [f254,lf,z,seval]
 (refine qc func281 ?_;simp only [f281,lf,z,seval])
 (refine Qw 1 ?_;simp only [z,seval])
 (refine DU hP (h:=?_);simp only [z,seval])
 (refine ⟨by kernel_rfl,?_⟩)
 (refine qc func285 ?_;simp only [f285,lf,z,seval])
 (refine CU (hNx 0) (h:=?_);simp only [z,seval])
 refine RUNs_rangeS (p.runs.length + 1) (fun j (f:Nat)=>j≤f∧f≤p.runs.length ∧ ∀ i,i < f→kQ w m (runAt p.runs i)=false) (fun _ f=>[(6,i64 ((nextR p.runs f (isRun 1 2 2)).getD 0:Nat)),(7,.bool (nextR p.runs f (isRun 1 2 2)).isSome)]) (fun _ _=>[]) 0 ?_ (by simp only [z,seval];exact wk) rfl ?_
 ·exact ⟨Nat.le_refl _,Nat.zero_le _,fun i hi=>absurd hi (Nat.not_lt_zero _)⟩
 rintro ⟨j,f,hj,h1,h2,h3⟩
 simp only [z,seval]
 cases c:nextR p.runs f (isRun 1 2 2) with
 | none =>
   have e:p.runs.findIdx? (kQ w m)=none:=hfn (fun i hi=>by
    rcases Nat.lt_or_ge i f with h|h
    ·exact h3 i h
    ·exact hkq _ (nextR_none c i h hi))
   rw [e] at hsh
   simp only [Option.isSome_none,Option.getD_none,z,seval]
   (refine Qf ?_;simp only [z,seval])
   simp only [hsh,z,seval]
 | some i =>
   obtain ⟨n1,n2,n3,n4⟩:=nextR_some c
   have h4:∀ k,k < i→kQ w m (runAt p.runs k)=false:=fun k hk=>by
    rcases Nat.lt_or_ge k f with h|h
    ·exact h3 k h
    ·exact hkq _ (n4 k h hk)
   have hg:=runAt_get n1
   have hO:=hO p.runs[i].k
   have hFr:=hFr i n1
   have hS:=hS i n1 (hrun i n1 n3)
   have hwt:=hwt i
   have hL:=hL i
   have hnm:=hnm (hin i n1)
   rw [hg] at hS hwt
   simp only [Option.isSome_some,Option.getD_some,getMap Run.v p.runs n1,z,seval]
   (refine Qw 1 ?_;simp only [z,seval])
   (refine DU hO (h:=?_);simp only [z,seval])
   (refine ⟨by kernel_rfl,?_⟩)
   cases d:kQ w m p.runs[i] with
   | true =>
     have e:=hfa n1 (by rw [hg];exact d) h4
     rw [e] at hsh
     simp only [hg] at hsh
     simp only [kQ,Bool.and_eq_true] at d
     simp only [setRun,endR',hnm,hg] at hS hwt hL
     simp only [d.2.1,d.2.2,z,seval]
     simp only [getMap Run.v p.runs n1,z,seval]
     (refine Qw 0 ?_;simp only [z,seval])
     (refine DU hFr (h:=?_);simp only [z,seval])
     (refine ⟨by kernel_rfl,?_⟩)
     cases d2:freshM p.clock p.runs[i].t w.conf.window with
     | false =>
       rw [d2] at hsh
       simp only [d2,z,seval]
       (refine Qf ?_;simp only [z,seval])
       simp only [hsh,cond_false,z,seval]
     | true =>
       rw [d2] at hsh
       simp only [d2,z,seval]
       (refine Qw 0 ?_;simp only [z,seval])
       (refine DU hS (h:=?_);simp only [z,seval])
       (refine ⟨by kernel_rfl,?_⟩)
       (refine qc func283 ?_;simp only [f283,lf,z,seval])
       (refine Qw 0 ?_;simp only [z,seval])
       simp only [hnm,z,seval]
       (refine DU hwt (h:=?_);simp only [z,seval])
       (refine DU hL (h:=?_);simp only [z,seval])
       (refine ⟨by kernel_rfl,?_⟩)
       (refine Qf ?_;simp only [z,seval])
       simp only [hsh,cond_true,z,seval]
   | false =>
     have hs:∀ k,k < i + 1→kQ w m (runAt p.runs k)=false:=fun k hk=>by
      rcases Nat.lt_or_ge k i with h|h
      ·exact h4 k h
      ·obtain rfl:k=i:=by omega
       rw [hg];exact d
     have hlt:j < p.runs.length + 1:=by omega
     rw [hg] at n3
     simp only [kQ,n3,Bool.true_and] at d
     cases d1:(openW w p.runs[i].k 5 m.box).2 with
     | false =>
       simp only [d1,w64s (i:=i) (by omega),z,seval]
       (refine CU (hNx (i + 1)) (h:=?_);simp only [z,seval])
       (refine NX (i + 1) ?_ (by rfl) hlt ?_;simp only [z,seval];exact wk)
       exact ⟨by show j + 1≤i + 1;omega,n1,hs⟩
     | true =>
       rw [d1,Bool.true_and] at d
       simp only [d1,d,w64s (i:=i) (by omega),z,seval]
       (refine CU (hNx (i + 1)) (h:=?_);simp only [z,seval])
       (refine NX (i + 1) ?_ (by rfl) hlt ?_;simp only [z,seval];exact wk)
       exact ⟨by show j + 1≤i + 1;omega,n1,hs⟩
end Ch
