import Derived.Test.YtaebkmmjjabnaaaGreatDoorW38
import Derived.Test.YtaebkmmjjabnaaaGreatDoorW39
set_option maxRecDepth 100000
set_option maxHeartbeats 4000000
set_option linter.unusedSimpArgs false
set_option linter.unusedVariables false
namespace Ch
open Go Go.Ab Go.Proofs.Tryz
theorem rDeliver_spec (w:World) (to:Int) (l:List Int) {N:Nat} (hw:w.fit N) (h5:21≤N) (hN:N≤400000000000) (ht:U to) (hu:∀ x∈l,U x) (hl:l.length≤1099511627776) (hr:Right10 w.people=true) (hb7:Right07 w.box=true):Spec PP GG 76 [w.v,u32 to,wordsV l] (.tup [(deliverM w to l).1.v,i64 (deliverM w to l).2]) []:=by
 have h1:=rGet_spec w.people to (by have:=hw.people;omega)
 rw [rGetS_right hr ht] at h1
 have h2:=rGet03_spec l hu hl
 unfold deliverM
 cases c1:decide (to.toNat < w.people.length) with
 | false =>
   rw [c1] at h1
   refine Qs func76 ?_
   intro w0 M0
   simp only [f76,lf,z,seval]
   (refine CU h1 (h:=?_);simp only [z,seval])
   (refine Qf ?_;simp only [z,seval])
 | true =>
 rw [c1] at h1
 cases c2:((msgGet l).2==0) with
 | false =>
   refine Qs func76 ?_
   intro w0 M0
   simp only [f76,lf,z,seval]
   (refine CU h1 (h:=?_);simp only [z,seval])
   (refine CU h2 (h:=?_);simp only [z,seval])
   simp only [c2,z,seval]
   (refine Qf ?_;simp only [z,seval])
 | true =>
 have c2':(msgGet l).2=0:=by simpa using c2
 have hm:=msgGet_U hu c2'
 have hk:=kind9 (may_kd (msgGet_ok hu (Prod.ext rfl c2':msgGet l=((msgGet l).1,0))).1)
 rw [c2'] at h2
 generalize (msgGet l).1=m at hm hk h2
 have t1:=rGrant_spec w m hw h5 hN hm hr
 have t7:=rShare_spec w m hw h5 hN hm hr hb7
 have t2:=rGrantN_spec w to m hw h5 hN ht hr hb7
 have t3:=rTicketB_spec w to m hw h5 hN ht hr hb7
 have t4:=rEchoN_spec w to m hw h5 hN ht hr hb7
 have t5:=rBackB_spec w to m hw hN ht hr hb7
 have t6:=rFirstB_spec w to m hw h5 hN ht hm hr
 have t8:=rShareB_spec w to m hw h5 hN ht hm hr hb7
 have t9:=rShareO_spec w to m hw hN ht hr hb7
 obtain ⟨k,run,a,b,nonce,box,more⟩:=m
 simp only at hk
 simp only [cond_true,takeM]
 clear hw hu hr hb7 hm
 cases c0:(to==0) with
 | true =>
   rcases hk with rfl|rfl|rfl|rfl|rfl|rfl|rfl|rfl|rfl
   all_goals
    refine Qs func76 ?_
    intro w0 M0
    simp only [f76,lf,z,seval]
    (refine CU h1 (h:=?_);simp only [z,seval])
    (refine CU h2 (h:=?_);simp only [z,seval])
    simp only [c0,Int.reduceBEq,cond_true,cond_false,z,seval]
    first|((refine CU t1 (h:=?_);simp only [z,seval]);(refine Qf ?_;simp only [z,seval]);done)|((refine CU t7 (h:=?_);simp only [z,seval]);(refine Qf ?_;simp only [z,seval]);done)|((refine Qf ?_;simp only [z,seval]);done)
 | false =>
   rcases hk with rfl|rfl|rfl|rfl|rfl|rfl|rfl|rfl|rfl
   all_goals
    refine Qs func76 ?_
    intro w0 M0
    simp only [f76,lf,z,seval]
    (refine CU h1 (h:=?_);simp only [z,seval])
    (refine CU h2 (h:=?_);simp only [z,seval])
    simp only [c0,Int.reduceBEq,cond_true,cond_false,z,seval]
    first|((refine CU t2 (h:=?_);simp only [z,seval]);(refine Qf ?_;simp only [z,seval]);done)|((refine CU t3 (h:=?_);simp only [z,seval]);(refine Qf ?_;simp only [z,seval]);done)|((refine CU t4 (h:=?_);simp only [z,seval]);(refine Qf ?_;simp only [z,seval]);done)|((refine CU t5 (h:=?_);simp only [z,seval]);(refine Qf ?_;simp only [z,seval]);done)|((refine CU t6 (h:=?_);simp only [z,seval]);(refine Qf ?_;simp only [z,seval]);done)|((refine CU t8 (h:=?_);simp only [z,seval]);(refine Qf ?_;simp only [z,seval]);done)|((refine CU t9 (h:=?_);simp only [z,seval]);(refine Qf ?_;simp only [z,seval]);done)|((refine Qf ?_;simp only [z,seval]);done)
theorem rStep_8 (w:World) {N:Nat} (hw:w.fit N) (h5:64≤N) (hN:N≤400000000000) (hr:Right10 w.people=true) (hb7:Right07 w.box=true) (hnet:0≤w.net.room∧w.net.room≤1099511627776) (a b c d:Int) (ws:List Int):Spec PP GG 26 [w.v,Op.v ⟨8,a,b,c,d,ws⟩] (.tup [(tick8 w ⟨8,a,b,c,d,ws⟩).1.v,i64 (tick8 w ⟨8,a,b,c,d,ws⟩).2]) []:=by
 have hgr:=hw.grams
 unfold tick8
 cases c1:decide (a < 0) with
 | true =>
   try simp only [Bool.true_or,Bool.or_true,Bool.false_or,Bool.or_false,cond_true,cond_false]
   refine Qs func26 ?_
   intro w0 M0
   simp only [f26,lf,z,seval]
   repeat' ((first|refine brk (fun h=>?_) (fun h=>?_)|fail)<;>simp only [h,c1,z,seval])
   all_goals (refine Qf ?_;simp only [z,seval])
   all_goals (try rfl)
 | false =>
 cases c2:decide (a≥(w.people.length:Int)) with
 | true =>
   try simp only [Bool.true_or,Bool.or_true,Bool.false_or,Bool.or_false,cond_true,cond_false]
   refine Qs func26 ?_
   intro w0 M0
   simp only [f26,lf,z,seval]
   repeat' ((first|refine brk (fun h=>?_) (fun h=>?_)|fail)<;>simp only [h,c1,c2,z,seval])
   all_goals (refine Qf ?_;simp only [z,seval])
   all_goals (try rfl)
 | false =>
 cases c3:decide (b < 0) with
 | true =>
   try simp only [Bool.true_or,Bool.or_true,Bool.false_or,Bool.or_false,cond_true,cond_false]
   refine Qs func26 ?_
   intro w0 M0
   simp only [f26,lf,z,seval]
   repeat' ((first|refine brk (fun h=>?_) (fun h=>?_)|fail)<;>simp only [h,c1,c2,c3,z,seval])
   all_goals (refine Qf ?_;simp only [z,seval])
   all_goals (try rfl)
 | false =>
 obtain ⟨a,rfl⟩:=Int.eq_ofNat_of_zero_le (show 0≤a by have:=of_decide_eq_false c1;omega)
 have hb0:0≤b:=by have:=of_decide_eq_false c3;omega
 have hlt:a < w.people.length:=by have:=of_decide_eq_false c2;omega
 have g:=getMap Person.v w.people hlt
 simp only [mv] at g
 have hp:personW w (a:Int)=w.people[a]:=by unfold personW;rw [Int.toNat_natCast];exact get_in9 hlt
 have hPo:=hw.ok.2.2.2.2.1.2 _ (List.getElem_mem hlt)
 have h1:=rtick_spec w.people[a].clock (capT b) hPo.2.2.1 (capT_U hb0)
 have h2:=rWith_spec w hw (by omega) hr { w.people[a] with clock:=tickM w.people[a].clock (capT b) } hPo.1
 have hcap:(if (1073741824:Int) < b then 1073741824 else b)=capT b:=rfl
 have hcw:=capT_wrap hb0
 simp only [Bool.false_or,cond_false,hp]
 try simp only [Bool.true_or,Bool.or_true,Bool.false_or,Bool.or_false,cond_true,cond_false]
 refine Qs func26 ?_
 intro w0 M0
 simp only [f26,lf,z,seval]
 repeat' ((first|refine brk (fun h=>?_) (fun h=>?_)|fail)<;>simp only [h,c1,c2,c3,g,z,seval])
 all_goals
  refine RUNs_min (by rfl) (by rfl) (by rfl) ?_
  simp only [hcap,hcw,z,seval]
  (refine CU h1 (h:=?_);simp only [z,seval])
  (refine CU h2 (h:=?_);simp only [z,seval])
  (refine Qf ?_;simp only [z,seval])
  all_goals (try rfl)
theorem rStep_9 (w:World) {N:Nat} (hw:w.fit N) (h5:64≤N) (hN:N≤400000000000) (hr:Right10 w.people=true) (hb7:Right07 w.box=true) (hnet:0≤w.net.room∧w.net.room≤1099511627776) (a b c d:Int) (ws:List Int):Spec PP GG 26 [w.v,Op.v ⟨9,a,b,c,d,ws⟩] (.tup [(begin9 w ⟨9,a,b,c,d,ws⟩).1.v,i64 (begin9 w ⟨9,a,b,c,d,ws⟩).2]) []:=by
 have hgr:=hw.grams
 cases a1:decide (a≥0) with
 | false =>
   rw [show begin9 w ⟨9,a,b,c,d,ws⟩=(w,5) by simp only [begin9,nameB_1 a1,Bool.false_and,cond_false]]
   try simp only [Bool.true_or,Bool.or_true,Bool.false_or,Bool.or_false,cond_true,cond_false]
   refine Qs func26 ?_
   intro w0 M0
   simp only [f26,lf,z,seval]
   simp only [a1,z,seval]
   repeat' ((first|refine brk (fun h=>?_) (fun h=>?_)|fail)<;>simp only [h,a1,z,seval])
   all_goals (refine Qf ?_;simp only [z,seval])
   all_goals (try rfl)
 | true =>
 cases a2:decide (a≤255) with
 | false =>
   rw [show begin9 w ⟨9,a,b,c,d,ws⟩=(w,5) by simp only [begin9,nameB_2 a2,Bool.false_and,cond_false]]
   try simp only [Bool.true_or,Bool.or_true,Bool.false_or,Bool.or_false,cond_true,cond_false]
   refine Qs func26 ?_
   intro w0 M0
   simp only [f26,lf,z,seval]
   simp only [a1,a2,z,seval]
   repeat' ((first|refine brk (fun h=>?_) (fun h=>?_)|fail)<;>simp only [h,a1,a2,z,seval])
   all_goals (refine Qf ?_;simp only [z,seval])
   all_goals (try rfl)
 | true =>
 cases b1:decide (b≥0) with
 | false =>
   rw [show begin9 w ⟨9,a,b,c,d,ws⟩=(w,5) by simp only [begin9,nameB_1 b1,Bool.and_false,cond_false]]
   try simp only [Bool.true_or,Bool.or_true,Bool.false_or,Bool.or_false,cond_true,cond_false]
   refine Qs func26 ?_
   intro w0 M0
   simp only [f26,lf,z,seval]
   simp only [a1,a2,b1,z,seval]
   (refine Qf ?_;simp only [z,seval])
   all_goals (try rfl)
 | true =>
 cases b2:decide (b≤255) with
 | false =>
   rw [show begin9 w ⟨9,a,b,c,d,ws⟩=(w,5) by simp only [begin9,nameB_2 b2,Bool.and_false,cond_false]]
   try simp only [Bool.true_or,Bool.or_true,Bool.false_or,Bool.or_false,cond_true,cond_false]
   refine Qs func26 ?_
   intro w0 M0
   simp only [f26,lf,z,seval]
   simp only [a1,a2,b1,b2,z,seval]
   (refine Qf ?_;simp only [z,seval])
   all_goals (try rfl)
 | true =>
 rw [show begin9 w ⟨9,a,b,c,d,ws⟩=startN w a b by simp only [begin9,nameB_of a1 a2,nameB_of b1 b2];rfl]
 have h1:=rStartN_spec w a b hw (by omega) hN (nameB_U (nameB_of a1 a2)) (nameB_U (nameB_of b1 b2)) hr
 have wa:=nameU a1 a2
 have wb:=nameU b1 b2
 try simp only [Bool.true_or,Bool.or_true,Bool.false_or,Bool.or_false,cond_true,cond_false]
 refine Qs func26 ?_
 intro w0 M0
 simp only [f26,lf,z,seval]
 simp only [a1,a2,b1,b2,wa,wb,z,seval]
 (refine CU h1 (h:=?_);simp only [z,seval])
 (refine Qf ?_;simp only [z,seval])
 all_goals (try rfl)
theorem rStep_10 (w:World) {N:Nat} (hw:w.fit N) (h5:64≤N) (hN:N≤400000000000) (hr:Right10 w.people=true) (hb7:Right07 w.box=true) (hnet:0≤w.net.room∧w.net.room≤1099511627776) (a b c d:Int) (ws:List Int):Spec PP GG 26 [w.v,Op.v ⟨10,a,b,c,d,ws⟩] (.tup [(begin9 w ⟨10,a,b,c,d,ws⟩).1.v,i64 (begin9 w ⟨10,a,b,c,d,ws⟩).2]) []:=by
 have hgr:=hw.grams
 cases a1:decide (a≥0) with
 | false =>
   rw [show begin9 w ⟨10,a,b,c,d,ws⟩=(w,5) by simp only [begin9,nameB_1 a1,Bool.false_and,cond_false]]
   try simp only [Bool.true_or,Bool.or_true,Bool.false_or,Bool.or_false,cond_true,cond_false]
   refine Qs func26 ?_
   intro w0 M0
   simp only [f26,lf,z,seval]
   simp only [a1,z,seval]
   repeat' ((first|refine brk (fun h=>?_) (fun h=>?_)|fail)<;>simp only [h,a1,z,seval])
   all_goals (refine Qf ?_;simp only [z,seval])
   all_goals (try rfl)
 | true =>
 cases a2:decide (a≤255) with
 | false =>
   rw [show begin9 w ⟨10,a,b,c,d,ws⟩=(w,5) by simp only [begin9,nameB_2 a2,Bool.false_and,cond_false]]
   try simp only [Bool.true_or,Bool.or_true,Bool.false_or,Bool.or_false,cond_true,cond_false]
   refine Qs func26 ?_
   intro w0 M0
   simp only [f26,lf,z,seval]
   simp only [a1,a2,z,seval]
   repeat' ((first|refine brk (fun h=>?_) (fun h=>?_)|fail)<;>simp only [h,a1,a2,z,seval])
   all_goals (refine Qf ?_;simp only [z,seval])
   all_goals (try rfl)
 | true =>
 cases b1:decide (b≥0) with
 | false =>
   rw [show begin9 w ⟨10,a,b,c,d,ws⟩=(w,5) by simp only [begin9,nameB_1 b1,Bool.and_false,cond_false]]
   try simp only [Bool.true_or,Bool.or_true,Bool.false_or,Bool.or_false,cond_true,cond_false]
   refine Qs func26 ?_
   intro w0 M0
   simp only [f26,lf,z,seval]
   simp only [a1,a2,b1,z,seval]
   (refine Qf ?_;simp only [z,seval])
   all_goals (try rfl)
 | true =>
 cases b2:decide (b≤255) with
 | false =>
   rw [show begin9 w ⟨10,a,b,c,d,ws⟩=(w,5) by simp only [begin9,nameB_2 b2,Bool.and_false,cond_false]]
   try simp only [Bool.true_or,Bool.or_true,Bool.false_or,Bool.or_false,cond_true,cond_false]
   refine Qs func26 ?_
   intro w0 M0
   simp only [f26,lf,z,seval]
   simp only [a1,a2,b1,b2,z,seval]
   (refine Qf ?_;simp only [z,seval])
   all_goals (try rfl)
 | true =>
 rw [show begin9 w ⟨10,a,b,c,d,ws⟩=startO w a b by simp only [begin9,nameB_of a1 a2,nameB_of b1 b2];rfl]
 have h1:=rStartO_spec w a b hw (by omega) hN (nameB_U (nameB_of a1 a2)) (nameB_U (nameB_of b1 b2)) hr
 have wa:=nameU a1 a2
 have wb:=nameU b1 b2
 try simp only [Bool.true_or,Bool.or_true,Bool.false_or,Bool.or_false,cond_true,cond_false]
 refine Qs func26 ?_
 intro w0 M0
 simp only [f26,lf,z,seval]
 simp only [a1,a2,b1,b2,wa,wb,z,seval]
 (refine CU h1 (h:=?_);simp only [z,seval])
 (refine Qf ?_;simp only [z,seval])
 all_goals (try rfl)
theorem rStep_11 (w:World) {N:Nat} (hw:w.fit N) (h5:64≤N) (hN:N≤400000000000) (hr:Right10 w.people=true) (hb7:Right07 w.box=true) (hnet:0≤w.net.room∧w.net.room≤1099511627776) (a b c d:Int) (ws:List Int):Spec PP GG 26 [w.v,Op.v ⟨11,a,b,c,d,ws⟩] (.tup [(deliver11 w ⟨11,a,b,c,d,ws⟩).1.v,i64 (deliver11 w ⟨11,a,b,c,d,ws⟩).2]) []:=by
 have hgr:=hw.grams
 have hTk:=rTakeN_spec w.net a (by omega)
 rw [take_w] at hTk
 unfold deliver11
 cases ci:inNet w a with
 | false =>
   rw [ci] at hTk
   simp only [cond_false] at hTk ⊢
   try simp only [Bool.true_or,Bool.or_true,Bool.false_or,Bool.or_false,cond_true,cond_false]
   refine Qs func26 ?_
   intro w0 M0
   simp only [f26,lf,z,seval]
   repeat' ((first|refine brk (fun h=>?_) (fun h=>?_)|fail)<;>simp only [h,z,seval])
   all_goals
    (refine CU hTk (h:=?_);simp only [z,seval])
    (refine Qf ?_;simp only [z,seval])
    all_goals (try rfl)
 | true =>
   rw [ci] at hTk
   simp only [cond_true] at hTk ⊢
   have hg:=gramAt_ok hw a
   have h1:=rDeliver_spec (gone w a) (gramAt w a).to (gramAt w a).words (gone_fit hw a) (by omega) hN hg.1.1 hg.1.2.2 (by have:=hg.2;omega) hr hb7
   try simp only [Bool.true_or,Bool.or_true,Bool.false_or,Bool.or_false,cond_true,cond_false]
   refine Qs func26 ?_
   intro w0 M0
   simp only [f26,lf,z,seval]
   repeat' ((first|refine brk (fun h=>?_) (fun h=>?_)|fail)<;>simp only [h,z,seval])
   all_goals
    (refine CU hTk (h:=?_);simp only [z,seval])
    (refine CU h1 (h:=?_);simp only [z,seval])
    (refine Qf ?_;simp only [z,seval])
    all_goals (try rfl)
theorem rStep_12 (w:World) {N:Nat} (hw:w.fit N) (h5:64≤N) (hN:N≤400000000000) (hr:Right10 w.people=true) (hb7:Right07 w.box=true) (hnet:0≤w.net.room∧w.net.room≤1099511627776) (a b c d:Int) (ws:List Int):Spec PP GG 26 [w.v,Op.v ⟨12,a,b,c,d,ws⟩] (.tup [(drop12 w ⟨12,a,b,c,d,ws⟩).1.v,i64 (drop12 w ⟨12,a,b,c,d,ws⟩).2]) []:=by
 have hgr:=hw.grams
 have hTk:=rTakeN_spec w.net a (by omega)
 rw [take_w] at hTk
 unfold drop12
 cases ci:inNet w a with
 | false =>
   rw [ci] at hTk
   simp only [cond_false] at hTk ⊢
   try simp only [Bool.true_or,Bool.or_true,Bool.false_or,Bool.or_false,cond_true,cond_false]
   refine Qs func26 ?_
   intro w0 M0
   simp only [f26,lf,z,seval]
   repeat' ((first|refine brk (fun h=>?_) (fun h=>?_)|fail)<;>simp only [h,z,seval])
   all_goals
    (refine CU hTk (h:=?_);simp only [z,seval])
    (refine Qf ?_;simp only [z,seval])
    all_goals (try rfl)
 | true =>
   rw [ci] at hTk
   simp only [cond_true] at hTk ⊢
   try simp only [Bool.true_or,Bool.or_true,Bool.false_or,Bool.or_false,cond_true,cond_false]
   refine Qs func26 ?_
   intro w0 M0
   simp only [f26,lf,z,seval]
   repeat' ((first|refine brk (fun h=>?_) (fun h=>?_)|fail)<;>simp only [h,z,seval])
   all_goals
    (refine CU hTk (h:=?_);simp only [z,seval])
    (refine Qf ?_;simp only [z,seval])
    all_goals (try rfl)
theorem rStep_13 (w:World) {N:Nat} (hw:w.fit N) (h5:64≤N) (hN:N≤400000000000) (hr:Right10 w.people=true) (hb7:Right07 w.box=true) (hnet:0≤w.net.room∧w.net.room≤1099511627776) (a b c d:Int) (ws:List Int):Spec PP GG 26 [w.v,Op.v ⟨13,a,b,c,d,ws⟩] (.tup [(double13 w ⟨13,a,b,c,d,ws⟩).1.v,i64 (double13 w ⟨13,a,b,c,d,ws⟩).2]) []:=by
 have hgr:=hw.grams
 have hDb:=rDoubleN_spec w.net a hnet (by omega)
 rw [double_w] at hDb
 unfold double13
 cases ci:inNet w a with
 | false =>
   rw [ci] at hDb
   simp only [cond_false] at hDb ⊢
   try simp only [Bool.true_or,Bool.or_true,Bool.false_or,Bool.or_false,cond_true,cond_false]
   refine Qs func26 ?_
   intro w0 M0
   simp only [f26,lf,z,seval]
   repeat' ((first|refine brk (fun h=>?_) (fun h=>?_)|fail)<;>simp only [h,z,seval])
   all_goals
    (refine CU hDb (h:=?_);simp only [z,seval])
    (refine Qf ?_;simp only [z,seval])
    all_goals (try rfl)
 | true =>
 rw [ci] at hDb
 cases cf:decide (w.net.room - (w.net.grams.length:Int) < 1) with
 | true =>
   rw [cf] at hDb
   simp only [cond_true] at hDb ⊢
   try simp only [Bool.true_or,Bool.or_true,Bool.false_or,Bool.or_false,cond_true,cond_false]
   refine Qs func26 ?_
   intro w0 M0
   simp only [f26,lf,z,seval]
   repeat' ((first|refine brk (fun h=>?_) (fun h=>?_)|fail)<;>simp only [h,z,seval])
   all_goals
    (refine CU hDb (h:=?_);simp only [z,seval])
    (refine Qf ?_;simp only [z,seval])
    all_goals (try rfl)
 | false =>
   rw [cf] at hDb
   simp only [cond_true,cond_false] at hDb ⊢
   try simp only [Bool.true_or,Bool.or_true,Bool.false_or,Bool.or_false,cond_true,cond_false]
   refine Qs func26 ?_
   intro w0 M0
   simp only [f26,lf,z,seval]
   repeat' ((first|refine brk (fun h=>?_) (fun h=>?_)|fail)<;>simp only [h,z,seval])
   all_goals
    (refine CU hDb (h:=?_);simp only [z,seval])
    (refine Qf ?_;simp only [z,seval])
    all_goals (try rfl)
theorem rStep_14 (w:World) {N:Nat} (hw:w.fit N) (h5:64≤N) (hN:N≤400000000000) (hr:Right10 w.people=true) (hb7:Right07 w.box=true) (hnet:0≤w.net.room∧w.net.room≤1099511627776) (a b c d:Int) (ws:List Int):Spec PP GG 26 [w.v,Op.v ⟨14,a,b,c,d,ws⟩] (.tup [(inject14 w ⟨14,a,b,c,d,ws⟩).1.v,i64 (inject14 w ⟨14,a,b,c,d,ws⟩).2]) []:=by
 have hgr:=hw.grams
 unfold inject14
 cases c1:decide (a < 0) with
 | true =>
   rw [regM_none (w:=w) (i:=a) (by rw [c1];rfl)]
   try simp only [Bool.true_or,Bool.or_true,Bool.false_or,Bool.or_false,cond_true,cond_false]
   refine Qs func26 ?_
   intro w0 M0
   simp only [f26,lf,z,seval]
   repeat' ((first|refine brk (fun h=>?_) (fun h=>?_)|fail)<;>simp only [h,c1,z,seval])
   all_goals (refine Qf ?_;simp only [z,seval])
   all_goals (try rfl)
 | false =>
 cases c2:decide (a≥(w.regs.length:Int)) with
 | true =>
   rw [regM_none (w:=w) (i:=a) (by rw [c1,c2];rfl)]
   try simp only [Bool.true_or,Bool.or_true,Bool.false_or,Bool.or_false,cond_true,cond_false]
   refine Qs func26 ?_
   intro w0 M0
   simp only [f26,lf,z,seval]
   repeat' ((first|refine brk (fun h=>?_) (fun h=>?_)|fail)<;>simp only [h,c1,c2,z,seval])
   all_goals (refine Qf ?_;simp only [z,seval])
   all_goals (try rfl)
 | false =>
 obtain ⟨a,rfl⟩:=Int.eq_ofNat_of_zero_le (show 0≤a by have:=of_decide_eq_false c1;omega)
 have hlt:a < w.regs.length:=by have:=of_decide_eq_false c2;omega
 have hm:=regM_at hlt
 have g:=getMap wordsV w.regs hlt
 simp only [mv] at g
 have hl:=regM_ok hw hm
 simp only [hm]
 cases b1:decide (b≥0) with
 | false =>
   rw [nameB_1 b1]
   try simp only [Bool.true_or,Bool.or_true,Bool.false_or,Bool.or_false,cond_true,cond_false]
   refine Qs func26 ?_
   intro w0 M0
   simp only [f26,lf,z,seval]
   repeat' ((first|refine brk (fun h=>?_) (fun h=>?_)|fail)<;>simp only [h,c1,c2,b1,z,seval])
   all_goals (refine Qf ?_;simp only [z,seval])
   all_goals (try rfl)
 | true =>
 cases b2:decide (b≤255) with
 | false =>
   rw [nameB_2 b2]
   try simp only [Bool.true_or,Bool.or_true,Bool.false_or,Bool.or_false,cond_true,cond_false]
   refine Qs func26 ?_
   intro w0 M0
   simp only [f26,lf,z,seval]
   repeat' ((first|refine brk (fun h=>?_) (fun h=>?_)|fail)<;>simp only [h,c1,c2,b1,b2,z,seval])
   all_goals (refine Qf ?_;simp only [z,seval])
   all_goals (try rfl)
 | true =>
 rw [nameB_of b1 b2]
 have h1:=rDeliver_spec w b w.regs[a] hw (by omega) hN (nameB_U (nameB_of b1 b2)) hl.1.2 (by have:=hl.2;omega) hr hb7
 have wb:=nameU b1 b2
 simp only [cond_true]
 try simp only [Bool.true_or,Bool.or_true,Bool.false_or,Bool.or_false,cond_true,cond_false]
 refine Qs func26 ?_
 intro w0 M0
 simp only [f26,lf,z,seval]
 repeat' ((first|refine brk (fun h=>?_) (fun h=>?_)|fail)<;>simp only [h,c1,c2,b1,b2,z,seval])
 all_goals
  (refine Qw 0 ?_;simp only [z,seval])
  simp only [g,wb,z,seval]
  (refine DU h1 (h:=?_);simp only [z,seval])
  (refine ⟨by kernel_rfl,?_⟩)
  try simp only [z,seval]
  (refine Qf ?_;simp only [z,seval])
  all_goals (try rfl)
theorem rStep_spec (w:World) {N:Nat} (hw:w.fit N) (h5:64≤N) (hN:N≤400000000000) (hrN:w.regs.length≤1000000) (hr:Right10 w.people=true) (hb7:Right07 w.box=true) (hnet:0≤w.net.room∧w.net.room≤1099511627776) (o:Op) (ho:o.ok):Spec PP GG 26 [w.v,o.v] (.tup [(stepM w o).1.v,i64 (stepM w o).2]) []:=by
 have hA:=rDo_spec w hw h5 hN hrN hr hb7 o ho
 obtain ⟨k,a,b,c,d,ws⟩:=o
 cases ck1:decide (k≥0) with
 | false =>
   rw [step_none (.inl (by have:=of_decide_eq_false ck1;show k < 0;omega))]
   have q:∀ n:Int,0≤n→(k==n)=false:=fun n h0=>by rw [beq_eq_false_iff_ne];have:=of_decide_eq_false ck1;omega
   have q8:=q 8 (by decide)
   have q9:=q 9 (by decide)
   have q10:=q 10 (by decide)
   have q11:=q 11 (by decide)
   have q12:=q 12 (by decide)
   have q13:=q 13 (by decide)
   have q14:=q 14 (by decide)
   refine Qs func26 ?_
   intro w0 M0
   simp only [f26,lf,z,seval]
   simp only [ck1,q8,q9,q10,q11,q12,q13,q14,z,seval]
   repeat' ((first|refine brk (fun h=>?_) (fun h=>?_)|fail)<;>simp only [h,q8,q9,q10,q11,q12,q13,q14,z,seval])
   all_goals (refine Qf ?_;simp only [z,seval])
 | true =>
 cases ck2:decide (k≤7) with
 | true =>
   rw [step_adv (by unfold isAdv;rw [ck1,ck2];rfl)]
   refine Qs func26 ?_
   intro w0 M0
   simp only [f26,lf,z,seval]
   simp only [ck1,ck2,z,seval]
   (refine CU hA (h:=?_);simp only [z,seval])
   (refine Qf ?_;simp only [z,seval])
 | false =>
 clear hA
 by_cases ck3:14 < k
 ·rw [step_none (.inr ck3)]
  have q:∀ n:Int,n≤14→(k==n)=false:=fun n h0=>by rw [beq_eq_false_iff_ne];omega
  have q8:=q 8 (by decide)
  have q9:=q 9 (by decide)
  have q10:=q 10 (by decide)
  have q11:=q 11 (by decide)
  have q12:=q 12 (by decide)
  have q13:=q 13 (by decide)
  have q14:=q 14 (by decide)
  refine Qs func26 ?_
  intro w0 M0
  simp only [f26,lf,z,seval]
  simp only [ck1,ck2,q8,q9,q10,q11,q12,q13,q14,z,seval]
  repeat' ((first|refine brk (fun h=>?_) (fun h=>?_)|fail)<;>simp only [h,q8,q9,q10,q11,q12,q13,q14,z,seval])
  all_goals (refine Qf ?_;simp only [z,seval])
 have hk:=kinds15 (k:=k) (by have:=of_decide_eq_true ck1;omega) (of_decide_eq_false ck2)
 clear ck1 ck2 ck3
 rcases hk with rfl|rfl|rfl|rfl|rfl|rfl|rfl
 ·exact rStep_8 w hw h5 hN hr hb7 hnet a b c d ws
 ·exact rStep_9 w hw h5 hN hr hb7 hnet a b c d ws
 ·exact rStep_10 w hw h5 hN hr hb7 hnet a b c d ws
 ·exact rStep_11 w hw h5 hN hr hb7 hnet a b c d ws
 ·exact rStep_12 w hw h5 hN hr hb7 hnet a b c d ws
 ·exact rStep_13 w hw h5 hN hr hb7 hnet a b c d ws
 ·exact rStep_14 w hw h5 hN hr hb7 hnet a b c d ws
namespace L20
theorem ba:Right07 wa.box=true:=by decide +kernel
end L20
end Ch
