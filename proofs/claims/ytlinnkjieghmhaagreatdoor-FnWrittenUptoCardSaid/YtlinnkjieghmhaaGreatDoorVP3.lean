import Derived.Test.YtlinnkjieghmhaaGreatDoorVP1
set_option maxHeartbeats 4000000
set_option linter.unusedSimpArgs false
set_option linter.unusedVariables false
namespace Go.Proofs.YtlinnkjieghmhaaGreatDoor
open Go Go.Lite Go.Proofs
theorem zl9 (x:List UInt8) (c:UInt8):zel x (c.toNat:Int)=zc2 c x:=by
 unfold zel
 refine zbx (fun i (v:List (List UInt8)×Int)=>0≤v.2∧v.2≤(i:Int)∧(∀ j,v.2.toNat≤j→j<i→x.getD j 0≠c)∧v.1++zc2 c (x.drop v.2.toNat)=zc2 c x) (fun r=>r=zc2 c x) ⟨by simp,by simp,fun j h1 h2=>absurd h2 (Nat.not_lt_zero _),by simp⟩ (fun i v next hi hv hn=>?_) (fun v hv=>?_)
 ·obtain ⟨h0,h1,h2,h3⟩:=hv
  cases e:decide (((x.getD i 0).toNat:Int)=(c.toNat:Int)) with
  | true =>
   have e:=of_decide_eq_true e
   have e:x.getD i 0=c:=UInt8.toNat_inj.1 om
   rw [cond_true]
   refine hn _ ⟨by dsimp only;omega,by dsimp only;omega,fun j h4 h5=>by dsimp only at h4;omega,?_⟩
   dsimp only
   obtain ⟨a,ha⟩:∃ a:Nat,v.2=a:=⟨v.2.toNat,om⟩
   rw [ha] at h1 h2 h3 ⊢
   simp only [Int.toNat_natCast] at h2 h3 ⊢
   have ha2:a≤i:=by omega
   have hs:x.drop a=(x.drop a).take (i - a)++c :: x.drop (i+1):=by
    have e1:(x.drop a).drop (i - a)=c :: x.drop (i+1):=by
     rw [List.drop_drop,show a+(i - a)=i by omega,List.drop_eq_getElem_cons hi]
     congr 1
     rw [← e,List.getD_eq_getElem?_getD,List.getElem?_eq_getElem hi];rfl
    rw [← e1,List.take_append_drop]
   have hm:c ∉ (x.drop a).take (i - a):=fun hm=>by
    obtain ⟨k,hk,e2⟩:=List.getElem_of_mem hm
    simp only [List.length_take,List.length_drop] at hk
    refine h2 (a+k) om om ?_
    rw [List.getElem_take,List.getElem_drop] at e2
    rw [List.getD_eq_getElem?_getD,List.getElem?_eq_getElem om]
    exact e2
   rw [← h3,show ((i:Int)+1).toNat=i+1 by omega,hs,zbs hm,List.append_assoc,← hs]
   rfl
  | false =>
   have e:=of_decide_eq_false e
   rw [cond_false]
   refine hn _ ⟨h0,by dsimp only;omega,fun j h4 h5=>?_,h3⟩
   by_cases hj:j<i
   ·exact h2 j h4 hj
   ·have:j=i:=by omega
    subst this
    exact fun e2=>e (by rw [e2])
 ·obtain ⟨h0,h1,h2,h3⟩:=hv
  obtain ⟨a,ha⟩:∃ a:Nat,v.2=a:=⟨v.2.toNat,om⟩
  rw [ha] at h1 h2 h3 ⊢
  simp only [Int.toNat_natCast] at h2 h3 ⊢
  have hm:c ∉ x.drop a:=fun hm=>by
   obtain ⟨k,hk,e2⟩:=List.getElem_of_mem hm
   simp only [List.length_drop] at hk
   refine h2 (a+k) om om ?_
   rw [List.getElem_drop] at e2
   rw [List.getD_eq_getElem?_getD,List.getElem?_eq_getElem om]
   exact e2
  rw [← h3,zcr hm,List.take_of_length_le zas]
theorem zkg {b:UInt8} (h1:48≤b.toNat) (h2:b.toNat≤57):Lib.digitVal b=some (b.toNat - 48):=by unfold Lib.digitVal;rw [if_pos ⟨h1,h2⟩]
theorem zz2 {v d:Int} (hv:1≤v) (hd:0≤d∧d≤9):itoa (10 * v+d)=itoa v++[UInt8.ofNat (48+d.toNat)]:=by
 unfold itoa
 have e1:(10 * v+d).toNat / 10=v.toNat:=by omega
 have e2:(10 * v+d).toNat % 10=d.toNat:=by omega
 rw [Lib.decDigits,dif_neg om,e1,e2]
theorem zx2 {d:Int} (hd:0≤d∧d≤9):itoa d=[UInt8.ofNat (48+d.toNat)]:=by
 unfold itoa
 rw [Lib.decDigits_one om]
theorem zlo {b:UInt8} (h1:48≤b.toNat):UInt8.ofNat (48+((b.toNat:Int) - 48).toNat)=b:=by
 have:48+((b.toNat:Int) - 48).toNat=b.toNat:=by omega
 rw [this];exact UInt8.ofNat_toNat
theorem zkb {x:List UInt8} (h:0≤zg3 x):itoa (zg3 x)=x∧zg3 x≤9999∧Lib.decFrom 0 x=some (zg3 x).toNat∧1≤x.length∧x.length≤4∧48≤(x.getD 0 0).toNat∧(x.getD 0 0).toNat≤57:=by
 revert h
 unfold zg3
 cases c:((decide (((x.length:Nat):Int)<1)||decide (4<((x.length:Nat):Int)))||(decide (((x.getD 0 0).toNat:Int)=48)&&decide (1<((x.length:Nat):Int)))) with
 | true=>intro h;rw [cond_true] at h;omega
 | false =>
  rw [cond_false]
  simp only [Bool.or_eq_false_iff,Bool.and_eq_false_iff,decide_eq_false_iff_not] at c
  obtain ⟨⟨c1,c2⟩,c3⟩:=c
  refine zbx (fun i (v : Int) => 0 ≤ v ∧ (i = 0 → v = 0) ∧ (i = 1 → v ≤ 9) ∧ (i = 2 → v ≤ 99) ∧ (i = 3 → v ≤ 999) ∧ (i = 4 → v ≤ 9999) ∧ Lib.decFrom 0 (x.take i) = some v.toNat ∧ (1 ≤ i → itoa v = x.take i ∧ (1 < x.length → 1 ≤ v) ∧ 48 ≤ (x.getD 0 0).toNat ∧ (x.getD 0 0).toNat ≤ 57))
    (fun r=>0≤r→itoa r=x∧r≤9999∧Lib.decFrom 0 x=some r.toNat∧1≤x.length∧x.length≤4∧48≤(x.getD 0 0).toNat∧(x.getD 0 0).toNat≤57)
    ⟨om,by simp,by simp,by simp,by simp,by simp,rfl,fun h=>absurd h za7⟩ (fun i v next hi hv hn=>?_) (fun v hv=>?_)
  ·obtain ⟨h0,h1,h2,h3,h4,h5,h6,h7⟩:=hv
   cases e:(decide (((x.getD i 0).toNat:Int)<48)||decide (57<((x.getD i 0).toNat:Int))) with
   | true=>rw [cond_true];intro h;omega
   | false =>
    rw [cond_false]
    simp only [Bool.or_eq_false_iff,decide_eq_false_iff_not] at e
    obtain ⟨e1,e2⟩:=e
    have hg:x[i]?=some (x.getD i 0):=by rw [List.getD_eq_getElem?_getD,List.getElem?_eq_getElem hi];rfl
    have ht:x.take (i+1)=x.take i++[x.getD i 0]:=by rw [List.take_add_one,hg];rfl
    generalize hb:x.getD i 0=b at *
    have hd:0≤((b.toNat:Int) - 48)∧((b.toNat:Int) - 48)≤9:=by omega
    have hn1:(10 * v+((b.toNat:Int) - 48)).toNat=v.toNat * 10+(b.toNat - 48):=by omega
    refine hn _ ⟨om,om,om,om,om,om,?_,fun _=>?_⟩
    ·rw [hn1];exact Lib.decFrom_take x i 0 _ b _ h6 hg (zkg om om)
    ·by_cases hi0:i=0
     ·subst hi0
      rw [h1 rfl]
      refine ⟨?_,fun hl=>?_,by rw [hb];omega,by rw [hb];omega⟩
      ·rw [ht,show (10 * 0+((b.toNat:Int) - 48))=((b.toNat:Int) - 48) by omega,zx2 hd,zlo om];rfl
      ·rw [hb] at c3;omega
     ·obtain ⟨k1,k2,k3,k4⟩:=h7 om
      have hv1:=k2 om
      refine ⟨?_,fun _=>by omega,k3,k4⟩
      rw [zz2 hv1 hd,zlo om,k1,ht]
  ·obtain ⟨h0,h1,h2,h3,h4,h5,h6,h7⟩:=hv
   intro _
   obtain ⟨k1,k2,k3,k4⟩:=h7 om
   rw [List.take_of_length_le (Nat.le_refl _)] at h6 k1
   exact ⟨k1,om,h6,om,om,k3,k4⟩
theorem zp8 (l m:List UInt8):∀ (acc k:Nat),Lib.decFrom acc l=some k→Lib.decFrom acc (l++m)=Lib.decFrom k m:=by
 induction l with
 | nil=>intro acc k h;simp only [Lib.decFrom,Option.some.injEq] at h;rw [h];rfl
 | cons b r ih =>
  intro acc k h
  rw [List.cons_append,Lib.decFrom]
  rw [Lib.decFrom] at h
  cases hd:Lib.digitVal b with
  | none=>rw [hd] at h;cases h
  | some d=>rw [hd] at h;exact ih _ k h
theorem zq8 (k:Nat) (h:k<10):(UInt8.ofNat (48+k)).toNat=48+k:=by
 rw [UInt8.toNat_ofNat',Nat.mod_eq_of_lt om]
theorem ziz : ∀ (m n : Nat), n < m → Lib.decFrom 0 (Lib.decDigits n) = some n ∧ (∀ b ∈ Lib.decDigits n, 48 ≤ b.toNat ∧ b.toNat ≤ 57) ∧ 1 ≤ (Lib.decDigits n).length ∧ (1 ≤ n → ((Lib.decDigits n).getD 0 0).toNat ≠ 48)
  | 0,n,h=>absurd h (Nat.not_lt_zero _)
  | m+1,n,h=>by
    by_cases c:n<10
    · rw [Lib.decDigits_one c]
      have hb:=zq8 n c
      refine ⟨?_,fun b hb2=>?_,by simp,fun h1=>?_⟩
      · rw [Lib.decFrom,zkg om om,hb]
        simp only [Lib.decFrom]
        congr 1;omega
      · rw [List.mem_singleton.1 hb2];omega
      · simp only [List.getD_cons_zero];omega
    · obtain ⟨h1,h2,h3,h4⟩:=ziz m (n / 10) om
      have hb:=zq8 (n % 10) om
      rw [Lib.decDigits,dif_neg c]
      refine ⟨?_,fun b hb2=>?_,by simp,fun _=>?_⟩
      · rw [zp8 _ _ _ _ h1,Lib.decFrom,zkg om om,hb]
        simp only [Lib.decFrom]
        congr 1;omega
      · rcases List.mem_append.1 hb2 with hb2 | hb2
        · exact h2 b hb2
        · rw [List.mem_singleton.1 hb2];omega
      · have:=h4 om
        rw [List.getD_eq_getElem?_getD,List.getElem?_append_left om,← List.getD_eq_getElem?_getD]
        exact this
theorem zo3 {n:Int} (h:0≤n∧n≤9999):zg3 (itoa n)=n:=by
 obtain ⟨h1,h2,h3,h4⟩:=ziz (n.toNat+1) n.toNat (Nat.lt_succ_self _)
 have hl:=zk8 h.2
 have h5:n.toNat=0→(itoa n).length=1:=fun e=>by unfold itoa;rw [e,Lib.decDigits_one za7];rfl
 have hp:0≤zg3 (itoa n):=by
  unfold zg3
  have c:((decide ((((itoa n).length:Nat):Int)<1)||decide (4<(((itoa n).length:Nat):Int)))||(decide ((((itoa n).getD 0 0).toNat:Int)=48)&&decide (1<(((itoa n).length:Nat):Int))))=false:=by
   simp only [Bool.or_eq_false_iff,Bool.and_eq_false_iff,decide_eq_false_iff_not]
   refine ⟨⟨?_,om⟩,?_⟩
   ·have:1≤(itoa n).length:=h3
    omega
   ·by_cases e:n.toNat=0
    ·right;have:=h5 e;omega
    ·left;have:=h4 om;unfold itoa;omega
  rw [c,cond_false]
  refine zbx (fun i (v:Int)=>0≤v) (fun r=>0≤r) (Int.le_refl _) (fun i v next hi hv hn=>?_) (fun v hv=>hv)
  have hb:48≤((itoa n).getD i 0).toNat∧((itoa n).getD i 0).toNat≤57:=by
   rw [List.getD_eq_getElem?_getD,List.getElem?_eq_getElem hi]
   exact h2 _ (List.getElem_mem hi)
  rw [decide_eq_false om,decide_eq_false om]
  exact hn _ om
 obtain ⟨k1,k2,k3,_⟩:=zkb hp
 have:Lib.decFrom 0 (itoa n)=some n.toNat:=h1
 rw [k3] at this
 have:=Option.some.inj this
 omega
theorem z0z {x:List UInt8} (h:0≤zg3 x):Lib.atoi x=some (zg3 x):=by
 obtain ⟨k1,k2,k3,k4,k5,k6,k7⟩:=zkb h
 match x,k4,k6,k7,k3 with
 | b :: r,_,k6,k7,k3 =>
  simp only [List.getD_cons_zero] at k6 k7
  have n1:¬ (b==45)=true:=fun e=>by have:=beq_iff_eq.1 e;subst this;exact absurd k6 za7
  have n2:¬ (b==43)=true:=fun e=>by have:=beq_iff_eq.1 e;subst this;exact absurd k6 za7
  unfold Lib.atoi
  dsimp only
  rw [if_neg n1,if_neg n2]
  unfold Lib.decNat
  rw [if_neg zas,k3]
  simp only [Option.map_some,Option.some.injEq]
  omega
theorem zod (x:List UInt8):zci x=bif decide (0≤zg3 x) then (zg3 x,true) else (0,false):=by
 by_cases h:0≤zg3 x
 ·obtain ⟨k1,k2,k3,k4,k5,_⟩:=zkb h
  have ha:=zrb (z0z h)
  unfold zci
  rw [ha,decide_eq_true h,decide_eq_false om,decide_eq_false om,decide_eq_false om,decide_eq_false om,k1]
  simp
 ·rw [decide_eq_false h,cond_false]
  unfold zci
  cases c1:(decide (((x.length:Nat):Int)<1)||decide (4<((x.length:Nat):Int))) with
  | true=>rfl
  | false =>
   rw [cond_false]
   cases c2:((((atoiE x).2||decide ((atoiE x).1<0))||decide (9999<(atoiE x).1))||(!(itoa (atoiE x).1==x))) with
   | true=>rfl
   | false =>
    simp only [Bool.or_eq_false_iff,decide_eq_false_iff_not,Bool.not_eq_false'] at c2
    obtain ⟨⟨⟨_,d2⟩,d3⟩,d4⟩:=c2
    have d4:=beq_iff_eq.1 d4
    have:=zo3 (n:=(atoiE x).1) ⟨om,om⟩
    rw [d4] at this
    omega
def C15 (R:(List (List UInt8))×Bool):LV×List (Nat×BC):=(.tup [.own 0,.bool R.2],[(0,.arr 1 R.1.length (rowOf (cStr) R.1))])
def zbp (x0:List UInt8):(List (List UInt8))×Bool:=bif (x0==([]:List UInt8)) then (([]:List (List UInt8)),true) else (bif (!(zld x0 [10])) then (([]:List (List UInt8)),false) else (zb0 ((x0.drop 0).take (((((x0.length:Nat):Int) - 1).toNat) - 0)) [10],true))
def A15 (x0:List UInt8):Ann:=let q1:=((x0.length:Nat):Int);let q2:=(x0.drop 0).take (((q1 - 1).toNat) - 0);r0 1 [0,2,3] [] (r0 1 [0,2,3,5] [] (cn (x0==([]:List UInt8)) (r0 1 [0,2,3] [] (rt [(0,none)] (C15 (([]:List (List UInt8)),true)))) (.reg 1 [] [(1,k38 x0 [10])] [0,2,3,8] [] [] [] [] [0] (cn (!(zld x0 [10])) (r0 1 [0,2,3] [] (rt [(0,none)] (C15 (([]:List (List UInt8)),false)))) (.reg 1 [] [(5,k39 q2 [10])] [2,3] [1014] [] [pf (inR .i64 (q1 - 1)),pf (0≤(0:Int)∧(0:Int)≤q1 - 1∧(q1 - 1:Int)≤q1)] [] [0,4,8] (rt [(0,some 1014)] (C15 (zb0 q2 [10],true))))))))
theorem zhc (x:List UInt8):(zbp x).1.length≤x.length+1:=by
 unfold zbp
 repeat' refine zbe (p:=fun (r:List (List UInt8)×Bool)=>r.1.length≤x.length+1) (fun _=>?_) (fun _=>?_)
 all_goals first | exact Nat.zero_le _ | (refine Nat.le_trans (zqe _ _) ?_;simp only [List.length_take,List.length_drop];omega)
theorem ze0 (x:List UInt8) (k:Nat):((zbp x).1.getD k default).length≤x.length:=by
 unfold zbp
 repeat' refine zbe (p:=fun (r:List (List UInt8)×Bool)=>(r.1.getD k default).length≤x.length) (fun _=>?_) (fun _=>?_)
 all_goals first | exact Nat.zero_le _ | (refine Nat.le_trans (zlu _ _ k) ?_;simp only [List.length_take,List.length_drop];omega)
theorem zl2 (x0:List UInt8) (h:x0.length≤1048576):FnT Tryz.prog 15 [.str x0] (C15 (zbp x0)):=by
 have aux:∀ R,zbp x0=R→slim (C15 R) (A15 x0) []:=by
  intro R hR
  refine rg trivial ?_
  refine rg trivial ?_
  revert hR;refine cd (fun hc1 hR=>?_) fun hc1 hR=>?_
  ·
    refine rg trivial ?_
    exact congrArg C15 hR
  ·
    refine rg ⟨by ((exact ⟨om,by decide⟩)),trivial⟩ ?_
    revert hR;refine cd (fun hc2 hR=>?_) fun hc2 hR=>?_
    ·
      refine rg trivial ?_
      exact congrArg C15 hR
    ·
      refine rg ⟨by ( intros;simp only [inR];omega),by ((have h9:x0≠[]:=(by simpa using hc1);have h8:=List.length_pos_iff.2 h9;omega)),by ((refine ⟨?_,rfl⟩;simp only [List.length_take,List.length_drop];omega)),trivial⟩ ?_
      exact congrArg C15 hR
 exact Fn.go 15 Tryz.func15 (by kernel_rfl) (by kernel_rfl) (by simp [C15,Frs,FrsL,FrsB,rowOf,cInt,cBool,cStr,cSl,zdm,zbg,zbi,zcf,zbt,zft]) (A15 x0) (by kernel_rfl) (aux _ rfl)
def k15 (x0:List UInt8):Cl:=(hres (C15 (zbp x0)),k1 (zl2 x0))
def C25 (x0:yc) (x1:List UInt8) (R:yd×Bool×(List ya)×(List yb)):LV×List (Nat×BC):=(.tup [.agg [.int .i64 R.1.kind,.int .i64 R.1.year,.str R.1.name,.int .i64 R.1.sex,.int .i64 R.1.a,.int .i64 R.1.b],.bool R.2.1],[(900000,.var [.own 0,.own 1]),(0,.arr 6 R.2.2.1.length (rowOf (zbg true) R.2.2.1)),(1,.arr 4 R.2.2.2.length (rowOf (zbi true) R.2.2.2))])
def zdj (x0:yc) (x1:List UInt8):yd×Bool×(List ya)×(List yb):=bif ((!((zci ((zb0 x1 [32]).getD 0 default)).2))||(decide ((((zb0 x1 [32]).length:Nat):Int)<3))) then ((yd.mk 0 0 ([]:List UInt8) 0 0 0),false,x0.people,x0.unions) else (bif ((((zb0 x1 [32]).getD 1 default)==[98,111,114,110])&&(decide ((((zb0 x1 [32]).length:Nat):Int)=6))) then ((yd.mk 1 ((zci ((zb0 x1 [32]).getD 0 default)).1) ((zb0 x1 [32]).getD 2 default) (zeb ((zb0 x1 [32]).getD 3 default)) ((zc7 x0 ((zb0 x1 [32]).getD 4 default)).1) ((zc7 x0 ((zb0 x1 [32]).getD 5 default)).1)),((zc7 x0 ((zb0 x1 [32]).getD 4 default)).2)&&((zc7 x0 ((zb0 x1 [32]).getD 5 default)).2),(x0.people++[(ya.mk ((zb0 x1 [32]).getD 2 default) 0 0 0 0 0)]),x0.unions) else (bif (((((zb0 x1 [32]).getD 1 default)==[117,110,105,111,110])||(((zb0 x1 [32]).getD 1 default)==[112,97,114,116,101,100]))&&(decide ((((zb0 x1 [32]).length:Nat):Int)=4))) then (bif (((zb0 x1 [32]).getD 1 default)==[112,97,114,116,101,100]) then ((yd.mk 3 ((zci ((zb0 x1 [32]).getD 0 default)).1) ([]:List UInt8) 0 ((findP x0 ((zb0 x1 [32]).getD 2 default)).1) ((findP x0 ((zb0 x1 [32]).getD 3 default)).1)),((findP x0 ((zb0 x1 [32]).getD 2 default)).2)&&((findP x0 ((zb0 x1 [32]).getD 3 default)).2),x0.people,x0.unions) else ((yd.mk 2 ((zci ((zb0 x1 [32]).getD 0 default)).1) ([]:List UInt8) 0 ((findP x0 ((zb0 x1 [32]).getD 2 default)).1) ((findP x0 ((zb0 x1 [32]).getD 3 default)).1)),((findP x0 ((zb0 x1 [32]).getD 2 default)).2)&&((findP x0 ((zb0 x1 [32]).getD 3 default)).2),x0.people,x0.unions)) else (bif ((((zb0 x1 [32]).getD 1 default)==[100,105,101,100])&&(decide ((((zb0 x1 [32]).length:Nat):Int)=3))) then ((yd.mk 4 ((zci ((zb0 x1 [32]).getD 0 default)).1) ([]:List UInt8) 0 ((findP x0 ((zb0 x1 [32]).getD 2 default)).1) 0),(findP x0 ((zb0 x1 [32]).getD 2 default)).2,x0.people,x0.unions) else ((yd.mk 0 0 ([]:List UInt8) 0 0 0),false,x0.people,x0.unions))))
def A25 (x0:yc) (x1:List UInt8):Ann:=let q1:=zb0 x1 [32];let q3:=q1.getD 2 default;let q4:=q1.getD 1 default;let q8:=q1.getD 3 default;let q16:=q1.getD 5 default;let q2:=((q1.length:Nat):Int);let q5:=zci (q1.getD 0 default);let q10:=findP x0 q3;let q17:=findP x0 q8;let q13:=zc7 x0 (q1.getD 4 default);let q14:=ya.mk q3 0 0 0 0 0;let q9:=(q4==[117,110,105,111,110]);let q11:=(q4==[112,97,114,116,101,100]);let q7:=(0≤(1:Int)∧(1:Int)<q2);let q12:=(0≤(2:Int)∧(2:Int)<q2);let q15:=(0≤(3:Int)∧(3:Int)<q2);let q6:=(rt [(900000,some 900000),(0,some 900001),(1,some 900002)] (C25 x0 x1 ((yd.mk 0 0 ([]:List UInt8) 0 0 0),false,x0.people,x0.unions)));.reg 3 [] [(1001,k39 x1 [32]),(2003,k41 (q1.getD 0 default))] [0,4,5,6,7,8] [4,1021,900000,900001,900002] [] [pf (0≤(0:Int)∧(0:Int)<q2)] [] [4,0,8] (.reg 1 [] [] [0,4,5,6,7,35] [4,1021,900000,900001,900002] [!(!(q5.2)),!(q5.2)] [] [] [1,1,6] (cn ((!(q5.2))||(decide (q2<3))) (r0 1 [0,4,5,6,7] [4,1021,900000,900001,900002] q6) (.reg 1 [] [] [0,4,5,6,7,37] [4,1021,900000,900001,900002] [q4==[98,111,114,110]] [pf q7] [] [0,1,1,1] (cn ((q4==[98,111,114,110])&&(decide (q2=6))) (.reg 4 [] [(6,k44 x0 (q1.getD 4 default)),(1006,k44 x0 q16),(2009,bsC 76 (zbg true) ([q14]:List ya)),(2010,ap1 77 (zbg true) 56 x0.people q14),(3007,k43 q8)] [4,5] [4,77,900000,900002] [q13.2] [pf (0≤(4:Int)∧(4:Int)<q2),pf (0≤(5:Int)∧(5:Int)<q2),pf q12,pf q15] [] [0,16,4,20,8,24,28,8,12,32,1] (rt [(900000,some 900000),(0,some 77),(1,some 900002)] (C25 x0 x1 ((yd.mk 1 (q5.1) q3 (zeb q8) (q13.1) ((zc7 x0 q16).1)),(q13.2)&&((zc7 x0 q16).2),(x0.people++[q14]),x0.unions)))) (.reg 1 [] [] [0,4,5,6,7,95] [4,1021,900000,900001,900002] [!q9,q4==[117,110,105,111,110],q9||q11] [pf q7,gt (!q9) (pf q7)] [] [0,1,4,1,1,6,9,9,9] (cn ((q9||q11)&&(decide (q2=4))) (.reg 3 [] [(6,k40 x0 q3),(1006,k40 x0 q8)] [4,5,6,7,13,14,15,16,17] [4,1021,900000,900001,900002] [] [pf q12,pf q15] [] [0,8,4,12] (r1 1 [4,5,7,13,14,15,16,17,134] [4,900000,900001,900002] [pf q7] [0] (cn q11 (r0 1 [4,5,7,13,14,15,16,17] [4,900000,900001,900002] (.reg 1 [] [] [4,5] [4,900000,900001,900002] [q10.2] [] [] [1] (rt [(900000,some 900000),(0,some 900001),(1,some 900002)] (C25 x0 x1 ((yd.mk 3 (q5.1) ([]:List UInt8) 0 (q10.1) (q17.1)),(q10.2)&&(q17.2),x0.people,x0.unions))))) (.reg 1 [] [] [4,5] [4,900000,900001,900002] [q10.2] [] [] [1] (rt [(900000,some 900000),(0,some 900001),(1,some 900002)] (C25 x0 x1 ((yd.mk 2 (q5.1) ([]:List UInt8) 0 (q10.1) (q17.1)),(q10.2)&&(q17.2),x0.people,x0.unions))))))) (.reg 1 [] [] [0,4,5,6,7,144] [4,1021,900000,900001,900002] [q4==[100,105,101,100]] [pf q7] [] [0,1,1,1] (cn ((q4==[100,105,101,100])&&(decide (q2=3))) (.reg 2 [] [(6,k40 x0 q3)] [4,5] [4,900000,900001,900002] [] [pf q12] [] [0,4] (rt [(900000,some 900000),(0,some 900001),(1,some 900002)] (C25 x0 x1 ((yd.mk 4 (q5.1) ([]:List UInt8) 0 (q10.1) 0),q10.2,x0.people,x0.unions)))) (r0 1 [4,5] [4,900000,900001,900002] q6)))))))))
theorem zuj (x:yc) (l:List UInt8):(zdj x l).1.name.length≤l.length:=by
 unfold zdj
 repeat' refine zbe (p:=fun (r:yd×Bool×List ya×List yb)=>r.1.name.length≤l.length) (fun _=>?_) (fun _=>?_)
 all_goals first | exact Nat.zero_le _ | exact zlu l [32] 2
theorem zxr (x:yc) (l:List UInt8):(zdj x l).2.2.1.length≤x.people.length+1:=by
 unfold zdj
 repeat' refine zbe (p:=fun (r:yd×Bool×List ya×List yb)=>r.2.2.1.length≤x.people.length+1) (fun _=>?_) (fun _=>?_)
 all_goals first | exact Nat.le_succ _ | (simp)
theorem zl3 (x0:yc) (x1:List UInt8) (hx:x0.people.length≤1048575) (hl:x1.length≤1048576):FnMT Tryz.prog 25 [.vp 900000 0,.str x1] [.var [.own 900001,.own 900002],.arr 6 x0.people.length (rowOf (zbg true) x0.people),.arr 4 x0.unions.length (rowOf (zbi true) x0.unions)] (C25 x0 x1 (zdj x0 x1)):=by
 have aux:∀ R,zdj x0 x1=R→slim (C25 x0 x1 R) (A25 x0 x1) []:=by
  intro R hR
  refine rg ⟨by (have h9:=(zfd 32 x1).1;(try simp only [zb0,List.getD_cons_zero] at *);omega),by ((exact ⟨om,by decide⟩)),trivial,trivial⟩ ?_
  refine rg trivial ?_
  revert hR;refine cd (fun hc1 hR=>?_) fun hc1 hR=>?_
  ·
    refine rg trivial ?_
    exact congrArg (C25 x0 x1) hR
  ·
    refine rg ⟨by ((try clear hR);intros;(try simp only [decide_eq_true_eq,decide_eq_false_iff_not,Bool.or_eq_true,Bool.and_eq_true,zbd,zbb,zbc,Bool.not_eq_true',inR] at *);(repeat' apply And.intro)<;>(intros;omega)),trivial⟩ ?_
    revert hR;refine cd (fun hc2 hR=>?_) fun hc2 hR=>?_
    ·
      refine rg ⟨by ((try clear hR);intros;(try simp only [decide_eq_true_eq,decide_eq_false_iff_not,Bool.or_eq_true,Bool.and_eq_true,zbd,zbb,zbc,Bool.not_eq_true',inR] at *);(repeat' apply And.intro)<;>(intros;omega)),by ((try clear hR);intros;(try simp only [decide_eq_true_eq,decide_eq_false_iff_not,Bool.or_eq_true,Bool.and_eq_true,zbd,zbb,zbc,Bool.not_eq_true',inR] at *);(repeat' apply And.intro)<;>(intros;omega)),by ((try clear hR);intros;(try simp only [decide_eq_true_eq,decide_eq_false_iff_not,Bool.or_eq_true,Bool.and_eq_true,zbd,zbb,zbc,Bool.not_eq_true',inR] at *);(repeat' apply And.intro)<;>(intros;omega)),by ((try clear hR);intros;(try simp only [decide_eq_true_eq,decide_eq_false_iff_not,Bool.or_eq_true,Bool.and_eq_true,zbd,zbb,zbc,Bool.not_eq_true',inR] at *);(repeat' apply And.intro)<;>(intros;omega)),by (intros;omega),by (intros;omega),trivial,om,trivial,trivial⟩ ?_
      exact congrArg (C25 x0 x1) hR
    ·
      refine rg ⟨by ((try clear hR);intros;(try simp only [decide_eq_true_eq,decide_eq_false_iff_not,Bool.or_eq_true,Bool.and_eq_true,zbd,zbb,zbc,Bool.not_eq_true',inR] at *);(repeat' apply And.intro)<;>(intros;omega)),by ((try clear hR);intros;(try simp only [decide_eq_true_eq,decide_eq_false_iff_not,Bool.or_eq_true,Bool.and_eq_true,zbd,zbb,zbc,Bool.not_eq_true',inR] at *);(repeat' apply And.intro)<;>(intros;omega)),trivial⟩ ?_
      revert hR;refine cd (fun hc3 hR=>?_) fun hc3 hR=>?_
      ·
        refine rg ⟨by ((try clear hR);intros;(try simp only [decide_eq_true_eq,decide_eq_false_iff_not,Bool.or_eq_true,Bool.and_eq_true,zbd,zbb,zbc,Bool.not_eq_true',inR] at *);(repeat' apply And.intro)<;>(intros;omega)),by ((try clear hR);intros;(try simp only [decide_eq_true_eq,decide_eq_false_iff_not,Bool.or_eq_true,Bool.and_eq_true,zbd,zbb,zbc,Bool.not_eq_true',inR] at *);(repeat' apply And.intro)<;>(intros;omega)),by (intros;omega),by (intros;omega),trivial⟩ ?_
        refine rg ⟨by ((try clear hR);intros;(try simp only [decide_eq_true_eq,decide_eq_false_iff_not,Bool.or_eq_true,Bool.and_eq_true,zbd,zbb,zbc,Bool.not_eq_true',inR] at *);(repeat' apply And.intro)<;>(intros;omega)),trivial⟩ ?_
        revert hR;refine cd (fun hc4 hR=>?_) fun hc4 hR=>?_
        ·
          refine rg trivial ?_
          refine rg trivial ?_
          exact congrArg (C25 x0 x1) hR
        ·
          refine rg trivial ?_
          exact congrArg (C25 x0 x1) hR
      ·
        refine rg ⟨by ((try clear hR);intros;(try simp only [decide_eq_true_eq,decide_eq_false_iff_not,Bool.or_eq_true,Bool.and_eq_true,zbd,zbb,zbc,Bool.not_eq_true',inR] at *);(repeat' apply And.intro)<;>(intros;omega)),trivial⟩ ?_
        revert hR;refine cd (fun hc5 hR=>?_) fun hc5 hR=>?_
        ·
          refine rg ⟨by ((try clear hR);intros;(try simp only [decide_eq_true_eq,decide_eq_false_iff_not,Bool.or_eq_true,Bool.and_eq_true,zbd,zbb,zbc,Bool.not_eq_true',inR] at *);(repeat' apply And.intro)<;>(intros;omega)),by (intros;omega),trivial⟩ ?_
          exact congrArg (C25 x0 x1) hR
        ·
          refine rg trivial ?_
          exact congrArg (C25 x0 x1) hR
 exact FnM.go 169 Tryz.func25 (by kernel_rfl) (by kernel_rfl) (A25 x0 x1) (by kernel_rfl) (aux _ rfl)
def k25 (d:Nat) (ids:List Nat) (x0:yc) (x1:List UInt8):Cl:=(hresM d ids (C25 x0 x1 (zdj x0 x1)),k2 (zl3 x0 x1))
end Go.Proofs.YtlinnkjieghmhaaGreatDoor
