import Derived.Test.YtkkijpibajigfaaM46
set_option maxHeartbeats 4000000
set_option linter.unusedSimpArgs false
set_option linter.unusedVariables false
namespace Go.Proofs.Ytkkijpibajigfaa
open Go Go.Lite Go.Proofs
def C55 (R:Family):LV×List (Nat×BC):=(.agg [.own 0,.own 1],[(0,.arr 6 R.people.length (rowOf (cPerson true) R.people)),(1,.arr 4 R.unions.length (rowOf (cUnion true) R.unions))])
def makeFamily (x0:List Int) (x1:Int):Family:=((l1Family (l01New x0) (Max.max 0 (Min.min x1 40))).1)
def A55 (x0:List Int) (x1:Int):Ann:=.reg 2 [] [(1001,k58 6 [] x0),(1005,k103 10 [1006] (l01New x0) (Max.max 0 (Min.min x1 40)))] [4] [4,1010,2010] [] [] [] [0,4] (rt [(0,some 1010),(1,some 2010)] (C55 ((l1Family (l01New x0) (Max.max 0 (Min.min x1 40))).1)))
theorem ok_spec_MakeFamily (x0:List Int) (x1:Int) (hx:x0.length≤1048576) (hb:∀ y ∈ x0,0≤y∧y≤255):FnT Try.prog 55 [.ro false 1 x0.length (rowOf (cInt .u8) x0),.int .i64 x1] (C55 (makeFamily x0 x1)):=by
 have aux:∀ R,makeFamily x0 x1=R→slim (C55 R) (A55 x0 x1) []:=by
  intro R hR
  refine rg ⟨⟨by trivial,by trivial⟩,⟨by (exact l01New_ok hb hx),by (intros;omega)⟩,trivial⟩ ?_
  exact congrArg C55 hR
 exact Fn.go 11 Try.func55 (by kernel_rfl) (by kernel_rfl) (by simp [C55,Frs,FrsL,FrsB,rowOf,cInt,cBool,cStr,cSl,FrsL_app,cPerson,cUnion,cFamily,cl01Cur]) (A55 x0 x1) (by kernel_rfl) (aux _ rfl)
def k55 (x0:List Int) (x1:Int):Cl:=(hres (C55 (makeFamily x0 x1)),k2 (ok_spec_MakeFamily x0 x1))
def C56 (R:Family):LV×List (Nat×BC):=(.agg [.own 0,.own 1],[(0,.arr 6 R.people.length (rowOf (cPerson true) R.people)),(1,.arr 4 R.unions.length (rowOf (cUnion true) R.unions))])
def makeClose (x0:List Int):Family:=((l8Close (l01New x0)).1)
def A56 (x0:List Int):Ann:=.reg 2 [] [(1001,k58 4 [] x0),(1002,k104 5 [1004] (l01New x0))] [2] [2,1005,2005] [] [] [] [0,4] (rt [(0,some 1005),(1,some 2005)] (C56 ((l8Close (l01New x0)).1)))
theorem ok_spec_MakeClose (x0:List Int) (hx:x0.length≤1048576) (hb:∀ y ∈ x0,0≤y∧y≤255):FnT Try.prog 56 [.ro false 1 x0.length (rowOf (cInt .u8) x0)] (C56 (makeClose x0)):=by
 have aux:∀ R,makeClose x0=R→slim (C56 R) (A56 x0) []:=by
  intro R hR
  refine rg ⟨⟨by trivial,by trivial⟩,by (exact l01New_ok hb hx),trivial⟩ ?_
  exact congrArg C56 hR
 exact Fn.go 6 Try.func56 (by kernel_rfl) (by kernel_rfl) (by simp [C56,Frs,FrsL,FrsB,rowOf,cInt,cBool,cStr,cSl,FrsL_app,cPerson,cUnion,cFamily,cl01Cur]) (A56 x0) (by kernel_rfl) (aux _ rfl)
def k56 (x0:List Int):Cl:=(hres (C56 (makeClose x0)),k2 (ok_spec_MakeClose x0))
def C18 (R:Int):LV×List (Nat×BC):=(.int .i64 R,[])
def at1 (x0:List Int) (x1:Int):Int:=bif (decide (x1<((x0.length:Nat):Int))) then (x0.getD x1.toNat default) else (((x1 * 37)+(((x0.length:Nat):Int) * 11)).tmod 256)
def A18 (x0:List Int) (x1:Int):Ann:=r0 1 [0,1,4] [] (r0 1 [0,1,4,8] [] (cn (decide (x1<((x0.length:Nat):Int))) (r1 1 [0,1,4] [] [pf (0≤(x1:Int)∧(x1:Int)<((x0.length:Nat):Int)),pf (inR .i64 (x0.getD x1.toNat default))] [0,4] (rt [] (C18 (x0.getD x1.toNat default)))) (r1 1 [4] [] [pf (inR .i64 (x1 * 37)),pf (inR .i64 (((x0.length:Nat):Int) * 11)),pf (inR .i64 ((x1 * 37)+(((x0.length:Nat):Int) * 11))),pf ((256:Int) ≠ 0)] [0,4,8,12] (rt [] (C18 (((x1 * 37)+(((x0.length:Nat):Int) * 11)).tmod 256))))))
theorem at1_rng {b:List Int} (hb:∀ y ∈ b,0≤y∧y≤255) {i:Int} (hi:0≤i):0≤at1 b i∧at1 b i≤255:=by
 unfold at1
 refine cond_both (p:=fun (r:Int)=>0≤r∧r≤255) (fun _=>getD_byte hb _) (fun _=>?_)
 rw [Int.tmod_eq_emod_of_nonneg (by omega)]
 omega
theorem ok_laws_at (x0:List Int) (x1:Int) (hx:x0.length≤1048576) (hb:∀ y ∈ x0,0≤y∧y≤255) (hi:0≤x1∧x1≤1000):FnT Try.prog 18 [.ro false 1 x0.length (rowOf (cInt .u8) x0),.int .i64 x1] (C18 (at1 x0 x1)):=by
 have aux:∀ R,at1 x0 x1=R→slim (C18 R) (A18 x0 x1) []:=by
  intro R hR
  refine rg trivial ?_
  refine rg trivial ?_
  revert hR;refine cd (fun hc1 hR=>?_) fun hc1 hR=>?_
  ·
    refine rg ⟨by ((try clear hR);intros;(try simp only [decide_eq_true_eq,decide_eq_false_iff_not,Bool.or_eq_true,Bool.and_eq_true,or_f_iff,not_f_iff,not_t_iff,Bool.not_eq_true',inR] at *);(repeat' apply And.intro) <;> (intros;omega)),by (have h9:=getD_byte hb x1.toNat;simp only [inR];omega),trivial⟩ ?_
    exact congrArg C18 hR
  ·
    refine rg ⟨by ( intros;simp only [inR];omega),by ( intros;simp only [inR];omega),by ( intros;simp only [inR];omega),by trivial,trivial⟩ ?_
    exact congrArg C18 hR
 exact Fn.go 21 Try.func18 (by kernel_rfl) (by kernel_rfl) (by simp [C18,Frs,FrsL]) (A18 x0 x1) (by kernel_rfl) (aux _ rfl)
def k18 (x0:List Int) (x1:Int):Cl:=(hres (C18 (at1 x0 x1)),k3 (ok_laws_at x0 x1))
def C19 (R:Int):LV×List (Nat×BC):=(.int .i64 R,[])
def who (x0:List Int) (x1:Int) (x2:Family):Int:=(at1 x0 x1).tmod ((x2.people.length:Nat):Int)
def A19 (x0:List Int) (x1:Int) (x2:Family):Ann:=.reg 2 [] [(1002,k18 x0 x1)] [6] [] [] [pf ((((x2.people.length:Nat):Int):Int) ≠ 0)] [] [4,0] (rt [] (C19 ((at1 x0 x1).tmod ((x2.people.length:Nat):Int))))
theorem who_rng {b:List Int} (hb:∀ y ∈ b,0≤y∧y≤255) {i:Int} (hi:0≤i) {x:Family} (hx:0<x.people.length):0≤who b i x∧who b i x<x.people.length:=by
 unfold who
 have h:=at1_rng hb hi
 rw [Int.tmod_eq_emod_of_nonneg h.1]
 exact ⟨Int.emod_nonneg _ (by omega),Int.emod_lt_of_pos _ (by omega)⟩
theorem ok_laws_who (x0:List Int) (x1:Int) (x2:Family) (hx:x0.length≤1048576) (hb:∀ y ∈ x0,0≤y∧y≤255) (hi:0≤x1∧x1≤1000) (hf:0<x2.people.length∧x2.people.length≤40):FnT Try.prog 19 [.ro false 1 x0.length (rowOf (cInt .u8) x0),.int .i64 x1,.agg (cFamily false x2)] (C19 (who x0 x1 x2)):=by
 have aux:∀ R,who x0 x1 x2=R→slim (C19 R) (A19 x0 x1 x2) []:=by
  intro R hR
  refine rg ⟨by (intros;omega),⟨by trivial,by trivial,by trivial⟩,trivial⟩ ?_
  exact congrArg C19 hR
 exact Fn.go 14 Try.func19 (by kernel_rfl) (by kernel_rfl) (by simp [C19,Frs,FrsL]) (A19 x0 x1 x2) (by kernel_rfl) (aux _ rfl)
def k19 (x0:List Int) (x1:Int) (x2:Family):Cl:=(hres (C19 (who x0 x1 x2)),k4 (ok_laws_who x0 x1 x2))
def C15 (R:Family):LV×List (Nat×BC):=(.agg [.own 0,.own 1],[(0,.arr 6 R.people.length (rowOf (cPerson true) R.people)),(1,.arr 4 R.unions.length (rowOf (cUnion true) R.unions))])
def crowd (x0:List Int) (x1:Int):Family:=bif (decide (((at1 x0 9).tmod 4)=0)) then (bif (decide (((((makeClose x0).people).length:Nat):Int)=0)) then (Family.mk [(Person.mk [97,97] 1 (-1) (-1) 0 (-1))] ((makeClose x0).unions)) else (makeClose x0)) else (bif (decide (((((makeFamily x0 x1).people).length:Nat):Int)=0)) then (Family.mk [(Person.mk [97,97] 1 (-1) (-1) 0 (-1))] ((makeFamily x0 x1).unions)) else (makeFamily x0 x1))
def A15 (x0:List Int) (x1:Int):Ann:=.reg 2 [] [(1002,k55 x0 x1)] [0,4,5] [4,5,1008,2008] [] [] [] [0] (.reg 1 [] [(1,k18 x0 9)] [0,4,5,12] [4,5,1008,2008] [] [pf ((4:Int) ≠ 0)] [] [4,0] (cn (decide (((at1 x0 9).tmod 4)=0)) (.reg 1 [] [(1,k56 x0)] [4,5] [4,5,1014,2014] [] [] [] [0] (r0 1 [4,5,18] [4,5,1014,2014] (cn (decide (((((makeClose x0).people).length:Nat):Int)=0)) (.reg 1 [] [(1,bsC 20 (cPerson true) ([(Person.mk [97,97] 1 (-1) (-1) 0 (-1))]:List Person))] [4,5] [4,5,20,2014] [] [] [] [0] (r0 1 [4] [4,20,2014] (rt [(0,some 20),(1,some 2014)] (C15 (Family.mk [(Person.mk [97,97] 1 (-1) (-1) 0 (-1))] ((makeClose x0).unions)))))) (r0 1 [4] [4,1014,2014] (rt [(0,some 1014),(1,some 2014)] (C15 (makeClose x0))))))) (r0 1 [4,5,18] [4,5,1008,2008] (cn (decide (((((makeFamily x0 x1).people).length:Nat):Int)=0)) (.reg 1 [] [(1,bsC 20 (cPerson true) ([(Person.mk [97,97] 1 (-1) (-1) 0 (-1))]:List Person))] [4,5] [4,5,20,2008] [] [] [] [0] (r0 1 [4] [4,20,2008] (rt [(0,some 20),(1,some 2008)] (C15 (Family.mk [(Person.mk [97,97] 1 (-1) (-1) 0 (-1))] ((makeFamily x0 x1).unions)))))) (r0 1 [4] [4,1008,2008] (rt [(0,some 1008),(1,some 2008)] (C15 (makeFamily x0 x1))))))))
theorem crowd_ok {b:List Int} (hx:b.length≤1048576) (hb:∀ y ∈ b,0≤y∧y≤255) (m:Int):specIsFamily (crowd b m)=true∧0<(crowd b m).people.length:=by
 have one:∀ z:Family,specIsFamily z=true→((z.people.length:Nat):Int)=0→specIsFamily (Family.mk [(Person.mk [97,97] 1 (-1) (-1) 0 (-1))] z.unions)=true:=fun z hz h0=>by
  have hu:z.unions=[]:=by
   cases hu:z.unions with
   | nil=>rfl
   | cons u r =>
    have:=(fam_u hz (k:=0) (by rw [hu];simp)).man
    omega
  rw [hu]
  exact (by kernel_rfl:specIsFamily (Family.mk [(Person.mk [97,97] 1 (-1) (-1) 0 (-1))] [])=true)
 have both:∀ z:Family,specIsFamily z=true→∀ r:Family,(bif decide (((z.people.length:Nat):Int)=0) then (Family.mk [(Person.mk [97,97] 1 (-1) (-1) 0 (-1))] z.unions) else z)=r→specIsFamily r=true∧0<r.people.length:=fun z hz r hr=>by
  subst hr
  exact cond_both (p:=fun (r:Family)=>specIsFamily r=true∧0<r.people.length) (fun c=>⟨one z hz (of_decide_eq_true c),by simp⟩) (fun c=>⟨hz,by have:=of_decide_eq_false c;omega⟩)
 unfold crowd
 refine cond_both (p:=fun (r:Family)=>specIsFamily r=true∧0<r.people.length) (fun _=>both (makeClose b) (l8Close_ok (l01New_ok hb hx)) _ rfl) (fun _=>both (makeFamily b m) (l1Family_ok (l01New_ok hb hx) (by omega)) _ rfl)
theorem name_len {s:List UInt8} (h:specIsName s=true):s.length≤12:=by
 simp only [specIsName,cond_f_iff,or_f_iff,loopN_all,l1In,Bool.and_eq_true,decide_eq_true_eq,decide_eq_false_iff_not,and_true] at h
 omega
theorem fam_names {x:Family} (hf:specIsFamily x=true):∀ p ∈ x.people,p.name.length≤1048576:=fun p hp=>by
 obtain ⟨i,hi,e⟩:=List.getElem_of_mem hp
 have h:=name_len (fam_p hf hi).name
 rw [List.getD_eq_getElem?_getD,List.getElem?_eq_getElem hi,Option.getD_some,e] at h
 omega
theorem bytes_ok {x:List Int} (h:x.length≤1048576∧∀ y ∈ x,inR .u8 y):x.length≤1048576∧∀ y ∈ x,0≤y∧y≤255:=⟨h.1,fun y hy=>by have:=h.2 y hy;simp only [inR] at this;omega⟩
theorem crowd_bd {b:List Int} (h:b.length≤1048576∧∀ y ∈ b,inR .u8 y) (m:Int):specIsFamily (crowd b m)=true∧(0<(crowd b m).people.length∧(crowd b m).people.length≤40)∧(crowd b m).unions.length≤60∧∀ p ∈ (crowd b m).people,p.name.length≤1048576:=by
 have h1:=crowd_ok (bytes_ok h).1 (bytes_ok h).2 m
 have h2:=fam_n h1.1
 exact ⟨h1.1,⟨h1.2,h2.1⟩,h2.2,fam_names h1.1⟩
theorem ok_laws_crowd (x0:List Int) (x1:Int) (hx:x0.length≤1048576) (hb:∀ y ∈ x0,0≤y∧y≤255) (hm:0≤x1∧x1≤40):FnT Try.prog 15 [.ro false 1 x0.length (rowOf (cInt .u8) x0),.int .i64 x1] (C15 (crowd x0 x1)):=by
 have aux:∀ R,crowd x0 x1=R→slim (C15 R) (A15 x0 x1) []:=by
  intro R hR
  refine rg ⟨⟨by trivial,by trivial⟩,trivial⟩ ?_
  refine rg ⟨by trivial,⟨by trivial,by trivial,by trivial⟩,trivial⟩ ?_
  revert hR;refine cd (fun hc1 hR=>?_) fun hc1 hR=>?_
  ·
    refine rg ⟨⟨by trivial,by trivial⟩,trivial⟩ ?_
    refine rg trivial ?_
    revert hR;refine cd (fun hc2 hR=>?_) fun hc2 hR=>?_
    ·
      refine rg ⟨trivial,trivial⟩ ?_
      refine rg trivial ?_
      exact congrArg C15 hR
    ·
      refine rg trivial ?_
      exact congrArg C15 hR
  ·
    refine rg trivial ?_
    revert hR;refine cd (fun hc3 hR=>?_) fun hc3 hR=>?_
    ·
      refine rg ⟨trivial,trivial⟩ ?_
      refine rg trivial ?_
      exact congrArg C15 hR
    ·
      refine rg trivial ?_
      exact congrArg C15 hR
 exact Fn.go 23 Try.func15 (by kernel_rfl) (by kernel_rfl) (by simp [C15,Frs,FrsL,FrsB,rowOf,cInt,cBool,cStr,cSl,FrsL_app,cPerson,cUnion,cFamily,cl01Cur]) (A15 x0 x1) (by kernel_rfl) (aux _ rfl)
def k15 (x0:List Int) (x1:Int):Cl:=(hres (C15 (crowd x0 x1)),k3 (ok_laws_crowd x0 x1))
def C39 (R:(List Int)):LV×List (Nat×BC):=(.own 0,[(0,.arr 1 R.length (rowOf (cInt .i64) R))])
def specParents (x0:Family) (x1:Int):(List Int):=bif (!(l1Has x0 x1)) then ([]:List Int) else (l1Parents x0 x1)
def A39 (x0:Family) (x1:Int):Ann:=r0 1 [1,2,4] [2] (.reg 1 [] [(2,k60 x0 x1)] [1,2,4,8] [2] [] [] [] [0] (cn (!(l1Has x0 x1)) (r0 1 [1,2,4] [2] (rt [(0,none)] (C39 ([]:List Int)))) (.reg 1 [] [(2,k80 x0 x1)] [4] [1011] [] [] [] [0] (rt [(0,some 1011)] (C39 (l1Parents x0 x1))))))
theorem specParents_len (x:Family) (p:Int):(specParents x p).length≤2:=by
 unfold specParents
 exact cond_both (p:=fun (r:List Int)=>r.length≤2) (fun _=>by simp) (fun _=>(l1Parents_rng x p).1)
theorem ok_spec_ParentsOf (x0:Family) (x1:Int) (hx:x0.people.length≤1048576) (hu:x0.unions.length≤1048576) (hn:∀ p ∈ x0.people,p.name.length≤1048576):FnT Try.prog 39 [.agg (cFamily false x0),.int .i64 x1] (C39 (specParents x0 x1)):=by
 have aux:∀ R,specParents x0 x1=R→slim (C39 R) (A39 x0 x1) []:=by
  intro R hR
  refine rg trivial ?_
  refine rg ⟨⟨by trivial,by trivial,by trivial⟩,trivial⟩ ?_
  revert hR;refine cd (fun hc1 hR=>?_) fun hc1 hR=>?_
  ·
    refine rg trivial ?_
    exact congrArg C39 hR
  ·
    refine rg ⟨⟨by trivial,by (have h9:=(l1Has_iff x0 x1).1 (by simpa using hc1);omega)⟩,trivial⟩ ?_
    have hp1:=l1Parents_rng x0 x1
    exact congrArg C39 hR
 exact Fn.go 12 Try.func39 (by kernel_rfl) (by kernel_rfl) (by simp [C39,Frs,FrsL,FrsB,rowOf,cInt,cBool,cStr,cSl,FrsL_app,cPerson,cUnion,cFamily,cl01Cur]) (A39 x0 x1) (by kernel_rfl) (aux _ rfl)
def k39 (x0:Family) (x1:Int):Cl:=(hres (C39 (specParents x0 x1)),k3 (ok_spec_ParentsOf x0 x1))
def C26 (R:Bool):LV×List (Nat×BC):=(.bool R,[])
def lawHas (x0:List Int) (x1:Int):Bool:=loopN (fun i1 (v1:Unit) next=>bif (decide (x1=(x0.getD i1 default))) then true else (next ())) (fun (v1:Unit)=>false) x0.length 0 ()
def D26b1 (x0:List Int) (x1:Int) (i1:Nat) (v1:Unit):Dl:=⟨[(9,.int .i64 ((i1:Nat):Int))],[]⟩
def A26b1 (x0:List Int) (x1:Int) (i1:Nat) (v1:Unit):Ann:=r0 1 [1,4,7,8,9,10] [] (cn (decide (((i1:Nat):Int)<((x0.length:Nat):Int))) (r1 2 [1,4,7,8,9,15] [] [pf (0≤(((i1:Nat):Int):Int)∧(((i1:Nat):Int):Int)<((x0.length:Nat):Int))] [0] (cn (decide (x1=(x0.getD i1 default))) (r0 1 [1,4,7,8,9] [] (rt [] (C26 true))) (r1 1 [1,4,7,8,9] [] [pf (inR .i64 (((i1:Nat):Int)+1))] [0] (.next 0 [] (D26b1 x0 x1 (i1+1) ()))))) (r0 1 [4] [] (rt [] (C26 false))))
def A26 (x0:List Int) (x1:Int):Ann:=r0 1 [0,1,4] [] (r0 1 [1,4,7,8,9] [] (lp (D26b1 x0 x1) [] [] [] (D26b1 x0 x1 0 ()) (A26b1 x0 x1)))
theorem ok_laws_has (x0:List Int) (x1:Int) (hx:x0.length≤1048576):FnT Try.prog 26 [.ro false 1 x0.length (rowOf (cInt .i64) x0),.int .i64 x1] (C26 (lawHas x0 x1)):=by
 have aux:∀ R,lawHas x0 x1=R→slim (C26 R) (A26 x0 x1) []:=by
  intro R hR
  refine rg trivial ?_
  refine rg trivial ?_
  revert hR;refine lN (fun i v=>True) (by trivial) rfl fun i1 v1 F1 hn1 hI1 hR hK1=>?_
  refine rg trivial ?_
  refine ⟨fun hc1=>?_,fun hc1=>?_⟩
  ·have hii1:i1<x0.length:=by have:=of_decide_eq_true hc1;omega
   replace hR:=loopN_step hR hii1
   refine rg ⟨by (intros;omega),trivial⟩ ?_
   revert hR;refine cd (fun hc2 hR=>?_) fun hc2 hR=>?_
   ·
     refine rg trivial ?_
     exact congrArg C26 hR
   ·
     refine rg ⟨by ( intros;simp only [inR];omega),trivial⟩ ?_
     exact hK1 () hii1 (by trivial) hR
  ·obtain rfl:i1=x0.length:=by have:=of_decide_eq_false hc1;omega
   replace hR:=loopN_end hR (Nat.lt_irrefl _)
   refine rg trivial ?_
   exact congrArg C26 hR
 exact Fn.go 17 Try.func26 (by kernel_rfl) (by kernel_rfl) (by simp [C26,Frs,FrsL]) (A26 x0 x1) (by kernel_rfl) (aux _ rfl)
def k26 (x0:List Int) (x1:Int):Cl:=(hres (C26 (lawHas x0 x1)),k1 (ok_laws_has x0 x1))
theorem fLoop_mem {n:Nat} {p:Nat→Bool} {f:Nat→Int} {y:Int}:y ∈ loopN (fun i (v:List Int) next=>bif p i then next (v++[f i]) else next v) (fun v=>v) n 0 [] ↔ ∃ i,i<n∧p i=true∧y=f i:=by
 refine loopN_to (fun i (v:List Int)=>y ∈ v ↔ ∃ k,k<i∧p k=true∧y=f k) (fun (r:List Int)=>y ∈ r ↔ ∃ k,k<n∧p k=true∧y=f k) (by simp) (fun i v next hi hv hn=>?_) (fun v hv=>hv)
 refine cond_both (p:=fun (r:List Int)=>y ∈ r ↔ ∃ k,k<n∧p k=true∧y=f k) (fun c=>hn _ ?_) (fun c=>hn _ ?_)
 ·simp only [List.mem_append,List.mem_singleton,hv]
  constructor
  ·rintro (⟨k,h1,h2,h3⟩ | h)
   ·exact ⟨k,by omega,h2,h3⟩
   ·exact ⟨i,by omega,c,h⟩
  ·rintro ⟨k,h1,h2,h3⟩
   by_cases e:k=i
   ·subst e;exact .inr h3
   ·exact .inl ⟨k,by omega,h2,h3⟩
 ·rw [hv]
  constructor
  ·rintro ⟨k,h1,h2,h3⟩;exact ⟨k,by omega,h2,h3⟩
  ·rintro ⟨k,h1,h2,h3⟩
   by_cases e:k=i
   ·subst e;rw [c] at h2;cases h2
   ·exact ⟨k,by omega,h2,h3⟩
theorem lawHas_iff (l:List Int) (y:Int):lawHas l y=true ↔ y ∈ l:=by
 unfold lawHas
 rw [loopN_any]
 constructor
 ·rintro (⟨j,h1,h2⟩ | h)
  ·rw [of_decide_eq_true h2];exact getD_mem h1
  ·cases h
 ·intro h
  obtain ⟨k,h1,h2⟩:=mem_getD (d:=default) h
  exact .inl ⟨k,h1,decide_eq_true h2.symm⟩
theorem Up.head {x:Family} {p q:Int} {n:Nat} (h:Up x p n q):(n=0∧q=p) ∨ ∃ r m,r ∈ l1Parents x p∧n=m+1∧Up x r m q:=by
 induction h with
 | zero=>exact .inl ⟨rfl,rfl⟩
 | @step n a q h hq ih =>
  rcases ih with ⟨e1,e2⟩ | ⟨r,m,h1,h2,h3⟩
  ·subst e1;subst e2;exact .inr ⟨q,0,hq,rfl,.zero⟩
  ·exact .inr ⟨r,m+1,h1,by omega,.step h3 hq⟩
theorem Up.cons {x:Family} {p r q:Int} {n:Nat} (hr:r ∈ l1Parents x p) (h:Up x r n q):Up x p (n+1) q:=by
 induction h with
 | zero=>exact .step .zero hr
 | step _ hq ih=>exact .step ih hq
def Above (x:Family) (p q:Int):Prop:=∃ n,Up x p n q
theorem Above.self (x:Family) (p:Int):Above x p p:=⟨0,.zero⟩
theorem Above.cons {x:Family} {p r q:Int} (hr:r ∈ l1Parents x p):Above x r q→Above x p q:=fun ⟨n,h⟩=>⟨n+1,h.cons hr⟩
theorem Above.head {x:Family} {p q:Int}:Above x p q→q=p ∨ ∃ r,r ∈ l1Parents x p∧Above x r q:=fun ⟨n,h⟩=>by
 rcases h.head with ⟨_,e⟩ | ⟨r,m,h1,_,h3⟩
 ·exact .inl e
 ·exact .inr ⟨r,h1,m,h3⟩
theorem above_iff {x:Family} (hf:specIsFamily x=true) {p:Int} (hp:0≤p∧p<x.people.length) {q:Int} (hq:0≤q∧q<x.people.length):0≤(l8Up x p).getD q.toNat default ↔ Above x p q:=by
 have hd:=l8Up_dist x p (isFamily_par x hf) hp
 have hq2:q.toNat<x.people.length:=by omega
 constructor
 ·intro h
  have:=(hd.yes q.toNat hq2 h).1
  rw [show ((q.toNat:Nat):Int)=q by omega] at this
  exact ⟨_,this⟩
 ·rintro ⟨n,h⟩
  rcases Int.lt_or_le ((l8Up x p).getD q.toNat default) 0 with c | c
  ·exact absurd (show Up x p n ((q.toNat:Nat):Int) by rw [show ((q.toNat:Nat):Int)=q by omega];exact h) ((hd.no q.toNat hq2 c).2 n)
  ·exact c
theorem Above.rng {x:Family} (hf:specIsFamily x=true) {p:Int} (hp:0≤p∧p<x.people.length) {q:Int}:Above x p q→0≤q∧q<x.people.length∧q≤p:=fun ⟨n,h⟩=>by
 have:=h.rng (isFamily_par x hf) hp;omega
end Go.Proofs.Ytkkijpibajigfaa
