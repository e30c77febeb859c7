import Derived.Test.YtaageiiodlfeiaaGreatM9
set_option maxHeartbeats 4000000
set_option linter.unusedSimpArgs false
set_option linter.unusedVariables false
namespace Go.Proofs.YtaageiiodlfeiaaGreat
open Go Go.Lite Go.Proofs
def zdc (x0:Family) (x1:Int) (x2:Int):Int×Int×Bool:=loopN (fun i1 (v1:Int×Int) next=>bif (((decide (v1.1<0))||(decide ((((l8Up x0 x1).getD (((zb2 x0 x1 x2).getD i1 default).toNat) default)+((l8Up x0 x2).getD (((zb2 x0 x1 x2).getD i1 default).toNat) default))<(v1.1+v1.2))))||((decide ((((l8Up x0 x1).getD (((zb2 x0 x1 x2).getD i1 default).toNat) default)+((l8Up x0 x2).getD (((zb2 x0 x1 x2).getD i1 default).toNat) default))=(v1.1+v1.2)))&&((decide ((Max.max ((l8Up x0 x1).getD (((zb2 x0 x1 x2).getD i1 default).toNat) default) ((l8Up x0 x2).getD (((zb2 x0 x1 x2).getD i1 default).toNat) default))<(Max.max v1.1 v1.2)))||((decide ((Max.max ((l8Up x0 x1).getD (((zb2 x0 x1 x2).getD i1 default).toNat) default) ((l8Up x0 x2).getD (((zb2 x0 x1 x2).getD i1 default).toNat) default))=(Max.max v1.1 v1.2)))&&(decide (((l8Up x0 x1).getD (((zb2 x0 x1 x2).getD i1 default).toNat) default)<v1.1)))))) then (next (((l8Up x0 x1).getD (((zb2 x0 x1 x2).getD i1 default).toNat) default),((l8Up x0 x2).getD (((zb2 x0 x1 x2).getD i1 default).toNat) default))) else (next (v1.1,v1.2))) (fun (v1:Int×Int)=>bif (decide (v1.1<0)) then (0,0,false) else (v1.1,v1.2,true)) ((zb2 x0 x1 x2).length) 0 ((-1),(-1))
theorem zqq (x:Family) (a b:Int):(0≤(zdc x a b).1∧(zdc x a b).1≤x.people.length)∧0≤(zdc x a b).2.1∧(zdc x a b).2.1≤x.people.length:=by
 unfold zdc
 refine zb3 (fun i (v:Int×Int)=>(-1≤v.1∧v.1≤x.people.length)∧-1≤v.2∧v.2≤x.people.length∧(0≤v.1→0≤v.2)) (fun (r:Int×Int×Bool)=>(0≤r.1∧r.1≤x.people.length)∧0≤r.2.1∧r.2.1≤x.people.length) zaz (fun i v next hi hv hn=>?_) (fun v hv=>?_)
 ·obtain ⟨⟨hf,ha,hb⟩,g1,g2,g3,g4⟩:=ziz hi
  have h1:=zxu x a (zbn x hf) ha ((zb2 x a b).getD i default).toNat
  have h2:=zxu x b (zbn x hf) hb ((zb2 x a b).getD i default).toNat
  exact zbm (p:=fun (r:Int×Int×Bool)=>(0≤r.1∧r.1≤x.people.length)∧0≤r.2.1∧r.2.1≤x.people.length) (fun _=>hn _ zaz) (fun _=>hn _ hv)
 ·refine zbm (p:=fun (r:Int×Int×Bool)=>(0≤r.1∧r.1≤x.people.length)∧0≤r.2.1∧r.2.1≤x.people.length) (fun _=>by simp only;omega) (fun c=>?_)
  have:=of_decide_eq_false c
  simp only;omega
def zjr (x0:Family) (x1:Int) (x2:Int):Int×Bool:=(((zdc x0 x1 x2).1)+((zdc x0 x1 x2).2.1),(zdc x0 x1 x2).2.2)
def zgb (x0:Family) (x1:Int) (x2:Int):Int×Bool:=loopN (fun i1 (v1:Int) next=>bif ((decide (v1<0))||(decide ((Max.max ((l8Up x0 x1).getD (((zb2 x0 x1 x2).getD i1 default).toNat) default) ((l8Up x0 x2).getD (((zb2 x0 x1 x2).getD i1 default).toNat) default))<v1))) then (next (Max.max ((l8Up x0 x1).getD (((zb2 x0 x1 x2).getD i1 default).toNat) default) ((l8Up x0 x2).getD (((zb2 x0 x1 x2).getD i1 default).toNat) default))) else (next v1)) (fun (v1:Int)=>bif (decide (v1<0)) then (0,false) else (v1,true)) ((zb2 x0 x1 x2).length) 0 (-1)
def C46 (R:Int×Int×Bool):LV×List (Nat×BC):=(.tup [.int .i64 R.1,.int .i64 R.2.1,.bool R.2.2],[])
def zde (x0:Family) (x1:Int) (x2:Int):Int×Int×Bool:=loopN (fun i1 (v1:Int×Int×Bool) next=>bif (!v1.2.2) then (next (((zbg x0 x1).getD (((za5 x0 x1 x2).getD i1 default).toNat) default),((zbg x0 x2).getD (((za5 x0 x1 x2).getD i1 default).toNat) default),true)) else (bif (!decide ((((zbg x0 x1).getD (((za5 x0 x1 x2).getD i1 default).toNat) default)+((zbg x0 x2).getD (((za5 x0 x1 x2).getD i1 default).toNat) default))=(v1.1+v1.2.1))) then (bif (decide ((v1.1+v1.2.1)<(((zbg x0 x1).getD (((za5 x0 x1 x2).getD i1 default).toNat) default)+((zbg x0 x2).getD (((za5 x0 x1 x2).getD i1 default).toNat) default)))) then (next (v1.1,v1.2.1,v1.2.2)) else (next (((zbg x0 x1).getD (((za5 x0 x1 x2).getD i1 default).toNat) default),((zbg x0 x2).getD (((za5 x0 x1 x2).getD i1 default).toNat) default),true))) else (bif (!decide ((Max.max ((zbg x0 x1).getD (((za5 x0 x1 x2).getD i1 default).toNat) default) ((zbg x0 x2).getD (((za5 x0 x1 x2).getD i1 default).toNat) default))=(Max.max v1.1 v1.2.1))) then (bif (decide ((Max.max v1.1 v1.2.1)<(Max.max ((zbg x0 x1).getD (((za5 x0 x1 x2).getD i1 default).toNat) default) ((zbg x0 x2).getD (((za5 x0 x1 x2).getD i1 default).toNat) default)))) then (next (v1.1,v1.2.1,v1.2.2)) else (next (((zbg x0 x1).getD (((za5 x0 x1 x2).getD i1 default).toNat) default),((zbg x0 x2).getD (((za5 x0 x1 x2).getD i1 default).toNat) default),true))) else (bif (decide (v1.1≤((zbg x0 x1).getD (((za5 x0 x1 x2).getD i1 default).toNat) default))) then (next (v1.1,v1.2.1,v1.2.2)) else (next (((zbg x0 x1).getD (((za5 x0 x1 x2).getD i1 default).toNat) default),((zbg x0 x2).getD (((za5 x0 x1 x2).getD i1 default).toNat) default),true)))))) (fun (v1:Int×Int×Bool)=>(v1.1,v1.2.1,v1.2.2)) ((za5 x0 x1 x2).length) 0 (0,0,false)
def D46b1 (x0:Family) (x1:Int) (x2:Int) (i1:Nat) (v1:Int×Int×Bool):Dl:=⟨[(29,.int .i64 ((i1:Nat):Int)),(11,.int .i64 v1.1),(12,.int .i64 v1.2.1),(13,.bool v1.2.2)],[]⟩
def A46b1 (x0:Family) (x1:Int) (x2:Int) (i1:Nat) (v1:Int×Int×Bool):Ann:=r0 1 [6,7,8,9,10,11,12,13,27,28,29,30] [1020,1023,1027] (cn (decide (((i1:Nat):Int)<(((za5 x0 x1 x2).length:Nat):Int))) (r1 2 [6,7,8,9,10,11,12,13,16,17,27,28,29] [1020,1023,1027] [pf (0≤(((i1:Nat):Int):Int)∧(((i1:Nat):Int):Int)<(((za5 x0 x1 x2).length:Nat):Int)),pf (0≤(((za5 x0 x1 x2).getD i1 default):Int)∧(((za5 x0 x1 x2).getD i1 default):Int)<(((zbg x0 x1).length:Nat):Int)),pf (0≤(((za5 x0 x1 x2).getD i1 default):Int)∧(((za5 x0 x1 x2).getD i1 default):Int)<(((zbg x0 x2).length:Nat):Int))] [0,4,8] (r0 1 [6,7,8,9,10,11,12,13,16,17,27,28,29,41] [1020,1023,1027] (cn (!v1.2.2) (r0 1 [6,7,8,9,10,11,12,13,27,28,29] [1020,1023,1027] (r1 1 [6,7,8,9,10,11,12,13,27,28,29] [1020,1023,1027] [pf (inR .i64 (((i1:Nat):Int)+1))] [0] (.next 0 [] (D46b1 x0 x1 x2 (i1+1) (((zbg x0 x1).getD (((za5 x0 x1 x2).getD i1 default).toNat) default),((zbg x0 x2).getD (((za5 x0 x1 x2).getD i1 default).toNat) default),true))))) (r1 1 [6,7,8,9,10,11,12,13,16,17,27,28,29,44] [1020,1023,1027] [pf (inR .i64 (((zbg x0 x1).getD (((za5 x0 x1 x2).getD i1 default).toNat) default)+((zbg x0 x2).getD (((za5 x0 x1 x2).getD i1 default).toNat) default))),pf (inR .i64 (v1.1+v1.2.1))] [0,4] (cn (!decide ((((zbg x0 x1).getD (((za5 x0 x1 x2).getD i1 default).toNat) default)+((zbg x0 x2).getD (((za5 x0 x1 x2).getD i1 default).toNat) default))=(v1.1+v1.2.1))) (r1 1 [6,7,8,9,10,11,12,13,16,17,27,28,29,58] [1020,1023,1027] [pf (inR .i64 (((zbg x0 x1).getD (((za5 x0 x1 x2).getD i1 default).toNat) default)+((zbg x0 x2).getD (((za5 x0 x1 x2).getD i1 default).toNat) default))),pf (inR .i64 (v1.1+v1.2.1))] [0,4] (cn (decide ((v1.1+v1.2.1)<(((zbg x0 x1).getD (((za5 x0 x1 x2).getD i1 default).toNat) default)+((zbg x0 x2).getD (((za5 x0 x1 x2).getD i1 default).toNat) default)))) (r1 1 [6,7,8,9,10,11,12,13,27,28,29] [1020,1023,1027] [pf (inR .i64 (((i1:Nat):Int)+1))] [0] (.next 0 [] (D46b1 x0 x1 x2 (i1+1) (v1.1,v1.2.1,v1.2.2)))) (r0 1 [6,7,8,9,10,11,12,13,27,28,29] [1020,1023,1027] (r1 1 [6,7,8,9,10,11,12,13,27,28,29] [1020,1023,1027] [pf (inR .i64 (((i1:Nat):Int)+1))] [0] (.next 0 [] (D46b1 x0 x1 x2 (i1+1) (((zbg x0 x1).getD (((za5 x0 x1 x2).getD i1 default).toNat) default),((zbg x0 x2).getD (((za5 x0 x1 x2).getD i1 default).toNat) default),true))))))) (r0 1 [6,7,8,9,10,11,12,13,16,17,27,28,29,59] [1020,1023,1027] (cn (!decide ((Max.max ((zbg x0 x1).getD (((za5 x0 x1 x2).getD i1 default).toNat) default) ((zbg x0 x2).getD (((za5 x0 x1 x2).getD i1 default).toNat) default))=(Max.max v1.1 v1.2.1))) (r0 1 [6,7,8,9,10,11,12,13,16,17,27,28,29,73] [1020,1023,1027] (cn (decide ((Max.max v1.1 v1.2.1)<(Max.max ((zbg x0 x1).getD (((za5 x0 x1 x2).getD i1 default).toNat) default) ((zbg x0 x2).getD (((za5 x0 x1 x2).getD i1 default).toNat) default)))) (r1 1 [6,7,8,9,10,11,12,13,27,28,29] [1020,1023,1027] [pf (inR .i64 (((i1:Nat):Int)+1))] [0] (.next 0 [] (D46b1 x0 x1 x2 (i1+1) (v1.1,v1.2.1,v1.2.2)))) (r0 1 [6,7,8,9,10,11,12,13,27,28,29] [1020,1023,1027] (r1 1 [6,7,8,9,10,11,12,13,27,28,29] [1020,1023,1027] [pf (inR .i64 (((i1:Nat):Int)+1))] [0] (.next 0 [] (D46b1 x0 x1 x2 (i1+1) (((zbg x0 x1).getD (((za5 x0 x1 x2).getD i1 default).toNat) default),((zbg x0 x2).getD (((za5 x0 x1 x2).getD i1 default).toNat) default),true))))))) (r0 1 [6,7,8,9,10,11,12,13,16,17,27,28,29,74] [1020,1023,1027] (cn (decide (v1.1≤((zbg x0 x1).getD (((za5 x0 x1 x2).getD i1 default).toNat) default))) (r1 1 [6,7,8,9,10,11,12,13,27,28,29] [1020,1023,1027] [pf (inR .i64 (((i1:Nat):Int)+1))] [0] (.next 0 [] (D46b1 x0 x1 x2 (i1+1) (v1.1,v1.2.1,v1.2.2)))) (r0 1 [6,7,8,9,10,11,12,13,27,28,29] [1020,1023,1027] (r1 1 [6,7,8,9,10,11,12,13,27,28,29] [1020,1023,1027] [pf (inR .i64 (((i1:Nat):Int)+1))] [0] (.next 0 [] (D46b1 x0 x1 x2 (i1+1) (((zbg x0 x1).getD (((za5 x0 x1 x2).getD i1 default).toNat) default),((zbg x0 x2).getD (((za5 x0 x1 x2).getD i1 default).toNat) default),true)))))))))))))) (r0 1 [6,7,8] [] (rt [] (C46 (v1.1,v1.2.1,v1.2.2)))))
def A46 (x0:Family) (x1:Int) (x2:Int):Ann:=.reg 3 [] [(1002,k51 x0 x1),(1005,k51 x0 x2)] [1,2,3,6,7,8,9,10,11,12,13] [3,1020,1023] [] [] [] [0,4] (.reg 1 [] [(3,k91 x0 x1 x2)] [6,7,8,9,10,11,12,13,27,28,29] [1020,1023,1027] [] [] [] [0] (lp (D46b1 x0 x1 x2) [] [] [] (D46b1 x0 x1 x2 0 (0,0,false)) (A46b1 x0 x1 x2)))
theorem zo4 (x0:Family) (x1:Int) (x2:Int) (hx:x0.people.length≤1048576) (hi:0≤x1∧x1<x0.people.length) (hj:0≤x2∧x2<x0.people.length) (hp:∀ (k:Nat),k<x0.people.length→(x0.people.getD k default).father<k∧(x0.people.getD k default).mother<k):FnT Tryz.prog 46 [.agg (zbx false x0),.int .i64 x1,.int .i64 x2] (C46 (zde x0 x1 x2)):=by
 have aux:∀ R,zde x0 x1 x2=R→slim (C46 R) (A46 x0 x1 x2) []:=by
  intro R hR
  refine rg ⟨⟨by trivial,by trivial,by trivial⟩,⟨by trivial,by trivial,by trivial⟩,trivial⟩ ?_
  refine rg ⟨⟨by trivial,by trivial,by trivial,by trivial⟩,trivial⟩ ?_
  revert hR;refine lN (fun i v=>(0≤v.1∧v.1≤x0.people.length)∧0≤v.2.1∧v.2.1≤x0.people.length) (by ( intros;simp only [inR];omega)) rfl fun i1 v1 F1 hn1 hI1 hR hK1=>?_
  refine rg trivial ?_
  refine ⟨fun hc1=>?_,fun hc1=>?_⟩
  ·have hii1:i1<(za5 x0 x1 x2).length:=by have:=of_decide_eq_true hc1;omega
   replace hR:=zbj hR hii1
   refine rg ⟨by (intros;omega),by (have h9:=zfl hp hi hj hii1;have:=zcb x0 x1 hp hi;have:=zcb x0 x2 hp hj;omega),by (have h9:=zfl hp hi hj hii1;have:=zcb x0 x1 hp hi;have:=zcb x0 x2 hp hj;omega),trivial⟩ ?_
   refine rg trivial ?_
   revert hR;refine cd (fun hc2 hR=>?_) fun hc2 hR=>?_
   ·
     refine rg trivial ?_
     refine rg ⟨by ((try clear hR hK1);intros;(try simp only [decide_eq_true_eq,decide_eq_false_iff_not,Bool.or_eq_true,Bool.and_eq_true,zbd,za9,zba,Bool.not_eq_true',inR] at *);(repeat' apply And.intro)<;>(first | (intros;omega) | (have:=zeq hp hi hj;omega))),trivial⟩ ?_
     exact hK1 (((zbg x0 x1).getD (((za5 x0 x1 x2).getD i1 default).toNat) default),((zbg x0 x2).getD (((za5 x0 x1 x2).getD i1 default).toNat) default),true) hii1 zaa hR
   ·
     refine rg ⟨by ((try clear hR hK1);intros;(try simp only [decide_eq_true_eq,decide_eq_false_iff_not,Bool.or_eq_true,Bool.and_eq_true,zbd,za9,zba,Bool.not_eq_true',inR] at *);(repeat' apply And.intro)<;>(first | (have h9:=zfl hp hi hj hii1;have:=zcb x0 x1 hp hi;have:=zcb x0 x2 hp hj;omega) | (have:=zf5 x0 x1 hp hi ((za5 x0 x1 x2).getD i1 default).toNat;have:=zf5 x0 x2 hp hj ((za5 x0 x1 x2).getD i1 default).toNat;omega))),by ( intros;simp only [inR];omega),trivial⟩ ?_
     revert hR;refine cd (fun hc3 hR=>?_) fun hc3 hR=>?_
     ·
       refine rg ⟨by ((try clear hR hK1);intros;(try simp only [decide_eq_true_eq,decide_eq_false_iff_not,Bool.or_eq_true,Bool.and_eq_true,zbd,za9,zba,Bool.not_eq_true',inR] at *);(repeat' apply And.intro)<;>(first | (have h9:=zfl hp hi hj hii1;have:=zcb x0 x1 hp hi;have:=zcb x0 x2 hp hj;omega) | (have:=zf5 x0 x1 hp hi ((za5 x0 x1 x2).getD i1 default).toNat;have:=zf5 x0 x2 hp hj ((za5 x0 x1 x2).getD i1 default).toNat;omega))),by ( intros;simp only [inR];omega),trivial⟩ ?_
       revert hR;refine cd (fun hc4 hR=>?_) fun hc4 hR=>?_
       ·
         refine rg ⟨by ((try clear hR hK1);intros;(try simp only [decide_eq_true_eq,decide_eq_false_iff_not,Bool.or_eq_true,Bool.and_eq_true,zbd,za9,zba,Bool.not_eq_true',inR] at *);(repeat' apply And.intro)<;>(first | (intros;omega) | (have:=zeq hp hi hj;omega))),trivial⟩ ?_
         exact hK1 (v1.1,v1.2.1,v1.2.2) hii1 zai hR
       ·
         refine rg trivial ?_
         refine rg ⟨by ((try clear hR hK1);intros;(try simp only [decide_eq_true_eq,decide_eq_false_iff_not,Bool.or_eq_true,Bool.and_eq_true,zbd,za9,zba,Bool.not_eq_true',inR] at *);(repeat' apply And.intro)<;>(first | (intros;omega) | (have:=zeq hp hi hj;omega))),trivial⟩ ?_
         exact hK1 (((zbg x0 x1).getD (((za5 x0 x1 x2).getD i1 default).toNat) default),((zbg x0 x2).getD (((za5 x0 x1 x2).getD i1 default).toNat) default),true) hii1 zaa hR
     ·
       refine rg trivial ?_
       revert hR;refine cd (fun hc5 hR=>?_) fun hc5 hR=>?_
       ·
         refine rg trivial ?_
         revert hR;refine cd (fun hc6 hR=>?_) fun hc6 hR=>?_
         ·
           refine rg ⟨by ((try clear hR hK1);intros;(try simp only [decide_eq_true_eq,decide_eq_false_iff_not,Bool.or_eq_true,Bool.and_eq_true,zbd,za9,zba,Bool.not_eq_true',inR] at *);(repeat' apply And.intro)<;>(first | (intros;omega) | (have:=zeq hp hi hj;omega))),trivial⟩ ?_
           exact hK1 (v1.1,v1.2.1,v1.2.2) hii1 zai hR
         ·
           refine rg trivial ?_
           refine rg ⟨by ((try clear hR hK1);intros;(try simp only [decide_eq_true_eq,decide_eq_false_iff_not,Bool.or_eq_true,Bool.and_eq_true,zbd,za9,zba,Bool.not_eq_true',inR] at *);(repeat' apply And.intro)<;>(first | (intros;omega) | (have:=zeq hp hi hj;omega))),trivial⟩ ?_
           exact hK1 (((zbg x0 x1).getD (((za5 x0 x1 x2).getD i1 default).toNat) default),((zbg x0 x2).getD (((za5 x0 x1 x2).getD i1 default).toNat) default),true) hii1 zaa hR
       ·
         refine rg trivial ?_
         revert hR;refine cd (fun hc7 hR=>?_) fun hc7 hR=>?_
         ·
           refine rg ⟨by ((try clear hR hK1);intros;(try simp only [decide_eq_true_eq,decide_eq_false_iff_not,Bool.or_eq_true,Bool.and_eq_true,zbd,za9,zba,Bool.not_eq_true',inR] at *);(repeat' apply And.intro)<;>(first | (intros;omega) | (have:=zeq hp hi hj;omega))),trivial⟩ ?_
           exact hK1 (v1.1,v1.2.1,v1.2.2) hii1 zai hR
         ·
           refine rg trivial ?_
           refine rg ⟨by ((try clear hR hK1);intros;(try simp only [decide_eq_true_eq,decide_eq_false_iff_not,Bool.or_eq_true,Bool.and_eq_true,zbd,za9,zba,Bool.not_eq_true',inR] at *);(repeat' apply And.intro)<;>(first | (intros;omega) | (have:=zeq hp hi hj;omega))),trivial⟩ ?_
           exact hK1 (((zbg x0 x1).getD (((za5 x0 x1 x2).getD i1 default).toNat) default),((zbg x0 x2).getD (((za5 x0 x1 x2).getD i1 default).toNat) default),true) hii1 zaa hR
  ·obtain rfl:i1=(za5 x0 x1 x2).length:=by have:=of_decide_eq_false hc1;omega
   replace hR:=zbp hR (Nat.lt_irrefl _)
   refine rg trivial ?_
   exact congrArg C46 hR
 exact Fn.go 84 Tryz.func46 zah zah (by simp [C46,Frs,FrsL]) (A46 x0 x1 x2) zah (aux _ rfl)
def k46 (x0:Family) (x1:Int) (x2:Int):Cl:=(hres (C46 (zde x0 x1 x2)),k4 (zo4 x0 x1 x2))
def C15 (R:Int×Int×Bool):LV×List (Nat×BC):=(.tup [.int .i64 R.1,.int .i64 R.2.1,.bool R.2.2],[])
def za7 (x0:Family) (x1:Int) (x2:Int):Int×Int×Bool:=bif (!(zcm x0 [x1,x2])) then (0,0,false) else ((zde x0 x1 x2).1,(zde x0 x1 x2).2.1,(zde x0 x1 x2).2.2)
def A15 (x0:Family) (x1:Int) (x2:Int):Ann:=r0 1 [1,2,3,6,7,8] [3] (.reg 1 [] [(3,bsC 12 (cInt .i64) ([x1,x2]:List Int)),(4,k45 x0 [x1,x2])] [1,2,3,6,7,8,14] [3] [] [] [] [0,4] (cn (!(zcm x0 [x1,x2])) (r0 1 [1,2,3,6,7,8] [3] (rt [] (C15 (0,0,false)))) (.reg 1 [] [(3,k46 x0 x1 x2)] [6,7,8] [] [] [] [] [0] (rt [] (C15 ((zde x0 x1 x2).1,(zde x0 x1 x2).2.1,(zde x0 x1 x2).2.2))))))
theorem zo9 (x0:Family) (x1:Int) (x2:Int) (hx:x0.people.length≤1048576) (hu:x0.unions.length≤1048576) (hn:∀ p∈x0.people,p.name.length≤1048576):FnT Tryz.prog 15 [.agg (zbx false x0),.int .i64 x1,.int .i64 x2] (C15 (za7 x0 x1 x2)):=by
 have aux:∀ R,za7 x0 x1 x2=R→slim (C15 R) (A15 x0 x1 x2) []:=by
  intro R hR
  refine rg trivial ?_
  refine rg ⟨trivial,⟨by trivial,by trivial,by trivial,by ((try clear hR);intros;(try simp only [decide_eq_true_eq,decide_eq_false_iff_not,Bool.or_eq_true,Bool.and_eq_true,zbd,za9,zba,Bool.not_eq_true',inR] at *);(repeat' apply And.intro)<;>(simp_all [inR];done))⟩,trivial⟩ ?_
  revert hR;refine cd (fun hc1 hR=>?_) fun hc1 hR=>?_
  ·
    refine rg trivial ?_
    exact congrArg C15 hR
  ·
    refine rg ⟨⟨by trivial,by (have h9:=(zdz x0 x1 x2).1 zag;omega),by (have h9:=(zdz x0 x1 x2).1 zag;omega),by (have h9:=(zdz x0 x1 x2).1 zag;exact zbn _ h9.1)⟩,trivial⟩ ?_
    exact congrArg C15 hR
 exact Fn.go 22 Tryz.func15 zah zah (by simp [C15,Frs,FrsL]) (A15 x0 x1 x2) zah (aux _ rfl)
def k15 (x0:Family) (x1:Int) (x2:Int):Cl:=(hres (C15 (za7 x0 x1 x2)),k3 (zo9 x0 x1 x2))
def C97 (R:Int×Bool):LV×List (Nat×BC):=(.tup [.int .i64 R.1,.bool R.2],[])
def zck (x0:Family) (x1:Int) (x2:Int):Int×Bool:=loopN (fun i1 (v1:Int×Bool) next=>bif ((!v1.2)||(decide ((Max.max ((zbg x0 x1).getD (((za5 x0 x1 x2).getD i1 default).toNat) default) ((zbg x0 x2).getD (((za5 x0 x1 x2).getD i1 default).toNat) default))<v1.1))) then (next (Max.max ((zbg x0 x1).getD (((za5 x0 x1 x2).getD i1 default).toNat) default) ((zbg x0 x2).getD (((za5 x0 x1 x2).getD i1 default).toNat) default),true)) else (next (v1.1,v1.2))) (fun (v1:Int×Bool)=>(v1.1,v1.2)) ((za5 x0 x1 x2).length) 0 (0,false)
def D97b1 (x0:Family) (x1:Int) (x2:Int) (i1:Nat) (v1:Int×Bool):Dl:=⟨[(26,.int .i64 ((i1:Nat):Int)),(10,.int .i64 v1.1),(11,.bool v1.2)],[]⟩
def A97b1 (x0:Family) (x1:Int) (x2:Int) (i1:Nat) (v1:Int×Bool):Ann:=r0 1 [6,7,8,9,10,11,24,25,26,27] [1017,1020,1024] (cn (decide (((i1:Nat):Int)<(((za5 x0 x1 x2).length:Nat):Int))) (.reg 3 [] [] [6,7,8,9,10,11,14,24,25,26,45] [1017,1020,1024] [!(!v1.2),!v1.2] [pf (0≤(((i1:Nat):Int):Int)∧(((i1:Nat):Int):Int)<(((za5 x0 x1 x2).length:Nat):Int)),pf (0≤(((za5 x0 x1 x2).getD i1 default):Int)∧(((za5 x0 x1 x2).getD i1 default):Int)<(((zbg x0 x1).length:Nat):Int)),pf (0≤(((za5 x0 x1 x2).getD i1 default):Int)∧(((za5 x0 x1 x2).getD i1 default):Int)<(((zbg x0 x2).length:Nat):Int))] [] [0,4,8,1,1,6] (cn ((!v1.2)||(decide ((Max.max ((zbg x0 x1).getD (((za5 x0 x1 x2).getD i1 default).toNat) default) ((zbg x0 x2).getD (((za5 x0 x1 x2).getD i1 default).toNat) default))<v1.1))) (r0 1 [6,7,8,9,10,11,24,25,26] [1017,1020,1024] (r1 1 [6,7,8,9,10,11,24,25,26] [1017,1020,1024] [pf (inR .i64 (((i1:Nat):Int)+1))] [0] (.next 0 [] (D97b1 x0 x1 x2 (i1+1) (Max.max ((zbg x0 x1).getD (((za5 x0 x1 x2).getD i1 default).toNat) default) ((zbg x0 x2).getD (((za5 x0 x1 x2).getD i1 default).toNat) default),true))))) (r1 1 [6,7,8,9,10,11,24,25,26] [1017,1020,1024] [pf (inR .i64 (((i1:Nat):Int)+1))] [0] (.next 0 [] (D97b1 x0 x1 x2 (i1+1) (v1.1,v1.2)))))) (r0 1 [6,7] [] (rt [] (C97 (v1.1,v1.2)))))
def A97 (x0:Family) (x1:Int) (x2:Int):Ann:=.reg 3 [] [(1002,k51 x0 x1),(1005,k51 x0 x2)] [1,2,3,6,7,8,9,10,11] [3,1017,1020] [] [] [] [0,4] (.reg 1 [] [(3,k91 x0 x1 x2)] [6,7,8,9,10,11,24,25,26] [1017,1020,1024] [] [] [] [0] (lp (D97b1 x0 x1 x2) [] [] [] (D97b1 x0 x1 x2 0 (0,false)) (A97b1 x0 x1 x2)))
theorem zja (x0:Family) (x1:Int) (x2:Int) (hx:x0.people.length≤1048576) (hi:0≤x1∧x1<x0.people.length) (hj:0≤x2∧x2<x0.people.length) (hp:∀ (k:Nat),k<x0.people.length→(x0.people.getD k default).father<k∧(x0.people.getD k default).mother<k):FnT Tryz.prog 97 [.agg (zbx false x0),.int .i64 x1,.int .i64 x2] (C97 (zck x0 x1 x2)):=by
 have aux:∀ R,zck x0 x1 x2=R→slim (C97 R) (A97 x0 x1 x2) []:=by
  intro R hR
  refine rg ⟨⟨by trivial,by trivial,by trivial⟩,⟨by trivial,by trivial,by trivial⟩,trivial⟩ ?_
  refine rg ⟨⟨by trivial,by trivial,by trivial,by trivial⟩,trivial⟩ ?_
  revert hR;refine lN (fun i v=>True) zai rfl fun i1 v1 F1 hn1 hI1 hR hK1=>?_
  refine rg trivial ?_
  refine ⟨fun hc1=>?_,fun hc1=>?_⟩
  ·have hii1:i1<(za5 x0 x1 x2).length:=by have:=of_decide_eq_true hc1;omega
   replace hR:=zbj hR hii1
   refine rg ⟨by (intros;omega),by (have h9:=zfl hp hi hj hii1;have:=zcb x0 x1 hp hi;have:=zcb x0 x2 hp hj;omega),by (have h9:=zfl hp hi hj hii1;have:=zcb x0 x1 hp hi;have:=zcb x0 x2 hp hj;omega),trivial⟩ ?_
   revert hR;refine cd (fun hc2 hR=>?_) fun hc2 hR=>?_
   ·
     refine rg trivial ?_
     refine rg ⟨by ((try clear hR hK1);intros;(try simp only [decide_eq_true_eq,decide_eq_false_iff_not,Bool.or_eq_true,Bool.and_eq_true,zbd,za9,zba,Bool.not_eq_true',inR] at *);(repeat' apply And.intro)<;>(first | (intros;omega) | (have:=zeq hp hi hj;omega))),trivial⟩ ?_
     exact hK1 (Max.max ((zbg x0 x1).getD (((za5 x0 x1 x2).getD i1 default).toNat) default) ((zbg x0 x2).getD (((za5 x0 x1 x2).getD i1 default).toNat) default),true) hii1 zai hR
   ·
     refine rg ⟨by ((try clear hR hK1);intros;(try simp only [decide_eq_true_eq,decide_eq_false_iff_not,Bool.or_eq_true,Bool.and_eq_true,zbd,za9,zba,Bool.not_eq_true',inR] at *);(repeat' apply And.intro)<;>(first | (intros;omega) | (have:=zeq hp hi hj;omega))),trivial⟩ ?_
     exact hK1 (v1.1,v1.2) hii1 zai hR
  ·obtain rfl:i1=(za5 x0 x1 x2).length:=by have:=of_decide_eq_false hc1;omega
   replace hR:=zbp hR (Nat.lt_irrefl _)
   refine rg trivial ?_
   exact congrArg C97 hR
 exact Fn.go 50 Tryz.func97 zah zah (by simp [C97,Frs,FrsL]) (A97 x0 x1 x2) zah (aux _ rfl)
def k97 (x0:Family) (x1:Int) (x2:Int):Cl:=(hres (C97 (zck x0 x1 x2)),k4 (zja x0 x1 x2))
end Go.Proofs.YtaageiiodlfeiaaGreat
