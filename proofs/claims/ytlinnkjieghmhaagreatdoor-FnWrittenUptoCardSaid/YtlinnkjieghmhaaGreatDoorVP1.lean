import Derived.Test.YtlinnkjieghmhaaGreatDoorVE2
set_option maxHeartbeats 4000000
set_option linter.unusedSimpArgs false
set_option linter.unusedVariables false
namespace Go.Proofs.YtlinnkjieghmhaaGreatDoor
open Go Go.Lite Go.Proofs
def C9 (R:(List UInt8)):LV×List (Nat×BC):=(.str R,[])
def zcg (x0:List yd):(List UInt8):=bif (!((zbz x0).2)) then ([]:List UInt8) else (loopN (fun i1 (v1:(List UInt8)) next=>bif (decide (((x0.getD i1 default).kind)=1)) then (next (((v1++(itoa ((x0.getD i1 default).year)))++((((((([32,98,111,114,110,32]++((x0.getD i1 default).name))++[32])++(zdi ((x0.getD i1 default).sex)))++[32])++(zbr ((zbz x0).1) ((x0.getD i1 default).a)))++[32])++(zbr ((zbz x0).1) ((x0.getD i1 default).b))))++[10])) else (bif (decide (((x0.getD i1 default).kind)=2)) then (next (((v1++(itoa ((x0.getD i1 default).year)))++((([32,117,110,105,111,110,32]++(zbr ((zbz x0).1) ((x0.getD i1 default).a)))++[32])++(zbr ((zbz x0).1) ((x0.getD i1 default).b))))++[10])) else (bif (decide (((x0.getD i1 default).kind)=3)) then (next (((v1++(itoa ((x0.getD i1 default).year)))++((([32,112,97,114,116,101,100,32]++(zbr ((zbz x0).1) ((x0.getD i1 default).a)))++[32])++(zbr ((zbz x0).1) ((x0.getD i1 default).b))))++[10])) else (bif (decide (((x0.getD i1 default).kind)=4)) then (next (((v1++(itoa ((x0.getD i1 default).year)))++([32,100,105,101,100,32]++(zbr ((zbz x0).1) ((x0.getD i1 default).a))))++[10])) else (next ((v1++(itoa ((x0.getD i1 default).year)))++[10])))))) (fun (v1:(List UInt8))=>v1) x0.length 0 ([]:List UInt8))
def D9b1 (i1:Nat) (v1:(List UInt8)):Dl:=⟨[(17,.int .i64 ((i1:Nat):Int))],[(5,.bld 51 5 v1)]⟩
def A9b1 (x0:List yd) (i1:Nat) (v1:(List UInt8)):Ann:=let q17:=i1+1;let q9:=(zbz x0).1;let q15:=((i1:Nat):Int);let q1:=x0.getD i1 default;let q16:=((x0.length:Nat):Int);let q8:=inR .i64 (q15+1);let q5:=v1++(itoa (q1.year));let q2:=zbr q9 (q1.a);let q4:=zbr q9 (q1.b);let q12:=([32,98,111,114,110,32]++(q1.name));let q11:=([32,100,105,101,100,32]++q2);let q7:=([32,117,110,105,111,110,32]++q2);let q6:=([32,112,97,114,116,101,100,32]++q2);let q3:=(q12++[32])++(zdi (q1.sex));let q13:=(q7++[32])++q4;let q14:=(q6++[32])++q4;let q10:=((q3++[32])++q2)++[32];r0 1 [2,3,5,15,16,17,18] [3,5,1010,2010] (cn (decide (q15<q16)) (.reg 2 [] [(1002,k26 (q1.year)),(1003,kbw 24 [5] v1 (itoa (q1.year)))] [2,3,5,7,15,16,17] [3,5,7,1010,2010] [] [pf (0≤(q15:Int)∧(q15:Int)<q16)] [] [0,4,8] (r0 1 [2,3,5,7,15,16,17,26] [3,5,7,1010,2010] (r0 1 [2,3,5,7,15,16,17,26,27] [3,5,7,1010,2010] (cn (decide ((q1.kind)=1)) (.reg 1 [] [(6,k20 (q1.sex)),(12,k21 q9 (q1.a)),(18,k21 q9 (q1.b)),(20,kbw 49 [5] q5 (q10++q4))] [2,3,5,15,16,17] [3,5,1010,2010] [] [pf ((([32,98,111,114,110,32].length+(q1.name).length:Nat):Int)≤9223372036854775807),pf (((q12.length+[32].length:Nat):Int)≤9223372036854775807),pf ((((q12++[32]).length+(zdi (q1.sex)).length:Nat):Int)≤9223372036854775807),pf (((q3.length+[32].length:Nat):Int)≤9223372036854775807),pf ((((q3++[32]).length+q2.length:Nat):Int)≤9223372036854775807),pf (((((q3++[32])++q2).length+[32].length:Nat):Int)≤9223372036854775807),pf (((q10.length+q4.length:Nat):Int)≤9223372036854775807)] [] [0,4,28,8,12,32,16,20,36,24,40] (.reg 1 [] [(0,kbw 86 [5] (q5++(q10++q4)) [10])] [2,3,5,15,16,17] [3,5,1010,2010] [] [] [] [0] (r1 1 [2,3,5,15,16,17] [3,5,1010,2010] [pf q8] [0] (.next 0 [] (D9b1 q17 ((q5++(q10++q4))++[10])))))) (r0 1 [2,3,5,7,15,16,17,26,50] [3,5,7,1010,2010] (cn (decide ((q1.kind)=2)) (.reg 1 [] [(3,k21 q9 (q1.a)),(9,k21 q9 (q1.b)),(11,kbw 63 [5] q5 q13)] [2,3,5,15,16,17] [3,5,1010,2010] [] [pf ((([32,117,110,105,111,110,32].length+q2.length:Nat):Int)≤9223372036854775807),pf (((q7.length+[32].length:Nat):Int)≤9223372036854775807),pf ((((q7++[32]).length+q4.length:Nat):Int)≤9223372036854775807)] [] [12,0,4,16,8,20] (.reg 1 [] [(0,kbw 86 [5] (q5++q13) [10])] [2,3,5,15,16,17] [3,5,1010,2010] [] [] [] [0] (r1 1 [2,3,5,15,16,17] [3,5,1010,2010] [pf q8] [0] (.next 0 [] (D9b1 q17 ((q5++q13)++[10])))))) (r0 1 [2,3,5,7,15,16,17,26,64] [3,5,7,1010,2010] (cn (decide ((q1.kind)=3)) (.reg 1 [] [(3,k21 q9 (q1.a)),(9,k21 q9 (q1.b)),(11,kbw 77 [5] q5 q14)] [2,3,5,15,16,17] [3,5,1010,2010] [] [pf ((([32,112,97,114,116,101,100,32].length+q2.length:Nat):Int)≤9223372036854775807),pf (((q6.length+[32].length:Nat):Int)≤9223372036854775807),pf ((((q6++[32]).length+q4.length:Nat):Int)≤9223372036854775807)] [] [12,0,4,16,8,20] (.reg 1 [] [(0,kbw 86 [5] (q5++q14) [10])] [2,3,5,15,16,17] [3,5,1010,2010] [] [] [] [0] (r1 1 [2,3,5,15,16,17] [3,5,1010,2010] [pf q8] [0] (.next 0 [] (D9b1 q17 ((q5++q14)++[10])))))) (r0 1 [2,3,5,7,15,16,17,78] [3,5,7,1010,2010] (cn (decide ((q1.kind)=4)) (.reg 1 [] [(3,k21 q9 (q1.a)),(5,kbw 85 [5] q5 q11)] [2,3,5,15,16,17] [3,5,1010,2010] [] [pf ((([32,100,105,101,100,32].length+q2.length:Nat):Int)≤9223372036854775807)] [] [4,0,8] (.reg 1 [] [(0,kbw 86 [5] (q5++q11) [10])] [2,3,5,15,16,17] [3,5,1010,2010] [] [] [] [0] (r1 1 [2,3,5,15,16,17] [3,5,1010,2010] [pf q8] [0] (.next 0 [] (D9b1 q17 ((q5++q11)++[10])))))) (.reg 1 [] [(0,kbw 86 [5] q5 [10])] [2,3,5,15,16,17] [3,5,1010,2010] [] [] [] [0] (r1 1 [2,3,5,15,16,17] [3,5,1010,2010] [pf q8] [0] (.next 0 [] (D9b1 q17 (q5++[10]))))))))))))))) (.reg 1 [] [(0,kbs 88 [5] v1)] [2] [] [] [] [] [0] (rt [] (C9 v1))))
def A9 (x0:List yd):Ann:=.reg 2 [] [(1001,k10 x0)] [0,2,3,4] [3,1010,2010] [] [] [] [0] (r0 1 [0,2,3,14] [3,1010,2010] (cn (!((zbz x0).2)) (r0 1 [0,2,3] [3,1010,2010] (rt [] (C9 ([]:List UInt8)))) (.reg 1 [(0,.nstM 5 0 (fun _=>.gone))] [] [0,2,3,5] [3,5,1010,2010] [] [] [] [] (r0 1 [2,3,5,15,16,17] [3,5,1010,2010] (lp (D9b1) [] [] [] (D9b1 0 ([]:List UInt8)) (A9b1 x0))))))
theorem zjo (x0:List yd) (hx:x0.length≤1048576) (hy:∀ e∈x0,e.name.length≤1048576):FnT Tryz.prog 9 [.ro false 6 x0.length (rowOf (zbt false) x0)] (C9 (zcg x0)):=by
 have aux:∀ R,zcg x0=R→slim (C9 R) (A9 x0) []:=by
  intro R hR
  refine rg ⟨⟨by with_reducible assumption,by with_reducible assumption⟩,trivial⟩ ?_
  refine rg trivial ?_
  revert hR;refine cd (fun hc1 hR=>?_) fun hc1 hR=>?_
  ·
    refine rg trivial ?_
    exact congrArg C9 hR
  ·
    refine rg trivial ?_
    refine rg trivial ?_
    revert hR;refine lN (fun i v=>(v:List UInt8).length≤100 * i) (by ((exact Nat.zero_le _))) rfl fun i1 v1 F1 hn1 hI1 hR hK1=>?_
    refine rg trivial ?_
    refine ⟨fun hc2=>?_,fun hc2=>?_⟩
    · have hii1:i1<x0.length:=by have:=of_decide_eq_true hc2;omega
      replace hR:=zbq hR hii1
      refine rg ⟨by (intros;omega),by (obtain ⟨h9,h1,h2,h3,h4⟩:=zc9 hc1 (i:=i1) om;have e1:=h9.a;have e2:=h9.b;have e3:=h9.year;have e4:=h9.name;(try simp only [List.length_append,List.length_cons,List.length_nil]);omega),by (obtain ⟨h9,h1,h2,h3,h4⟩:=zc9 hc1 (i:=i1) om;have e1:=h9.a;have e2:=h9.b;have e3:=h9.year;have e4:=h9.name;(try simp only [List.length_append,List.length_cons,List.length_nil]);omega),trivial⟩ ?_
      refine rg trivial ?_
      refine rg trivial ?_
      revert hR;refine cd (fun hc3 hR=>?_) fun hc3 hR=>?_
      ·
        refine rg ⟨by (obtain ⟨h9,h1,h2,h3,h4⟩:=zc9 hc1 (i:=i1) om;have e1:=h9.a;have e2:=h9.b;have e3:=h9.year;have e4:=h9.name;(try simp only [List.length_append,List.length_cons,List.length_nil]);omega),by (obtain ⟨h9,h1,h2,h3,h4⟩:=zc9 hc1 (i:=i1) om;have e1:=h9.a;have e2:=h9.b;have e3:=h9.year;have e4:=h9.name;(try simp only [List.length_append,List.length_cons,List.length_nil]);omega),by (obtain ⟨h9,h1,h2,h3,h4⟩:=zc9 hc1 (i:=i1) om;have e1:=h9.a;have e2:=h9.b;have e3:=h9.year;have e4:=h9.name;(try simp only [List.length_append,List.length_cons,List.length_nil]);omega),by (obtain ⟨h9,h1,h2,h3,h4⟩:=zc9 hc1 (i:=i1) om;have e1:=h9.a;have e2:=h9.b;have e3:=h9.year;have e4:=h9.name;(try simp only [List.length_append,List.length_cons,List.length_nil]);omega),by (obtain ⟨h9,h1,h2,h3,h4⟩:=zc9 hc1 (i:=i1) om;have e1:=h9.a;have e2:=h9.b;have e3:=h9.year;have e4:=h9.name;(try simp only [List.length_append,List.length_cons,List.length_nil]);omega),by (obtain ⟨h9,h1,h2,h3,h4⟩:=zc9 hc1 (i:=i1) om;have e1:=h9.a;have e2:=h9.b;have e3:=h9.year;have e4:=h9.name;(try simp only [List.length_append,List.length_cons,List.length_nil]);omega),by (obtain ⟨h9,h1,h2,h3,h4⟩:=zc9 hc1 (i:=i1) om;have e1:=h9.a;have e2:=h9.b;have e3:=h9.year;have e4:=h9.name;(try simp only [List.length_append,List.length_cons,List.length_nil]);omega),trivial,by (obtain ⟨h9,h1,h2,h3,h4⟩:=zc9 hc1 (i:=i1) om;have e1:=h9.a;have e2:=h9.b;have e3:=h9.year;have e4:=h9.name;(try simp only [List.length_append,List.length_cons,List.length_nil]);omega),by (obtain ⟨h9,h1,h2,h3,h4⟩:=zc9 hc1 (i:=i1) om;have e1:=h9.a;have e2:=h9.b;have e3:=h9.year;have e4:=h9.name;(try simp only [List.length_append,List.length_cons,List.length_nil]);omega),by (obtain ⟨h9,h1,h2,h3,h4⟩:=zc9 hc1 (i:=i1) om;have e1:=h9.a;have e2:=h9.b;have e3:=h9.year;have e4:=h9.name;(try simp only [List.length_append,List.length_cons,List.length_nil]);omega),trivial⟩ ?_
        refine rg ⟨by (obtain ⟨h9,h1,h2,h3,h4⟩:=zc9 hc1 (i:=i1) om;have e1:=h9.a;have e2:=h9.b;have e3:=h9.year;have e4:=h9.name;(try simp only [List.length_append,List.length_cons,List.length_nil]);omega),trivial⟩ ?_
        refine rg ⟨by ( intros;simp only [inR];omega),trivial⟩ ?_
        exact hK1 (((v1++(itoa ((x0.getD i1 default).year)))++((((((([32,98,111,114,110,32]++((x0.getD i1 default).name))++[32])++(zdi ((x0.getD i1 default).sex)))++[32])++(zbr ((zbz x0).1) ((x0.getD i1 default).a)))++[32])++(zbr ((zbz x0).1) ((x0.getD i1 default).b))))++[10]) hii1 zah hR
      ·
        refine rg trivial ?_
        revert hR;refine cd (fun hc4 hR=>?_) fun hc4 hR=>?_
        ·
          refine rg ⟨by (obtain ⟨h9,h1,h2,h3,h4⟩:=zc9 hc1 (i:=i1) om;have e1:=h9.a;have e2:=h9.b;have e3:=h9.year;have e4:=h9.name;(try simp only [List.length_append,List.length_cons,List.length_nil]);omega),by (obtain ⟨h9,h1,h2,h3,h4⟩:=zc9 hc1 (i:=i1) om;have e1:=h9.a;have e2:=h9.b;have e3:=h9.year;have e4:=h9.name;(try simp only [List.length_append,List.length_cons,List.length_nil]);omega),by (obtain ⟨h9,h1,h2,h3,h4⟩:=zc9 hc1 (i:=i1) om;have e1:=h9.a;have e2:=h9.b;have e3:=h9.year;have e4:=h9.name;(try simp only [List.length_append,List.length_cons,List.length_nil]);omega),by (obtain ⟨h9,h1,h2,h3,h4⟩:=zc9 hc1 (i:=i1) om;have e1:=h9.a;have e2:=h9.b;have e3:=h9.year;have e4:=h9.name;(try simp only [List.length_append,List.length_cons,List.length_nil]);omega),by (obtain ⟨h9,h1,h2,h3,h4⟩:=zc9 hc1 (i:=i1) om;have e1:=h9.a;have e2:=h9.b;have e3:=h9.year;have e4:=h9.name;(try simp only [List.length_append,List.length_cons,List.length_nil]);omega),by (obtain ⟨h9,h1,h2,h3,h4⟩:=zc9 hc1 (i:=i1) om;have e1:=h9.a;have e2:=h9.b;have e3:=h9.year;have e4:=h9.name;(try simp only [List.length_append,List.length_cons,List.length_nil]);omega),trivial⟩ ?_
          refine rg ⟨by (obtain ⟨h9,h1,h2,h3,h4⟩:=zc9 hc1 (i:=i1) om;have e1:=h9.a;have e2:=h9.b;have e3:=h9.year;have e4:=h9.name;(try simp only [List.length_append,List.length_cons,List.length_nil]);omega),trivial⟩ ?_
          refine rg ⟨by ( intros;simp only [inR];omega),trivial⟩ ?_
          exact hK1 (((v1++(itoa ((x0.getD i1 default).year)))++((([32,117,110,105,111,110,32]++(zbr ((zbz x0).1) ((x0.getD i1 default).a)))++[32])++(zbr ((zbz x0).1) ((x0.getD i1 default).b))))++[10]) hii1 zah hR
        ·
          refine rg trivial ?_
          revert hR;refine cd (fun hc5 hR=>?_) fun hc5 hR=>?_
          ·
            refine rg ⟨by (obtain ⟨h9,h1,h2,h3,h4⟩:=zc9 hc1 (i:=i1) om;have e1:=h9.a;have e2:=h9.b;have e3:=h9.year;have e4:=h9.name;(try simp only [List.length_append,List.length_cons,List.length_nil]);omega),by (obtain ⟨h9,h1,h2,h3,h4⟩:=zc9 hc1 (i:=i1) om;have e1:=h9.a;have e2:=h9.b;have e3:=h9.year;have e4:=h9.name;(try simp only [List.length_append,List.length_cons,List.length_nil]);omega),by (obtain ⟨h9,h1,h2,h3,h4⟩:=zc9 hc1 (i:=i1) om;have e1:=h9.a;have e2:=h9.b;have e3:=h9.year;have e4:=h9.name;(try simp only [List.length_append,List.length_cons,List.length_nil]);omega),by (obtain ⟨h9,h1,h2,h3,h4⟩:=zc9 hc1 (i:=i1) om;have e1:=h9.a;have e2:=h9.b;have e3:=h9.year;have e4:=h9.name;(try simp only [List.length_append,List.length_cons,List.length_nil]);omega),by (obtain ⟨h9,h1,h2,h3,h4⟩:=zc9 hc1 (i:=i1) om;have e1:=h9.a;have e2:=h9.b;have e3:=h9.year;have e4:=h9.name;(try simp only [List.length_append,List.length_cons,List.length_nil]);omega),by (obtain ⟨h9,h1,h2,h3,h4⟩:=zc9 hc1 (i:=i1) om;have e1:=h9.a;have e2:=h9.b;have e3:=h9.year;have e4:=h9.name;(try simp only [List.length_append,List.length_cons,List.length_nil]);omega),trivial⟩ ?_
            refine rg ⟨by (obtain ⟨h9,h1,h2,h3,h4⟩:=zc9 hc1 (i:=i1) om;have e1:=h9.a;have e2:=h9.b;have e3:=h9.year;have e4:=h9.name;(try simp only [List.length_append,List.length_cons,List.length_nil]);omega),trivial⟩ ?_
            refine rg ⟨by ( intros;simp only [inR];omega),trivial⟩ ?_
            exact hK1 (((v1++(itoa ((x0.getD i1 default).year)))++((([32,112,97,114,116,101,100,32]++(zbr ((zbz x0).1) ((x0.getD i1 default).a)))++[32])++(zbr ((zbz x0).1) ((x0.getD i1 default).b))))++[10]) hii1 zah hR
          ·
            refine rg trivial ?_
            revert hR;refine cd (fun hc6 hR=>?_) fun hc6 hR=>?_
            ·
              refine rg ⟨by (obtain ⟨h9,h1,h2,h3,h4⟩:=zc9 hc1 (i:=i1) om;have e1:=h9.a;have e2:=h9.b;have e3:=h9.year;have e4:=h9.name;(try simp only [List.length_append,List.length_cons,List.length_nil]);omega),by (obtain ⟨h9,h1,h2,h3,h4⟩:=zc9 hc1 (i:=i1) om;have e1:=h9.a;have e2:=h9.b;have e3:=h9.year;have e4:=h9.name;(try simp only [List.length_append,List.length_cons,List.length_nil]);omega),by (obtain ⟨h9,h1,h2,h3,h4⟩:=zc9 hc1 (i:=i1) om;have e1:=h9.a;have e2:=h9.b;have e3:=h9.year;have e4:=h9.name;(try simp only [List.length_append,List.length_cons,List.length_nil]);omega),trivial⟩ ?_
              refine rg ⟨by (obtain ⟨h9,h1,h2,h3,h4⟩:=zc9 hc1 (i:=i1) om;have e1:=h9.a;have e2:=h9.b;have e3:=h9.year;have e4:=h9.name;(try simp only [List.length_append,List.length_cons,List.length_nil]);omega),trivial⟩ ?_
              refine rg ⟨by ( intros;simp only [inR];omega),trivial⟩ ?_
              exact hK1 (((v1++(itoa ((x0.getD i1 default).year)))++([32,100,105,101,100,32]++(zbr ((zbz x0).1) ((x0.getD i1 default).a))))++[10]) hii1 zah hR
            ·
              refine rg ⟨by (obtain ⟨h9,h1,h2,h3,h4⟩:=zc9 hc1 (i:=i1) om;have e1:=h9.a;have e2:=h9.b;have e3:=h9.year;have e4:=h9.name;(try simp only [List.length_append,List.length_cons,List.length_nil]);omega),trivial⟩ ?_
              refine rg ⟨by ( intros;simp only [inR];omega),trivial⟩ ?_
              exact hK1 ((v1++(itoa ((x0.getD i1 default).year)))++[10]) hii1 zah hR
    · obtain rfl:i1=x0.length:=by have:=of_decide_eq_false hc2;omega
      replace hR:=zbu hR (Nat.lt_irrefl _)
      refine rg ⟨trivial,trivial⟩ ?_
      exact congrArg C9 hR
 exact Fn.go 89 Tryz.func9 (by kernel_rfl) (by kernel_rfl) (by simp [C9,Frs,FrsL]) (A9 x0) (by kernel_rfl) (aux _ rfl)
def k9 (x0:List yd):Cl:=(hres (C9 (zcg x0)),k2 (zjo x0))
theorem zr7 (x:List yd):zcg x=zfm x:=by
 unfold zcg zfm
 rw [znt]
 cases hb:(!(zbh x).2) with
 | true=>rfl
 | false =>
  simp only [cond_false]
  refine zja (fun _ (s t:List UInt8)=>s=t) (fun a b=>a=b) rfl (fun i s t n1 n2 hi e hn=>?_) (fun s t e=>e)
  subst e
  have h:=(ev_sz hb hi).1
  have en:=ziq h.year.1
  have nm:zbr=zbl:=rfl
  have hk:=h.kind
  have hs:=h.sex
  revert hk hs en
  generalize x.getD i default=e
  intro en hk hs
  have k4:e.kind=1∨e.kind=2∨e.kind=3∨e.kind=4:=by omega
  rcases k4 with k | k | k | k
  ·have s2:e.sex=1∨e.sex=2:=by have:=hs k;omega
   rcases s2 with s2 | s2
   ·rw [k,s2];exact hn _ _ (by simp [zdi,en,nm])
   ·rw [k,s2];exact hn _ _ (by simp [zdi,en,nm])
  all_goals rw [k];exact hn _ _ (by simp [en,nm])
def zc2 (c : UInt8) : List UInt8 → List (List UInt8)
  | []=>[[]]
  | b :: r => if b = c then [] :: zc2 c r else match zc2 c r with
    | []=>[[b]]
    | p :: q=>(b :: p) :: q
theorem zcr {c : UInt8} : ∀ {s : List UInt8}, c ∉ s → zc2 c s = [s]
  | [],_=>rfl
  | b :: r,h=>by
    simp only [List.mem_cons,not_or] at h
    rw [zc2,if_neg (fun e=>h.1 e.symm),zcr h.2]
theorem zbs {c : UInt8} {r : List UInt8} : ∀ {p : List UInt8}, c ∉ p → zc2 c (p ++ c :: r) = p :: zc2 c r
  | [],_=>by rw [List.nil_append,zc2,if_pos rfl]
  | b :: p,h=>by
    simp only [List.mem_cons,not_or] at h
    rw [List.cons_append,zc2,if_neg (fun e=>h.1 e.symm),zbs h.2]
theorem zfd (c : UInt8) : ∀ (s : List UInt8), 1 ≤ (zc2 c s).length ∧ (zc2 c s).length ≤ s.length + 1
  | []=>⟨Nat.le_refl _,Nat.le_refl _⟩
  | b :: r=>by
    have ih:=zfd c r
    rw [zc2]
    split
    · simp only [List.length_cons];omega
    · split
      · simp
      · rename_i p q e
        rw [e] at ih
        simp only [List.length_cons] at ih ⊢;omega
theorem zqi (c : UInt8) : ∀ (s : List UInt8), ∀ p ∈ zc2 c s, p.length ≤ s.length
  | [],p,h=>by simp [zc2] at h;subst h;exact Nat.le_refl _
  | b :: r,p,h=>by
    have ih:=zqi c r
    rw [zc2] at h
    split at h
    · rcases List.mem_cons.1 h with rfl | h
      · simp
      · have:=ih p h;simp only [List.length_cons];omega
    · split at h
      · simp at h;subst h;simp
      · rename_i x q e
        rw [e] at ih
        rcases List.mem_cons.1 h with rfl | h
        · have:=ih x zas;simp only [List.length_cons];omega
        · have:=ih p (by simp [h]);simp only [List.length_cons];omega
theorem zto {c : UInt8} : ∀ (s : List UInt8), (Lib.index s [c] = -1 ∧ c ∉ s) ∨ ∃ p r, s = p ++ c :: r ∧ c ∉ p ∧ Lib.index s [c] = (p.length : Int)
  | []=>.inl ⟨rfl,by simp⟩
  | b :: l=>by
    by_cases e:b=c
    · subst e
      exact .inr ⟨[],l,rfl,by simp,by simp [Lib.index]⟩
    · have hp:[c].isPrefixOf (b :: l)=false:=by simp [List.isPrefixOf,Ne.symm e]
      rcases zto (c:=c) l with ⟨h1,h2⟩ | ⟨p,r,h1,h2,h3⟩
      · exact .inl ⟨by simp [Lib.index,hp,h1],by simp [Ne.symm e,h2]⟩
      · refine .inr ⟨b :: p,r,by rw [h1];rfl,by simp [Ne.symm e,h2],?_⟩
        have:¬ ((p.length:Int)=-1):=by omega
        simp [Lib.index,hp,h3,this]
theorem zkn {c : UInt8} : ∀ (k : Nat) (s : List UInt8), s.count c ≤ k → Lib.splitK [c] 0 k s = zc2 c s
  | 0,s,h=>by
    have:c ∉ s:=List.count_eq_zero.1 om
    rw [Lib.splitK,zcr this]
  | k+1,s,h=>by
    rcases zto (c:=c) s with ⟨h1,h2⟩ | ⟨p,r,h1,h2,h3⟩
    · rw [Lib.splitK,h1,zcr h2];rfl
    · have hne:¬ ((p.length:Int)==-1)=true:=by simp
      have hc:s.count c=r.count c+1:=by rw [h1,List.count_append,List.count_cons_self,List.count_eq_zero.2 h2];omega
      rw [Lib.splitK,h3,if_neg hne,h1,zbs h2,← zkn k r om]
      congr 1
      · simp
      · congr 1;simp
theorem zko (s:List UInt8) (c:UInt8):(Lib.splitB ⟨#[c]⟩ 0 (Lib.countB ⟨s.toArray⟩ ⟨#[c]⟩) ⟨s.toArray⟩).map Value.string=(zc2 c s).map fun x=>Value.string ⟨x.toArray⟩:=by
 have h:=Lib.splitB_data ⟨#[c]⟩ 0 (Lib.countB ⟨s.toArray⟩ ⟨#[c]⟩) ⟨s.toArray⟩
 have e:Lib.countB ⟨s.toArray⟩ ⟨#[c]⟩=s.count c:=by
  show Lib.count s.toArray.toList [c]=_
  rw [Lib.count_one]
 have h2:Lib.splitK [c] 0 (s.count c) s=zc2 c s:=zkn _ _ (Nat.le_refl _)
 rw [e] at h ⊢
 have h3:(Lib.splitB ⟨#[c]⟩ 0 (s.count c) ⟨s.toArray⟩).map (fun x=>x.data.toList)=zc2 c s:=h.trans h2
 rw [← h3,List.map_map]
 rfl
theorem zs0 (s:List UInt8) (c:UInt8):Lib.countB ⟨s.toArray⟩ ⟨#[c]⟩+1=(zc2 c s).length:=by
 have h:=congrArg List.length (zko s c)
 rw [List.length_map,List.length_map,Lib.splitB_all ⟨#[c]⟩ (Nat.le_refl 1) 0 _ ⟨s.toArray⟩ rfl] at h
 exact h
def C39 (R:(List (List UInt8))):LV×List (Nat×BC):=(.own 0,[(0,.arr 1 R.length (rowOf (cStr) R))])
def zb0 (x0 x1:List UInt8):List (List UInt8):=zc2 (x1.getD 0 0) x0
theorem zqe (x0 x1:List UInt8):(zb0 x0 x1).length≤x0.length+1:=(zfd _ _).2
theorem zlu (x0 x1:List UInt8) (k:Nat):((zb0 x0 x1).getD k default).length≤x0.length:=by
 rw [List.getD_eq_getElem?_getD]
 cases e:(zb0 x0 x1)[k]? with
 | none=>exact Nat.zero_le _
 | some p=>exact zqi _ _ p (List.mem_of_getElem? e)
theorem zmy (x0:List UInt8) (x1:List UInt8) (h:x0.length≤1048576∧x1.length=1):FnT Tryz.prog 39 [.str x0,.str x1] (C39 (zb0 x0 x1)):=by
 obtain ⟨c,rfl⟩:=List.length_eq_one_iff.1 h.2
 refine Fn.of_strs (T:=9) z00 (by have:=zqe x0 [c];unfold maxLen;omega) fun w hg=>?_
 obtain ⟨_,_,⟨m,hm⟩,_⟩:=hg
 refine (Tryz.strings_Split ⟨x0.toArray⟩ ⟨#[c]⟩ m w (by show x0.toArray.size<_;simp;omega) hm (Nat.le_refl 1)).mono fun e w' ⟨he,hw⟩=>⟨?_,?_⟩
 ·rw [he,zs0];rfl
 ·rw [hw,zko];rfl
def k39 (x0:List UInt8) (x1:List UInt8):Cl:=(hres (C39 (zb0 x0 x1)),k1 (zmy x0 x1))
def C65 (R:Int×Bool):LV×List (Nat×BC):=(.tup [.int .i64 R.1,.er R.2],[])
def atoiE (x0 : List UInt8) : Int × Bool := match Lib.atoi x0 with
  | some n=>(n,false)
  | none=>(0,true)
theorem zrb {x0:List UInt8} {n:Int} (e:Lib.atoi x0=some n):atoiE x0=(n,false):=by unfold atoiE;rw [e]
theorem zyj {x0:List UInt8} (e:Lib.atoi x0=none):atoiE x0=(0,true):=by unfold atoiE;rw [e]
theorem zom (x0:List UInt8) (h:x0.length≤18):FnT Tryz.prog 65 [.str x0] (C65 (atoiE x0)):=by
 have hs:(⟨x0.toArray⟩:ByteArray).size≤18:=by show x0.toArray.size≤18;simpa using h
 cases e:Lib.atoi x0 with
 | some n =>
  rw [zrb e]
  exact Fn.of_intErr zwx fun w _=>(Tryz.strconv_Atoi ⟨x0.toArray⟩ n hs (by simpa using e) w).mono fun e w' ⟨he,t,hw⟩=>⟨_,he,fun _=>rfl,fun h=>(by cases h),by rw [hw];exact Lib.bytesWorld_below _ _ _⟩
 | none =>
  rw [zyj e]
  refine Fn.of_intErr zwx fun w hg=>?_
  obtain ⟨_,_,_,te,pe,hv⟩:=hg
  exact (Tryz.strconv_Atoi_err ⟨x0.toArray⟩ hs (by simpa using e) _ w hv (.inr ⟨te,pe,rfl⟩)).mono fun e w' ⟨N,he,_,_,hb⟩=>⟨_,he,fun h=>(by cases h),fun _=>⟨_,_,rfl⟩,hb⟩
def k65 (x0:List UInt8):Cl:=(hres (C65 (atoiE x0)),k1 (zom x0))
def C63 (R:Bool):LV×List (Nat×BC):=(.bool R,[])
def slSuf (x0:List UInt8) (x1:List UInt8):Bool:=(decide (((x1.length:Nat):Int)≤((x0.length:Nat):Int)))&&(((x0.drop ((((x0.length:Nat):Int) - ((x1.length:Nat):Int)).toNat)).take (x0.length - ((((x0.length:Nat):Int) - ((x1.length:Nat):Int)).toNat)))==x1)
def A63 (x0:List UInt8) (x1:List UInt8):Ann:=let q1:=((x0.length:Nat):Int);let q2:=((x1.length:Nat):Int);let q3:=decide (q2≤q1);.reg 2 [] [] [4] [] [decide (q2≤q1)] [gt q3 (pf (inR .i64 (q1 - q2))),gt q3 (pf (0≤(q1 - q2:Int)∧(q1 - q2:Int)≤q1∧(q1:Int)≤q1))] [] [1,1,1,1,0,1,1,4,1,1,1] (rt [] (C63 (q3&&(((x0.drop ((q1 - q2).toNat)).take (x0.length - ((q1 - q2).toNat)))==x1))))
theorem zgy (x0:List UInt8) (x1:List UInt8) (h:x0.length≤1048576∧x1.length≤1048576):FnT Tryz.prog 63 [.str x0,.str x1] (C63 (slSuf x0 x1)):=by
 have aux:∀ R,slSuf x0 x1=R→slim (C63 R) (A63 x0 x1) []:=by
  intro R hR
  refine rg ⟨by ( intros;simp only [inR];omega),by ((try clear hR);intros;(try simp only [decide_eq_true_eq,decide_eq_false_iff_not,Bool.or_eq_true,Bool.and_eq_true,zbd,zbb,zbc,Bool.not_eq_true',inR] at *);(repeat' apply And.intro)<;>(intros;omega)),trivial⟩ ?_
  exact congrArg C63 hR
 exact Fn.go 21 Tryz.func63 (by kernel_rfl) (by kernel_rfl) (by simp [C63,Frs,FrsL]) (A63 x0 x1) (by kernel_rfl) (aux _ rfl)
def k63 (x0:List UInt8) (x1:List UInt8):Cl:=(hres (C63 (slSuf x0 x1)),k1 (zgy x0 x1))
def C38 (R:Bool):LV×List (Nat×BC):=(.bool R,[])
def zld (x0:List UInt8) (x1:List UInt8):Bool:=slSuf x0 x1
def A38 (x0:List UInt8) (x1:List UInt8):Ann:=.reg 2 [] [(1002,k63 x0 x1)] [4] [] [] [] [] [0] (rt [] (C38 (slSuf x0 x1)))
theorem zjm (x0:List UInt8) (x1:List UInt8) (h:x0.length≤1048576∧x1.length≤1048576):FnT Tryz.prog 38 [.str x0,.str x1] (C38 (zld x0 x1)):=by
 have aux:∀ R,zld x0 x1=R→slim (C38 R) (A38 x0 x1) []:=by
  intro R hR
  refine rg ⟨by trivial,trivial⟩ ?_
  exact congrArg C38 hR
 exact Fn.go 8 Tryz.func38 (by kernel_rfl) (by kernel_rfl) (by simp [C38,Frs,FrsL]) (A38 x0 x1) (by kernel_rfl) (aux _ rfl)
def k38 (x0:List UInt8) (x1:List UInt8):Cl:=(hres (C38 (zld x0 x1)),k1 (zjm x0 x1))
def zel (x0:List UInt8) (x1:Int):(List (List UInt8)):=loopN (fun i1 (v1:(List (List UInt8))×Int) next=>bif (decide (((x0.getD i1 0).toNat:Int)=x1)) then (next ((v1.1++([(x0.drop v1.2.toNat).take (i1 - v1.2.toNat)]:List (List UInt8))),((i1:Nat):Int)+1)) else (next (v1.1,v1.2))) (fun (v1:(List (List UInt8))×Int)=>(v1.1++([(x0.drop v1.2.toNat).take (x0.length - v1.2.toNat)]:List (List UInt8)))) x0.length 0 (([]:List (List UInt8)),0)
def zg3 (x0:List UInt8):Int:=bif (((decide (((x0.length:Nat):Int)<1))||(decide (4<((x0.length:Nat):Int))))||((decide (((x0.getD 0 0).toNat:Int)=48))&&(decide (1<((x0.length:Nat):Int))))) then (-1) else (loopN (fun i1 (v1:Int) next=>bif ((decide (((x0.getD i1 0).toNat:Int)<48))||(decide (57<((x0.getD i1 0).toNat:Int)))) then (-1) else (next ((10 * v1)+(((x0.getD i1 0).toNat:Int) - 48)))) (fun (v1:Int)=>v1) x0.length 0 0)
def C41 (R:Int×Bool):LV×List (Nat×BC):=(.tup [.int .i64 R.1,.bool R.2],[])
def zci (x0:List UInt8):Int×Bool:=bif ((decide (((x0.length:Nat):Int)<1))||(decide (4<((x0.length:Nat):Int)))) then (0,false) else (bif (((((atoiE x0).2)||(decide (((atoiE x0).1)<0)))||(decide (9999<((atoiE x0).1))))||(!((itoa ((atoiE x0).1))==x0))) then (0,false) else ((atoiE x0).1,true))
def A41 (x0:List UInt8):Ann:=let q4:=atoiE x0;let q3:=((x0.length:Nat):Int);let q2:=decide (9999<(q4.1));let q1:=(q4.2)||(decide ((q4.1)<0));r0 1 [0,2,3] [] (.reg 1 [] [] [0,2,3,13] [] [!(decide (q3<1)),decide (q3<1)] [] [] [1,1,6] (cn ((decide (q3<1))||(decide (4<q3))) (r0 1 [0,2,3] [] (rt [] (C41 (0,false)))) (.reg 1 [] [(1,k65 x0)] [0,2,3,4,5] [] [] [] [] [0] (.reg 1 [] [(12,cg (!(q1||q2)) (k26 (q4.1)))] [2,3,4,34] [] [!(q4.2),q4.2,!q1,(q4.2)||(decide ((q4.1)<0)),!(q1||q2),q1||q2] [] [] [1,6,9,14,17,0,17,17,22] (cn ((q1||q2)||(!((itoa (q4.1))==x0))) (r0 1 [2,3,4] [] (rt [] (C41 (0,false)))) (r0 1 [2,3] [] (rt [] (C41 (q4.1,true)))))))))
theorem zm7 (x0:List UInt8):FnT Tryz.prog 41 [.str x0] (C41 (zci x0)):=by
 have aux:∀ R,zci x0=R→slim (C41 R) (A41 x0) []:=by
  intro R hR
  refine rg trivial ?_
  refine rg trivial ?_
  revert hR;refine cd (fun hc1 hR=>?_) fun hc1 hR=>?_
  ·
    refine rg trivial ?_
    exact congrArg C41 hR
  ·
    refine rg ⟨by ((try clear hR);intros;(try simp only [decide_eq_true_eq,decide_eq_false_iff_not,Bool.or_eq_true,Bool.and_eq_true,zbd,zbb,zbc,Bool.not_eq_true',inR] at *);(repeat' apply And.intro)<;>(intros;omega)),trivial⟩ ?_
    refine rg ⟨fun hg0=>by ((try clear hR);intros;(try simp only [decide_eq_true_eq,decide_eq_false_iff_not,Bool.or_eq_true,Bool.and_eq_true,zbd,zbb,zbc,Bool.not_eq_true',inR] at *);(repeat' apply And.intro)<;>(intros;omega)),trivial⟩ ?_
    revert hR;refine cd (fun hc2 hR=>?_) fun hc2 hR=>?_
    ·
      refine rg trivial ?_
      exact congrArg C41 hR
    ·
      refine rg trivial ?_
      exact congrArg C41 hR
 exact Fn.go 36 Tryz.func41 (by kernel_rfl) (by kernel_rfl) (by simp [C41,Frs,FrsL]) (A41 x0) (by kernel_rfl) (aux _ rfl)
def k41 (x0:List UInt8):Cl:=(hres (C41 (zci x0)),k0 (zm7 x0))
def C40 (R:Int×Bool):LV×List (Nat×BC):=(.tup [.int .i64 R.1,.bool R.2],[])
def findP (x0:yc) (x1:List UInt8):Int×Bool:=loopN (fun i1 (v1:Unit) next=>bif (((x0.people.getD i1 default).name)==x1) then (((i1:Nat):Int),true) else (next ())) (fun (v1:Unit)=>(0,false)) x0.people.length 0 ()
def D40b1 (i1:Nat) (v1:Unit):Dl:=⟨[(11,.int .i64 ((i1:Nat):Int))],[]⟩
def A40b1 (x0:yc) (x1:List UInt8) (i1:Nat) (v1:Unit):Ann:=let q1:=((i1:Nat):Int);let q2:=((x0.people.length:Nat):Int);r0 1 [1,4,5,9,10,11,12] [] (cn (decide (q1<q2)) (r1 2 [1,4,5,6,9,10,11,19] [] [pf (0≤(q1:Int)∧(q1:Int)<q2)] [0] (cn (((x0.people.getD i1 default).name)==x1) (r0 1 [1,4,5,9,10,11] [] (rt [] (C40 (q1,true)))) (r1 1 [1,4,5,9,10,11] [] [pf (inR .i64 (q1+1))] [0] (.next 0 [] (D40b1 (i1+1) ()))))) (r0 1 [4,5] [] (rt [] (C40 (0,false)))))
def A40 (x0:yc) (x1:List UInt8):Ann:=r0 1 [1,2,4,5] [2] (r0 1 [1,4,5,9,10,11] [] (lp (D40b1) [] [] [] (D40b1 0 ()) (A40b1 x0 x1)))
theorem zkz (x0:yc) (x1:List UInt8) (hx:x0.people.length≤1048576):FnT Tryz.prog 40 [.agg (zcf false x0),.str x1] (C40 (findP x0 x1)):=by
 have aux:∀ R,findP x0 x1=R→slim (C40 R) (A40 x0 x1) []:=by
  intro R hR
  refine rg trivial ?_
  refine rg trivial ?_
  revert hR;refine lN (fun i v=>True) za6 rfl fun i1 v1 F1 hn1 hI1 hR hK1=>?_
  refine rg trivial ?_
  refine ⟨fun hc1=>?_,fun hc1=>?_⟩
  ·have hii1:i1<x0.people.length:=by have:=of_decide_eq_true hc1;omega
   replace hR:=zbq hR hii1
   refine rg ⟨by (intros;omega),trivial⟩ ?_
   revert hR;refine cd (fun hc2 hR=>?_) fun hc2 hR=>?_
   ·
     refine rg trivial ?_
     exact congrArg C40 hR
   ·
     refine rg ⟨by ( intros;simp only [inR];omega),trivial⟩ ?_
     exact hK1 () hii1 za6 hR
  ·obtain rfl:i1=x0.people.length:=by have:=of_decide_eq_false hc1;omega
   replace hR:=zbu hR (Nat.lt_irrefl _)
   refine rg trivial ?_
   exact congrArg C40 hR
 exact Fn.go 22 Tryz.func40 (by kernel_rfl) (by kernel_rfl) (by simp [C40,Frs,FrsL]) (A40 x0 x1) (by kernel_rfl) (aux _ rfl)
def k40 (x0:yc) (x1:List UInt8):Cl:=(hres (C40 (findP x0 x1)),k1 (zkz x0 x1))
def C44 (R:Int×Bool):LV×List (Nat×BC):=(.tup [.int .i64 R.1,.bool R.2],[])
def zc7 (x0:yc) (x1:List UInt8):Int×Bool:=bif (x1==[45]) then ((-1),true) else ((findP x0 x1).1,(findP x0 x1).2)
def A44 (x0:yc) (x1:List UInt8):Ann:=r0 1 [1,2,4,5] [2] (r0 1 [1,2,4,5,7] [2] (cn (x1==[45]) (r0 1 [1,2,4,5] [2] (rt [] (C44 ((-1),true)))) (.reg 1 [] [(2,k40 x0 x1)] [4,5] [] [] [] [] [0] (rt [] (C44 ((findP x0 x1).1,(findP x0 x1).2))))))
theorem zkx (x0:yc) (x1:List UInt8) (hx:x0.people.length≤1048576):FnT Tryz.prog 44 [.agg (zcf false x0),.str x1] (C44 (zc7 x0 x1)):=by
 have aux:∀ R,zc7 x0 x1=R→slim (C44 R) (A44 x0 x1) []:=by
  intro R hR
  refine rg trivial ?_
  refine rg trivial ?_
  revert hR;refine cd (fun hc1 hR=>?_) fun hc1 hR=>?_
  ·
    refine rg trivial ?_
    exact congrArg C44 hR
  ·
    refine rg ⟨by trivial,trivial⟩ ?_
    exact congrArg C44 hR
 exact Fn.go 13 Tryz.func44 (by kernel_rfl) (by kernel_rfl) (by simp [C44,Frs,FrsL]) (A44 x0 x1) (by kernel_rfl) (aux _ rfl)
def k44 (x0:yc) (x1:List UInt8):Cl:=(hres (C44 (zc7 x0 x1)),k1 (zkx x0 x1))
def C43 (R:Int):LV×List (Nat×BC):=(.int .i64 R,[])
def zeb (x0:List UInt8):Int:=bif (x0==[109,97,110]) then 1 else (bif (x0==[119,111,109,97,110]) then 2 else 0)
def A43 (x0:List UInt8):Ann:=r0 1 [0,2] [] (r0 1 [2,3] [] (r0 1 [2,3,4] [] (cn (x0==[109,97,110]) (r0 1 [2] [] (rt [] (C43 1))) (r0 1 [2,6] [] (cn (x0==[119,111,109,97,110]) (r0 1 [2] [] (rt [] (C43 2))) (r0 1 [2] [] (rt [] (C43 0))))))))
theorem zot (x0:List UInt8):FnT Tryz.prog 43 [.str x0] (C43 (zeb x0)):=by
 have aux:∀ R,zeb x0=R→slim (C43 R) (A43 x0) []:=by
  intro R hR
  refine rg trivial ?_
  refine rg trivial ?_
  refine rg trivial ?_
  revert hR;refine cd (fun hc1 hR=>?_) fun hc1 hR=>?_
  ·
    refine rg trivial ?_
    exact congrArg C43 hR
  ·
    refine rg trivial ?_
    revert hR;refine cd (fun hc2 hR=>?_) fun hc2 hR=>?_
    ·
      refine rg trivial ?_
      exact congrArg C43 hR
    ·
      refine rg trivial ?_
      exact congrArg C43 hR
 exact Fn.go 8 Tryz.func43 (by kernel_rfl) (by kernel_rfl) (by simp [C43,Frs,FrsL]) (A43 x0) (by kernel_rfl) (aux _ rfl)
def k43 (x0:List UInt8):Cl:=(hres (C43 (zeb x0)),k0 (zot x0))
end Go.Proofs.YtlinnkjieghmhaaGreatDoor
