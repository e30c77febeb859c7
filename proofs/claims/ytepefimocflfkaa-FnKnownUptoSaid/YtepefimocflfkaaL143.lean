/- What is known at the end of a year is built from the events up to it, and what was known at the end of an earlier year is known from it, for each code of at most 2^20 bytes. -/
import Derived.Test.YtepefimocflfkaaRows
import Derived.Test.YtepefimocflfkaaM203
import Derived.Test.YtepefimocflfkaaLiteR
import Derived.WalkKit
import Derived.ProofKit
import Derived.OpenShut
import Derived.JoinedCond
set_option maxHeartbeats 4000000
set_option linter.unusedSimpArgs false
set_option linter.unusedVariables false
namespace Go.Proofs.Ytepefimocflfkaa
open Go Go.Lite Go.Proofs Go.ChangeShapes Go.WideShapes Go.ChangeAt Go.RowKit
def C4 (R:Bool):LV×List (Nat×BC):=(.bool R,[])
def laws_FnKnown_m (x0:List Int):Bool:=bif (decide (1048576<((x0.length:Nat):Int))) then true else (loopN (fun i1 (v1:(List Event)) next=>bif (decide ((((implEvents (specChron (crowd x0 12))).getD i1 default).year)≤(lawYear x0 1 (specChron (crowd x0 12))))) then (next (v1++[((implEvents (specChron (crowd x0 12))).getD i1 default)])) else (next v1)) (fun (v1:(List Event))=>bif ((implBuild v1).2) then (bif (((implBuild v1).2)&&(specEqFam ((implBuild v1).1) (implKnown (specChron (crowd x0 12)) (lawYear x0 1 (specChron (crowd x0 12)))))) then ((((implBuild v1).2)&&(specEqFam ((implBuild v1).1) (implKnown (specChron (crowd x0 12)) (lawYear x0 1 (specChron (crowd x0 12))))))&&(specEqFam (implKnown (implKnown (specChron (crowd x0 12)) (Max.max (lawYear x0 1 (specChron (crowd x0 12))) (lawYear x0 4 (specChron (crowd x0 12))))) (Min.min (lawYear x0 1 (specChron (crowd x0 12))) (lawYear x0 4 (specChron (crowd x0 12))))) (implKnown (specChron (crowd x0 12)) (Min.min (lawYear x0 1 (specChron (crowd x0 12))) (lawYear x0 4 (specChron (crowd x0 12))))))) else ((((implBuild v1).2)&&(specEqFam ((implBuild v1).1) (implKnown (specChron (crowd x0 12)) (lawYear x0 1 (specChron (crowd x0 12))))))&&true)) else (bif (((implBuild v1).2)&&true) then ((((implBuild v1).2)&&true)&&(specEqFam (implKnown (implKnown (specChron (crowd x0 12)) (Max.max (lawYear x0 1 (specChron (crowd x0 12))) (lawYear x0 4 (specChron (crowd x0 12))))) (Min.min (lawYear x0 1 (specChron (crowd x0 12))) (lawYear x0 4 (specChron (crowd x0 12))))) (implKnown (specChron (crowd x0 12)) (Min.min (lawYear x0 1 (specChron (crowd x0 12))) (lawYear x0 4 (specChron (crowd x0 12))))))) else ((((implBuild v1).2)&&true)&&true))) ((implEvents (specChron (crowd x0 12))).length) 0 ([]:List Event))
def D4b1 (x0:List Int) (i1:Nat) (v1:(List Event)):Dl:=⟨[(27,.int .i64 ((i1:Nat):Int)),(6,.own 20006)],[(20006,.arr 6 v1.length (rowOf (cEvent true) v1))]⟩
def A4b1 (x0:List Int) (i1:Nat) (v1:(List Event)):Ann:=r0 1 [2,3,4,5,6,25,26,27,28] [3,1016,1025,2016,20006] (cn (decide (((i1:Nat):Int)<(((implEvents (specChron (crowd x0 12))).length:Nat):Int))) (r1 2 [2,3,4,5,6,8,25,26,27,34] [3,8,1016,1025,2016,20006] [pf (0≤(((i1:Nat):Int):Int)∧(((i1:Nat):Int):Int)<(((implEvents (specChron (crowd x0 12))).length:Nat):Int))] [0] (cn (decide ((((implEvents (specChron (crowd x0 12))).getD i1 default).year)≤(lawYear x0 1 (specChron (crowd x0 12))))) (.reg 1 [] [(2,bsC 37 (cEvent true) ([((implEvents (specChron (crowd x0 12))).getD i1 default)]:List Event)),(3,ap1 38 (cEvent true) 56 v1 ((implEvents (specChron (crowd x0 12))).getD i1 default))] [2,3,4,5,6,25,26,27] [3,38,1016,1025,2016] [] [] [] [0,4] (r1 1 [2,3,4,5,6,25,26,27] [3,38,1016,1025,2016] [pf (inR .i64 (((i1:Nat):Int)+1))] [0] (.next 0 [(20006,some 38)] (D4b1 x0 (i1+1) (v1++[((implEvents (specChron (crowd x0 12))).getD i1 default)]))))) (r1 1 [2,3,4,5,6,25,26,27] [3,1016,1025,2016,20006] [pf (inR .i64 (((i1:Nat):Int)+1))] [0] (.next 0 [(20006,some 20006)] (D4b1 x0 (i1+1) v1))))) (.split ((implBuild v1).2) (.split (((implBuild v1).2)&&(specEqFam ((implBuild v1).1) (implKnown (specChron (crowd x0 12)) (lawYear x0 1 (specChron (crowd x0 12)))))) (.reg 2 [(1002,.gT .no),(1003,.gT .no),(1004,.gT .no),(1009,.gT .no),(1010,.gT .no),(1011,.gT .no),(1012,.gT .no),(1014,.gT .no),(1015,.gT .no),(1016,.gT .no),(1018,.gT .no),(1019,.gT .no),(1020,.gT .no),(1021,.gT .no)] [(1,k23 v1),(1005,cT (k14 (specChron (crowd x0 12)) (lawYear x0 1 (specChron (crowd x0 12))))),(1006,cT (k21 ((implBuild v1).1) (implKnown (specChron (crowd x0 12)) (lawYear x0 1 (specChron (crowd x0 12)))))),(1013,cT (k14 (specChron (crowd x0 12)) (Max.max (lawYear x0 1 (specChron (crowd x0 12))) (lawYear x0 4 (specChron (crowd x0 12)))))),(1017,cT (k14 (implKnown (specChron (crowd x0 12)) (Max.max (lawYear x0 1 (specChron (crowd x0 12))) (lawYear x0 4 (specChron (crowd x0 12))))) (Min.min (lawYear x0 1 (specChron (crowd x0 12))) (lawYear x0 4 (specChron (crowd x0 12)))))),(1022,cT (k14 (specChron (crowd x0 12)) (Min.min (lawYear x0 1 (specChron (crowd x0 12))) (lawYear x0 4 (specChron (crowd x0 12)))))),(1023,cT (k21 (implKnown (implKnown (specChron (crowd x0 12)) (Max.max (lawYear x0 1 (specChron (crowd x0 12))) (lawYear x0 4 (specChron (crowd x0 12))))) (Min.min (lawYear x0 1 (specChron (crowd x0 12))) (lawYear x0 4 (specChron (crowd x0 12))))) (implKnown (specChron (crowd x0 12)) (Min.min (lawYear x0 1 (specChron (crowd x0 12))) (lawYear x0 4 (specChron (crowd x0 12)))))))] [2] [] [] [pf (((implBuild v1).2)=true),pf ((((implBuild v1).2)&&(specEqFam ((implBuild v1).1) (implKnown (specChron (crowd x0 12)) (lawYear x0 1 (specChron (crowd x0 12))))))=true)] [] [8,0,0,0,0,12,0,16,4,4,4,4,4,20,4,4,4,4,24,4,4,4,4,4,28,4,32] (rt [] (C4 ((((implBuild v1).2)&&(specEqFam ((implBuild v1).1) (implKnown (specChron (crowd x0 12)) (lawYear x0 1 (specChron (crowd x0 12))))))&&(specEqFam (implKnown (implKnown (specChron (crowd x0 12)) (Max.max (lawYear x0 1 (specChron (crowd x0 12))) (lawYear x0 4 (specChron (crowd x0 12))))) (Min.min (lawYear x0 1 (specChron (crowd x0 12))) (lawYear x0 4 (specChron (crowd x0 12))))) (implKnown (specChron (crowd x0 12)) (Min.min (lawYear x0 1 (specChron (crowd x0 12))) (lawYear x0 4 (specChron (crowd x0 12)))))))))) (.reg 2 [(1002,.gT .no),(1003,.gT .no),(1004,.gT .no),(1009,.gF),(1010,.gF),(1011,.gF),(1012,.gF),(1013,.gF),(1014,.gF),(1015,.gF),(1016,.gF),(1017,.gF),(1018,.gF),(1019,.gF),(1020,.gF),(1021,.gF),(1022,.gF),(1023,.gF)] [(1,k23 v1),(1005,cT (k14 (specChron (crowd x0 12)) (lawYear x0 1 (specChron (crowd x0 12))))),(1006,cT (k21 ((implBuild v1).1) (implKnown (specChron (crowd x0 12)) (lawYear x0 1 (specChron (crowd x0 12))))))] [2] [] [] [pf (((implBuild v1).2)=true),pf ((((implBuild v1).2)&&(specEqFam ((implBuild v1).1) (implKnown (specChron (crowd x0 12)) (lawYear x0 1 (specChron (crowd x0 12))))))=false),gt (((implBuild v1).2)&&(specEqFam ((implBuild v1).1) (implKnown (specChron (crowd x0 12)) (lawYear x0 1 (specChron (crowd x0 12)))))) (pf (false=true))] [] [12,0,0,0,0,16,0,20,4,4,4,4,4,4,4,4,4,4,4,4,4,4,4,8] (rt [] (C4 ((((implBuild v1).2)&&(specEqFam ((implBuild v1).1) (implKnown (specChron (crowd x0 12)) (lawYear x0 1 (specChron (crowd x0 12))))))&&true))))) (.split (((implBuild v1).2)&&true) (.reg 2 [(1002,.gF),(1003,.gF),(1004,.gF),(1005,.gF),(1006,.gF),(1009,.gT .no),(1010,.gT .no),(1011,.gT .no),(1012,.gT .no),(1014,.gT .no),(1015,.gT .no),(1016,.gT .no),(1018,.gT .no),(1019,.gT .no),(1020,.gT .no),(1021,.gT .no)] [(1,k23 v1),(1013,cT (k14 (specChron (crowd x0 12)) (Max.max (lawYear x0 1 (specChron (crowd x0 12))) (lawYear x0 4 (specChron (crowd x0 12)))))),(1017,cT (k14 (implKnown (specChron (crowd x0 12)) (Max.max (lawYear x0 1 (specChron (crowd x0 12))) (lawYear x0 4 (specChron (crowd x0 12))))) (Min.min (lawYear x0 1 (specChron (crowd x0 12))) (lawYear x0 4 (specChron (crowd x0 12)))))),(1022,cT (k14 (specChron (crowd x0 12)) (Min.min (lawYear x0 1 (specChron (crowd x0 12))) (lawYear x0 4 (specChron (crowd x0 12)))))),(1023,cT (k21 (implKnown (implKnown (specChron (crowd x0 12)) (Max.max (lawYear x0 1 (specChron (crowd x0 12))) (lawYear x0 4 (specChron (crowd x0 12))))) (Min.min (lawYear x0 1 (specChron (crowd x0 12))) (lawYear x0 4 (specChron (crowd x0 12))))) (implKnown (specChron (crowd x0 12)) (Min.min (lawYear x0 1 (specChron (crowd x0 12))) (lawYear x0 4 (specChron (crowd x0 12)))))))] [2] [] [] [pf (((implBuild v1).2)=false),gt ((implBuild v1).2) (pf (false=true)),pf ((((implBuild v1).2)&&true)=true)] [] [12,0,0,0,0,0,4,8,8,8,8,8,16,8,8,8,8,20,8,8,8,8,8,24,8,28] (rt [] (C4 ((((implBuild v1).2)&&true)&&(specEqFam (implKnown (implKnown (specChron (crowd x0 12)) (Max.max (lawYear x0 1 (specChron (crowd x0 12))) (lawYear x0 4 (specChron (crowd x0 12))))) (Min.min (lawYear x0 1 (specChron (crowd x0 12))) (lawYear x0 4 (specChron (crowd x0 12))))) (implKnown (specChron (crowd x0 12)) (Min.min (lawYear x0 1 (specChron (crowd x0 12))) (lawYear x0 4 (specChron (crowd x0 12)))))))))) (.reg 2 [(1002,.gF),(1003,.gF),(1004,.gF),(1005,.gF),(1006,.gF),(1009,.gF),(1010,.gF),(1011,.gF),(1012,.gF),(1013,.gF),(1014,.gF),(1015,.gF),(1016,.gF),(1017,.gF),(1018,.gF),(1019,.gF),(1020,.gF),(1021,.gF),(1022,.gF),(1023,.gF)] [(1,k23 v1)] [2] [] [] [pf (((implBuild v1).2)=false),gt ((implBuild v1).2) (pf (false=true)),pf ((((implBuild v1).2)&&true)=false),gt (((implBuild v1).2)&&true) (pf (false=true))] [] [16,0,0,0,0,0,4,8,8,8,8,8,8,8,8,8,8,8,8,8,8,8,12] (rt [] (C4 ((((implBuild v1).2)&&true)&&true)))))))
def A4 (x0:List Int):Ann:=r0 1 [0,2] [] (r0 1 [0,2,13] [] (cn (decide (1048576<((x0.length:Nat):Int))) (r0 1 [0,2] [] (rt [] (C4 true))) (.reg 4 [] [(1,k10 x0 12),(2,k9 (crowd x0 12)),(1002,k13 x0 1 (specChron (crowd x0 12))),(2002,k13 x0 4 (specChron (crowd x0 12))),(3000,bsC 23 (cEvent true) ([]:List Event))] [2,3,4,5,6] [3,23,1016,2016] [] [] [] [0,4,8,12,16] (.reg 1 [] [(1,k22 (specChron (crowd x0 12)))] [2,3,4,5,6,25,26,27] [3,23,1016,1025,2016] [] [] [] [0] (lp (D4b1 x0) [] [23] [(20006,some 23)] (D4b1 x0 0 ([]:List Event)) (A4b1 x0))))))
theorem law_FnKnown {x0:List Int} (hx:x0.length≤1048576∧∀ y∈x0,inR .u8 y):laws_FnKnown_m x0=true:=by
 have hf:=since_ok hx 12
 unfold laws_FnKnown_m
 revert hf
 generalize specChron (crowd x0 12)=f
 generalize lawYear x0 1 f=y
 generalize lawYear x0 4 f=z
 rintro ⟨hf,hy,hn⟩
 rw [decide_eq_false (show ¬ (1048576:Int)<((x0.length:Nat):Int) by have:=hx.1;omega)]
 simp only [cond_false]
 have hv:=events_val2 hf hy
 refine loopN_to (fun i (v:List Event)=>v=((implEvents f).take i).filter fun e=>decide (e.year≤y)) (fun (r:Bool)=>r=true) rfl (fun i v next hi hv hn=>?_) (fun v hw=>?_)
 ·have e:=filt_getE (fun e:Event=>decide (e.year≤y)) (implEvents f) i hi
  cases d:decide (((implEvents f).getD i default).year≤y)<;>simp only [d,cond_true,cond_false] at e ⊢
  ·exact hn _ (by rw [hv,e,List.append_nil])
  ·exact hn _ (by rw [hv,e])
 ·rw [List.take_length] at hw
  have hb:implBuild v=(implKnown f y,true):=by rw [build_eq,hw,hv,build_early hf hy,known_eq]
  have hk:implKnown (implKnown f (Max.max y z)) (Min.min y z)=implKnown f (Min.min y z):=known_two hf hy (by omega)
  rw [hb,hk]
  simp [specEqFam_self]
theorem ok_laws_FnKnown (x0:List Int) (hx0:x0.length≤1048576∧∀ y∈x0,inR .u8 y):FnT Try.prog 4 [.ro false 1 x0.length (rowOf (cInt .u8) x0)] (C4 true):=by
 have aux:∀ R,laws_FnKnown_m x0=R→slim (C4 R) (A4 x0) []:=by
  intro R hR
  refine rg trivial ?_
  refine rg trivial ?_
  revert hR;refine cd (fun hc1 hR=>?_) fun hc1 hR=>?_
  ·
    refine rg trivial ?_
    exact congrArg C4 hR
  ·
    refine rg ⟨⟨by (intros;omega),by (with_reducible exact (bytes_ok hx0).2),by (intros;omega)⟩,⟨by (have h9:=crowd_bd hx0 12;omega),by (have h9:=crowd_bd hx0 12;omega),by (with_reducible exact (crowd_bd hx0 12).2.2.2)⟩,⟨by (intros;omega),by (with_reducible exact (bytes_ok hx0).2),by (intros;omega),by (with_reducible exact since_f hx0),by (with_reducible exact since_n hx0)⟩,⟨by (intros;omega),by (with_reducible exact (bytes_ok hx0).2),by (intros;omega),by (with_reducible exact since_f hx0),by (with_reducible exact since_n hx0)⟩,trivial,trivial⟩ ?_
    refine rg ⟨⟨by (with_reducible exact since_p hx0),by (with_reducible exact since_u hx0),by (with_reducible exact since_nm hx0)⟩,trivial⟩ ?_
    revert hR;refine lN (fun i v=>EvN i v) (by (exact EvN.nil)) rfl fun i1 v1 F1 hn1 hI1 hR hK1=>?_
    refine rg trivial ?_
    refine ⟨fun hc2=>?_,fun hc2=>?_⟩
    · have hii1:i1<(implEvents (specChron (crowd x0 12))).length:=by have:=of_decide_eq_true hc2;omega
      replace hR:=loopN_step hR hii1
      refine rg ⟨by (intros;omega),trivial⟩ ?_
      revert hR;refine cd (fun hc3 hR=>?_) fun hc3 hR=>?_
      ·
        refine rg ⟨trivial,by (have h8:=events_nm (since_ok hx0 12).1 (since_ok hx0 12).2.1;have h9:=hI1.1;have h7:=h8.1;(try simp only [inR]);omega),trivial⟩ ?_
        refine rg ⟨by (have h8:=events_nm (since_ok hx0 12).1 (since_ok hx0 12).2.1;have h9:=hI1.1;have h7:=h8.1;(try simp only [inR]);omega),trivial⟩ ?_
        exact hK1 (v1++[((implEvents (specChron (crowd x0 12))).getD i1 default)]) hii1 (by (have h8:=events_nm (since_ok hx0 12).1 (since_ok hx0 12).2.1;exact hI1.snoc (h8.2 _ (getD_mem hii1)))) hR
      ·
        refine rg ⟨by (have h8:=events_nm (since_ok hx0 12).1 (since_ok hx0 12).2.1;have h9:=hI1.1;have h7:=h8.1;(try simp only [inR]);omega),trivial⟩ ?_
        exact hK1 v1 hii1 (by (exact ⟨Nat.le_succ_of_le hI1.1,hI1.2⟩)) hR
    · obtain rfl:i1=(implEvents (specChron (crowd x0 12))).length:=by have:=of_decide_eq_false hc2;omega
      replace hR:=loopN_end hR (Nat.lt_irrefl _)
      revert hR;refine cd (fun hs4 hR=>?_) fun hs4 hR=>?_
      ·
        revert hR;refine cd (fun hs5 hR=>?_) fun hs5 hR=>?_
        ·
          refine rg ⟨by with_reducible assumption,by with_reducible assumption,⟨by (have h8:=events_nm (since_ok hx0 12).1 (since_ok hx0 12).2.1;have h9:=hI1.1;have h7:=h8.1;(try simp only [inR]);omega),by (with_reducible exact hI1.2)⟩,⟨by (with_reducible exact since_p hx0),by (with_reducible exact since_u hx0),by (with_reducible exact since_nm hx0)⟩,⟨by (have h8:=events_nm (since_ok hx0 12).1 (since_ok hx0 12).2.1;exact build_eqf hI1 (by have h7:=h8.1;omega)),by (with_reducible exact known_eqf _ _)⟩,⟨by (with_reducible exact since_p hx0),by (with_reducible exact since_u hx0),by (with_reducible exact since_nm hx0)⟩,⟨by (with_reducible exact known_p _ _),by (with_reducible exact known_u _ _),by (with_reducible exact since_knm hx0)⟩,⟨by (with_reducible exact since_p hx0),by (with_reducible exact since_u hx0),by (with_reducible exact since_nm hx0)⟩,⟨by (with_reducible exact known_eqf _ _),by (with_reducible exact known_eqf _ _)⟩,trivial⟩ ?_
          exact congrArg C4 hR
        ·
          refine rg ⟨by with_reducible assumption,by with_reducible assumption,by (intro h9;exact Bool.noConfusion (h9.symm.trans (show _=false by assumption))),⟨by (have h8:=events_nm (since_ok hx0 12).1 (since_ok hx0 12).2.1;have h9:=hI1.1;have h7:=h8.1;(try simp only [inR]);omega),by (with_reducible exact hI1.2)⟩,⟨by (with_reducible exact since_p hx0),by (with_reducible exact since_u hx0),by (with_reducible exact since_nm hx0)⟩,⟨by (have h8:=events_nm (since_ok hx0 12).1 (since_ok hx0 12).2.1;exact build_eqf hI1 (by have h7:=h8.1;omega)),by (with_reducible exact known_eqf _ _)⟩,trivial⟩ ?_
          exact congrArg C4 hR
      ·
        revert hR;refine cd (fun hs6 hR=>?_) fun hs6 hR=>?_
        ·
          refine rg ⟨by with_reducible assumption,by (intro h9;exact Bool.noConfusion (h9.symm.trans (show _=false by assumption))),by with_reducible assumption,⟨by (have h8:=events_nm (since_ok hx0 12).1 (since_ok hx0 12).2.1;have h9:=hI1.1;have h7:=h8.1;(try simp only [inR]);omega),by (with_reducible exact hI1.2)⟩,⟨by (with_reducible exact since_p hx0),by (with_reducible exact since_u hx0),by (with_reducible exact since_nm hx0)⟩,⟨by (with_reducible exact known_p _ _),by (with_reducible exact known_u _ _),by (with_reducible exact since_knm hx0)⟩,⟨by (with_reducible exact since_p hx0),by (with_reducible exact since_u hx0),by (with_reducible exact since_nm hx0)⟩,⟨by (with_reducible exact known_eqf _ _),by (with_reducible exact known_eqf _ _)⟩,trivial⟩ ?_
          exact congrArg C4 hR
        ·
          refine rg ⟨by with_reducible assumption,by (intro h9;exact Bool.noConfusion (h9.symm.trans (show _=false by assumption))),by with_reducible assumption,by (intro h9;exact Bool.noConfusion (h9.symm.trans (show _=false by assumption))),⟨by (have h8:=events_nm (since_ok hx0 12).1 (since_ok hx0 12).2.1;have h9:=hI1.1;have h7:=h8.1;(try simp only [inR]);omega),by (with_reducible exact hI1.2)⟩,trivial⟩ ?_
          exact congrArg C4 hR
 exact Fn.go 70 Try.func4 (by kernel_rfl) (by kernel_rfl) (by simp [C4,Frs,FrsL]) (A4 x0) (by kernel_rfl) (aux _ (law_FnKnown hx0))
theorem bulk_pos {H:Type} (d:DataW H):1≤Rows.uptoBulk d:=by
 cases d with
 | lit l=>cases l<;>simp [Rows.uptoBulk]
 | _=>simp [Rows.uptoBulk]
theorem bulkAll_len {H : Type} : ∀ l : List (DataW H), l.length ≤ Rows.uptoBulkAll l
  | []=>by simp
  | d :: l=>by
    have:=bulk_pos d
    have:=bulkAll_len l
    simp only [Rows.uptoBulkAll,List.length_cons]
    omega
theorem bulkAll_mem {H : Type} : ∀ (l : List (DataW H)) (d : DataW H), d ∈ l → Rows.uptoBulk d ≤ Rows.uptoBulkAll l
  | [],d,h=>by cases h
  | e :: l,d,h=>by
    simp only [Rows.uptoBulkAll]
    rcases List.mem_cons.1 h with e | h
    · rw [e];omega
    · have:=bulkAll_mem l d h
      omega
theorem bulk {H:Type}:Bulk (Rows.uptoBulk (H:=H)) where
 str:=fun bs=>by simp [Rows.uptoBulk]
 slen:=fun es sp=>by
  have:=bulkAll_len es
  simp only [Rows.uptoBulk]
  omega
 sel:=fun es sp e he=>by
  have:=bulkAll_mem es e he
  simp only [Rows.uptoBulk]
  omega
 agg:=fun ps p hp=>by
  have:=bulkAll_mem ps p hp
  simp only [Rows.uptoBulk]
  omega
theorem own:ownKnob Try.prog.godebug=none:=by kernel_rfl
theorem laidOut:laidOutB Try.prog=true:=by kernel_rfl
set_option maxRecDepth 100000 in
theorem contract (H : Type) (enc : TypeId × Value → H) (W : World) (base : Nat) (args : Array Value) (ds gs : List (DataW H)) (before : List MemPlace)
    (hval:∀ (j:Nat) t v,Try.f4.params[j]?=some t→args[j]?=some v→Value.okWide Try.prog W .any base t v)
    (hW:DataW.Whole enc Try.prog Try.f4.params.toList Rows.fnKnownSpec.vars false W args.toList ds gs before) (hk:Rows.uptoSmall H (ds++gs)=true) :
    Calls Try.prog 4 args W fun e W'=>∃ v,e=.returned v∧Rows.fnKnownSpec.post enc Try.prog Try.f4 false true false false W args v W':=by
 have hW':=hW
 obtain ⟨p,q,hA0,hV,hpq,hfz,hnd⟩:=hW
 have hA:DataW.TrodAll enc Try.prog W 0 (fun _=>true) true Try.f4.params.toList args.toList ds p:=hA0
 clear hA0
 rw [Try.params4] at hA hval
 obtain ⟨v0,vs0,d0,ds0,p0,q0,hargs,rfl,rfl,h0,hA1⟩:=trodAll_cons hA
 obtain ⟨rfl,rfl,rfl⟩:=trodAll_nil hA1
 obtain rfl:args=#[v0]:=by cases args;simp_all
 obtain ⟨rfl,rfl⟩:=trodVars_none hV
 obtain ⟨x0,k0,r0⟩:=top_slice (opens_slice bulk (mono_triv (p:=fun (n:Int)=>inR .u8 n)) Try.underlying22 (sz:=1) (by kernel_rfl) (by omega) (opens_int Try.underlying5)) Try.underlying22 (hval 0 22 v0 rfl rfl) h0
 have kk0:=((mono_sl (mono_triv (p:=fun (n:Int)=>inR .u8 n)))) _ _ x0 (show Rows.uptoBulk d0≤1048576 from Nat.le_trans (bulkAll_mem _ d0 (by simp)) (of_decide_eq_true hk)) k0
 refine (Lite.Fn.true_of (ok_laws_FnKnown x0 kk0) trivial (by rfl) fun i lv v hl hv=>?_).mono fun e W' ⟨he,hb⟩=>⟨_,he,row_post laidOut (by kernel_rfl) rfl Try.underlying4 rfl rfl hW' hb⟩
 match i,hl,hv with
 | 0,hl,hv=>cases hl;cases hv;exact r0
 | _+1,hl,_=>simp at hl
set_option maxRecDepth 100000 in
theorem lifted (os : Os) (started : os.Started) (H : Type) (enc : TypeId × Value → H) (F : Stop.Interp) :
    ReturnsInHanded {} Try.checked os 4 .any ((Rows.OpenSpec.upto Rows.fnKnownSpec).pre6 enc Try.prog Try.f4 Rows.fnKnownUptoRow.domain false) (((Rows.OpenSpec.upto Rows.fnKnownSpec).at F).post enc Try.prog Try.f4 false true false false):=by
 refine returnsInHanded_of_cond (C := Try.checked) (s := Rows.OpenSpec.upto Rows.fnKnownSpec) (k := Rows.uptoSmall) rfl own started (by kernel_rfl) Try.func4
   (OpenSpec.witness (enc := enc) (C := Try.checked) (s := Rows.OpenSpec.upto Rows.fnKnownSpec) (k := Rows.uptoSmall) rfl false ⟨#[], #[.slice none 0 0], []⟩ 12 (by kernel_rfl) (by kernel_rfl) (by kernel_rfl)
     (x:=([.nil],[],[])) (by kernel_rfl) rfl (by kernel_rfl)) ?_
 intro W base args ds gs before hval hW _ hk _
 exact contract H enc W base args ds gs before hval hW hk
theorem proved:Rows.FnKnownUptoSaid :=
 OpenClaim.holds_of_cond 4 Try.f4 rfl rfl rfl rfl rfl rfl rfl ⟨rfl, rfl, rfl, rfl, rfl⟩ rfl rfl rfl rfl rfl (by kernel_rfl) Try.func4 (by kernel_rfl)
   (of_decide_eq_true (by kernel_rfl)) (by unfold Func.isWrapper;first | (rw [if_pos (by decide +kernel)];kernel_rfl) | (rw [if_neg (by decide +kernel)];exact ⟨rfl,rfl⟩))
   (fun os started H enc _ F=>lifted os started H enc F)
end Go.Proofs.Ytepefimocflfkaa
