/- Kinship, where it can be reckoned by lines of descent, is the same by both ways. -/
import Derived.Test.YtaageiiodlfeiaaRows
import Derived.Test.YtaageiiodlfeiaaM248
import Derived.Test.YtaageiiodlfeiaaLiteR
import Derived.WalkKit
import Derived.ProofKit
import Derived.OpenShut
import Derived.JoinedCond
set_option maxHeartbeats 4000000
set_option linter.unusedSimpArgs false
set_option linter.unusedVariables false
namespace Go.Proofs.Ytaageiiodlfeiaa
open Go Go.Lite Go.Proofs Go.ChangeShapes Go.WideShapes Go.ChangeAt Go.RowKit
def C5 (R:Bool):LV×List (Nat×BC):=(.bool R,[])
def zga (x0:List Int):Bool:=bif (decide (1048576<((x0.length:Nat):Int))) then true else (bif ((((zc0 (crowd x0 16) (who x0 1 (crowd x0 16)) (who x0 2 (crowd x0 16))).2)==((zeb (crowd x0 16) (who x0 1 (crowd x0 16)) (who x0 2 (crowd x0 16))).2))&&(!(!((zc0 (crowd x0 16) (who x0 1 (crowd x0 16)) (who x0 2 (crowd x0 16))).2)))) then ((((zc0 (crowd x0 16) (who x0 1 (crowd x0 16)) (who x0 2 (crowd x0 16))).2)==((zeb (crowd x0 16) (who x0 1 (crowd x0 16)) (who x0 2 (crowd x0 16))).2))&&((!((zc0 (crowd x0 16) (who x0 1 (crowd x0 16)) (who x0 2 (crowd x0 16))).2))||((decide ((((zc0 (crowd x0 16) (who x0 1 (crowd x0 16)) (who x0 2 (crowd x0 16))).1).num)=((zd6 (crowd x0 16) (who x0 1 (crowd x0 16)) (who x0 2 (crowd x0 16))).num)))&&((decide ((((zc0 (crowd x0 16) (who x0 1 (crowd x0 16)) (who x0 2 (crowd x0 16))).1).exp)=((zd6 (crowd x0 16) (who x0 1 (crowd x0 16)) (who x0 2 (crowd x0 16))).exp)))&&true)))) else ((((zc0 (crowd x0 16) (who x0 1 (crowd x0 16)) (who x0 2 (crowd x0 16))).2)==((zeb (crowd x0 16) (who x0 1 (crowd x0 16)) (who x0 2 (crowd x0 16))).2))&&((!((zc0 (crowd x0 16) (who x0 1 (crowd x0 16)) (who x0 2 (crowd x0 16))).2))||true)))
def A5 (x0:List Int):Ann:=r0 1 [0,2] [] (r0 1 [0,2,12] [] (cn (decide (1048576<((x0.length:Nat):Int))) (r0 1 [0,2] [] (rt [] (C5 true))) (.split ((((zc0 (crowd x0 16) (who x0 1 (crowd x0 16)) (who x0 2 (crowd x0 16))).2)==((zeb (crowd x0 16) (who x0 1 (crowd x0 16)) (who x0 2 (crowd x0 16))).2))&&(!(!((zc0 (crowd x0 16) (who x0 1 (crowd x0 16)) (who x0 2 (crowd x0 16))).2)))) (.reg 6 [(5007,.gT .no),(5008,.gT .no),(5009,.gT .no),(5010,.gT .no),(5012,.gT .no)] [(1,k11 x0 16),(1002,k15 x0 1 (crowd x0 16)),(2002,k15 x0 2 (crowd x0 16)),(3003,k22 (crowd x0 16) (who x0 1 (crowd x0 16)) (who x0 2 (crowd x0 16))),(4003,k23 (crowd x0 16) (who x0 1 (crowd x0 16)) (who x0 2 (crowd x0 16))),(5011,cT (k24 (crowd x0 16) (who x0 1 (crowd x0 16)) (who x0 2 (crowd x0 16))))] [2] [] [((zc0 (crowd x0 16) (who x0 1 (crowd x0 16)) (who x0 2 (crowd x0 16))).2)==((zeb (crowd x0 16) (who x0 1 (crowd x0 16)) (who x0 2 (crowd x0 16))).2)] [pf (((((zc0 (crowd x0 16) (who x0 1 (crowd x0 16)) (who x0 2 (crowd x0 16))).2)==((zeb (crowd x0 16) (who x0 1 (crowd x0 16)) (who x0 2 (crowd x0 16))).2))&&(!(!((zc0 (crowd x0 16) (who x0 1 (crowd x0 16)) (who x0 2 (crowd x0 16))).2))))=true)] [] [4,8,12,16,20,1,1,0,0,0,0,0,24,0,1,1] (rt [] (C5 ((((zc0 (crowd x0 16) (who x0 1 (crowd x0 16)) (who x0 2 (crowd x0 16))).2)==((zeb (crowd x0 16) (who x0 1 (crowd x0 16)) (who x0 2 (crowd x0 16))).2))&&((!((zc0 (crowd x0 16) (who x0 1 (crowd x0 16)) (who x0 2 (crowd x0 16))).2))||((decide ((((zc0 (crowd x0 16) (who x0 1 (crowd x0 16)) (who x0 2 (crowd x0 16))).1).num)=((zd6 (crowd x0 16) (who x0 1 (crowd x0 16)) (who x0 2 (crowd x0 16))).num)))&&((decide ((((zc0 (crowd x0 16) (who x0 1 (crowd x0 16)) (who x0 2 (crowd x0 16))).1).exp)=((zd6 (crowd x0 16) (who x0 1 (crowd x0 16)) (who x0 2 (crowd x0 16))).exp)))&&true))))))) (.reg 6 [(5007,.gF),(5008,.gF),(5009,.gF),(5010,.gF),(5011,.gF),(5012,.gF)] [(1,k11 x0 16),(1002,k15 x0 1 (crowd x0 16)),(2002,k15 x0 2 (crowd x0 16)),(3003,k22 (crowd x0 16) (who x0 1 (crowd x0 16)) (who x0 2 (crowd x0 16))),(4003,k23 (crowd x0 16) (who x0 1 (crowd x0 16)) (who x0 2 (crowd x0 16)))] [2] [] [((zc0 (crowd x0 16) (who x0 1 (crowd x0 16)) (who x0 2 (crowd x0 16))).2)==((zeb (crowd x0 16) (who x0 1 (crowd x0 16)) (who x0 2 (crowd x0 16))).2)] [pf (((((zc0 (crowd x0 16) (who x0 1 (crowd x0 16)) (who x0 2 (crowd x0 16))).2)==((zeb (crowd x0 16) (who x0 1 (crowd x0 16)) (who x0 2 (crowd x0 16))).2))&&(!(!((zc0 (crowd x0 16) (who x0 1 (crowd x0 16)) (who x0 2 (crowd x0 16))).2))))=false),gt (((zc0 (crowd x0 16) (who x0 1 (crowd x0 16)) (who x0 2 (crowd x0 16))).2)==((zeb (crowd x0 16) (who x0 1 (crowd x0 16)) (who x0 2 (crowd x0 16))).2)) (gf (!((zc0 (crowd x0 16) (who x0 1 (crowd x0 16)) (who x0 2 (crowd x0 16))).2)) (pf (false=true)))] [] [8,12,16,20,24,1,1,0,0,0,0,0,0,1,4,1] (rt [] (C5 ((((zc0 (crowd x0 16) (who x0 1 (crowd x0 16)) (who x0 2 (crowd x0 16))).2)==((zeb (crowd x0 16) (who x0 1 (crowd x0 16)) (who x0 2 (crowd x0 16))).2))&&((!((zc0 (crowd x0 16) (who x0 1 (crowd x0 16)) (who x0 2 (crowd x0 16))).2))||true))))))))
theorem zrq {x0:List Int} (hx:x0.length≤1048576∧∀ y∈x0,inR .u8 y):zga x0=true:=by
 have hc:=zdf hx 16
 have hp:=zwd (zfl hx).2 (i:=1) om hc.2.1.1
 have hq:=zwd (zfl hx).2 (i:=2) om hc.2.1.1
 have hf:=hc.1
 unfold zga
 rw [decide_eq_false (by have:=hx.1;omega)]
 simp only [cond_false]
 clear hx hc
 revert hp hq hf
 generalize who x0 1 (crowd x0 16)=a
 generalize who x0 2 (crowd x0 16)=b
 generalize crowd x0 16=f
 intro hp hq hf
 rw [kbl_eq,zoo hf hp hq]
 have e:zd6 f a b=dy (kn f a b):=by
  unfold zd6
  rw [(zch f a b).2 ⟨hf,hp,hq⟩]
  simp only [Bool.not_true,cond_false]
  rw [z1x hf hp hq,zqs (zgb hf hp hq).1.1]
 rw [e]
 unfold kblR
 cases (zbk f a b).all (fewL f a b) with
 | false=>simp
 | true=>simp
theorem zlw (x0:List Int) (hx0:x0.length≤1048576∧∀ y∈x0,inR .u8 y):FnT Try.prog 5 [.ro false 1 x0.length (rowOf (cInt .u8) x0)] (C5 true):=by
 have aux:∀ R,zga x0=R→slim (C5 R) (A5 x0) []:=by
  intro R hR
  refine rg trivial ?_
  refine rg trivial ?_
  revert hR;refine cd (fun hc1 hR=>?_) fun hc1 hR=>?_
  ·
    refine rg trivial ?_
    exact congrArg C5 hR
  ·
    revert hR;refine cd (fun hs2 hR=>?_) fun hs2 hR=>?_
    ·
      refine rg ⟨by with_reducible assumption,⟨by (intros;omega),by (with_reducible exact (zfl hx0).2),by (intros;omega)⟩,⟨by (intros;omega),by (with_reducible exact (zfl hx0).2),by (intros;omega),by (have h9:=zdf hx0 16;omega)⟩,⟨by (intros;omega),by (with_reducible exact (zfl hx0).2),by (intros;omega),by (have h9:=zdf hx0 16;omega)⟩,⟨by (have h9:=zdf hx0 16;omega),by (have h9:=zdf hx0 16;omega),by (with_reducible exact (zdf hx0 16).2.2.2)⟩,⟨by (have h9:=zdf hx0 16;omega),by (have h9:=zdf hx0 16;omega),by (with_reducible exact (zdf hx0 16).2.2.2)⟩,⟨by (have h9:=zdf hx0 16;omega),by (have h9:=zdf hx0 16;omega),by (with_reducible exact (zdf hx0 16).2.2.2)⟩,trivial⟩ ?_
      exact congrArg C5 hR
    ·
      refine rg ⟨by with_reducible assumption,by ((intro h8 h9;rw [h8,h9] at hs2;exact absurd hs2 (by decide))),⟨by (intros;omega),by (with_reducible exact (zfl hx0).2),by (intros;omega)⟩,⟨by (intros;omega),by (with_reducible exact (zfl hx0).2),by (intros;omega),by (have h9:=zdf hx0 16;omega)⟩,⟨by (intros;omega),by (with_reducible exact (zfl hx0).2),by (intros;omega),by (have h9:=zdf hx0 16;omega)⟩,⟨by (have h9:=zdf hx0 16;omega),by (have h9:=zdf hx0 16;omega),by (with_reducible exact (zdf hx0 16).2.2.2)⟩,⟨by (have h9:=zdf hx0 16;omega),by (have h9:=zdf hx0 16;omega),by (with_reducible exact (zdf hx0 16).2.2.2)⟩,trivial⟩ ?_
      exact congrArg C5 hR
 exact Fn.go 50 Try.func5 zax zax (by simp [C5,Frs,FrsL]) (A5 x0) zax (aux _ (zrq hx0))
theorem zzr {H:Type} (d:DataW H):1≤Rows.uptoBulk d:=by
 cases d with
 | lit l=>cases l<;>simp [Rows.uptoBulk]
 | _=>simp [Rows.uptoBulk]
theorem znt {H : Type} : ∀ l : List (DataW H), l.length ≤ Rows.uptoBulkAll l
  | []=>by simp
  | d :: l=>by
    have:=zzr d
    have:=znt l
    simp only [Rows.uptoBulkAll,List.length_cons]
    omega
theorem zh0 {H : Type} : ∀ (l : List (DataW H)) (d : DataW H), d ∈ l → Rows.uptoBulk d ≤ Rows.uptoBulkAll l
  | [],d,h=>by cases h
  | e :: l,d,h=>by
    simp only [Rows.uptoBulkAll]
    rcases List.mem_cons.1 h with e | h
    · rw [e];omega
    · have:=zh0 l d h
      omega
theorem bulk {H:Type}:Bulk (Rows.uptoBulk (H:=H)) where
 str:=fun bs=>by simp [Rows.uptoBulk]
 slen:=fun es sp=>by
  have:=znt es
  simp only [Rows.uptoBulk]
  omega
 sel:=fun es sp e he=>by
  have:=zh0 es e he
  simp only [Rows.uptoBulk]
  omega
 agg:=fun ps p hp=>by
  have:=zh0 ps p hp
  simp only [Rows.uptoBulk]
  omega
theorem own:ownKnob Try.prog.godebug=none:=by kernel_rfl
theorem z1n:laidOutB Try.prog=true:=by kernel_rfl
set_option maxRecDepth 100000 in
theorem contract (H : Type) (enc : TypeId × Value → H) (W : World) (base : Nat) (args : Array Value) (ds gs : List (DataW H)) (before : List MemPlace)
    (hval:∀ (j:Nat) t v,Try.f5.params[j]?=some t→args[j]?=some v→Value.okWide Try.prog W .any base t v)
    (hW:DataW.Whole enc Try.prog Try.f5.params.toList Rows.fnWrightSpec.vars false W args.toList ds gs before) (hk:Rows.uptoSmall H (ds++gs)=true) :
    Calls Try.prog 5 args W fun e W'=>∃ v,e=.returned v∧Rows.fnWrightSpec.post enc Try.prog Try.f5 false true false false W args v W':=by
 have hW':=hW
 obtain ⟨p,q,hA0,hV,hpq,hfz,hnd⟩:=hW
 have hA:DataW.TrodAll enc Try.prog W 0 (fun _=>true) true Try.f5.params.toList args.toList ds p:=hA0
 clear hA0
 rw [Try.params5] at hA hval
 obtain ⟨v0,vs0,d0,ds0,p0,q0,hargs,rfl,rfl,h0,hA1⟩:=trodAll_cons hA
 obtain ⟨rfl,rfl,rfl⟩:=trodAll_nil hA1
 obtain rfl:args=#[v0]:=by cases args;simp_all
 obtain ⟨rfl,rfl⟩:=trodVars_none hV
 obtain ⟨x0,k0,r0⟩:=zwi (zsq bulk (zrj (p:=fun (n:Int)=>inR .u8 n)) Try.underlying40 (sz:=1) zax om (zwv Try.underlying5)) Try.underlying40 (hval 0 40 v0 rfl rfl) h0
 have kk0:=((z1l (zrj (p:=fun (n:Int)=>inR .u8 n)))) _ _ x0 (show Rows.uptoBulk d0≤1048576 from Nat.le_trans (zh0 _ d0 zaz) (of_decide_eq_true hk)) k0
 refine (Lite.Fn.true_of (zlw x0 kk0) trivial (by rfl) fun i lv v hl hv=>?_).mono fun e W' ⟨he,hb⟩=>⟨_,he,zy8 z1n zax rfl Try.underlying4 rfl rfl hW' hb⟩
 match i,hl,hv with
 | 0,hl,hv=>cases hl;cases hv;exact r0
 | _+1,hl,_=>simp at hl
set_option maxRecDepth 100000 in
theorem lifted (os : Os) (started : os.Started) (H : Type) (enc : TypeId × Value → H) (F : Stop.Interp) :
    ReturnsInHanded {} Try.checked os 5 .any ((Rows.OpenSpec.upto Rows.fnWrightSpec).pre6 enc Try.prog Try.f5 Rows.fnWrightUptoRow.domain false) (((Rows.OpenSpec.upto Rows.fnWrightSpec).at F).post enc Try.prog Try.f5 false true false false):=by
 refine returnsInHanded_of_cond (C := Try.checked) (s := Rows.OpenSpec.upto Rows.fnWrightSpec) (k := Rows.uptoSmall) rfl own started zax Try.func5
   (OpenSpec.witness (enc := enc) (C := Try.checked) (s := Rows.OpenSpec.upto Rows.fnWrightSpec) (k := Rows.uptoSmall) rfl false ⟨#[], #[.slice none 0 0], []⟩ 12 zax zax zax
     (x:=([.nil],[],[])) zax rfl zax) ?_
 intro W base args ds gs before hval hW _ hk _
 exact contract H enc W base args ds gs before hval hW hk
theorem proved:Rows.FnWrightUptoSaid :=
 OpenClaim.holds_of_cond 5 Try.f5 rfl rfl rfl rfl rfl rfl rfl ⟨rfl, rfl, rfl, rfl, rfl⟩ rfl rfl rfl rfl rfl zax Try.func5 zax
   (of_decide_eq_true zax) (by unfold Func.isWrapper;first | (rw [if_pos (by decide +kernel)];kernel_rfl) | (rw [if_neg (by decide +kernel)];exact ⟨rfl,rfl⟩))
   (fun os started H enc _ F=>lifted os started H enc F)
end Go.Proofs.Ytaageiiodlfeiaa
