/- FnWritten holds for every text of at most 1048576 bytes: a family is read back from its text, its events from theirs, and the events build it in the order of the years. -/
import Derived.Test.YtlinnkjieghmhaaGreatDoorCards
import Derived.Test.YtlinnkjieghmhaaGreatDoorTie
import Derived.Stop.LaidErr
import Derived.LaidLaws
import Derived.Shelf.Vars
import Derived.Test.YtlinnkjieghmhaaGreatDoorM299
import Derived.Test.YtlinnkjieghmhaaGreatDoorLiteV
import Derived.WalkKit
import Derived.ProofKit
import Derived.OpenShut
import Derived.JoinedCond
set_option maxHeartbeats 4000000
set_option linter.unusedSimpArgs false
set_option linter.unusedVariables false
namespace Go.Proofs.YtlinnkjieghmhaaGreatDoor
open Go Go.Lite Go.Proofs Go.ChangeShapes Go.WideShapes Go.ChangeAt Go.RowKit
def C3 (R:Bool):LV×List (Nat×BC):=(.bool R,[])
def zfr (x0:List Int):Bool:=bif (decide (1048576<((x0.length:Nat):Int))) then true else (bif (((((((zht (zek (zbv x0 16))).2)&&(zdh (zbv x0 16) ((zht (zek (zbv x0 16))).1)))&&((zcs (zcg (zb3 (zbv x0 16)))).2))&&(decide (((((zcs (zcg (zb3 (zbv x0 16)))).1).length:Nat):Int)=(((zb3 (zbv x0 16)).length:Nat):Int))))&&((zbz ((zcs (zcg (zb3 (zbv x0 16)))).1)).2))&&(zdh ((zbz ((zcs (zcg (zb3 (zbv x0 16)))).1)).1) (zct (zbv x0 16)))) then ((((((((zht (zek (zbv x0 16))).2)&&(zdh (zbv x0 16) ((zht (zek (zbv x0 16))).1)))&&((zcs (zcg (zb3 (zbv x0 16)))).2))&&(decide (((((zcs (zcg (zb3 (zbv x0 16)))).1).length:Nat):Int)=(((zb3 (zbv x0 16)).length:Nat):Int))))&&((zbz ((zcs (zcg (zb3 (zbv x0 16)))).1)).2))&&(zdh ((zbz ((zcs (zcg (zb3 (zbv x0 16)))).1)).1) (zct (zbv x0 16))))&&(zdh (zct (zct (zbv x0 16))) (zct (zbv x0 16)))) else ((((((((zht (zek (zbv x0 16))).2)&&(zdh (zbv x0 16) ((zht (zek (zbv x0 16))).1)))&&((zcs (zcg (zb3 (zbv x0 16)))).2))&&(decide (((((zcs (zcg (zb3 (zbv x0 16)))).1).length:Nat):Int)=(((zb3 (zbv x0 16)).length:Nat):Int))))&&((zbz ((zcs (zcg (zb3 (zbv x0 16)))).1)).2))&&(zdh ((zbz ((zcs (zcg (zb3 (zbv x0 16)))).1)).1) (zct (zbv x0 16))))&&true))
def A3 (x0:List Int):Ann:=let q3:=zbv x0 16;let q9:=zct q3;let q10:=zb3 q3;let q5:=zht (zek q3);let q2:=zcs (zcg q10);let q6:=zdh q3 (q5.1);let q8:=zbz (q2.1);let q11:=(q5.2)&&q6;let q7:=(decide ((((q2.1).length:Nat):Int)=((q10.length:Nat):Int)));let q1:=(q11&&(q2.2))&&q7;let q4:=(q1&&(q8.2))&&(zdh (q8.1) q9);r0 1 [0,2] [] (r0 1 [0,2,14] [] (cn (decide (1048576<((x0.length:Nat):Int))) (r0 1 [0,2] [] (rt [] (C3 true))) (.split q4 (.reg 7 [(6025,.gT .no),(6027,.gT .no)] [(1,k4 x0 16),(1001,k6 q3),(1002,k5 (zek q3)),(2001,k7 q3),(3001,k9 q10),(3002,k8 (zcg q10)),(4001,k10 (q2.1)),(5001,k11 q3),(6004,cg (q5.2) (k12 q3 (q5.1))),(6022,cg (q1&&(q8.2)) (k12 (q8.1) q9)),(6026,cT (k11 q9)),(6028,cT (k12 (zct q9) q9))] [2] [] [q5.2,(q5.2)&&q6,q11&&(q2.2),(q11&&(q2.2))&&q7,q1&&(q8.2)] [pf (q4=true)] [] [4,8,12,16,20,24,28,32,1,1,36,1,5,9,9,9,9,9,13,17,17,40,17,0,0,44,0,0,48] (rt [] (C3 (q4&&(zdh (zct q9) q9))))) (.reg 7 [(6025,.gF),(6026,.gF),(6027,.gF),(6028,.gF)] [(1,k4 x0 16),(1001,k6 q3),(1002,k5 (zek q3)),(2001,k7 q3),(3001,k9 q10),(3002,k8 (zcg q10)),(4001,k10 (q2.1)),(5001,k11 q3),(6004,cg (q5.2) (k12 q3 (q5.1))),(6022,cg (q1&&(q8.2)) (k12 (q8.1) q9))] [2] [] [q5.2,(q5.2)&&q6,q11&&(q2.2),(q11&&(q2.2))&&q7,q1&&(q8.2)] [pf (q4=false),gt q4 (pf (false=true))] [] [8,12,16,20,24,28,32,36,1,1,40,1,5,9,9,9,9,9,13,17,17,44,17,0,0,0,0,4] (rt [] (C3 (q4&&true)))))))
theorem zry {x0:List Int} (hx:x0.length≤1048576∧∀ y∈x0,inR .u8 y):zfr x0=true:=by
 have h:=wr_ok (zb1 hx)
 unfold zfr
 rw [decide_eq_false (show ¬ (1048576:Int)<((x0.length:Nat):Int) by have:=hx.1;omega),zj0 h.fam,h.bk]
 dsimp only
 rw [h.bd,h.cc]
 simp [zpt]
theorem zl0 (x0:List Int) (hx0:x0.length≤1048576∧∀ y∈x0,inR .u8 y):FnT Tryz.prog 3 [.ro false 1 x0.length (rowOf (cInt .u8) x0)] (C3 true):=by
 have aux:∀ R,zfr x0=R→slim (C3 R) (A3 x0) []:=by
  intro R hR
  refine rg trivial ?_
  refine rg trivial ?_
  revert hR;refine cd (fun hc1 hR=>?_) fun hc1 hR=>?_
  ·
    refine rg trivial ?_
    exact congrArg C3 hR
  ·
    revert hR;refine cd (fun hs2 hR=>?_) fun hs2 hR=>?_
    ·
      refine rg ⟨by with_reducible assumption,⟨by (intros;omega),by (with_reducible exact (znf hx0).2)⟩,⟨by (have h9:=fam_n (zb1 hx0);omega),by (have h9:=fam_n (zb1 hx0);omega),by (with_reducible exact zfp (zb1 hx0))⟩,by (have h9:=zqy (zb1 hx0);omega),⟨by (have h9:=fam_n (zb1 hx0);omega),by (have h9:=fam_n (zb1 hx0);omega),by (with_reducible exact zfp (zb1 hx0))⟩,⟨by (have h9:=(wr_ok (zb1 hx0)).ev;have h8:=h9.1;omega),by (exact (wr_ok (zb1 hx0)).ev.2)⟩,by (have h9:=(wr_ok (zb1 hx0)).tx;omega),⟨by (rw [(wr_ok (zb1 hx0)).bk];have h9:=(wr_ok (zb1 hx0)).ev;have h8:=h9.1;dsimp only;(try simp only [inR]);omega),by (rw [(wr_ok (zb1 hx0)).bk];exact (wr_ok (zb1 hx0)).ev.2)⟩,⟨by (have h9:=fam_n (zb1 hx0);omega),by (have h9:=fam_n (zb1 hx0);omega),by (with_reducible exact zfp (zb1 hx0))⟩,fun hg0=>⟨by (have h9:=fam_n (zb1 hx0);omega),by (rw [zj0 (zb1 hx0)];have h9:=fam_n (zb1 hx0);dsimp only;omega)⟩,fun hg0=>⟨by (rw [(wr_ok (zb1 hx0)).bk,(wr_ok (zb1 hx0)).bd];have h9:=fam_n (wr_ok (zb1 hx0)).ch;dsimp only;omega),by (have h9:=fam_n (wr_ok (zb1 hx0)).ch;omega)⟩,⟨by (have h9:=fam_n (wr_ok (zb1 hx0)).ch;omega),by (have h9:=fam_n (wr_ok (zb1 hx0)).ch;omega),by (exact zfp (wr_ok (zb1 hx0)).ch)⟩,⟨by (rw [(wr_ok (zb1 hx0)).cc];have h9:=fam_n (wr_ok (zb1 hx0)).ch;omega),by (have h9:=fam_n (wr_ok (zb1 hx0)).ch;omega)⟩,trivial⟩ ?_
      exact congrArg C3 hR
    ·
      refine rg ⟨by with_reducible assumption,by ((try clear hR);intros;(try simp only [decide_eq_true_eq,decide_eq_false_iff_not,Bool.or_eq_true,Bool.and_eq_true,zbd,zbb,zbc,Bool.not_eq_true',inR] at *);(repeat' apply And.intro)<;>((simp_all;done))),⟨by (intros;omega),by (with_reducible exact (znf hx0).2)⟩,⟨by (have h9:=fam_n (zb1 hx0);omega),by (have h9:=fam_n (zb1 hx0);omega),by (with_reducible exact zfp (zb1 hx0))⟩,by (have h9:=zqy (zb1 hx0);omega),⟨by (have h9:=fam_n (zb1 hx0);omega),by (have h9:=fam_n (zb1 hx0);omega),by (with_reducible exact zfp (zb1 hx0))⟩,⟨by (have h9:=(wr_ok (zb1 hx0)).ev;have h8:=h9.1;omega),by (exact (wr_ok (zb1 hx0)).ev.2)⟩,by (have h9:=(wr_ok (zb1 hx0)).tx;omega),⟨by (rw [(wr_ok (zb1 hx0)).bk];have h9:=(wr_ok (zb1 hx0)).ev;have h8:=h9.1;dsimp only;(try simp only [inR]);omega),by (rw [(wr_ok (zb1 hx0)).bk];exact (wr_ok (zb1 hx0)).ev.2)⟩,⟨by (have h9:=fam_n (zb1 hx0);omega),by (have h9:=fam_n (zb1 hx0);omega),by (with_reducible exact zfp (zb1 hx0))⟩,fun hg0=>⟨by (have h9:=fam_n (zb1 hx0);omega),by (rw [zj0 (zb1 hx0)];have h9:=fam_n (zb1 hx0);dsimp only;omega)⟩,fun hg0=>⟨by (rw [(wr_ok (zb1 hx0)).bk,(wr_ok (zb1 hx0)).bd];have h9:=fam_n (wr_ok (zb1 hx0)).ch;dsimp only;omega),by (have h9:=fam_n (wr_ok (zb1 hx0)).ch;omega)⟩,trivial⟩ ?_
      exact congrArg C3 hR
 exact Fn.go 68 Tryz.func3 (by kernel_rfl) (by kernel_rfl) (by simp [C3,Frs,FrsL]) (A3 x0) (by kernel_rfl) (aux _ (zry hx0))
theorem z2t {H:Type} (d:DataW H):1≤Rows.uptoBulk d:=by
 cases d with
 | lit l=>cases l<;>simp [Rows.uptoBulk]
 | _=>simp [Rows.uptoBulk]
theorem zpp {H : Type} : ∀ l : List (DataW H), l.length ≤ Rows.uptoBulkAll l
  | []=>by simp
  | d :: l=>by
    have:=z2t d
    have:=zpp l
    simp only [Rows.uptoBulkAll,List.length_cons]
    omega
theorem zhq {H : Type} : ∀ (l : List (DataW H)) (d : DataW H), d ∈ l → Rows.uptoBulk d ≤ Rows.uptoBulkAll l
  | [],d,h=>by cases h
  | e :: l,d,h=>by
    simp only [Rows.uptoBulkAll]
    rcases List.mem_cons.1 h with e | h
    · rw [e];omega
    · have:=zhq l d h
      omega
theorem bulk {H:Type}:Bulk (Rows.uptoBulk (H:=H)) where
 str:=fun bs=>by simp [Rows.uptoBulk]
 slen:=fun es sp=>by
  have:=zpp es
  simp only [Rows.uptoBulk]
  omega
 sel:=fun es sp e he=>by
  have:=zhq es e he
  simp only [Rows.uptoBulk]
  omega
 agg:=fun ps p hp=>by
  have:=zhq ps p hp
  simp only [Rows.uptoBulk]
  omega
theorem own:ownKnob Tryz.prog.godebug=none:=by kernel_rfl
theorem z45:laidOutB Tryz.prog=true:=by kernel_rfl
theorem z0f : Tryz.prog.globalNamed "internal/strconv.uint64pow10" = some 1 := by kernel_rfl
theorem z2j : (Tryz.prog.globals[1]?).map (·.type) = some 144 := by kernel_rfl
theorem z0h : Tryz.prog.globalNamed "strconv.ErrSyntax" = some 2 := by kernel_rfl
theorem z2k : (Tryz.prog.globals[2]?).map (·.type) = some 55 := by kernel_rfl
theorem gStar : "*" ++ "errors.errorString" = "*errors.errorString" := by decide
theorem z49 (u : TypeId) (h : Tryz.prog.typeName? 3 u = some "*errors.errorString") : u = 162 :=
 typeName_ptr_named (nm := "errors.errorString") (by rw [gStar]; kernel_rfl) (by kernel_rfl) za7 u (by rw [gStar]; exact h)
theorem gh_of {W:World} (hm:laidMetH Tryz.prog Rows.fnWrittenUptoRow.laid W) (hs:W.ShapedOpen Tryz.prog):GH W:=by
 have h:laidMet Tryz.prog Rows.fnWrittenUptoRow.laid W:=hm
 have hp : Lib.TabIs Tryz.prog W "internal/strconv.uint64pow10" .u64 gPow := Lib.tabIs_of_head z0f z2j Tryz.underlying144 Tryz.underlying126 (by kernel_rfl) (by kernel_rfl) (h.tail.tail)
 obtain ⟨a,s,he,_⟩:=laid_sentinel (h.tail.tail.tail.tail.tail) z0h z2k Tryz.underlying55 z49 Tryz.underlying162 Tryz.underlying164 rfl rfl Tryz.underlying9 (by kernel_rfl) (by kernel_rfl)
 have hx:W.cell? ⟨2,0,none⟩=some (.iface 162 (.pointer (some a))):=by simpa using World.var?_cell z0h he 0
 have hm:=cell_of_shapedOpen_int (k:=.i64) hs (g:=0) (t:=3) (zero:=#[.int .i64 0]) (of_decide_eq_true (by kernel_rfl)) (by kernel_rfl) rfl (by kernel_rfl) (by kernel_rfl) (by kernel_rfl)
 have hq:∃ t f,W.heap[1]?=some (.cells (gPow.map fun z=>Value.int .u64 z).toArray t f):=by
  unfold Lib.TabIs World.var? at hp
  rw [z0f] at hp
  simp only [Option.bind_some] at hp
  split at hp
  ·rename_i cs t f e;cases hp;exact ⟨t,f,e⟩
  ·cases hp
 have hz:3≤W.heap.size:=by
  unfold World.cell? at hx
  cases e:W.heap[2]? with
  | none=>simp [e] at hx
  | some o=>have:=(Array.getElem?_eq_some_iff.1 e).1;omega
 exact ⟨hz,hq,hm,_,_,hx⟩
noncomputable def zzz:Nat:=(World.holding Tryz.prog default ⟨#[],#[],[]⟩).heap.size
set_option maxRecDepth 100000 in
theorem contract (H : Type) (enc : TypeId × Value → H) (W : World) (base : Nat) (args : Array Value) (ds gs : List (DataW H)) (before : List MemPlace)
    (hval:∀ (j:Nat) t v,Tryz.f3.params[j]?=some t→args[j]?=some v→Value.okWide Tryz.prog W .any base t v)
    (hW:DataW.Whole enc Tryz.prog Tryz.f3.params.toList Rows.fnWrittenSpec.vars false W args.toList ds gs before) (hL:laidMetH Tryz.prog Rows.fnWrittenUptoRow.laid W) (hSh:W.ShapedOpen Tryz.prog) (hk:Rows.uptoSmall H (ds++gs)=true) :
    Calls Tryz.prog 3 args W fun e W'=>∃ v,e=.returned v∧Rows.fnWrittenSpec.post enc Tryz.prog Tryz.f3 false true false false W args v W':=by
 have hW':=hW
 obtain ⟨p,q,hA0,hV,hpq,hfz,hnd⟩:=hW
 have hA:DataW.TrodAll enc Tryz.prog W 0 (fun _=>true) true Tryz.f3.params.toList args.toList ds p:=hA0
 clear hA0
 rw [Tryz.params3] at hA hval
 obtain ⟨v0,vs0,d0,ds0,p0,q0,hargs,rfl,rfl,h0,hA1⟩:=trodAll_cons hA
 obtain ⟨rfl,rfl,rfl⟩:=trodAll_nil hA1
 obtain rfl:args=#[v0]:=by cases args;simp_all
 obtain ⟨rfl,rfl⟩:=trodVars_none hV
 obtain ⟨x0,k0,r0⟩:=zyr (zup bulk (ztb (p:=fun (n:Int)=>inR .u8 n)) Tryz.underlying22 (sz:=1) (by kernel_rfl) om (zzl Tryz.underlying5)) Tryz.underlying22 (hval 0 22 v0 rfl rfl) h0
 have kk0:=((z44 (ztb (p:=fun (n:Int)=>inR .u8 n)))) _ _ x0 (show Rows.uptoBulk d0≤1048576 from Nat.le_trans (zhq _ d0 zas) (of_decide_eq_true hk)) k0
 refine (Lite.Fn.true_of (zl0 x0 kk0) (gh_of hL hSh) za8 fun i lv v hl hv=>?_).mono fun e W' ⟨he,hb⟩=>⟨_,he,z14 z45 (by kernel_rfl) rfl Tryz.underlying4 rfl rfl hW' hb⟩
 match i,hl,hv with
 | 0,hl,hv=>cases hl;cases hv;exact r0
 | _+1,hl,_=>simp at hl
noncomputable def zo1 (os:Os):World :=
 { World.holding Tryz.prog os ⟨#[.cells #[.string ⟨#[118,97,108,117,101,32,111,117,116,32,111,102,32,114,97,110,103,101]⟩] 164,.cells #[.string ⟨#[105,110,118,97,108,105,100,32,115,121,110,116,97,120]⟩] 164],#[],[]⟩ with heap:=(World.holding Tryz.prog os ⟨#[.cells #[.string ⟨#[118,97,108,117,101,32,111,117,116,32,111,102,32,114,97,110,103,101]⟩] 164,.cells #[.string ⟨#[105,110,118,97,108,105,100,32,115,121,110,116,97,120]⟩] 164],#[],[]⟩).heap |>.modify 6 (fun | .cells _ t frozen=>.cells #[.int .u8 0,.int .u8 1,.int .u8 28,.int .u8 2,.int .u8 29,.int .u8 14,.int .u8 24,.int .u8 3,.int .u8 30,.int .u8 22,.int .u8 20,.int .u8 15,.int .u8 25,.int .u8 17,.int .u8 4,.int .u8 8,.int .u8 31,.int .u8 27,.int .u8 13,.int .u8 23,.int .u8 21,.int .u8 19,.int .u8 16,.int .u8 7,.int .u8 26,.int .u8 12,.int .u8 18,.int .u8 6,.int .u8 11,.int .u8 5,.int .u8 10,.int .u8 9] t frozen | o=>o) |>.modify 7 (fun | .cells _ t frozen=>.cells #[.int .u8 0,.int .u8 1,.int .u8 56,.int .u8 2,.int .u8 57,.int .u8 49,.int .u8 28,.int .u8 3,.int .u8 61,.int .u8 58,.int .u8 42,.int .u8 50,.int .u8 38,.int .u8 29,.int .u8 17,.int .u8 4,.int .u8 62,.int .u8 47,.int .u8 59,.int .u8 36,.int .u8 45,.int .u8 43,.int .u8 51,.int .u8 22,.int .u8 53,.int .u8 39,.int .u8 33,.int .u8 30,.int .u8 24,.int .u8 18,.int .u8 12,.int .u8 5,.int .u8 63,.int .u8 55,.int .u8 48,.int .u8 27,.int .u8 60,.int .u8 41,.int .u8 37,.int .u8 16,.int .u8 46,.int .u8 35,.int .u8 44,.int .u8 21,.int .u8 52,.int .u8 32,.int .u8 23,.int .u8 11,.int .u8 54,.int .u8 26,.int .u8 40,.int .u8 15,.int .u8 34,.int .u8 20,.int .u8 31,.int .u8 10,.int .u8 25,.int .u8 14,.int .u8 19,.int .u8 9,.int .u8 13,.int .u8 8,.int .u8 7,.int .u8 6] t frozen | o=>o) |>.modify 1 (fun | .cells _ t frozen=>.cells #[.int .u64 1,.int .u64 10,.int .u64 100,.int .u64 1000,.int .u64 10000,.int .u64 100000,.int .u64 1000000,.int .u64 10000000,.int .u64 100000000,.int .u64 1000000000,.int .u64 10000000000,.int .u64 100000000000,.int .u64 1000000000000,.int .u64 10000000000000,.int .u64 100000000000000,.int .u64 1000000000000000,.int .u64 10000000000000000,.int .u64 100000000000000000,.int .u64 1000000000000000000,.int .u64 10000000000000000000] t frozen | o=>o) |>.modify 5 (fun | .cells _ t frozen=>.cells #[.int .u8 128,.int .u8 191,.int .u8 160,.int .u8 191,.int .u8 128,.int .u8 159,.int .u8 144,.int .u8 191,.int .u8 128,.int .u8 143,.int .u8 0,.int .u8 0,.int .u8 0,.int .u8 0,.int .u8 0,.int .u8 0,.int .u8 0,.int .u8 0,.int .u8 0,.int .u8 0,.int .u8 0,.int .u8 0,.int .u8 0,.int .u8 0,.int .u8 0,.int .u8 0,.int .u8 0,.int .u8 0,.int .u8 0,.int .u8 0,.int .u8 0,.int .u8 0] t frozen | o=>o) |>.modify 3 (fun | .cells _ t frozen=>.cells #[.iface 162 (.pointer (some ⟨zzz+0,0,none⟩))] t frozen | o=>o) |>.modify 2 (fun | .cells _ t frozen=>.cells #[.iface 162 (.pointer (some ⟨zzz+1,0,none⟩))] t frozen | o=>o) |>.modify 4 (fun | .cells _ t frozen=>.cells (Go.Pinned.utf8FirstZ.map fun (z:Nat)=>Value.int .u8 (z:Int)).toArray t frozen | o=>o) }
theorem z2c (os:Os):laidMet Tryz.prog Rows.fnWrittenUptoRow.laid ((zo1 os).forCall (fun _ _=>0) ⟨#[],#[.slice none 0 0],[]⟩).memory :=
 laidMet_of_run' 8 (by kernel_rfl) (by kernel_rfl)
theorem reads (os:Os) {H:Type} (enc:TypeId×Value→H):∃ places,DataW.whole enc Tryz.prog ((zo1 os).forCall (fun _ _=>0) ⟨#[],#[.slice none 0 0],[]⟩).memory Tryz.f3.params.toList Rows.fnWrittenSpec.vars false #[(Value.slice none 0 0)].toList 12=some ([.nil],[],places) :=
 ⟨[],by kernel_rfl⟩
set_option maxRecDepth 100000 in
theorem lifted (os : Os) (started : os.Started) (H : Type) (enc : TypeId × Value → H) (F : Stop.Interp) :
    ReturnsInHanded {} Tryz.checked os 3 .any ((Rows.OpenSpec.upto Rows.fnWrittenSpec).preRow enc Tryz.prog Tryz.f3 Rows.fnWrittenUptoRow.domain false Rows.fnWrittenUptoRow.laid) (((Rows.OpenSpec.upto Rows.fnWrittenSpec).at F).post enc Tryz.prog Tryz.f3 false true false false):=by
 obtain ⟨places,hx⟩:=reads os enc
 refine returnsInHanded_of_row (C := Tryz.checked) (s := Rows.OpenSpec.upto Rows.fnWrittenSpec) own started (by kernel_rfl) Tryz.func3
   (witness_row_at (enc := enc) (C := Tryz.checked) false (zo1 os) #[.slice none 0 0] rfl (by kernel_rfl) (by kernel_rfl) (by kernel_rfl)
     (OpenSpec.preRow_of_cond 12 hx (by kernel_rfl) (fun k hk=>by cases hk;kernel_rfl) (by kernel_rfl) (z2c os))) ?_
 intro W base args ds gs before hval hW _ hcond _ hL hSh _
 exact contract H enc W base args ds gs before hval hW hL hSh (hcond _ rfl)
theorem said:Rows.FnWrittenUptoSaid :=
 OpenClaim.holds_of_cond 3 Tryz.f3 rfl rfl rfl rfl rfl rfl rfl ⟨rfl, rfl, rfl, rfl, rfl⟩ rfl rfl rfl rfl rfl (by kernel_rfl) Tryz.func3 (by kernel_rfl)
   (of_decide_eq_true (by kernel_rfl)) (by unfold Func.isWrapper;first | (rw [if_pos (by decide +kernel)];kernel_rfl) | (rw [if_neg (by decide +kernel)];exact ⟨rfl,rfl⟩))
   (fun os started H enc _ F=>by rw [OpenClaim.pre_eq_preRow];exact lifted os started H enc F)
theorem plain (f : FuncId) (fn : Func) (hf : Tryz.pinned.checked.prog.funcNamed "loop.example/g03221/laws.FnWritten" = some f) (hfn : Tryz.pinned.checked.prog.funcs[f]? = some fn) :
    true=Tryz.pinned.checked.prog.looks []∧∀ (j:Nat) t,fn.params[j]?=some t→Tryz.pinned.checked.prog.wantsStandIn t=false:=by
 obtain rfl : f = 3 := Option.some.inj ((show Tryz.prog.funcNamed "loop.example/g03221/laws.FnWritten" = some 3 by kernel_rfl).symm.trans hf) |>.symm
 obtain rfl:fn=Tryz.f3:=(Option.some.inj (Tryz.func3.symm.trans hfn)).symm
 refine ⟨by kernel_rfl,fun j t ht=>?_⟩
 rw [Tryz.params3] at ht
 have hm:t∈[22]:=by simpa using Array.mem_of_getElem? ht
 have hall:([22].all fun u=>!Tryz.prog.wantsStandIn u)=true:=by kernel_rfl
 exact (show Tryz.prog.wantsStandIn t=false by simpa using List.all_eq_true.1 hall t hm)
theorem proved:Rows.FnWrittenUptoCardSaid :=
 Claim7.holds_tied_plain_at .later [] _ _ _ _ said (fun _ h=>by cases h) (by kernel_rfl) (fun _ h=>by cases h) fnWrittenUpto_row_tie rfl ⟨rfl,rfl⟩ (by kernel_rfl) rfl plain (by kernel_rfl)
end Go.Proofs.YtlinnkjieghmhaaGreatDoor
