import Derived.Test.YtnphfelaffdmkaaGreatDoorCards
import Derived.Test.YtnphfelaffdmkaaGreatDoorTie
import Derived.Stop.LaidErr
import Derived.LaidLaws
import Derived.Shelf.Vars
import Derived.Test.YtnphfelaffdmkaaGreatDoorXZ2
import Derived.Test.YtnphfelaffdmkaaGreatDoorLiteV
import Derived.WalkKit
import Derived.ProofKit
import Derived.OpenShut
import Derived.JoinedCond
set_option maxHeartbeats 4000000
set_option linter.unusedSimpArgs false
set_option linter.unusedVariables false
namespace Go.Proofs.YtnphfelaffdmkaaGreatDoor
open Go Go.Lite Go.Proofs Go.ChangeShapes Go.WideShapes Go.ChangeAt Go.RowKit
theorem zgs(x0:List Int)(hx:x0.length≤1048576∧∀y∈x0,inR .u8 y):FnT Tryz.prog 3 [.ro false 1 x0.length (rowOf (cInt .u8) x0)] (C70 true):=by obtain⟨r,e,hf⟩:=(inferInstance:Ct (y3 x0) _ _).h (fun y hy=>by have:=hx.2 y hy;simp only[inR] at this;omega);subst e;exact hf
theorem zzv{H : Type}(d : DataW H) : 1 ≤ Rows.uptoBulk d := by
 cases d with
 |lit l =>cases l<;>simp[Rows.uptoBulk]
 |_ =>simp[Rows.uptoBulk]
theorem zkp{H : Type} : ∀l : List (DataW H), l.length ≤ Rows.uptoBulkAll l
  |[]=>by simp
  |d :: l => by
    have:=zzv d
    have:=zkp l
    simp only[Rows.uptoBulkAll,ot]
    omega
theorem ze4{H : Type} : ∀(l : List (DataW H)) (d : DataW H), d ∈ l → Rows.uptoBulk d ≤ Rows.uptoBulkAll l
  |[],d,h=>by cases h
  |e :: l, d, h => by
    simp only[Rows.uptoBulkAll]
    rcases oQ.1 h with e | h
    · rw [e];omega
    · have:=ze4 l d h
      omega
theorem bulk{H : Type} : Bulk (Rows.uptoBulk (H := H)) where
  str:=fun bs=>by simp[Rows.uptoBulk]
  slen := fun es sp => by
    have:=zkp es
    simp only[Rows.uptoBulk]
    omega
  sel := fun es sp e he => by
    have:=ze4 es e he
    simp only[Rows.uptoBulk]
    omega
  agg := fun ps p hp => by
    have:=ze4 ps p hp
    simp only[Rows.uptoBulk]
    omega
theorem own:ownKnob Tryz.prog.godebug=none:=by kernel_rfl
theorem z1r:laidOutB Tryz.prog=true:=by kernel_rfl
theorem zvr : Tryz.prog.globalNamed "internal/strconv.uint64pow10" = some 2 := by kernel_rfl
theorem zzl : (Tryz.prog.globals[2]?).map (·.type) = some 305 := by kernel_rfl
theorem zvs : Tryz.prog.globalNamed "strconv.ErrSyntax" = some 3 := by kernel_rfl
theorem zzm : (Tryz.prog.globals[3]?).map (·.type) = some 150 := by kernel_rfl
theorem gStar : "*" ++ "errors.errorString" = "*errors.errorString" := by decide
theorem z1w (u : TypeId) (h : Tryz.prog.typeName? 3 u = some "*errors.errorString") : u = 327 :=
  typeName_ptr_named (nm := "errors.errorString") (by rw [gStar]; kernel_rfl) (by kernel_rfl) (by decide) u (by rw [gStar]; exact h)
theorem gVar : Tryz.prog.globalNamed "loop.example/g03221/impl.preferWords" = some 0 := by kernel_rfl
theorem zzk : (Tryz.prog.globals[0]?).map (·.type) = some 205 := by kernel_rfl
theorem gh_of{W : World}(hm : laidMetH Tryz.prog Rows.fnQuestionsUptoRow.laid W)(hs : W.ShapedOpen Tryz.prog) : GH W := by
  have h:laidMet Tryz.prog Rows.fnQuestionsUptoRow.laid W:=hm
  have hp : Lib.TabIs Tryz.prog W "internal/strconv.uint64pow10" .u64 gPow := Lib.tabIs_of_head zvr zzl Tryz.underlying305 Tryz.underlying257 (by kernel_rfl) (by kernel_rfl) (h.tail.tail)
  obtain⟨a,s,he,_⟩:=laid_sentinel (h.tail.tail.tail.tail.tail) zvs zzm Tryz.underlying150 z1w Tryz.underlying327 Tryz.underlying329 rfl rfl Tryz.underlying9 (by kernel_rfl) (by kernel_rfl)
  have hx:W.cell? ⟨3,0,none⟩=some (.iface 327 (.pointer (some a))):=by simpa using World.var?_cell zvs he 0
  have hm:=cell_of_shapedOpen_int (k:=.i64) hs (g:=1) (t:=3) (zero:=#[.int .i64 0]) (ol (by kernel_rfl)) (by kernel_rfl) rfl (by kernel_rfl) (by kernel_rfl) (by kernel_rfl)
  have hq : ∃t f, W.heap[2]? = some (.cells (gPow.map fun z => Value.int .u64 z).toArray t f) := by
    unfold Lib.TabIs World.var? at hp
    rw[zvr] at hp
    simp only[Option.bind_some] at hp
    split at hp
    · rename_i cs t f e;cases hp;exact ⟨t,f,e⟩
    · cases hp
  have hz : 4 ≤ W.heap.size := by
    unfold World.cell? at hx
    cases e:W.heap[3]? with
    |none=>simp[e] at hx
    |some o=>have:=(oI.1 e).1;omega
  have hw:=zmf (ws:=gWords) gVar zzk Tryz.underlying205 Tryz.underlying9 (by kernel_rfl) (by kernel_rfl) (h.tail.tail.tail.tail.tail.tail)
  exact⟨⟨hz,fun j hj=>hw.2 j hj⟩,hq,hm,_,_,hx⟩
noncomputable def zve:Nat:=(World.holding Tryz.prog default ⟨#[],#[],[]⟩).heap.size
set_option maxRecDepth 100000 in
theorem contract(H : Type)(enc : TypeId × Value → H)(W : World)(base : Nat)(args : Array Value)(ds gs : List (DataW H))(before : List MemPlace)(hval : ∀(j : Nat) t v, Tryz.f3.params[j]? = some t → args[j]? = some v → Value.okWide Tryz.prog W .any base t v)(hW : DataW.Whole enc Tryz.prog Tryz.f3.params.toList Rows.fnQuestionsSpec.vars false W args.toList ds gs before)(hL : laidMetH Tryz.prog Rows.fnQuestionsUptoRow.laid W)(hSh : W.ShapedOpen Tryz.prog)(hk : Rows.uptoSmall H (ds ++ gs) = true) : Calls Tryz.prog 3 args W fun e W' => ∃v, e = .returned v ∧ Rows.fnQuestionsSpec.post enc Tryz.prog Tryz.f3 false true false false W args v W' := by
 have hW':=hW;obtain⟨p,q,hA0,hV,hpq,hfz,hnd⟩:=hW;have hA:DataW.TrodAll enc Tryz.prog W 0 (fun _=>true) true Tryz.f3.params.toList args.toList ds p:=hA0;clear hA0;rw[Tryz.params3] at hA hval;obtain⟨v0,vs0,d0,ds0,p0,q0,hargs,rfl,rfl,h0,hA1⟩:=trodAll_cons hA;obtain⟨rfl,rfl,rfl⟩:=trodAll_nil hA1;obtain rfl:args=#[v0]:=by cases args;simp_all
 obtain⟨g0, rfl⟩ : ∃g0, gs = [g0] := by
  match gs,hV with
  |[],hV =>exact hV.elim
  |[g0],_ =>exact⟨g0,rfl⟩
  |_ :: _ :: _,hV =>obtain⟨_,_,_,_,_,_,_,_,_,_,hV,_⟩:=hV;exact hV.elim
 obtain⟨x0,k0,r0⟩:=zt5 (zph bulk (zoc (p:=fun (n:Int)=>inR .u8 n)) Tryz.underlying22 (sz:=1) (by kernel_rfl) vbX (zur Tryz.underlying5)) Tryz.underlying22 (hval 0 22 v0 rfl rfl) h0;have kk0:=((z1q (zoc (p:=fun (n:Int)=>inR .u8 n)))) _ _ x0 (show Rows.uptoBulk d0≤1048576 from Nat.le_trans (ze4 _ d0 vbZ) (ol hk)) k0;refine(Lite.Fn.true_of (zgs x0 kk0) (gh_of hL hSh) zaa fun i lv v hl hv=>?_).mono fun e W' ⟨he,hb⟩=>⟨_,he,zmm z1r (by kernel_rfl) rfl Tryz.underlying4 (by kernel_rfl) rfl hW' hb⟩;match i,hl,hv with
 |0,hl,hv =>cases hl;cases hv;exact r0
 |_+1,hl,_ =>simp at hl
def zmd(a : Array Value) : Obj → Obj
  |.cells _ t f=>.cells a t f
  |o=>o
def znu(k:IntKind)(l:List Int):Array Value:=⟨l.map fun n=>.int k n⟩
noncomputable def zkc(os : Os) : World :=
  let w:=World.holding Tryz.prog os ⟨#[.cells #[.string ⟨#[118,97,108,117,101,32,111,117,116,32,111,102,32,114,97,110,103,101]⟩] 329,.cells #[.string ⟨#[105,110,118,97,108,105,100,32,115,121,110,116,97,120]⟩] 329],#[],[]⟩;{ w with heap:=w.heap |>.modify 7 (zmd (znu .u8 [0,1,28,2,29,14,24,3,30,22,20,15,25,17,4,8,31,27,13,23,21,19,16,7,26,12,18,6,11,5,10,9])) |>.modify 8 (zmd (znu .u8 [0,1,56,2,57,49,28,3,61,58,42,50,38,29,17,4,62,47,59,36,45,43,51,22,53,39,33,30,24,18,12,5,63,55,48,27,60,41,37,16,46,35,44,21,52,32,23,11,54,26,40,15,34,20,31,10,25,14,19,9,13,8,7,6])) |>.modify 2 (zmd (znu .u64 ((List.range 20).map fun (k:Nat)=>((10 ^ k:Nat):Int)))) |>.modify 6 (zmd (znu .u8 ([128,191,160,191,128,159,144,191,128,143]++List.replicate 22 0))) |>.modify 4 (zmd #[.iface 327 (.pointer (some ⟨zve+0,0,none⟩))]) |>.modify 3 (zmd #[.iface 327 (.pointer (some ⟨zve+1,0,none⟩))]) |>.modify 0 (zmd #[.string ⟨#[97,110,121]⟩,.string ⟨#[109,101,110]⟩,.string ⟨#[119,111,109,101,110]⟩,.string ⟨#[111,110,108,121,32,109,101,110]⟩,.string ⟨#[111,110,108,121,32,119,111,109,101,110]⟩]) |>.modify 5 (fun | .cells _ t frozen=>.cells (Go.Pinned.utf8FirstZ.map fun (z:Nat)=>Value.int .u8 (z:Int)).toArray t frozen | o=>o) }
theorem zzi(os:Os):laidMet Tryz.prog Rows.fnQuestionsUptoRow.laid ((zkc os).forCall (fun _ _=>0) ⟨#[],#[.slice none 0 0],[]⟩).memory:=laidMet_of_run' 8 (by kernel_rfl) (by kernel_rfl)
theorem reads(os:Os){H:Type}(enc:TypeId×Value→H):∃places,DataW.whole enc Tryz.prog ((zkc os).forCall (fun _ _=>0) ⟨#[],#[.slice none 0 0],[]⟩).memory Tryz.f3.params.toList Rows.fnQuestionsSpec.vars false #[(Value.slice none 0 0)].toList 12=some ([.nil],[.agg (gWords.map fun s=>.lit (.string s))],places):=⟨[.cell 0 0,.cell 0 1,.cell 0 2,.cell 0 3,.cell 0 4],by kernel_rfl⟩
set_option maxRecDepth 100000 in
theorem lifted(os:Os)(started:os.Started)(H:Type)(enc:TypeId×Value→H)(F:Stop.Interp):ReturnsInHanded {} Tryz.checked os 3 .any ((Rows.OpenSpec.upto Rows.fnQuestionsSpec).preRow enc Tryz.prog Tryz.f3 Rows.fnQuestionsUptoRow.domain false Rows.fnQuestionsUptoRow.laid) (((Rows.OpenSpec.upto Rows.fnQuestionsSpec).at F).post enc Tryz.prog Tryz.f3 false true false false):=by obtain⟨places,hx⟩:=reads os enc;refine returnsInHanded_of_row (C:=Tryz.checked) (s:=Rows.OpenSpec.upto Rows.fnQuestionsSpec) own started (by kernel_rfl) Tryz.func3 (witness_row_at (enc:=enc) (C:=Tryz.checked) false (zkc os) #[.slice none 0 0] rfl (by kernel_rfl) (by kernel_rfl) (by kernel_rfl) (OpenSpec.preRow_of_cond 12 hx (by kernel_rfl) (fun k hk=>by cases hk;kernel_rfl) (by kernel_rfl) (zzi os))) ?_;intro W base args ds gs before hval hW _ hcond _ hL hSh _;exact contract H enc W base args ds gs before hval hW hL hSh (hcond _ rfl)
noncomputable abbrev zpp:=Tryz.pinned.checked.prog
theorem sa:laidOutB zpp=true:=by kernel_rfl
theorem sb:mapsRowed zpp=true:=by kernel_rfl
theorem sc:(Rows.fnQuestionsUptoRow.inPlace==zpp.inPlace 3)=true:=by kernel_rfl
theorem sd:(Rows.fnQuestionsUptoRow.unfollowed==zpp.unfollowed 3)=true:=by kernel_rfl
theorem se:(Rows.fnQuestionsUptoRow.recurses==zpp.recurses 3)=true:=by kernel_rfl
theorem sf:(Rows.fnQuestionsUptoRow.named==zpp.varsNamed 3)=true:=by kernel_rfl
theorem facts:joinedFacts zpp 3 Tryz.f3 (Rows.OpenSpec.upto Rows.fnQuestionsSpec).bare Rows.fnQuestionsUptoRow=true:=by simp only[joinedFacts,sa,sb,sc,sd,se,sf];kernel_rfl
theorem said:Rows.FnQuestionsUptoSaid:=OpenClaim.holds_of_cond 3 Tryz.f3 rfl rfl rfl rfl rfl rfl rfl ⟨rfl,rfl,rfl,rfl,rfl⟩ rfl rfl rfl rfl rfl (by kernel_rfl) Tryz.func3 facts (ol (by kernel_rfl)) (by unfold Func.isWrapper;first|(rw[if_pos (by decide +kernel)];kernel_rfl)|(rw[if_neg (by decide +kernel)];exact⟨rfl,rfl⟩)) (fun os started H enc _ F=>by rw[OpenClaim.pre_eq_preRow];exact lifted os started H enc F)
end Go.Proofs.YtnphfelaffdmkaaGreatDoor
