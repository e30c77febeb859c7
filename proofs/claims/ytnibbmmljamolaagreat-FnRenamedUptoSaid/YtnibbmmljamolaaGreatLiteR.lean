/- Arguments opened: what a reading of an argument says of the plain data that it holds. And the last step of a statement. Conditions: none; over any program. -/
import Derived.Test.YtnibbmmljamolaaGreatLiteL
import Derived.ProofKit
import Derived.WideKeyArgs
import Derived.Deep.Slices
import Derived.Below
import Derived.ChangeSame
set_option linter.unusedVariables false
namespace Go.Lite
open Go Go.RowKit Go.ChangeShapes Go.WideShapes Go.Deep

def RdL(w : World)(l : List LV)(cs : List Value) : Prop :=
  cs.length=l.length∧(∀lv∈l,isOne lv=true)∧∀(j:Nat) lv v,l[j]?=some lv→cs[j]?=some v→RepA w lv v

theorem RdL.append{w : World}{l l' : List LV}{cs cs' : List Value}(h : RdL w l cs)(h' : RdL w l' cs') : RdL w (l ++ l') (cs ++ cs') := by
 refine⟨by simp[h.1,h'.1],fun lv hl=>?_,fun j lv v hl hv=>?_⟩
 ·rcases List.mem_append.1 hl with hl | hl
  ·exact h.2.1 lv hl
  exact h'.2.1 lv hl
 rcases o0 j l.length with hj | hj
 ·rw [o5 hj] at hl;rw [o5 (by rw [h.1]; exact hj)] at hv;exact h.2.2 j lv v hl hv
 rw[o6 hj] at hl;rw[o6 (by rw[h.1];exact hj),h.1] at hv;exact h'.2.2 _ lv v hl hv

theorem RdL.one{w : World}{lv : LV}{v : Value}(h1 : isOne lv = true)(h : RepA w lv v) : RdL w [lv] [v] :=
  ⟨rfl, fun x hx => by rw [oT.1 hx]; exact h1, fun j x u hx hu => by
    cases j with
    |zero=>simp at hx hu;subst hx;subst hu;exact h
    |succ j=>simp at hx⟩

section
variable {P:Program} {H:Type} {enc:TypeId×Value→H} {bk:DataW H→Nat}

structure Bulk(bk : DataW H → Nat) : Prop where
  str:∀bs,bs.length≤bk (.lit (.string bs))
  slen:∀es sp,es.length≤bk (.slice es sp)
  sel:∀es sp,∀e∈es,bk e≤bk (.slice es sp)
  agg:∀ps,∀p∈ps,bk p≤bk (.agg ps)

def Opens(P : Program)(enc : TypeId × Value → H)(bk : DataW H → Nat)(t : TypeId){α : Type}(f : α → List LV)(Ok : Nat → α → Prop) : Prop :=
  ∀(w:World) (spare:Nat→Bool) (held:Bool) (fuel:Nat) (cs:List Value) (x:DataW H×List MemPlace),DataW.trod enc P w 0 spare held fuel t cs=some x→∃a,Ok (bk x.1) a∧RdL w (f a) cs

theorem z05{k:IntKind}{n:Int}(h:(Lit.int k n).wf=true):inR k n:=by cases k<;>simp[Lit.wf,IntKind.min,IntKind.max,IntKind.signed,IntKind.bits] at h<;>simpa[inR] using h

theorem z0a{t:TypeId}{k:IntKind}(ht:P.underlying t=some (.int k)):Opens P enc bk t (cInt k) (fun _ n=>inR k n):=by intro w spare held fuel cs x h;obtain⟨n,rfl,rfl,hw⟩:=DataW.trod_int ht h;exact⟨n,z05 hw,RdL.one rfl fun B=>.int k n⟩
theorem zvb{t e : TypeId}{α : Type}[Inhabited α]{f : α → List LV}{Ok : Nat → α → Prop}{sz : Nat}(hb : Bulk bk)(hm : ∀b b' a, b ≤ b' → Ok b a → Ok b' a)(ht : P.underlying t = some (.slice e))(hc : P.cellsOf e = sz)(h1 : 1 ≤ sz)(he : Opens P enc bk e f Ok) : Opens P enc bk t (cSl false sz f) (fun b l => l.length ≤ b ∧ ∀x ∈ l, Ok b x) := by
 intro w spare held fuel cs x h;rcases open_slice ht h with⟨rfl,rfl⟩ | ⟨a,len,cap,m,n,D,Pl,rfl,hba,hl,hm',hmm,rfl,hi⟩
 ·refine ⟨[], ⟨Nat.zero_le _, fun x hx => by cases hx⟩, RdL.one rfl fun B => ?_⟩;exact RepC.emptyRo
 have hel:∀i,i<len→∃y:α,Ok (bk (.slice ((List.range len).map D) ((List.range (m - len)).map fun j=>D (len+j)))) y∧∃cs',w.cells? 0 (a.add (i * P.cellsOf e)) (P.cellsOf e)=some cs'∧RdL w (f y) cs':=by intro i hil;obtain⟨cs',hcs,htr⟩:=hi i (by rw[hmm];split<;>omega);obtain⟨y,hy,hr⟩:=he w spare held n cs' _ htr;exact⟨y,hm _ _ _ (hb.sel _ _ _ (List.mem_map.2 ⟨i,oX.2 hil,rfl⟩)) hy,cs',hcs,hr⟩
 let g:Nat→α:=fun i=>if h:i<len then Classical.choose (hel i h) else default;have hg:∀i,i<len→Ok (bk (.slice ((List.range len).map D) ((List.range (m - len)).map fun j=>D (len+j)))) (g i)∧∃cs',w.cells? 0 (a.add (i * P.cellsOf e)) (P.cellsOf e)=some cs'∧RdL w (f (g i)) cs':=fun i h=>by grind
 have hrow:∀i,i<len→rowOf f ((List.range len).map g) i=f (g i):=fun i h=>by simp[rowOf,h]
 refine⟨(List.range len).map g,⟨?_,fun x hx=>?_⟩,RdL.one rfl fun B=>?_⟩
 ·refine Nat.le_trans ?_ (hb.slen _ _);simp
 ·grind
 have hlen:((List.range len).map g).length=len:=vdj
 rw[hlen];have hcell:∀i,i<len→∃cs',RdL w (f (g i)) cs'∧cs'.length=sz∧∀j,j<sz→w.cell? (a.add (i * sz+j))=cs'[j]?:=fun i h=>by obtain⟨_,cs',hcs,hr⟩:=hg i h;rw[hc] at hcs;obtain⟨_,c2,c3⟩:=World.cells?_some hcs;exact⟨cs',hr,c2,fun j hj=>by rw[←zmj];exact c3 j hj⟩
 have hsz:∀i,i<len→(f (g i)).length=sz:=fun i h=>by obtain⟨cs',hr,c2,_⟩:=hcell i h;rw[←hr.1,c2]
 refine .ro false sz len _ (some a) a cap (fun i j=>(w.cell? (a.add (i * sz+j))).getD undef) hl (fun _=>rfl) (fun h0=>?_) (fun _ h=>h) (fun _ h=>vdf) (fun i h=>by rw[hrow i h];exact hsz i h) (fun i h=>by obtain⟨cs',hr,_⟩:=hcell i h;rw[hrow i h];exact hr.2.1) (fun i j h hj=>?_) fun i j lv h hlv=>?_
 ·obtain ⟨cs', hr, c2, c3⟩ := hcell 0 h0;have hj := c3 0 vdh;rw [ol vdh] at hj;have := block_lt_of_cell hj;rwa [zed] at this
 ·obtain ⟨cs', hr, c2, c3⟩ := hcell i h;rw [c3 j hj, ol vdh]; rfl
 obtain⟨cs',hr,c2,c3⟩:=hcell i h;rw[hrow i h] at hlv;have hj:j<sz:=by rw[←hsz i h];exact(oG.1 hlv).1
 have e1:cs'[j]?=some (cs'[j]' vdh):=ol vdh;simp only[c3 j hj,e1,Option.getD_some];exact hr.2.2 j lv _ hlv e1 B

theorem Opens.map{t:TypeId}{α β:Type}{f:α→List LV}{g:β→List LV}{Ok:Nat→α→Prop}{Ok':Nat→β→Prop}(h:Opens P enc bk t f Ok)(m:α→β)(hf:∀a,f a=g (m a))(hO:∀b a,Ok b a→Ok' b (m a)):Opens P enc bk t g Ok':=by intro w spare held fuel cs x hx;obtain⟨a,ha,hr⟩:=h w spare held fuel cs x hx;grind

theorem z4w{w:World}{spare:Nat→Bool}{held:Bool}{t:TypeId}{v:Value}{d:DataW H}{ps:List MemPlace}{α:Type}{f:α→List LV}{Ok:Nat→α→Prop}(ho:Opens P enc bk t f Ok){k:α→LV}(hk:∀a,f a=[k a])(hv:v.cells=#[v])(h:DataW.Trod enc P w 0 spare held t v d ps):∃a,Ok (bk d) a∧RepA w (k a) v:=by obtain⟨fuel,hf⟩:=h;obtain⟨a,ha,hr⟩:=ho w spare held fuel _ _ hf;refine⟨a,ha,?_⟩;rw[hv,hk] at hr;exact hr.2.2 0 _ _ rfl rfl
theorem zzm{w:World}{r:Reach}{b0:Nat}{spare:Nat→Bool}{held:Bool}{t e:TypeId}{v:Value}{d:DataW H}{ps:List MemPlace}{α:Type}[Inhabited α]{sz:Nat}{f:α→List LV}{Ok:Nat→List α→Prop}(ho:Opens P enc bk t (cSl false sz f) Ok)(ht:P.underlying t=some (.slice e))(hv:Value.okWide P w r b0 t v)(h:DataW.Trod enc P w 0 spare held t v d ps):∃l:List α,Ok (bk d) l∧RepA w (.ro false sz l.length (rowOf f l)) v:=by obtain⟨a,n,c,rfl⟩:=okWide_slice ht hv;exact z4w (k:=fun l=>.ro false sz l.length (rowOf f l)) ho (fun _=>rfl) rfl h
theorem zlr(hl : laidOutB P = true){W W' : World}{sp' : Nat → Bool} : ∀{ts : List TypeId} {vs : List Value} {ds : List (DataW H)} {ps : List MemPlace}, ts.all (fun t => P.readableRec t && decide (t < P.types.size)) = true →
    DataW.TrodAll enc P W 0 (fun _=>true) true ts vs ds ps→(∀p∈ps,W.sameAt W' p)→(∀p∈ps,sp' p.block=true)→DataW.TrodAll enc P W' 0 sp' true ts vs ds ps
  |[], vs, ds, ps, _, h, _, _ => by
    cases vs<;>cases ds<;>simp[DataW.TrodAll] at h ⊢
    exact h
  |t :: ts, vs, ds, ps, ht, h, hs, hsp => by
    obtain⟨v,vs',d,ds',p,q,rfl,rfl,rfl,h1,h2⟩:=trodAll_cons h
    simp only[List.all_cons,oc,ob] at ht
    exact ⟨p, q, WideElems.Trod_stays hl ht.1.1 ht.1.2 h1 (fun x hx => hs x (List.mem_append.2 (.inl hx))) (fun x hx => hsp x (List.mem_append.2 (.inl hx))),
      zlr hl (by simpa using ht.2) h2 (fun x hx=>hs x (List.mem_append.2 (.inr hx))) (fun x hx=>hsp x (List.mem_append.2 (.inr hx))),rfl⟩

theorem zr1{f : Func}{s : ChangeSpec}{apart fresh handsOn again : Bool}{W W' : World}{args : Array Value}{v : Value}{ds gs : List (DataW H)}{before pa pv : List MemPlace}(hW : DataW.Whole enc P f.params.toList s.vars apart W args.toList ds gs before)(hres : ∀(b : Nat) (sp : Nat → Bool) (hd : Bool), DataW.TrodAll enc P W' b sp hd f.resultTypes.toList (v.resultList f.resultTypes.size) (s.fn H (ds ++ gs)).results [])(hargs : ∀sp : Nat → Bool, (∀p ∈ before, sp p.block = true) → DataW.TrodAll enc P W' 0 sp true f.params.toList args.toList (s.fn H (ds ++ gs)).args pa)(hvars : ∀sp : Nat → Bool, (∀p ∈ before, sp p.block = true) → DataW.TrodVars enc P W' sp s.vars (s.fn H (ds ++ gs)).vars pv)(hps : before = pa ++ pv)(hb : Below W.heap.size W W')(hok : ∀(j : Nat) (t : TypeId) (r : Value), f.resultTypes[j]? = some t → (v.resultList f.resultTypes.size)[j]? = some r → Value.okWide P W' .any 0 t r) : s.post enc P f apart fresh handsOn again W args v W' := by
 have hlt:∀p∈before,p.block<W.heap.size:=fun p hp=>hW.lt p hp;have hold:∀p∈before,(fun b=>decide (b<W.heap.size)) p.block=true:=fun p hp=>by simpa using hlt p hp
 refine ⟨ds, gs, before, [], pa, pv, hW, hres _ _ _, hargs _ hold, hvars _ hold, World.keptBut_mono (fun p hp => ⟨hp, ?_⟩) (hb.frame (· ∈ before)), fun _ => ?_⟩
 ·grind
 obtain⟨_,_,_,_,_,hz,hn⟩:=hW;refine⟨hok,_,_,([]++pa)++pv,⟨[]++pa,pv,trodAll_append (hargs _ (fun _ _=>rfl)) (hres _ _ _),hvars _ (fun _ _=>rfl),rfl,?_,?_⟩,?_⟩
 ·intro b off hp;have hin : MemPlace.cell b off ∈ before := vdi
  rw[hb.frozen (hlt _ hin)];exact hz b off hin
 ·grind
 grind

theorem z2v{f : Func}{s : ChangeSpec}{W W' : World}{args : Array Value}{ds gs : List (DataW H)}{before : List MemPlace}{tb : TypeId}(hl : laidOutB P = true)(hp : f.params.toList.all (fun t => P.readableRec t && decide (t < P.types.size)) = true)(hrt : f.resultTypes = #[tb])(hb : P.underlying tb = some .bool)(hvars : s.vars = [])(hfn : s.fn H (ds ++ []) = { results := [.lit (.bool true)], args := ds })(hW : DataW.Whole enc P f.params.toList s.vars false W args.toList ds gs before)(hbe : Below W.heap.size W W') : s.post enc P f false true false false W args (.bool true) W' := by
 have hW':=hW;obtain⟨p,q,hA,hV,rfl,hfz,hnd⟩:=hW;rw[hvars] at hV;obtain⟨rfl,rfl⟩:=trodVars_none hV;have hlt:∀x∈p++[],x.block<W.heap.size:=fun x hx=>hW'.lt x hx;simp only[List.append_nil] at hW' hlt;refine zr1 (pa:=p) (pv:=[]) hW' (fun _ _ _=>?_) (fun sp hsp=>?_) (fun sp hsp=>?_) vdj hbe ?_
 ·rw [hfn, hrt];exact ⟨[], [], shut_bool hb _, trodAll_mk0, rfl⟩
 ·rw [hfn];exact zlr hl hp hA (fun x hx => hbe.same (hlt x hx)) hsp
 ·rw [hfn, hvars]; rfl
 exact ok_one hrt rfl (okWide_bool_mk hb _)
end

theorem Fn.true_of{P:Program}{f:FuncId}{args:List LV}(h:Fn P f args (.bool true) []){W:World}(hgh:GH W){vals:Array Value}(hl:vals.toList.length=args.length)(hr:∀(i:Nat) lv v,args[i]?=some lv→vals.toList[i]?=some v→RepA W lv v):Calls P f vals W fun e w'=>e=.returned (.bool true)∧Below W.heap.size W w':=by refine(h W vals.toList hgh hl hr).mono fun e w' ⟨v,he,hb,E,hv,_⟩=>?_;rw[he,hv.bool_inv];grind

theorem ztt{α:Type}{p:α→Prop}(b b':Nat)(a:α)(_:b≤b')(h:p a):p a:=h
theorem z5i{α:Type}{Ok:Nat→α→Prop}(hm:∀b b' a,b≤b'→Ok b a→Ok b' a)(b b':Nat)(l:List α)(h:b≤b')(hl:l.length≤b∧∀y∈l,Ok b y):l.length≤b'∧∀y∈l,Ok b' y:=⟨Nat.le_trans hl.1 h,fun y hy=>hm _ _ y h (hl.2 y hy)⟩
end Go.Lite
