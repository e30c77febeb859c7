import Derived.Test.YtikfeeaapenplabVS32
set_option maxHeartbeats 4000000
set_option linter.unusedSimpArgs false
set_option linter.unusedVariables false
namespace Go.Proofs.Ytikfeeaapenplab
open Go Go.Lite Go.Proofs
theorem wed_people (c : l01Cur) (x : Family) : (l1Wed c x).1.people = x.people := by
  unfold l1Wed
  refine jn_to (fun _=>True) (fun (r:Family×Int×Int)=>r.1.people=x.people) (fun K hK=>hK _ trivial) fun j1 _=>?_
  refine loopW_to (fun v=>v.2.1=x.people) (fun v=>Int.toNat v.1) (fun (r:Family×Int×Int)=>r.1.people=x.people) (fun v next hv hn=>?_) _ _ (Nat.lt_succ_self _) rfl
  refine cond_both (p:=fun (r:Family×Int×Int)=>r.1.people=x.people) (fun c1=>?_) (fun _=>hv)
  have c1:=of_decide_eq_true c1
  refine jn_to (fun _=>True) (fun (r:Family×Int×Int)=>r.1.people=x.people) (fun K hK=>hK _ trivial) fun j2 _=>?_
  refine jn_to (fun _=>True) (fun (r:Family×Int×Int)=>r.1.people=x.people) (fun K hK=>hK _ trivial) fun j3 _=>?_
  refine cond_both (p:=fun (r:Family×Int×Int)=>r.1.people=x.people) (fun _=>hn _ hv (by dsimp only;omega)) (fun _=>?_)
  refine jn_to (fun _=>True) (fun (r:Family×Int×Int)=>r.1.people=x.people) (fun K hK=>hK _ trivial) fun j4 _=>?_
  refine cond_both (p:=fun (r:Family×Int×Int)=>r.1.people=x.people) (fun _=>?_) (fun _=>?_)
  · exact cond_both (p:=fun (r:Family×Int×Int)=>r.1.people=x.people) (fun c2=>hn _ hv (by dsimp only;omega)) (fun _=>hn _ hv (by dsimp only;omega))
  · exact cond_both (p:=fun (r:Family×Int×Int)=>r.1.people=x.people) (fun c2=>hn _ hv (by dsimp only;omega)) (fun _=>hn _ hv (by dsimp only;omega))
theorem family_len {x0 : l01Cur} (hc : CurOk x0) {x1 : Int} (hm : 0 ≤ x1 ∧ x1 ≤ 40) : ((l1Family x0 x1).1.people.length : Int) ≤ x1 := by
  unfold l1Family
  refine jn_to (fun j=>CurOk ⟨x0.b,j.2.1,j.2.2⟩) (fun (r:Family×Int×Int)=>(r.1.people.length:Int)≤x1) (fun K hK=>hK _ (l01Int_ok hc (by simp)).2) fun j1 hJ1=>?_
  refine jn_to (fun j=>CurOk ⟨x0.b,j.2.1,j.2.2⟩) (fun (r:Family×Int×Int)=>(r.1.people.length:Int)≤x1) (fun K hK=>hK _ (l01Int_ok hJ1 (by simp)).2) fun j2 hJ2=>?_
  refine jn_to (fun j=>(j.2.2.2.1.length:Int)≤x1) (fun (r:Family×Int×Int)=>(r.1.people.length:Int)≤x1) (fun K3 hK3=>?_) fun j3 hJ3=>?_
  · refine jn_to (fun j => 0 ≤ j.1 ∧ j.1 ≤ x1) (fun (r : Family × Int × Int) => (r.1.people.length : Int) ≤ x1) (fun K hK => ?_) fun j4 hJ4 => ?_
    · have h9 := l01Below_ok hJ2 (n := x1 + 1) (by omega)
      exact hK _ ⟨h9.1.1,by have:=h9.1.2.2 (by omega);dsimp only;omega⟩
    refine loopW_to (fun v=>(v.2.2.1.length:Int)+v.1≤x1∧0≤v.1) (fun v=>Int.toNat v.1) (fun (r:Family×Int×Int)=>(r.1.people.length:Int)≤x1) (fun v1 next hI1 hn=>?_) _ _ (Nat.lt_succ_self _) ⟨by simp only [List.length_nil];omega,hJ4.1⟩
    refine cond_both (p:=fun (r:Family×Int×Int)=>(r.1.people.length:Int)≤x1) (fun c1=>?_) (fun _=>hK3 _ (by dsimp only;omega))
    have c1:=of_decide_eq_true c1
    refine jn_to (fun _=>True) (fun (r:Family×Int×Int)=>(r.1.people.length:Int)≤x1) (fun K5 hK5=>?_) fun j5 hJ5=>?_
    · refine jn_to (fun _ => True) (fun (r : Family × Int × Int) => (r.1.people.length : Int) ≤ x1) (fun K hK => hK _ trivial) fun j6 hJ6 => ?_
      exact cond_both (p:=fun (r:Family×Int×Int)=>(r.1.people.length:Int)≤x1) (fun _=>hK5 _ trivial) (fun _=>hK5 _ trivial)
    refine jn_to (fun _=>True) (fun (r:Family×Int×Int)=>(r.1.people.length:Int)≤x1) (fun K7 hK7=>?_) fun j7 hJ7=>?_
    · refine jn_to (fun _ => True) (fun (r : Family × Int × Int) => (r.1.people.length : Int) ≤ x1) (fun K hK => hK _ trivial) fun j8 hJ8 => ?_
      exact cond_both (p:=fun (r:Family×Int×Int)=>(r.1.people.length:Int)≤x1) (fun _=>hK7 _ trivial) (fun _=>hK7 _ trivial)
    refine jn_to (fun _=>True) (fun (r:Family×Int×Int)=>(r.1.people.length:Int)≤x1) (fun K hK=>hK _ trivial) fun j9 hJ9=>?_
    refine loopN_to (fun _ _=>True) (fun (r:Family×Int×Int)=>(r.1.people.length:Int)≤x1) trivial (fun i2 v2 next2 hi hI2 hn2=>hn2 _ trivial) fun v2 hI2=>?_
    exact hn _ ⟨by simp only [List.length_append,List.length_singleton];omega,by dsimp only;omega⟩ (by dsimp only;omega)
  refine loopN_to (fun i v=>(v.1.length:Int)≤x1) (fun (r:Family×Int×Int)=>(r.1.people.length:Int)≤x1) hJ3 (fun i3 v3 next hi hI3 hn=>?_) fun v3 hI3=>?_
  · refine jn_to (fun _ => True) (fun (r : Family × Int × Int) => (r.1.people.length : Int) ≤ x1) (fun K hK => hK _ trivial) fun j10 hJ10 => ?_
    refine cond_both (p:=fun (r:Family×Int×Int)=>(r.1.people.length:Int)≤x1) (fun _=>?_) (fun _=>hn _ hI3)
    refine loopN_to (fun _ _=>True) (fun (r:Family×Int×Int)=>(r.1.people.length:Int)≤x1) trivial (fun i4 v4 next4 hi4 hI4 hn4=>hn4 _ trivial) fun v4 hI4=>?_
    exact hn _ (by simp only [List.length_set];exact hI3)
  · refine jn_to (fun j => (j.1.length : Int) ≤ x1) (fun (r : Family × Int × Int) => (r.1.people.length : Int) ≤ x1) (fun K hK => hK _ ?_) fun j11 hJ11 => hJ11
    dsimp only
    rw [wed_people]
    exact hI3
theorem close_len {x0 : l01Cur} (hc : CurOk x0) : (l8Close x0).1.people.length ≤ 30 := by
  unfold l8Close
  refine jn_to (fun j=>(2≤j.1∧j.1≤3)∧CurOk ⟨x0.b,j.2.1,j.2.2⟩) (fun (r:Family×Int×Int)=>r.1.people.length≤30) (fun K hK=>?_) fun j1 hJ1=>?_
  · have h9 := l01Below_ok hc (n := 2) (by omega)
    have h8:=h9.1.2.2 (by omega)
    exact hK _ ⟨by dsimp only;omega,h9.2⟩
  refine jn_to (fun j=>1≤j.1∧j.1≤10) (fun (r:Family×Int×Int)=>r.1.people.length≤30) (fun K hK=>?_) fun j2 hJ2=>?_
  · have h9 := l01Below_ok hJ1.2 (n := 10) (by omega)
    have h8:=h9.1.2.2 (by omega)
    exact hK _ (by dsimp only;omega)
  refine loopW_to (fun v=>(v.2.1.length:Int)+3 * v.1≤30∧0≤v.1) (fun v=>Int.toNat v.1) (fun (r:Family×Int×Int)=>r.1.people.length≤30) (fun v1 next hI1 hn=>?_) _ _ (Nat.lt_succ_self _) ⟨by simp only [List.length_nil];omega,by dsimp only;omega⟩
  refine cond_both (p:=fun (r:Family×Int×Int)=>r.1.people.length≤30) (fun c1=>?_) (fun _=>by dsimp only;omega)
  simp only [Bool.and_eq_true,decide_eq_true_eq] at c1
  have h4:=hJ1.1
  refine loopN_to (fun i v=>v.1.length=v1.2.1.length+i) (fun (r:Family×Int×Int)=>r.1.people.length≤30) rfl (fun i2 v2 next2 hi hI2 hn2=>?_) fun v2 hI2=>?_
  · refine jn_to (fun _ => True) (fun (r : Family × Int × Int) => r.1.people.length ≤ 30) (fun K3 hK3 => ?_) fun j3 hJ3 => ?_
    · refine jn_to (fun _ => True) (fun (r : Family × Int × Int) => r.1.people.length ≤ 30) (fun K hK => ?_) fun j4 hJ4 => ?_
      · exact cond_both (p:=fun (r:Family×Int×Int)=>r.1.people.length≤30) (fun _=>hK _ trivial) (fun _=>hK _ trivial)
      · exact cond_both (p:=fun (r:Family×Int×Int)=>r.1.people.length≤30) (fun c=>hK3 _ trivial) (fun _=>hK3 _ trivial)
    · refine jn_to (fun _ => True) (fun (r : Family × Int × Int) => r.1.people.length ≤ 30) (fun K hK => ?_) fun j5 hJ5 => ?_
      · exact cond_both (p:=fun (r:Family×Int×Int)=>r.1.people.length≤30) (fun _=>hK _ trivial) (fun _=>hK _ trivial)
      · exact cond_both (p:=fun (r:Family×Int×Int)=>r.1.people.length≤30) (fun c=>hn2 _ (by simp only [List.length_append,List.length_singleton];omega)) (fun _=>hn2 _ (by simp only [List.length_append,List.length_singleton];omega))
  · refine hn _ ⟨?_, by dsimp only; omega⟩ (by dsimp only; omega)
    dsimp only
    omega
theorem crowd_len {b : List Int} (h : b.length ≤ 1048576 ∧ ∀ y ∈ b, inR .u8 y) {m : Int} (hm : 1 ≤ m ∧ m ≤ 30) : (crowd b m).people.length ≤ 30 := by
  have hn:=l01New_ok (bytes_ok h).2 h.1
  have both : ∀ z : Family, z.people.length ≤ 30 → ∀ r : Family, (bif decide (((z.people.length : Nat) : Int) = 0) then (Family.mk [(Person.mk [97, 97] 1 (-1) (-1) 0 (-1))] z.unions) else z) = r → r.people.length ≤ 30 := fun z hz r hr => by
    subst hr
    exact cond_both (p:=fun (r:Family)=>r.people.length≤30) (fun c=>by simp) (fun c=>hz)
  unfold crowd
  refine cond_both (p:=fun (r:Family)=>r.people.length≤30) (fun _=>both (makeClose b) (close_len hn) _ rfl) (fun _=>both (makeFamily b m) ?_ _ rfl)
  have:=family_len hn (x1:=Max.max 0 (Min.min m 40)) (by omega)
  unfold makeFamily
  omega
def C21 (R:Int):LV×List (Nat×BC):=(.int .i64 R,[])
def lawGcd (x0:Int) (x1:Int):Int:=loopW (fun (v1:Int×Int) next=>bif (!decide (v1.2=0)) then (next (v1.2,v1.1.tmod v1.2)) else v1.1) ((x1).toNat+1) (x0,x1)
def D21b1 (x0:Int) (x1:Int) (v1:Int×Int):Dl:=⟨[(0,.int .i64 v1.1),(1,.int .i64 v1.2)],[]⟩
def A21b1 (x0:Int) (x1:Int) (v1:Int×Int):Ann:=r0 1 [0,1,4,7] [] (cn (!decide (v1.2=0)) (r1 2 [0,1,4,5] [] [pf ((v1.2:Int) ≠ 0)] [0] (r0 1 [0,1,4] [] (.next 0 [] (D21b1 x0 x1 (v1.2,v1.1.tmod v1.2))))) (r0 1 [4] [] (rt [] (C21 v1.1))))
def A21 (x0:Int) (x1:Int):Ann:=r0 1 [0,1,4] [] (.loop (Int×Int) (D21b1 x0 x1) [] [] [] (D21b1 x0 x1 (x0,x1)) (A21b1 x0 x1))
theorem ok_laws_gcd (x0 : Int) (x1 : Int) (h0 : 0 ≤ x0) (h1 : 0 ≤ x1) : FnT Try.prog 21 [.int .i64 x0, .int .i64 x1] (C21 (lawGcd x0 x1)) := by
  have aux : ∀ R, lawGcd x0 x1 = R → slim (C21 R) (A21 x0 x1) [] := by
    intro R hR
    refine rg trivial ?_
    revert hR;refine lW (fun v=>0≤v.1∧0≤v.2) (fun v=>(v.2).toNat) (by trivial) (Nat.lt_succ_self _) rfl fun m1 v1 F1 hI1 hM1 hR hK1=>?_
    refine rg trivial ?_
    revert hR;refine cd (fun hc1 hR=>?_) fun hc1 hR=>?_
    ·
      refine rg ⟨by (have h9:=Int.tmod_nonneg (a:=v1.1) v1.2 hI1.1;have h8:=Int.tmod_lt_of_pos v1.1 (b:=v1.2) (by simp only [decide_eq_true_eq,decide_eq_false_iff_not,Bool.not_eq_true',Bool.not_eq_false'] at *;omega);omega),trivial⟩ ?_
      refine rg trivial ?_
      exact hK1 (v1.2,v1.1.tmod v1.2) (by (have h9:=Int.tmod_nonneg (a:=v1.1) v1.2 hI1.1;have h8:=Int.tmod_lt_of_pos v1.1 (b:=v1.2) (by simp only [decide_eq_true_eq,decide_eq_false_iff_not,Bool.not_eq_true',Bool.not_eq_false'] at *;omega);omega)) (by (have h9:=Int.tmod_nonneg (a:=v1.1) v1.2 hI1.1;have h8:=Int.tmod_lt_of_pos v1.1 (b:=v1.2) (by simp only [decide_eq_true_eq,decide_eq_false_iff_not,Bool.not_eq_true',Bool.not_eq_false'] at *;omega);omega)) hR
    ·
      refine rg trivial ?_
      exact congrArg C21 hR
  exact Fn.go 14 Try.func21 (by kernel_rfl) (by kernel_rfl) (by simp [C21,Frs,FrsL]) (A21 x0 x1) (by kernel_rfl) (aux _ rfl)
def k21 (x0:Int) (x1:Int):Cl:=(hres (C21 (lawGcd x0 x1)),k2 (ok_laws_gcd x0 x1))
theorem kid_par {f : Family} {q c : Int} (hq : 0 ≤ q) (h : c ∈ l1Children f q) : q ∈ l1Parents f c := by
  obtain ⟨k,h1,rfl,h3⟩:=(l1Children_mem f q c).1 h
  unfold l1Parents
  rw [Int.toNat_natCast]
  rcases h3 with e | e <;> rw [e]
  · rw [decide_eq_true hq]
    simp only [cond_true]
    exact cond_both (p:=fun r=>q ∈ r) (fun _=>by simp) (fun _=>by simp)
  · rw [decide_eq_true hq]
    simp only [cond_true]
    exact cond_both (p:=fun r=>q ∈ r) (fun _=>by simp) (fun _=>by simp)
theorem gS_only {f : Family} (hf : specIsFamily f = true) (y : Int) (tk : List Bool) : ∀ (m : Nat),
    (∀ (q:Int) (u:Nat) (S:List Nat) (k:Nat),(0≤q∧q<f.people.length)→tk.getD q.toNat default=true→(gS f y tk m q u S).getD k 0 ≠ S.getD k 0→(l1Alive f (k:Int) y=true∧tk.getD k default=true)∧∃ n,Up f (k:Int) n q) ∧
    (∀ (l:List Int) (u:Nat) (S:List Nat) (k:Nat),(∀ c ∈ l,(0≤c∧c<f.people.length)∧tk.getD c.toNat default=true)→(dS f y tk m l u S).getD k 0 ≠ S.getD k 0→(l1Alive f (k:Int) y=true∧tk.getD k default=true)∧∃ c ∈ l,∃ n,Up f (k:Int) n c):=by
  intro m
  induction m with
  | zero=>exact ⟨fun _ _ _ _ _ _ h=>absurd rfl h,fun _ _ _ _ _ h=>absurd rfl h⟩
  | succ m ih =>
    refine ⟨fun q u S k hq hk h=>?_,fun l u S k hl h=>?_⟩
    · rw [gS] at h
      cases ha:l1Alive f q y with
      | true =>
        rw [ha,cond_true,getD_set] at h
        by_cases e:k=q.toNat∧q.toNat<S.length
        · have e1 : (k : Int) = q := by omega
          rw [e1]
          exact ⟨⟨ha,by rw [e.1];exact hk⟩,0,.zero⟩
        · rw [if_neg e] at h;exact absurd rfl h
      | false =>
        rw [ha,cond_false] at h
        obtain ⟨h1,c,hc,n,h2⟩:=ih.2 (kidsT f tk q) u S k (fun c hc=>by have:=kidsT_mem hf hq.1 hc;exact ⟨⟨by omega,this.1.2⟩,this.2.1⟩) h
        exact ⟨h1,n+1,.step h2 (kid_par hq.1 (kidsT_mem hf hq.1 hc).2.2)⟩
    · rw [dS] at h
      have key : ∀ (L : List Int) (v : Nat), (∀ c ∈ L, c ∈ l) → ∀ S : List Nat, (L.foldl (fun S c => gS f y tk m c v S) S).getD k 0 ≠ S.getD k 0 → (l1Alive f (k : Int) y = true ∧ tk.getD k default = true) ∧ ∃ c ∈ l, ∃ n, Up f (k : Int) n c := fun L v => by
        induction L with
        | nil=>intro _ S h;exact absurd rfl h
        | cons c L ih2 =>
          intro hL S h
          rw [List.foldl_cons] at h
          by_cases e:(gS f y tk m c v S).getD k 0=S.getD k 0
          · exact ih2 (fun d hd=>hL d (by simp [hd])) _ (by rw [e];exact h)
          · have hc := hL c (by simp)
            have:=ih.1 c v S k (hl c hc).1 (hl c hc).2 e
            exact ⟨this.1,c,hc,this.2⟩
      exact key l _ (fun _ h=>h) S h
def shOf (D:Nat) (S:List Nat) (n:Nat):List Share:=((List.range n).filter fun k=>decide (0<S.getD k 0)).map fun (k:Nat)=>Share.mk (k:Int) ((S.getD k 0 / Nat.gcd (S.getD k 0) D:Nat):Int) ((D / Nat.gcd (S.getD k 0) D:Nat):Int)
theorem red_pos {a D : Nat} (hD : 0 < D) : 0 < a / Nat.gcd a D ↔ 0 < a := by
  have hg:0<Nat.gcd a D:=Nat.gcd_pos_of_pos_right _ hD
  constructor
  · intro h
    rcases Nat.eq_zero_or_pos a with e | e
    · subst e;simp at h
    · exact e
  · intro h;exact Nat.div_pos (Nat.le_of_dvd h (Nat.gcd_dvd_left _ _)) hg
theorem out_val {D : Nat} {S : List Nat} {nu de : List Int} (h : RepS D S nu de) : loopN (fun i5 (v5 : (List Share)) next => bif (decide (0 < (nu.getD i5 default))) then (next (v5 ++ [(Share.mk ((i5 : Nat) : Int) (nu.getD i5 default) (de.getD i5 default))])) else (next v5)) (fun (v5 : (List Share)) => v5) (nu.length) 0 ([] : List Share) = shOf D S S.length := by
  rw [h.ln]
  refine loopN_to (fun i (v:List Share)=>v=shOf D S i) (fun r=>r=shOf D S S.length) rfl (fun i v next hi hv hn=>?_) (fun v hv=>hv)
  have e1:=h.nm i hi
  have e2:=h.dn i hi
  have e3 : decide (0 < nu.getD i default) = decide (0 < S.getD i 0) := by
    rw [decide_eq_decide,e1,← red_pos (a:=S.getD i 0) h.pos];omega
  have e4 : shOf D S (i + 1) = shOf D S i ++ (bif decide (0 < S.getD i 0) then [Share.mk (i : Int) ((S.getD i 0 / Nat.gcd (S.getD i 0) D : Nat) : Int) ((D / Nat.gcd (S.getD i 0) D : Nat) : Int)] else []) := by
    unfold shOf
    rw [List.range_succ,filter_snoc,List.map_append]
    congr 1
    cases decide (0<S.getD i 0) <;> rfl
  rw [e3]
  refine cond_both (p:=fun r=>r=shOf D S S.length) (fun c=>hn _ ?_) (fun c=>hn _ ?_)
  · rw [e4,c,hv,e1,e2];rfl
  · rw [e4,c,hv];simp
def unit (D:Nat) (s:Share):Nat:=s.num.toNat * (D / s.den.toNat)
theorem sum_filter (f : Nat → Nat) : ∀ l : List Nat, ((l.filter fun k => decide (0 < f k)).map f).sum = (l.map f).sum
  | []=>rfl
  | a :: l => by
    have ih:=sum_filter f l
    by_cases h:0<f a
    · rw [List.filter_cons_of_pos (by simpa using h),List.map_cons,List.map_cons,List.sum_cons,List.sum_cons,ih]
    · rw [List.filter_cons_of_neg (by simpa using h),List.map_cons,List.sum_cons,ih];omega
theorem map_range (S : List Nat) : (List.range S.length).map (fun k => S.getD k 0) = S := by
  refine List.ext_getElem (by simp) fun k h1 h2=>?_
  rw [List.getElem_map,List.getElem_range,List.getD_eq_getElem?_getD,List.getElem?_eq_getElem h2];rfl
theorem unit_red {a D : Nat} (hD : 0 < D) : a / Nat.gcd a D * (D / (D / Nat.gcd a D)) = a := by
  have hg:Nat.gcd a D ∣ D:=Nat.gcd_dvd_right _ _
  rw [Nat.div_div_self hg (by omega),Nat.div_mul_cancel (Nat.gcd_dvd_left _ _)]
theorem shOf_sum {D : Nat} (hD : 0 < D) (S : List Nat) : ((shOf D S S.length).map (unit D)).sum = S.sum := by
  unfold shOf
  rw [List.map_map]
  have e : (unit D ∘ fun (k : Nat) => Share.mk (k : Int) ((S.getD k 0 / Nat.gcd (S.getD k 0) D : Nat) : Int) ((D / Nat.gcd (S.getD k 0) D : Nat) : Int)) = fun k => S.getD k 0 := by
    funext k
    simp only [Function.comp,unit,Int.toNat_natCast]
    exact unit_red hD
  rw [e,sum_filter,map_range]
structure Shr (f : Family) (p y : Int) (r : List Share) (D : Nat) : Prop where
  pos:0<D
  inc:r.Pairwise fun a b=>a.person<b.person
  at':∀ s ∈ r,(0≤s.person∧s.person<f.people.length∧s.person ≠ p∧l1Alive f s.person y=true)∧∃ a b:Nat,s.num=(a:Int)∧s.den=(b:Int)∧1≤a∧a≤b∧b ∣ D∧Nat.gcd a b=1
  sum:r ≠ []→(r.map (unit D)).sum=D
theorem shOf_shr {f : Family} {p y : Int} {tk : List Bool} (hk : TkEq f p y tk) (hp : 0 ≤ p ∧ p < f.people.length) {D : Nat} (hD : 0 < D) {S : List Nat} (hS : S.length = f.people.length) (hs : S.sum = D) (ha : ∀ k : Nat, S.getD k 0 ≠ 0 → l1Alive f (k : Int) y = true ∧ tk.getD k default = true) : Shr f p y (shOf D S S.length) D := by
  refine ⟨hD,?_,fun s h=>?_,fun _=>by rw [shOf_sum hD,hs]⟩
  · unfold shOf
    rw [List.pairwise_map]
    refine (List.pairwise_lt_range.filter _).imp fun {a b} h=>?_
    show (a:Int)<(b:Int)
    omega
  · unfold shOf at h
    obtain ⟨k,h1,rfl⟩:=List.mem_map.1 h
    have h2:=List.mem_filter.1 h1
    have h3:=List.mem_range.1 h2.1
    have h4:0<S.getD k 0:=of_decide_eq_true h2.2
    have h5:=ha k (by omega)
    have h6:S.getD k 0≤D:=by rw [← hs];exact getD_le_sum S k
    have hg:0<Nat.gcd (S.getD k 0) D:=Nat.gcd_pos_of_pos_right _ hD
    refine ⟨⟨by show 0≤(k:Int);omega,by show (k:Int)<_;omega,fun e=>?_,h5.1⟩,_,_,rfl,rfl,(red_pos hD).2 h4,Nat.div_le_div_right h6,⟨Nat.gcd (S.getD k 0) D,(Nat.div_mul_cancel (Nat.gcd_dvd_right _ _)).symm⟩,?_⟩
    · have e : (k : Int) = p := e
      have:=hk.self hp
      rw [← e,Int.toNat_natCast,h5.2] at this;cases this
    · have := Nat.coprime_div_gcd_div_gcd hg
      exact this
theorem shares_shr {f : Family} (hf : specIsFamily f = true) {p : Int} (hp : 0 ≤ p ∧ p < f.people.length) (y : Int) : ∃ tk, TkEq f p y tk ∧ ((implShares f p y = [] ∧ kidsT f tk p = []) ∨
    ∃ D,(D ^ 3≤3 ^ pairs f∧Shr f p y (implShares f p y) D)∧implShares f p y ≠ []∧(kidsT f tk p ≠ []→∀ s ∈ implShares f p y,∃ n,0<n∧Up f s.person n p)):=by
  have hn:=(fam_n hf).1
  unfold implShares
  rw [(implHas1 f p).2 ⟨hf,hp⟩,Bool.not_true,cond_false]
  generalize hQ:(fun (r:List Share)=>∃ tk,TkEq f p y tk∧((r=[]∧kidsT f tk p=[]) ∨ ∃ D,(D ^ 3≤3 ^ pairs f∧Shr f p y r D)∧r ≠ []∧(kidsT f tk p ≠ []→∀ s ∈ r,∃ n,0<n∧Up f s.person n p)))=Q
  show (fun (r:List Share)=>∃ tk,TkEq f p y tk∧((r=[]∧kidsT f tk p=[]) ∨ ∃ D,(D ^ 3≤3 ^ pairs f∧Shr f p y r D)∧r ≠ []∧(kidsT f tk p ≠ []→∀ s ∈ r,∃ n,0<n∧Up f s.person n p))) _
  rw [hQ]
  refine loopN_to (fun i (d:List Int)=>d.length=f.people.length∧∀ k:Nat,k<i→d.getD k default=1) Q ⟨by simp,fun k hk=>absurd hk (Nat.not_lt_zero _)⟩ (fun i d next hi hv hn=>hn _ (ones_step hv hi)) fun d hd=>?_
  refine jn_to (fun (j:(List Bool)×(List Int)×(List Int))=>ShJ f p y j.1 j.2.1 j.2.2) Q (fun K hK=>hK _ (ShJ.start hf p y hd rfl)) fun j1 hJ1=>?_
  refine jn_to (fun (j:(List Int)×(List Bool)×(List Int)×(List Int))=>ShJ f p y j.2.1 j.2.2.1 j.2.2.2∧j.1=kidsT f j.2.1 p) Q (fun K hK=>hK _ (ShJ.kids hf hJ1)) fun j2 hJ2=>?_
  refine loopW_to (fun (v:(List Int)×(List Int)×(List Bool)×(List Int)×(List Int))=>ShI f p y v.1 v.2.1 v.2.2.1 v.2.2.2.1 v.2.2.2.2∧(kidsT f v.2.2.1 p ≠ []→v.1=kidsT f v.2.2.1 p)) (fun v=>gmu v.2.1) Q (fun v next hv hnx=>?_) _ _ (Nat.lt_succ_self _) ⟨ShI.start hf hp hJ2.1 hJ2.2,fun _=>hJ2.2⟩
  obtain ⟨hI,hk⟩:=hv
  refine cond_both (p:=Q) (fun c=>?_) (fun c=>?_)
  · have hw := who_nil c
    refine loopN_to (fun i (l:List Int)=>NextI f v.2.1 i l) Q (NextI.nil _ _) (fun i l next3 hi hl hn3=>?_) fun l hl=>?_
    · refine loopN_to (fun _ (_ : Unit) => True) Q trivial (fun j u next4 hj _ hn4 => ?_) fun _ _ => hn3 _ hl.skip
      exact cond_both (p:=Q) (fun c4=>hn3 _ (hl.snoc hj c4)) (fun _=>hn4 _ trivial)
    · refine hnx _ ⟨ShI.next hf hI hw hl, fun h => ?_⟩ (NextI.dec hf (ShI.gr hI) (gen_pos c) hl)
      exfalso
      dsimp only at h
      rw [taking_val] at h
      have:=hk h
      rw [hw] at this
      exact h this.symm
  · refine cond_both (p := Q) (fun c2 => ?_) (fun c2 => ?_)
    · have hpos := who_pos c2
      have hdiv:=ShI.div hf hI hpos
      obtain ⟨h1,h2⟩:=hI
      have hD:0<whole f y v.2.2.1 v.1.length:=Nat.mul_pos hpos (pr_pos h1.1.ok _ _)
      obtain ⟨h3,e1,e2⟩:=h1
      have hmu:lmu f.people.length v.1≤81:=lmu_le.2 fun c hc=>by have:=(h2.wr c hc).1;omega
      have hb:∀ c ∈ v.1,Bdg f y v.2.2.1 (whole f y v.2.2.1 v.1.length) (1 * v.1.length) c:=fun c hc=>who_bdg hf (Nat.le_trans h2.sum (pairs_le hf)) (by have:=h2.wlen;omega) (h2.wr c hc)
      have hR0:=RepS.start hD f.people.length
      rw [← e1,← e2] at hR0
      have hrep:=((give_sem 100).2 (estate.mk f p y v.2.2.1 v.2.2.2.1 v.2.2.2.2) v.1 1 (whole f y v.2.2.1 v.1.length) (List.replicate f.people.length 0) hf (fun c hc=>(h2.wr c hc).1) (Nat.lt_of_le_of_lt hmu (by decide)) Nat.one_pos (by simp) hR0 (fun c hc r hr=>(hb c hc r hr).1)).2
      rw [Nat.div_one] at hrep
      have hsum:=(gS_sum hf h3.ok 100).2 v.1 (whole f y v.2.2.1 v.1.length) (List.replicate f.people.length 0) (by simp) (List.length_pos_iff.1 hpos) h2.wr (Nat.lt_of_le_of_lt hmu (by decide)) (fun c hc r hr=>by have:=(hb c hc r hr).1;rwa [Nat.one_mul] at this)
      rw [sum_rep,Nat.zero_add] at hsum
      have hlen:=(gS_len f y v.2.2.1 100).2 v.1 (whole f y v.2.2.1 v.1.length) (List.replicate f.people.length 0)
      rw [List.length_replicate] at hlen
      have honly:=fun (k:Nat) (h:(dS f y v.2.2.1 100 v.1 (whole f y v.2.2.1 v.1.length) (List.replicate f.people.length 0)).getD k 0 ≠ 0)=>(gS_only hf y v.2.2.1 100).2 v.1 (whole f y v.2.2.1 v.1.length) (List.replicate f.people.length 0) k h2.wr (by rw [getD_rep];split <;> exact h)
      show Q (loopN _ _ _ 0 _)
      have hval:=out_val hrep
      unfold divide
      refine (congrArg Q hval).mpr ?_
      have hshr:=shOf_shr h3 hp hD hlen hsum fun k hk=>(honly k hk).1
      rw [← hQ]
      refine ⟨v.2.2.1,h3,.inr ⟨whole f y v.2.2.1 v.1.length,⟨?_,hshr⟩,fun e=>?_,fun h s hs=>?_⟩⟩
      · exact Nat.le_trans (whole_cube hf (by have:=h2.wlen;omega)) (Nat.pow_le_pow_right (by omega) h2.sum)
      · have h9 := shOf_sum hD (dS f y v.2.2.1 100 v.1 (whole f y v.2.2.1 v.1.length) (List.replicate f.people.length 0))
        rw [e,hsum] at h9
        simp at h9;omega
      · unfold shOf at hs
        obtain ⟨k,g1,rfl⟩:=List.mem_map.1 hs
        have g2:0<(dS f y v.2.2.1 100 v.1 (whole f y v.2.2.1 v.1.length) (List.replicate f.people.length 0)).getD k 0:=of_decide_eq_true (List.mem_filter.1 g1).2
        obtain ⟨_,c,hc,n,hu⟩:=honly k (by omega)
        rw [hk h] at hc
        exact ⟨n+1,Nat.succ_pos _,.step hu (kid_par hp.1 (kidsT_mem hf hp.1 hc).2.2)⟩
    · have hw : v.1 = [] := List.eq_nil_of_length_eq_zero (by have := of_decide_eq_false c2; omega)
      obtain ⟨⟨h3,e1,e2⟩,h2⟩:=hI
      have hval:=out_val (RepS.start (D:=1) Nat.one_pos f.people.length)
      rw [← e1,← e2] at hval
      refine (congrArg Q hval).mpr ?_
      have e : shOf 1 (List.replicate f.people.length 0) (List.replicate f.people.length 0).length = [] := by
        unfold shOf
        rw [List.map_eq_nil_iff,List.filter_eq_nil_iff]
        intro k _
        rw [getD_rep];split <;> simp
      rw [e,← hQ]
      refine ⟨v.2.2.1,h3,.inl ⟨rfl,?_⟩⟩
      rcases Classical.em (kidsT f v.2.2.1 p=[]) with h | h
      · exact h
      · have:=hk h;rw [hw] at this;exact absurd this.symm h
theorem lawGcd_val (a b : Nat) : lawGcd (a : Int) (b : Int) = ((Nat.gcd a b : Nat) : Int) := by
  unfold lawGcd
  refine loopW_to (fun (v:Int×Int)=>∃ c d:Nat,v=((c:Int),(d:Int))∧Nat.gcd c d=Nat.gcd a b) (fun v=>v.2.toNat) (fun (r:Int)=>r=((Nat.gcd a b:Nat):Int)) (fun v next hv hn=>?_) _ _ (Nat.lt_succ_self _) ⟨a,b,rfl,rfl⟩
  obtain ⟨c,d,rfl,hg⟩:=hv
  refine cond_both (p:=fun (r:Int)=>r=((Nat.gcd a b:Nat):Int)) (fun hc=>?_) (fun hc=>?_)
  · have hc : ¬ (d : Int) = 0 := by simpa using hc
    have hd:0<d:=by omega
    have e:(c:Int).tmod (d:Int)=((c % d:Nat):Int):=by rw [Int.tmod_eq_emod_of_nonneg (by omega)];rfl
    refine hn _ ⟨d,c % d,by rw [e],?_⟩ ?_
    · rw [← hg,Nat.gcd_comm c d,Nat.gcd_rec d c,Nat.gcd_comm]
    · rw [e]
      have:=Nat.mod_lt c hd
      show ((c % d:Nat):Int).toNat<(d:Int).toNat
      omega
  · have hc : (d : Int) = 0 := by simpa using hc
    have hd:d=0:=by omega
    subst hd
    rw [Nat.gcd_zero_right] at hg
    show (c:Int)=_
    rw [hg]
theorem up_desc {f : Family} (hf : specIsFamily f = true) {p : Int} (hp : 0 ≤ p ∧ p < f.people.length) {q : Int} (hq : 0 ≤ q ∧ q < f.people.length) {n : Nat} (h0 : 0 < n) (h : Up f q n p) : q ∈ specDescendants f p := by
  unfold specDescendants
  rw [(l1Has_iff f p).2 ⟨hp,hf⟩,Bool.not_true,cond_false,fLoop_mem (f:=fun i=>((i:Nat):Int))]
  have h3:=l8Up_dist f q (isFamily_par f hf) hq
  have h4:=h.rng (isFamily_par f hf) hq
  refine ⟨q.toNat,by omega,?_,by omega⟩
  rw [show ((q.toNat:Nat):Int)=q by omega]
  refine decide_eq_true ?_
  have e:((p.toNat:Nat):Int)=p:=by omega
  rcases Int.lt_or_le ((l8Up f q).getD p.toNat default) 0 with c | c
  · exact absurd (by rw [e];exact h) ((h3.no p.toNat (by omega) c).2 n)
  · rcases Int.lt_or_eq_of_le c with c2 | c2
    · exact c2
    · have h5 := (h3.yes p.toNat (by omega) c).1
      rw [← c2,e] at h5
      cases h5
      omega
theorem line_kids {f : Family} (hf : specIsFamily f = true) {p y : Int} (hp : 0 ≤ p ∧ p < f.people.length) {tk : List Bool} (hk : TkEq f p y tk) {q : Int} (hq : q ∈ specDescendants f p) (ha : l1Alive f q y = true) : kidsT f tk p ≠ [] := by
  obtain ⟨hq1,n,hn,hu⟩:=desc_up hf hp hq
  have hb : (f.people.getD q.toNat default).born ≤ y := by
    simp only [l1Alive,Bool.and_eq_true,decide_eq_true_eq] at ha;omega
  have key : ∀ (n : Nat) (a : Int), Up f q n a → p < a → tk.getD a.toNat default = true := fun n a hu => by
    induction hu with
    | zero =>
      intro hpa
      rw [hk.eq q.toNat (by omega),show ((q.toNat:Nat):Int)=q by omega,decide_eq_false (by omega),decide_eq_false (by omega),ha];rfl
    | @step n b a h hpar ih =>
      intro hpa
      have h1:=h.rng (isFamily_par f hf) hq1
      have h2:=par_kid ⟨h1.1,h1.2.1⟩ hpar
      have h3:=parent_lt (isFamily_par f hf) ⟨h1.1,h1.2.1⟩ hpar
      have h4:=up_born hf hq1 (.step h hpar)
      have h5:=ih (by omega)
      have h6:((l1Children f a).any fun c=>tk.getD c.toNat default)=true:=List.any_eq_true.2 ⟨b,h2.1,h5⟩
      rw [hk.eq a.toNat (by omega),show ((a.toNat:Nat):Int)=a by omega,decide_eq_false (by omega),decide_eq_false (by omega),h6,Bool.or_true];rfl
  cases hu with
  | zero=>exact absurd hn (Nat.lt_irrefl _)
  | @step n b _ h hpar =>
    have h1:=h.rng (isFamily_par f hf) hq1
    have h2:=par_kid ⟨h1.1,h1.2.1⟩ hpar
    have h3:=parent_lt (isFamily_par f hf) ⟨h1.1,h1.2.1⟩ hpar
    intro e
    have:b ∈ kidsT f tk p:=List.mem_filter.2 ⟨h2.1,key _ b h (by omega)⟩
    rw [e] at this;cases this
def ShA (f:Family) (p y:Int) (i:Nat) (num den:Int):Prop:=∃ D n d:Nat,(D ^ 3≤3 ^ pairs f∧Shr f p y (implShares f p y) D)∧(num=(n:Int)∧den=(d:Int)∧0<d∧d ∣ D)∧n * (D / d)=(((implShares f p y).take i).map (unit D)).sum
theorem ShA.start {f : Family} (hf : specIsFamily f = true) {p : Int} (hp : 0 ≤ p ∧ p < f.people.length) (y : Int) : ShA f p y 0 0 1 := by
  obtain ⟨tk,h1,⟨h2,_⟩ | ⟨D,h2,_⟩⟩:=shares_shr hf hp y
  · exact ⟨1,0,1,⟨by simpa using Nat.one_le_pow _ 3 (by omega),by rw [h2];exact ⟨Nat.one_pos,.nil,fun s hs=>absurd hs List.not_mem_nil,fun h=>absurd rfl h⟩⟩,⟨rfl,rfl,Nat.one_pos,Nat.one_dvd _⟩,by simp⟩
  · exact ⟨D,0,1,h2,⟨rfl,rfl,Nat.one_pos,Nat.one_dvd _⟩,by simp⟩
theorem take_le : ∀ (l : List Nat) (i : Nat), (l.take i).sum ≤ l.sum
  | [],i=>by simp
  | a :: l,0=>by simp
  | a :: l,i+1=>by have:=take_le l i;simp only [List.take_succ_cons,List.sum_cons];omega
theorem add_frac {D n d a b : Nat} (hD : 0 < D) (hd : d ∣ D) (hb : b ∣ D) (h0 : 0 < d) (h1 : 0 < b) :
    ((d / Nat.gcd d b) * b ∣ D∧0<(d / Nat.gcd d b) * b)∧(n * (b / Nat.gcd d b)+a * (d / Nat.gcd d b)) * (D / ((d / Nat.gcd d b) * b))=n * (D / d)+a * (D / b):=by
  have hg:0<Nat.gcd d b:=Nat.gcd_pos_of_pos_left _ h0
  have e1:(d / Nat.gcd d b) * b=d * b / Nat.gcd d b:=Nat.div_mul_right_comm (Nat.gcd_dvd_left d b) b
  have e2:d * (b / Nat.gcd d b)=d * b / Nat.gcd d b:=(Nat.mul_div_assoc d (Nat.gcd_dvd_right d b)).symm
  have hl : (d / Nat.gcd d b) * b ∣ D := by
    rw [e1];exact Nat.lcm_dvd hd hb
  have hp:0<(d / Nat.gcd d b) * b:=Nat.mul_pos (Nat.div_pos (Nat.le_of_dvd h0 (Nat.gcd_dvd_left _ _)) hg) h1
  have e3:(d / Nat.gcd d b) * b=d * (b / Nat.gcd d b):=e1.trans e2.symm
  refine ⟨⟨hl,hp⟩,?_⟩
  obtain ⟨e,rfl⟩:=hl
  rw [Nat.mul_div_cancel_left _ hp]
  have h2:(d / Nat.gcd d b) * b * e / d=(b / Nat.gcd d b) * e:=by rw [e3,Nat.mul_assoc,Nat.mul_div_cancel_left _ h0]
  have h3:(d / Nat.gcd d b) * b * e / b=(d / Nat.gcd d b) * e:=by rw [Nat.mul_comm (d / Nat.gcd d b) b,Nat.mul_assoc,Nat.mul_div_cancel_left _ h1]
  rw [h2,h3,Nat.add_mul,Nat.mul_assoc,Nat.mul_assoc]
theorem cube_small {D k : Nat} (h : D ^ 3 ≤ 3 ^ k) (hk : k ≤ 57) : D ≤ 1099511627776 := by
  have h1:D ^ 3≤3 ^ 57:=Nat.le_trans h (Nat.pow_le_pow_right (by omega) hk)
  have h2:3 ^ 57<1099511627777 ^ 3:=by decide +kernel
  exact Nat.le_of_lt_succ (Nat.lt_of_not_le fun c=>absurd (Nat.lt_of_le_of_lt h1 h2) (Nat.not_lt.2 (Nat.pow_le_pow_left c 3)))
theorem ShA.go {f : Family} (hf : specIsFamily f = true) (h30 : f.people.length ≤ 30) {p y : Int} {i : Nat} {num den : Int} (h : ShA f p y i num den) (hi : i < (implShares f p y).length) :
    (∃ a b g:Nat,((implShares f p y).getD i default).num=(a:Int)∧((implShares f p y).getD i default).den=(b:Int)∧lawGcd den ((implShares f p y).getD i default).den=(g:Int)∧lawGcd ((implShares f p y).getD i default).num ((implShares f p y).getD i default).den=1∧(1≤a∧a≤b∧b≤1099511627776)∧0<g) ∧
    (0≤num∧0<den∧den≤1099511627776) ∧
    (0 ≤ num * (((implShares f p y).getD i default).den.tdiv (lawGcd den ((implShares f p y).getD i default).den)) ∧ 0 ≤ ((implShares f p y).getD i default).num * (den.tdiv (lawGcd den ((implShares f p y).getD i default).den)) ∧
      num * (((implShares f p y).getD i default).den.tdiv (lawGcd den ((implShares f p y).getD i default).den))+((implShares f p y).getD i default).num * (den.tdiv (lawGcd den ((implShares f p y).getD i default).den))≤(den.tdiv (lawGcd den ((implShares f p y).getD i default).den)) * ((implShares f p y).getD i default).den ∧
      (den.tdiv (lawGcd den ((implShares f p y).getD i default).den)) * ((implShares f p y).getD i default).den≤1099511627776∧0≤den.tdiv (lawGcd den ((implShares f p y).getD i default).den)∧0≤((implShares f p y).getD i default).den.tdiv (lawGcd den ((implShares f p y).getD i default).den)∧den.tdiv (lawGcd den ((implShares f p y).getD i default).den)≤den∧((implShares f p y).getD i default).den.tdiv (lawGcd den ((implShares f p y).getD i default).den)≤1099511627776) ∧
    ShA f p y (i+1) (num * (((implShares f p y).getD i default).den.tdiv (lawGcd den ((implShares f p y).getD i default).den))+((implShares f p y).getD i default).num * (den.tdiv (lawGcd den ((implShares f p y).getD i default).den))) ((den.tdiv (lawGcd den ((implShares f p y).getD i default).den)) * ((implShares f p y).getD i default).den):=by
  obtain ⟨D,n,d,⟨hc,hs⟩,⟨rfl,rfl,h0,hd⟩,hsum⟩:=h
  have hD:=cube_small hc (pairs_le30 hf h30)
  have hm:=getD_mem (d:=(default:Share)) hi
  obtain ⟨_,a,b,ha,hb,h1,h2,h3,h4⟩:=hs.at' _ hm
  have hb1:0<b:=by omega
  have hbD:=Nat.le_of_dvd hs.pos h3
  have hdD:=Nat.le_of_dvd hs.pos hd
  obtain ⟨⟨k1,k2⟩,k3⟩:=add_frac (n:=n) (a:=a) hs.pos hd h3 h0 hb1
  have hu : ((((implShares f p y).take (i + 1)).map (unit D)).sum) = (((implShares f p y).take i).map (unit D)).sum + a * (D / b) := by
    rw [take_snoc _ default hi,List.map_append,List.sum_append,List.map_cons,List.map_nil,List.sum_cons,List.sum_nil,Nat.add_zero]
    unfold unit
    rw [ha,hb];rfl
  have htot : ((((implShares f p y).take (i + 1)).map (unit D)).sum) ≤ D := by
    have:=take_le ((implShares f p y).map (unit D)) (i+1)
    rw [← List.map_take,hs.sum (fun e=>by rw [e] at hi;exact absurd hi (Nat.not_lt_zero _))] at this
    exact this
  rw [ha,hb,lawGcd_val,lawGcd_val,h4,← Int.ofNat_tdiv,← Int.ofNat_tdiv]
  rw [hu,← hsum,← k3] at htot
  have hle : n * (b / Nat.gcd d b) + a * (d / Nat.gcd d b) ≤ (d / Nat.gcd d b) * b := by
    refine Nat.le_of_mul_le_mul_right (Nat.le_trans htot (Nat.le_of_eq (Nat.mul_div_cancel' k1).symm)) (Nat.div_pos (Nat.le_of_dvd hs.pos k1) k2)
  have hL:(d / Nat.gcd d b) * b≤D:=Nat.le_of_dvd hs.pos k1
  have hg:0<Nat.gcd d b:=Nat.gcd_pos_of_pos_left _ h0
  have j1:=Nat.div_le_self d (Nat.gcd d b)
  have j2:=Nat.div_le_self b (Nat.gcd d b)
  refine ⟨⟨a,b,Nat.gcd d b,rfl,rfl,rfl,rfl,⟨h1,h2,by omega⟩,hg⟩,⟨by omega,by omega,by omega⟩,?_,D,n * (b / Nat.gcd d b)+a * (d / Nat.gcd d b),(d / Nat.gcd d b) * b,⟨hc,hs⟩,⟨by rw [Int.natCast_add,Int.natCast_mul,Int.natCast_mul],by rw [Int.natCast_mul],k2,k1⟩,by rw [hu,← hsum,k3]⟩
  revert hle hL j1 j2
  generalize d / Nat.gcd d b=A
  generalize b / Nat.gcd d b=B
  intro hle hL j1 j2
  rw [← Int.natCast_mul,← Int.natCast_mul,← Int.natCast_mul]
  generalize n * B=s1 at *
  generalize a * A=s2 at *
  generalize A * b=s3 at *
  omega
theorem ShA.last {f : Family} {p y : Int} {num den : Int} (h : ShA f p y (implShares f p y).length num den) (hne : implShares f p y ≠ []) : num = den := by
  obtain ⟨D,n,d,⟨hc,hs⟩,⟨rfl,rfl,h0,hd⟩,hsum⟩:=h
  rw [List.take_length,hs.sum hne] at hsum
  have h1:d * (D / d)=D:=Nat.mul_div_cancel' hd
  have h2:0<D / d:=Nat.div_pos (Nat.le_of_dvd hs.pos hd) h0
  have:=Nat.eq_of_mul_eq_mul_right h2 (hsum.trans h1.symm)
  rw [this]
theorem nodup_le2 : ∀ {l m : List Int}, l.Nodup → (∀ x ∈ l, x ∈ m) → l.length ≤ m.length
  | [],_,_,_=>Nat.zero_le _
  | a :: l, m, h, hs => by
    have h1:=List.nodup_cons.1 h
    have ha:=hs a (by simp)
    have:=nodup_le2 (m:=m.erase a) h1.2 fun x hx=>(List.mem_erase_of_ne (fun e=>h1.1 (by rw [← e];exact hx))).2 (hs x (by simp [hx]))
    rw [List.length_erase_of_mem ha] at this
    have:=List.length_pos_of_mem ha
    simp only [List.length_cons];omega
theorem shares_len {f : Family} (hf : specIsFamily f = true) {p : Int} (hp : 0 ≤ p ∧ p < f.people.length) (y : Int) : (implShares f p y).length ≤ f.people.length := by
  obtain ⟨tk,h1,⟨h2,_⟩ | ⟨D,⟨_,h2⟩,_⟩⟩:=shares_shr hf hp y
  · rw [h2];exact Nat.zero_le _
  · have hd : ((implShares f p y).map (·.person)).Nodup := by
      rw [List.Nodup,List.pairwise_map]
      exact h2.inc.imp fun {a b} h e=>by have e:a.person=b.person:=e;omega
    have := nodup_le2 (m := (List.range f.people.length).map fun (c : Nat) => (c : Int)) hd fun x hx => by
      obtain ⟨s,hs,rfl⟩:=List.mem_map.1 hx
      have:=(h2.at' s hs).1
      exact List.mem_map.2 ⟨s.person.toNat,List.mem_range.2 (by omega),by omega⟩
    simpa using this
theorem inc_at {r : List Share} (h : r.Pairwise fun a b => a.person < b.person) {i j : Nat} (hij : i < j) (hj : j < r.length) : (r.getD i default).person < (r.getD j default).person := by
  have:=(List.pairwise_iff_getElem.1 h) i j (by omega) hj hij
  rw [List.getD_eq_getElem?_getD,List.getElem?_eq_getElem (by omega),List.getD_eq_getElem?_getD,List.getElem?_eq_getElem hj]
  exact this
theorem shared_ok {f : Family} (hf : specIsFamily f = true) (h30 : f.people.length ≤ 30) {p : Int} (hp : 0 ≤ p ∧ p < f.people.length) (y : Int) {line : Bool} (hl : line = true → ∃ q ∈ specDescendants f p, l1Alive f q y = true) :
    loopN (fun i2 (v2:Int×Int×Int) next=>bif (((((decide ((((implShares f p y).getD i2 default).person)≤v2.2.2)) || (decide ((((f.people).length:Nat):Int)≤(((implShares f p y).getD i2 default).person)))) || (decide ((((implShares f p y).getD i2 default).person)=p))) || (!(specAlive f (((implShares f p y).getD i2 default).person) y))) || (line && (!(lawHas (specDescendants f p) (((implShares f p y).getD i2 default).person))))) then false else (bif ((((decide ((((implShares f p y).getD i2 default).num)<1)) || (decide ((((implShares f p y).getD i2 default).den)<(((implShares f p y).getD i2 default).num)))) || (decide (1099511627776<(((implShares f p y).getD i2 default).den)))) || (!decide ((lawGcd (((implShares f p y).getD i2 default).num) (((implShares f p y).getD i2 default).den))=1))) then false else (bif (decide (1099511627776<v2.2.1)) then true else (next ((v2.1 * ((((implShares f p y).getD i2 default).den).tdiv (lawGcd v2.2.1 (((implShares f p y).getD i2 default).den))))+((((implShares f p y).getD i2 default).num) * (v2.2.1.tdiv (lawGcd v2.2.1 (((implShares f p y).getD i2 default).den)))),(v2.2.1.tdiv (lawGcd v2.2.1 (((implShares f p y).getD i2 default).den))) * (((implShares f p y).getD i2 default).den),((implShares f p y).getD i2 default).person))))) (fun (v2:Int×Int×Int)=>((decide ((((implShares f p y).length:Nat):Int)=0)) && (!line)) || ((decide (0<(((implShares f p y).length:Nat):Int))) && (decide (v2.1=v2.2.1)))) ((implShares f p y).length) 0 (0,1,(-1))=true:=by
  refine loopN_to (fun i (v:Int×Int×Int)=>ShA f p y i v.1 v.2.1∧(i=0∧v.2.2=-1 ∨ 0<i∧v.2.2=((implShares f p y).getD (i - 1) default).person)) (fun (r:Bool)=>r=true) ⟨ShA.start hf hp y,.inl ⟨rfl,rfl⟩⟩ (fun i v next hi hv hn=>?_) (fun v hv=>?_)
  · obtain ⟨hA, hlast⟩ := hv
    obtain ⟨tk,h1,⟨h2,_⟩ | ⟨D,⟨_,h2⟩,h3,h4⟩⟩:=shares_shr hf hp y
    · rw [h2] at hi;exact absurd hi (Nat.not_lt_zero _)
    · have hm := getD_mem (d := (default : Share)) hi
      have h5:=(h2.at' _ hm).1
      obtain ⟨⟨a,b,g,e1,e2,e3,e4,e5,e6⟩,k1,k2,k3⟩:=ShA.go hf h30 hA hi
      have hinc : ¬ ((implShares f p y).getD i default).person ≤ v.2.2 := by
        rcases hlast with ⟨_,h⟩ | ⟨h0,h⟩
        · rw [h];omega
        · rw [h];have:=inc_at h2.inc (i:=i - 1) (j:=i) (by omega) hi;omega
      have hline : (line && (!(lawHas (specDescendants f p) (((implShares f p y).getD i default).person)))) = false := by
        cases hl1:line with
        | false=>rfl
        | true =>
          obtain ⟨q,hq,ha⟩:=hl hl1
          obtain ⟨n,hn0,hu⟩:=h4 (line_kids hf hp h1 hq ha) _ hm
          rw [(lawHas_iff _ _).2 (up_desc hf hp ⟨h5.1,h5.2.1⟩ hn0 hu)];rfl
      rw [hline,decide_eq_false hinc,decide_eq_false (show ¬ ((f.people.length:Nat):Int)≤((implShares f p y).getD i default).person by omega),decide_eq_false h5.2.2.1,specAlive_val hf ⟨h5.1,h5.2.1⟩,h5.2.2.2]
      simp only [Bool.not_true,Bool.or_false,cond_false]
      rw [decide_eq_false (show ¬ ((implShares f p y).getD i default).num<1 by omega),decide_eq_false (show ¬ ((implShares f p y).getD i default).den<((implShares f p y).getD i default).num by omega),decide_eq_false (show ¬ 1099511627776<((implShares f p y).getD i default).den by omega),decide_eq_true e4,decide_eq_false (show ¬ 1099511627776<v.2.1 by omega)]
      simp only [Bool.not_true,Bool.or_false,cond_false]
      exact hn _ ⟨k3,.inr ⟨Nat.succ_pos _,rfl⟩⟩
  · obtain ⟨hA, _⟩ := hv
    by_cases e:implShares f p y=[]
    · have hl2 : line = false := by
        cases hl1:line with
        | false=>rfl
        | true =>
          obtain ⟨q,hq,ha⟩:=hl hl1
          obtain ⟨tk,h1,⟨_,h2⟩ | ⟨D,_,h3,_⟩⟩:=shares_shr hf hp y
          · exact absurd h2 (line_kids hf hp h1 hq ha)
          · exact absurd e h3
      rw [e,hl2];rfl
    · have := hA.last e
      have h0:=List.length_pos_iff.2 e
      rw [decide_eq_true (show 0<(((implShares f p y).length:Nat):Int) by omega),decide_eq_true this];simp
end Go.Proofs.Ytikfeeaapenplab
