import Derived.Test.YtkkijpibajigfaaVS50
set_option maxHeartbeats 4000000
set_option linter.unusedSimpArgs false
set_option linter.unusedVariables false
namespace Go.Proofs.Ytkkijpibajigfaa
open Go Go.Lite Go.Proofs
/-- The cursor behind a draw. -/
def cuR {α : Type} (b : List Int) (r : α × Int × Int) : l01Cur:=⟨b,r.2.1,r.2.2⟩
theorem cuI {c : l01Cur} (h : CurOk c) {l : List Int} (hl : 0 < l.length ∧ l.length ≤ 256) : CurOk (cuR c.b (l01Int c l)):=(l01Int_ok h hl).2
theorem cuI2 {c : l01Cur} {b : List Int} (h : CurOk c) {l : List Int} (hl : 0 < l.length ∧ l.length ≤ 256) (hb : c.b = b) : CurOk (cuR b (l01Int c l)):=by subst hb;exact cuI h hl
theorem cuO {c : l01Cur} (h : CurOk c) {n : Int} (hn : n ≤ 256) : CurOk (cuR c.b (l01Once c n)):=l01Once_ok h hn
theorem cuO2 {c : l01Cur} {b : List Int} (h : CurOk c) {n : Int} (hn : n ≤ 256) (hb : c.b = b) : CurOk (cuR b (l01Once c n)):=by subst hb;exact cuO h hn

def C57 (x0 : l01Cur) (R : Law × Int × Int) : LV × List (Nat × BC):=(.agg [.int .i64 R.1.degree,.int .i64 R.1.canon,.int .i64 R.1.affinity,.int .i64 R.1.age,.int .i64 R.1.wives,.int .i64 R.1.husbands,.bool R.1.patriline,.bool R.1.matriline],[(900000,.var [.ro false 1 x0.b.length (rowOf (cInt .u8) x0.b),.int .i64 R.2.1,.int .i64 R.2.2])])
def l9Law (x0 : l01Cur) : Law × Int × Int:=jn (fun K1=>K1 ((l01Int x0 [0,0,2,3,4,8,20]).1,(l01Int (cuR x0.b (l01Int x0 [0,0,2,3,4,8,20])) [0,0,1,2,4,10]).1,(l01Int (cuR x0.b (l01Int (cuR x0.b (l01Int x0 [0,0,2,3,4,8,20])) [0,0,1,2,4,10])) [0,0,1,2,4,20]).1,(l01Int (cuR x0.b (l01Int (cuR x0.b (l01Int (cuR x0.b (l01Int x0 [0,0,2,3,4,8,20])) [0,0,1,2,4,10])) [0,0,1,2,4,20])) [0,0,1,16,99]).1,(l01Int (cuR x0.b (l01Int (cuR x0.b (l01Int (cuR x0.b (l01Int (cuR x0.b (l01Int x0 [0,0,2,3,4,8,20])) [0,0,1,2,4,10])) [0,0,1,2,4,20])) [0,0,1,16,99])) [1,1,2,9]).1,(l01Int (cuR x0.b (l01Int (cuR x0.b (l01Int (cuR x0.b (l01Int (cuR x0.b (l01Int (cuR x0.b (l01Int x0 [0,0,2,3,4,8,20])) [0,0,1,2,4,10])) [0,0,1,2,4,20])) [0,0,1,16,99])) [1,1,2,9])) [1,1,2,9]).1,(l01Once (cuR x0.b (l01Int (cuR x0.b (l01Int (cuR x0.b (l01Int (cuR x0.b (l01Int (cuR x0.b (l01Int (cuR x0.b (l01Int x0 [0,0,2,3,4,8,20])) [0,0,1,2,4,10])) [0,0,1,2,4,20])) [0,0,1,16,99])) [1,1,2,9])) [1,1,2,9])) 4).1,(l01Once (cuR x0.b (l01Once (cuR x0.b (l01Int (cuR x0.b (l01Int (cuR x0.b (l01Int (cuR x0.b (l01Int (cuR x0.b (l01Int (cuR x0.b (l01Int x0 [0,0,2,3,4,8,20])) [0,0,1,2,4,10])) [0,0,1,2,4,20])) [0,0,1,16,99])) [1,1,2,9])) [1,1,2,9])) 4)) 4).1,(l01Once (cuR x0.b (l01Once (cuR x0.b (l01Int (cuR x0.b (l01Int (cuR x0.b (l01Int (cuR x0.b (l01Int (cuR x0.b (l01Int (cuR x0.b (l01Int x0 [0,0,2,3,4,8,20])) [0,0,1,2,4,10])) [0,0,1,2,4,20])) [0,0,1,16,99])) [1,1,2,9])) [1,1,2,9])) 4)) 4).2.1,(l01Once (cuR x0.b (l01Once (cuR x0.b (l01Int (cuR x0.b (l01Int (cuR x0.b (l01Int (cuR x0.b (l01Int (cuR x0.b (l01Int (cuR x0.b (l01Int x0 [0,0,2,3,4,8,20])) [0,0,1,2,4,10])) [0,0,1,2,4,20])) [0,0,1,16,99])) [1,1,2,9])) [1,1,2,9])) 4)) 4).2.2)) (fun (j1 : Int × Int × Int × Int × Int × Int × Bool × Bool × Int × Int)=>((Law.mk j1.1 j1.2.1 j1.2.2.1 j1.2.2.2.1 j1.2.2.2.2.1 j1.2.2.2.2.2.1 j1.2.2.2.2.2.2.1 j1.2.2.2.2.2.2.2.1),j1.2.2.2.2.2.2.2.2.1,j1.2.2.2.2.2.2.2.2.2))
def D57j1 (x0 : l01Cur) (j1 : Int × Int × Int × Int × Int × Int × Bool × Bool × Int × Int) : Dl:=⟨[],[(2,.var [.int .i64 j1.1,.int .i64 j1.2.1,.int .i64 j1.2.2.1,.int .i64 j1.2.2.2.1,.int .i64 j1.2.2.2.2.1,.int .i64 j1.2.2.2.2.2.1,.bool j1.2.2.2.2.2.2.1,.bool j1.2.2.2.2.2.2.2.1]),(900000,.var [.ro false 1 x0.b.length (rowOf (cInt .u8) x0.b),.int .i64 j1.2.2.2.2.2.2.2.2.1,.int .i64 j1.2.2.2.2.2.2.2.2.2])]⟩
def A57j1 (x0 : l01Cur) (j1 : Int × Int × Int × Int × Int × Int × Bool × Bool × Int × Int) : Ann:=rt [(900000,some 900000)] (C57 x0 ((Law.mk j1.1 j1.2.1 j1.2.2.1 j1.2.2.2.1 j1.2.2.2.2.1 j1.2.2.2.2.2.1 j1.2.2.2.2.2.2.1 j1.2.2.2.2.2.2.2.1),j1.2.2.2.2.2.2.2.2.1,j1.2.2.2.2.2.2.2.2.2))
def A57 (x0 : l01Cur) : Ann:=r0 1 [0,2] [2,900000] (.join 0 (Int × Int × Int × Int × Int × Int × Bool × Bool × Int × Int) (D57j1 x0) [2] [2,900000] (.reg 1 [] [(1,bsC 4 (cInt .i64) ([0,0,2,3,4,8,20] : List Int)),(2,k105 5 [900000,4] x0 [0,0,2,3,4,8,20]),(4,bsC 7 (cInt .i64) ([0,0,1,2,4,10] : List Int)),(5,k105 8 [900000,7] (cuR x0.b (l01Int x0 [0,0,2,3,4,8,20])) [0,0,1,2,4,10]),(7,bsC 10 (cInt .i64) ([0,0,1,2,4,20] : List Int)),(8,k105 11 [900000,10] (cuR x0.b (l01Int (cuR x0.b (l01Int x0 [0,0,2,3,4,8,20])) [0,0,1,2,4,10])) [0,0,1,2,4,20]),(10,bsC 13 (cInt .i64) ([0,0,1,16,99] : List Int)),(11,k105 14 [900000,13] (cuR x0.b (l01Int (cuR x0.b (l01Int (cuR x0.b (l01Int x0 [0,0,2,3,4,8,20])) [0,0,1,2,4,10])) [0,0,1,2,4,20])) [0,0,1,16,99]),(13,bsC 16 (cInt .i64) ([1,1,2,9] : List Int)),(14,k105 17 [900000,16] (cuR x0.b (l01Int (cuR x0.b (l01Int (cuR x0.b (l01Int (cuR x0.b (l01Int x0 [0,0,2,3,4,8,20])) [0,0,1,2,4,10])) [0,0,1,2,4,20])) [0,0,1,16,99])) [1,1,2,9]),(16,bsC 19 (cInt .i64) ([1,1,2,9] : List Int)),(17,k105 20 [900000,19] (cuR x0.b (l01Int (cuR x0.b (l01Int (cuR x0.b (l01Int (cuR x0.b (l01Int (cuR x0.b (l01Int x0 [0,0,2,3,4,8,20])) [0,0,1,2,4,10])) [0,0,1,2,4,20])) [0,0,1,16,99])) [1,1,2,9])) [1,1,2,9]),(19,k106 22 [900000] (cuR x0.b (l01Int (cuR x0.b (l01Int (cuR x0.b (l01Int (cuR x0.b (l01Int (cuR x0.b (l01Int (cuR x0.b (l01Int x0 [0,0,2,3,4,8,20])) [0,0,1,2,4,10])) [0,0,1,2,4,20])) [0,0,1,16,99])) [1,1,2,9])) [1,1,2,9])) 4),(21,k106 24 [900000] (cuR x0.b (l01Once (cuR x0.b (l01Int (cuR x0.b (l01Int (cuR x0.b (l01Int (cuR x0.b (l01Int (cuR x0.b (l01Int (cuR x0.b (l01Int x0 [0,0,2,3,4,8,20])) [0,0,1,2,4,10])) [0,0,1,2,4,20])) [0,0,1,16,99])) [1,1,2,9])) [1,1,2,9])) 4)) 4)] [2] [2,900000] [] [] [] [0,4,8,12,16,20,24,28,32,36,40,44,48,52] (.next 0 [] (D57j1 x0 ((l01Int x0 [0,0,2,3,4,8,20]).1,(l01Int (cuR x0.b (l01Int x0 [0,0,2,3,4,8,20])) [0,0,1,2,4,10]).1,(l01Int (cuR x0.b (l01Int (cuR x0.b (l01Int x0 [0,0,2,3,4,8,20])) [0,0,1,2,4,10])) [0,0,1,2,4,20]).1,(l01Int (cuR x0.b (l01Int (cuR x0.b (l01Int (cuR x0.b (l01Int x0 [0,0,2,3,4,8,20])) [0,0,1,2,4,10])) [0,0,1,2,4,20])) [0,0,1,16,99]).1,(l01Int (cuR x0.b (l01Int (cuR x0.b (l01Int (cuR x0.b (l01Int (cuR x0.b (l01Int x0 [0,0,2,3,4,8,20])) [0,0,1,2,4,10])) [0,0,1,2,4,20])) [0,0,1,16,99])) [1,1,2,9]).1,(l01Int (cuR x0.b (l01Int (cuR x0.b (l01Int (cuR x0.b (l01Int (cuR x0.b (l01Int (cuR x0.b (l01Int x0 [0,0,2,3,4,8,20])) [0,0,1,2,4,10])) [0,0,1,2,4,20])) [0,0,1,16,99])) [1,1,2,9])) [1,1,2,9]).1,(l01Once (cuR x0.b (l01Int (cuR x0.b (l01Int (cuR x0.b (l01Int (cuR x0.b (l01Int (cuR x0.b (l01Int (cuR x0.b (l01Int x0 [0,0,2,3,4,8,20])) [0,0,1,2,4,10])) [0,0,1,2,4,20])) [0,0,1,16,99])) [1,1,2,9])) [1,1,2,9])) 4).1,(l01Once (cuR x0.b (l01Once (cuR x0.b (l01Int (cuR x0.b (l01Int (cuR x0.b (l01Int (cuR x0.b (l01Int (cuR x0.b (l01Int (cuR x0.b (l01Int x0 [0,0,2,3,4,8,20])) [0,0,1,2,4,10])) [0,0,1,2,4,20])) [0,0,1,16,99])) [1,1,2,9])) [1,1,2,9])) 4)) 4).1,(l01Once (cuR x0.b (l01Once (cuR x0.b (l01Int (cuR x0.b (l01Int (cuR x0.b (l01Int (cuR x0.b (l01Int (cuR x0.b (l01Int (cuR x0.b (l01Int x0 [0,0,2,3,4,8,20])) [0,0,1,2,4,10])) [0,0,1,2,4,20])) [0,0,1,16,99])) [1,1,2,9])) [1,1,2,9])) 4)) 4).2.1,(l01Once (cuR x0.b (l01Once (cuR x0.b (l01Int (cuR x0.b (l01Int (cuR x0.b (l01Int (cuR x0.b (l01Int (cuR x0.b (l01Int (cuR x0.b (l01Int x0 [0,0,2,3,4,8,20])) [0,0,1,2,4,10])) [0,0,1,2,4,20])) [0,0,1,16,99])) [1,1,2,9])) [1,1,2,9])) 4)) 4).2.2)))) (A57j1 x0))
theorem l9Law_ok {c : l01Cur} (hc : CurOk c) : specIsLaw (l9Law c).1 = true := by
  unfold l9Law
  have b : ∀ {c : l01Cur},CurOk c → ∀ {l : List Int},0 < l.length ∧ l.length ≤ 256 → (l01Int c l).1 ∈ l:=fun h _ hl=>(l01Int_ok h hl).1
  have a1:=b hc (l:=[0,0,2,3,4,8,20]) (by simp)
  have h1:=cuI hc (l:=[0,0,2,3,4,8,20]) (by simp)
  have a2:=b h1 (l:=[0,0,1,2,4,10]) (by simp)
  have h2:=cuI h1 (l:=[0,0,1,2,4,10]) (by simp)
  have a3:=b h2 (l:=[0,0,1,2,4,20]) (by simp)
  have h3:=cuI h2 (l:=[0,0,1,2,4,20]) (by simp)
  have a4:=b h3 (l:=[0,0,1,16,99]) (by simp)
  have h4:=cuI h3 (l:=[0,0,1,16,99]) (by simp)
  have a5:=b h4 (l:=[1,1,2,9]) (by simp)
  have h5:=cuI h4 (l:=[1,1,2,9]) (by simp)
  have a6:=b h5 (l:=[1,1,2,9]) (by simp)
  refine jn_to (fun (j : Int × Int × Int × Int × Int × Int × Bool × Bool × Int × Int)=>(0 ≤ j.1 ∧ j.1 ≤ 20) ∧ (0 ≤ j.2.1 ∧ j.2.1 ≤ 10) ∧ (0 ≤ j.2.2.1 ∧ j.2.2.1 ≤ 20) ∧ (0 ≤ j.2.2.2.1 ∧ j.2.2.2.1 ≤ 99) ∧ (1 ≤ j.2.2.2.2.1 ∧ j.2.2.2.2.1 ≤ 9) ∧ (1 ≤ j.2.2.2.2.2.1 ∧ j.2.2.2.2.2.1 ≤ 9)) (fun (r : Law × Int × Int)=>specIsLaw r.1 = true) (fun K hK=>hK _ ⟨?_,?_,?_,?_,?_,?_⟩) (fun j hj=>?_)
  · simp only [List.mem_cons,List.not_mem_nil,or_false] at a1;dsimp only;omega
  · simp only [List.mem_cons,List.not_mem_nil,or_false] at a2;exact (by omega : ∀ z : Int,(z = 0 ∨ z = 0 ∨ z = 1 ∨ z = 2 ∨ z = 4 ∨ z = 10) → 0 ≤ z ∧ z ≤ 10) _ a2
  · simp only [List.mem_cons,List.not_mem_nil,or_false] at a3;exact (by omega : ∀ z : Int,(z = 0 ∨ z = 0 ∨ z = 1 ∨ z = 2 ∨ z = 4 ∨ z = 20) → 0 ≤ z ∧ z ≤ 20) _ a3
  · simp only [List.mem_cons,List.not_mem_nil,or_false] at a4;exact (by omega : ∀ z : Int,(z = 0 ∨ z = 0 ∨ z = 1 ∨ z = 16 ∨ z = 99) → 0 ≤ z ∧ z ≤ 99) _ a4
  · simp only [List.mem_cons,List.not_mem_nil,or_false] at a5;exact (by omega : ∀ z : Int,(z = 1 ∨ z = 1 ∨ z = 2 ∨ z = 9) → 1 ≤ z ∧ z ≤ 9) _ a5
  · simp only [List.mem_cons,List.not_mem_nil,or_false] at a6;exact (by omega : ∀ z : Int,(z = 1 ∨ z = 1 ∨ z = 2 ∨ z = 9) → 1 ≤ z ∧ z ≤ 9) _ a6
  · simp only [specIsLaw,l1In,Bool.and_eq_true,decide_eq_true_eq]
    omega

theorem ok_spec_l9Law (x0 : l01Cur) (hc : CurOk x0) : FnMT Try.prog 57 [.vp 900000 0] [.var [.ro false 1 x0.b.length (rowOf (cInt .u8) x0.b), .int .i64 x0.i, .int .i64 x0.h]] (C57 x0 (l9Law x0)) := by
  have aux : ∀ R, l9Law x0 = R → slim (C57 x0 R) (A57 x0) [] := by
    intro R hR
    refine rg trivial ?_
    revert hR;refine jN (fun v=>True) (fun F101 hR hJ101=>?_) (fun j1 hR hJ1=>?_)
    ·
      refine rg ⟨trivial,⟨by with_reducible assumption,by (simp;done)⟩,trivial,⟨by ((repeat (first | exact hc | refine cuI2 ?_ (by simp) rfl | refine cuO2 ?_ (by omega) rfl));done),by (simp;done)⟩,trivial,⟨by ((repeat (first | exact hc | refine cuI2 ?_ (by simp) rfl | refine cuO2 ?_ (by omega) rfl));done),by (simp;done)⟩,trivial,⟨by ((repeat (first | exact hc | refine cuI2 ?_ (by simp) rfl | refine cuO2 ?_ (by omega) rfl));done),by (simp;done)⟩,trivial,⟨by ((repeat (first | exact hc | refine cuI2 ?_ (by simp) rfl | refine cuO2 ?_ (by omega) rfl));done),by (simp;done)⟩,trivial,⟨by ((repeat (first | exact hc | refine cuI2 ?_ (by simp) rfl | refine cuO2 ?_ (by omega) rfl));done),by (simp;done)⟩,⟨by ((repeat (first | exact hc | refine cuI2 ?_ (by simp) rfl | refine cuO2 ?_ (by omega) rfl));done),by (intros;omega)⟩,⟨by ((repeat (first | exact hc | refine cuI2 ?_ (by simp) rfl | refine cuO2 ?_ (by omega) rfl));done),by (intros;omega)⟩,trivial⟩ ?_
      exact hJ101 ((l01Int x0 [0,0,2,3,4,8,20]).1,(l01Int (cuR x0.b (l01Int x0 [0,0,2,3,4,8,20])) [0,0,1,2,4,10]).1,(l01Int (cuR x0.b (l01Int (cuR x0.b (l01Int x0 [0,0,2,3,4,8,20])) [0,0,1,2,4,10])) [0,0,1,2,4,20]).1,(l01Int (cuR x0.b (l01Int (cuR x0.b (l01Int (cuR x0.b (l01Int x0 [0,0,2,3,4,8,20])) [0,0,1,2,4,10])) [0,0,1,2,4,20])) [0,0,1,16,99]).1,(l01Int (cuR x0.b (l01Int (cuR x0.b (l01Int (cuR x0.b (l01Int (cuR x0.b (l01Int x0 [0,0,2,3,4,8,20])) [0,0,1,2,4,10])) [0,0,1,2,4,20])) [0,0,1,16,99])) [1,1,2,9]).1,(l01Int (cuR x0.b (l01Int (cuR x0.b (l01Int (cuR x0.b (l01Int (cuR x0.b (l01Int (cuR x0.b (l01Int x0 [0,0,2,3,4,8,20])) [0,0,1,2,4,10])) [0,0,1,2,4,20])) [0,0,1,16,99])) [1,1,2,9])) [1,1,2,9]).1,(l01Once (cuR x0.b (l01Int (cuR x0.b (l01Int (cuR x0.b (l01Int (cuR x0.b (l01Int (cuR x0.b (l01Int (cuR x0.b (l01Int x0 [0,0,2,3,4,8,20])) [0,0,1,2,4,10])) [0,0,1,2,4,20])) [0,0,1,16,99])) [1,1,2,9])) [1,1,2,9])) 4).1,(l01Once (cuR x0.b (l01Once (cuR x0.b (l01Int (cuR x0.b (l01Int (cuR x0.b (l01Int (cuR x0.b (l01Int (cuR x0.b (l01Int (cuR x0.b (l01Int x0 [0,0,2,3,4,8,20])) [0,0,1,2,4,10])) [0,0,1,2,4,20])) [0,0,1,16,99])) [1,1,2,9])) [1,1,2,9])) 4)) 4).1,(l01Once (cuR x0.b (l01Once (cuR x0.b (l01Int (cuR x0.b (l01Int (cuR x0.b (l01Int (cuR x0.b (l01Int (cuR x0.b (l01Int (cuR x0.b (l01Int x0 [0,0,2,3,4,8,20])) [0,0,1,2,4,10])) [0,0,1,2,4,20])) [0,0,1,16,99])) [1,1,2,9])) [1,1,2,9])) 4)) 4).2.1,(l01Once (cuR x0.b (l01Once (cuR x0.b (l01Int (cuR x0.b (l01Int (cuR x0.b (l01Int (cuR x0.b (l01Int (cuR x0.b (l01Int (cuR x0.b (l01Int x0 [0,0,2,3,4,8,20])) [0,0,1,2,4,10])) [0,0,1,2,4,20])) [0,0,1,16,99])) [1,1,2,9])) [1,1,2,9])) 4)) 4).2.2) hR (by exact True.intro)
    ·
      exact congrArg (C57 x0) hR
  exact FnM.go 26 Try.func57 (by kernel_rfl) (by kernel_rfl) (A57 x0) (by kernel_rfl) (aux _ rfl)
def k57 (d : Nat) (ids : List Nat) (x0 : l01Cur) : Cl:=(hresM d ids (C57 x0 (l9Law x0)),k1 (ok_spec_l9Law x0))
def C16 (R : Law) : LV × List (Nat × BC):=(.agg [.int .i64 R.degree,.int .i64 R.canon,.int .i64 R.affinity,.int .i64 R.age,.int .i64 R.wives,.int .i64 R.husbands,.bool R.patriline,.bool R.matriline],[])
def makeLaw (x0 : List Int) : Law:=((l9Law (l01New x0)).1)
def A16 (x0 : List Int) : Ann:=.reg 2 [] [(1001,k58 4 [] x0),(1002,k57 5 [1004] (l01New x0))] [2] [2] [] [] [] [0,4] (rt [] (C16 ((l9Law (l01New x0)).1)))
theorem ok_spec_MakeLaw (x0 : List Int) (hx : x0.length ≤ 1048576) (hb : ∀ y ∈ x0, 0 ≤ y ∧ y ≤ 255) : FnT Try.prog 16 [.ro false 1 x0.length (rowOf (cInt .u8) x0)] (C16 (makeLaw x0)) := by
  have aux : ∀ R, makeLaw x0 = R → slim (C16 R) (A16 x0) [] := by
    intro R hR
    refine rg ⟨⟨by trivial,by trivial⟩,by (exact l01New_ok hb hx),trivial⟩ ?_
    exact congrArg C16 hR
  exact Fn.go 6 Try.func16 (by kernel_rfl) (by kernel_rfl) (by simp [C16,Frs,FrsL]) (A16 x0) (by kernel_rfl) (aux _ rfl)
def k16 (x0 : List Int) : Cl:=(hres (C16 (makeLaw x0)),k2 (ok_spec_MakeLaw x0))
/-! ### Unions joined one after the other -/
theorem makeLaw_ok {b : List Int} (hx : b.length ≤ 1048576) (hb : ∀ y ∈ b,0 ≤ y ∧ y ≤ 255) : specIsLaw (makeLaw b) = true:=l9Law_ok (l01New_ok hb hx)
theorem listed_mem (l : List Bool) (k : Nat) : ((k : Nat) : Int) ∈ l3Listed l ↔ k < l.length ∧ l.getD k default = true := by
  unfold l3Listed
  refine loopN_to (fun i (v : List Int)=>((k : Nat) : Int) ∈ v ↔ k < i ∧ l.getD k default = true) (fun r=>((k : Nat) : Int) ∈ r ↔ k < l.length ∧ l.getD k default = true) (by simp) (fun i v next hi hv hn=>?_) (fun v hv=>hv)
  refine cond_both (p:=fun r=>((k : Nat) : Int) ∈ r ↔ k < l.length ∧ l.getD k default = true) (fun c=>hn _ ?_) (fun c=>hn _ ?_)
  · rw [List.mem_append,List.mem_singleton,hv]
    constructor
    · rintro (h | h)
      · exact ⟨by omega,h.2⟩
      · have : k = i:=by omega
        subst this;exact ⟨by omega,c⟩
    · rintro ⟨h1,h2⟩
      rcases Nat.lt_or_ge k i with h | h
      · exact .inl ⟨h,h2⟩
      · right;omega
  · rw [hv]
    constructor
    · rintro ⟨h1,h2⟩;exact ⟨by omega,h2⟩
    · rintro ⟨h1,h2⟩
      rcases Nat.lt_or_ge k i with h | h
      · exact ⟨h,h2⟩
      · have : k = i:=by omega
        subst this;rw [h2] at c;cases c
theorem listed_nil {l : List Bool} (h : l3Listed l = []) {k : Nat} (hk : k < l.length) : l.getD k default = false := by
  cases c : l.getD k default
  · rfl
  · have:=(listed_mem l k).2 ⟨hk,c⟩
    rw [h] at this;cases this
/-- Three of the impediments. -/
theorem bars_get (x : Family) (l : Law) (p q y : Int) : (l9Bars x l p q y).getD 1 default = ((!decide (((x.people.getD p.toNat default).sex) = 1)) || (!decide (((x.people.getD q.toNat default).sex) = 2))) ∧
    (l9Bars x l p q y).getD 2 default = ((l9Life (x.people.getD p.toNat default) y) || (l9Life (x.people.getD q.toNat default) y)) ∧
    ((l9Bars x l p q y).getD 12 default = true ↔ ∃ k : Nat,k < x.unions.length ∧ (((l1Other (x.unions.getD k default) p).2) && (decide (((l1Other (x.unions.getD k default) p).1) = q))) = true):=by
  unfold l9Bars
  refine loopN_to (fun i (v : List Bool) => v.length = 13 ∧ v.getD 1 default = ((!decide (((x.people.getD p.toNat default).sex) = 1)) || (!decide (((x.people.getD q.toNat default).sex) = 2))) ∧
    v.getD 2 default = ((l9Life (x.people.getD p.toNat default) y) || (l9Life (x.people.getD q.toNat default) y)) ∧
    (v.getD 12 default = true ↔ ∃ k : Nat,k < i ∧ (((l1Other (x.unions.getD k default) p).2) && (decide (((l1Other (x.unions.getD k default) p).1) = q))) = true)) (fun (v : List Bool)=>v.getD 1 default = ((!decide (((x.people.getD p.toNat default).sex) = 1)) || (!decide (((x.people.getD q.toNat default).sex) = 2))) ∧
    v.getD 2 default = ((l9Life (x.people.getD p.toNat default) y) || (l9Life (x.people.getD q.toNat default) y)) ∧
    (v.getD 12 default = true ↔ ∃ k : Nat,k < x.unions.length ∧ (((l1Other (x.unions.getD k default) p).2) && (decide (((l1Other (x.unions.getD k default) p).1) = q))) = true)) ⟨by simp,rfl,rfl,?_⟩ (fun i v next hi hv hn=>hn _ ?_) (fun v hv=>hv.2)
  · constructor
    · intro h
      have : (false : Bool) = true:=h
      cases this
    · rintro ⟨k,hk,_⟩;exact absurd hk (Nat.not_lt_zero _)
  · obtain ⟨h0,h1,h2,h3⟩:=hv
    refine ⟨by rw [List.length_set];exact h0,?_,?_,?_⟩
    · rw [getD_set,if_neg (fun h=>by omega)];exact h1
    · rw [getD_set,if_neg (fun h=>by omega)];exact h2
    · rw [getD_set,if_pos ⟨rfl,by omega⟩,Bool.or_eq_true,h3]
      constructor
      · rintro (⟨k,hk,h⟩ | h)
        · exact ⟨k,by omega,h⟩
        · exact ⟨i,by omega,h⟩
      · rintro ⟨k,hk,h⟩
        rcases Nat.lt_or_ge k i with c | c
        · exact .inl ⟨k,c,h⟩
        · have : k = i:=by omega
          subst this;exact .inr h
/-! ### Partners found one after another -/
/-- Partners h and marks t among n, of which at most c are not set. -/
structure WI (n c : Nat) (h : List Int) (t : List Bool) : Prop where
  hl : h.length = n
  hin : ∀ y ∈ h,-1 ≤ y ∧ y < n
  tl : t.length = n
  tc : t.count false ≤ c
theorem WI.at {n c : Nat} {h : List Int} {t : List Bool} (w : WI n c h t) {b : Nat} (hb : b < n) : -1 ≤ h.getD b default ∧ h.getD b default < n := by
  rw [List.getD_eq_getElem?_getD,List.getElem?_eq_getElem (by have:=w.hl;omega)]
  exact w.hin _ (List.getElem_mem (by have:=w.hl;omega))
theorem count_mark {t : List Bool} {b : Nat} (hb : b < t.length) (hf : t.getD b default = false) : (t.set b true).count false + 1 = t.count false := by
  have e : t[b] = false:=by rw [List.getD_eq_getElem?_getD,List.getElem?_eq_getElem hb] at hf;exact hf
  have h1 : 0 < t.count false:=List.count_pos_iff.2 (by rw [← e];exact List.getElem_mem hb)
  rw [List.count_set hb,e]
  simp
  omega
theorem WI.mark {n c : Nat} {h : List Int} {t : List Bool} (w : WI n c h t) {b : Nat} (hb : b < n) (hf : t.getD b default = false) : WI n ((t.set b true).count false) h (t.set b true) ∧ (t.set b true).count false + 1 ≤ c := by
  have h1:=count_mark (t:=t) (by have:=w.tl;omega) hf
  have h2:=w.tc
  exact ⟨⟨w.hl,w.hin,by rw [List.length_set];exact w.tl,Nat.le_refl _⟩,by omega⟩
theorem WI.put {n c : Nat} {h : List Int} {t : List Bool} (w : WI n c h t) {a : Int} (ha : 0 ≤ a ∧ a < n) (b : Nat) : WI n c (h.set b a) t :=
  ⟨by rw [List.length_set]; exact w.hl, fun y hy => by
    rcases List.mem_or_eq_of_mem_set hy with q | q
    · exact w.hin y q
    · omega,w.tl,w.tc⟩
theorem WI.mono {n c d : Nat} {h : List Int} {t : List Bool} (w : WI n c h t) (hcd : c ≤ d) : WI n d h t:=⟨w.hl,w.hin,w.tl,Nat.le_trans w.tc hcd⟩
structure WedOk (may : List (List Int)) (hus : List Int) (a : Int) (tr : List Bool) : Prop where
  n40 : tr.length ≤ 40
  ml : may.length = tr.length
  row : ∀ y ∈ may,y.length ≤ 40 ∧ ∀ b ∈ y,0 ≤ b ∧ b < tr.length
  hl : hus.length = tr.length
  hin : ∀ y ∈ hus,-1 ≤ y ∧ y < tr.length
  ain : 0 ≤ a ∧ a < tr.length
theorem WedOk.fuel {may : List (List Int)} {hus : List Int} {a : Int} {tr : List Bool} (h : WedOk may hus a tr) : tr.count false < 100 := by
  have h1:=List.count_le_length (a:=false) (l:=tr)
  have h2:=h.n40
  omega
theorem WedOk.start {may : List (List Int)} {hus : List Int} {a : Int} {tr : List Bool} (h : WedOk may hus a tr) : WI tr.length (tr.count false) hus tr:=⟨h.hl,h.hin,rfl,Nat.le_refl _⟩
theorem WedOk.rowL {may : List (List Int)} {hus : List Int} {a : Int} {tr : List Bool} (h : WedOk may hus a tr) : (may.getD a.toNat default).length ≤ 40 := by
  have h1:=h.ml;have h2:=h.ain
  rw [List.getD_eq_getElem?_getD,List.getElem?_eq_getElem (by omega)]
  exact (h.row _ (List.getElem_mem (by omega))).1
theorem WedOk.b {may : List (List Int)} {hus : List Int} {a : Int} {tr : List Bool} (h : WedOk may hus a tr) {i : Nat} (hi : i < (may.getD a.toNat default).length) : 0 ≤ (may.getD a.toNat default).getD i default ∧ (may.getD a.toNat default).getD i default < tr.length := by
  have h1:=h.ml;have h2:=h.ain
  have e : may.getD a.toNat default = may[a.toNat]'(by omega):=by rw [List.getD_eq_getElem?_getD,List.getElem?_eq_getElem (by omega)];rfl
  rw [e] at hi ⊢
  rw [List.getD_eq_getElem?_getD,List.getElem?_eq_getElem hi]
  exact (h.row _ (List.getElem_mem (by omega))).2 _ (List.getElem_mem hi)
theorem WedOk.call {may : List (List Int)} {hus : List Int} {a : Int} {tr : List Bool} (h : WedOk may hus a tr) {h' : List Int} {t' : List Bool} (w : WI tr.length (tr.count false) h' t') {b : Nat} (hb : b < tr.length) (hn : ¬ h'.getD b default < 0) : WedOk may h' (h'.getD b default) (t'.set b true) := by
  have e : (t'.set b true).length = tr.length:=by rw [List.length_set];exact w.tl
  exact ⟨by rw [e];exact h.n40,by rw [e];exact h.ml,by rw [e];exact h.row,by rw [e];exact w.hl,by rw [e];exact w.hin,by rw [e];have:=w.at hb;omega⟩
structure AugOk (may : List (List Bool)) (a : Int) (met : List Bool) (of0 : List Int) : Prop where
  n40 : met.length ≤ 40
  ml : may.length = met.length
  row : ∀ y ∈ may,y.length = met.length
  hl : of0.length = met.length
  hin : ∀ y ∈ of0,-1 ≤ y ∧ y < met.length
  ain : 0 ≤ a ∧ a < met.length
theorem AugOk.fuel {may : List (List Bool)} {a : Int} {met : List Bool} {of0 : List Int} (h : AugOk may a met of0) : met.count false < 100 := by
  have h1:=List.count_le_length (a:=false) (l:=met)
  have h2:=h.n40
  omega
theorem AugOk.start {may : List (List Bool)} {a : Int} {met : List Bool} {of0 : List Int} (h : AugOk may a met of0) : WI met.length (met.count false) of0 met:=⟨h.hl,h.hin,rfl,Nat.le_refl _⟩
theorem AugOk.rowL {may : List (List Bool)} {a : Int} {met : List Bool} {of0 : List Int} (h : AugOk may a met of0) : (may.getD a.toNat default).length = met.length := by
  have h1:=h.ml;have h2:=h.ain
  rw [List.getD_eq_getElem?_getD,List.getElem?_eq_getElem (by omega)]
  exact h.row _ (List.getElem_mem (by omega))
theorem AugOk.call {may : List (List Bool)} {a : Int} {met : List Bool} {of0 : List Int} (h : AugOk may a met of0) {h' : List Int} {t' : List Bool} (w : WI met.length (met.count false) h' t') {b : Nat} (hb : b < met.length) (hn : ¬ h'.getD b default < 0) : AugOk may (h'.getD b default) (t'.set b true) h' := by
  have e : (t'.set b true).length = met.length:=by rw [List.length_set];exact w.tl
  exact ⟨by rw [e];exact h.n40,by rw [e];exact h.ml,by rw [e];exact h.row,by rw [e];exact w.hl,by rw [e];exact w.hin,by rw [e];have:=w.at hb;omega⟩
end Go.Proofs.Ytkkijpibajigfaa
