import Derived.Test.YtaageiiodlfeiaaV81
set_option maxHeartbeats 4000000
set_option linter.unusedSimpArgs false
set_option linter.unusedVariables false
namespace Go.Proofs.Ytaageiiodlfeiaa
open Go Go.Lite Go.Proofs
theorem classPartners_eq (x : Family) (c : Classes) (g : List Int) (p : Int) : implClassPartners x c g p = specClassPartners x c g p := by
  unfold implClassPartners specClassPartners
  rw [given_eq,has1_l1,Bool.or_comm]
theorem specClassPartners_len (x : Family) (c : Classes) (g : List Int) (p : Int) : (specClassPartners x c g p).length ≤ x.people.length := by
  unfold specClassPartners
  refine cond_both (p:=fun (r : List Int)=>r.length ≤ x.people.length) (fun _=>by simp) (fun _=>?_)
  exact loopN_to (fun i (v : List Int)=>v.length ≤ i) (fun (r : List Int)=>r.length ≤ x.people.length) (by simp) (fun i v next hi hv hn=>cond_both (p:=fun (r : List Int)=>r.length ≤ x.people.length) (fun _=>hn _ (by simp;omega)) (fun _=>hn _ (by omega))) (fun v hv=>hv)
def C174 (R : Family) : LV × List (Nat × BC):=(.agg [.own 0,.own 1],[(0,.arr 6 R.people.length (rowOf (cPerson true) R.people)),(1,.arr 4 R.unions.length (rowOf (cUnion true) R.unions))])
def l1Copy (x0 : Family) : Family:=x0
def A174 (x0 : Family) : Ann:=.reg 5 [] [(2004,apN 9 (cPerson true) 56 x0.people),(3004,apN 15 (cUnion true) 32 x0.unions)] [2] [2,9,15] [] [] [] [0,4] (rt [(0,some 9),(1,some 15)] (C174 x0))
theorem ok_spec_l1Copy (x0 : Family) (hx : x0.people.length ≤ 1048576) (hu : x0.unions.length ≤ 1048576) : FnT Try.prog 174 [.agg (cFamily false x0)] (C174 (l1Copy x0)) := by
  have aux : ∀ R, l1Copy x0 = R → slim (C174 R) (A174 x0) [] := by
    intro R hR
    refine rg ⟨by omega,by omega,trivial⟩ ?_
    exact congrArg C174 hR
  exact Fn.go 18 Try.func174 (by kernel_rfl) (by kernel_rfl) (by simp [C174,Frs,FrsL,FrsB,rowOf,cInt,cBool,cStr,cSl,FrsL_app,cPerson,cUnion,cFamily,cClasses]) (A174 x0) (by kernel_rfl) (aux _ rfl)
def k174 (x0 : Family) : Cl:=(hres (C174 (l1Copy x0)),k2 (ok_spec_l1Copy x0))
structure l01Cur where
  b : List Int
  i : Int
  h : Int
  deriving Inhabited
def cl01Cur (fr : Bool) (x : l01Cur) : List LV:=cSl fr 1 (cInt .u8) x.b ++ cInt .i64 x.i ++ cInt .i64 x.h

/-- A cursor over a draw. -/
structure CurOk (c : l01Cur) : Prop where
  byte : ∀ y ∈ c.b,0 ≤ y ∧ y ≤ 255
  len : c.b.length ≤ 1048576
  pos : 0 ≤ c.i ∧ c.i ≤ c.b.length
  num : inR .i64 c.h
theorem CurOk.mk' {c : l01Cur} (h : CurOk c) {i x : Int} (hi : 0 ≤ i ∧ i ≤ c.b.length) (hx : inR .i64 x) : CurOk ⟨c.b,i,x⟩:=⟨h.byte,h.len,hi,hx⟩
def C79 (x0 : List Int) (R : l01Cur) : LV × List (Nat × BC):=(.vp 0 0,[(0,.var [.ro false 1 R.b.length (rowOf (cInt .u8) R.b),.int .i64 R.i,.int .i64 R.h])])
def l01New (x0 : List Int) : l01Cur:=loopW (fun (v1 : Int × Int) next=>bif ((decide (v1.2 < ((x0.length : Nat) : Int))) && (decide (v1.2 < 4000))) then (next (bits .and .i64 (((v1.1 * 1103) + (x0.getD v1.2.toNat default)) + 7) 1073741823,v1.2 + 1)) else (l01Cur.mk x0 0 v1.1)) ((4000 - Int.toNat (0)) + 1) (3221 + ((x0.length : Nat) : Int),0)
def D79b1 (x0 : List Int) (v1 : Int × Int) : Dl:=⟨[(3,.int .i64 v1.1),(4,.int .i64 v1.2)],[]⟩
def A79b1 (x0 : List Int) (v1 : Int × Int) : Ann:=.reg 1 [] [] [0,2,3,4,15] [] [decide (v1.2 < ((x0.length : Nat) : Int))] [] [] [1,1] (cn ((decide (v1.2 < ((x0.length : Nat) : Int))) && (decide (v1.2 < 4000))) (r1 1 [0,2,3,4] [] [pf (inR .i64 (v1.1 * 1103)),pf (0 ≤ (v1.2 : Int) ∧ (v1.2 : Int) < ((x0.length : Nat) : Int)),pf (inR .i64 (x0.getD v1.2.toNat default)),pf (inR .i64 ((v1.1 * 1103) + (x0.getD v1.2.toNat default))),pf (inR .i64 (((v1.1 * 1103) + (x0.getD v1.2.toNat default)) + 7))] [0,4,8,12,16] (r1 1 [0,2,3,4] [] [pf (inR .i64 (v1.2 + 1))] [0] (.next 0 [] (D79b1 x0 (bits .and .i64 (((v1.1 * 1103) + (x0.getD v1.2.toNat default)) + 7) 1073741823,v1.2 + 1))))) (r0 1 [2] [31] (rt [(0,some 31)] (C79 x0 (l01Cur.mk x0 0 v1.1)))))
def A79 (x0 : List Int) : Ann:=r1 2 [0,2,3] [] [pf (inR .i64 (3221 + ((x0.length : Nat) : Int)))] [0] (r0 1 [0,2,3,4] [] (.loop (Int × Int) (D79b1 x0) [] [] [] (D79b1 x0 (3221 + ((x0.length : Nat) : Int),0)) (A79b1 x0)))
theorem ok_spec_l01New (x0 : List Int) (hx : x0.length ≤ 1048576) (hb : ∀ y ∈ x0, 0 ≤ y ∧ y ≤ 255) : FnMT Try.prog 79 [.ro false 1 x0.length (rowOf (cInt .u8) x0)] [] (C79 x0 (l01New x0)) := by
  have aux : ∀ R, l01New x0 = R → slim (C79 x0 R) (A79 x0) [] := by
    intro R hR
    refine rg ⟨by ( intros;simp only [inR];omega),trivial⟩ ?_
    refine rg trivial ?_
    revert hR;refine lW (fun v=>(0 ≤ v.2 ∧ v.2 ≤ x0.length ∧ v.2 ≤ 4000) ∧ 0 ≤ v.1 ∧ v.1 ≤ 1073741823) (fun v=>(4000 - Int.toNat (v.2))) (by (intros;omega)) (Nat.lt_succ_self _) rfl fun m1 v1 F1 hI1 hM1 hR hK1=>?_
    refine rg trivial ?_
    revert hR;refine cd (fun hc1 hR=>?_) fun hc1 hR=>?_
    ·
      refine rg ⟨by ( intros;simp only [inR];omega),by (have h9:=and_small (((v1.1 * 1103) + (x0.getD v1.2.toNat default)) + 7) 1073741823 1073741823 rfl (by omega);simp only [Bool.and_eq_true,decide_eq_true_eq] at *;omega),by (have h9:=getD_byte hb v1.2.toNat;(try simp only [inR]);omega),by (have h9:=getD_byte hb v1.2.toNat;(try simp only [inR]);omega),by (have h9:=getD_byte hb v1.2.toNat;(try simp only [inR]);omega),trivial⟩ ?_
      refine rg ⟨by ( intros;simp only [inR];omega),trivial⟩ ?_
      exact hK1 (bits .and .i64 (((v1.1 * 1103) + (x0.getD v1.2.toNat default)) + 7) 1073741823,v1.2 + 1) (by (have h9:=and_small (((v1.1 * 1103) + (x0.getD v1.2.toNat default)) + 7) 1073741823 1073741823 rfl (by omega);simp only [Bool.and_eq_true,decide_eq_true_eq] at *;omega)) (by (have h9:=and_small (((v1.1 * 1103) + (x0.getD v1.2.toNat default)) + 7) 1073741823 1073741823 rfl (by omega);simp only [Bool.and_eq_true,decide_eq_true_eq] at *;omega)) hR
    ·
      refine rg trivial ?_
      exact congrArg (C79 x0) hR
  exact FnM.go 32 Try.func79 (by kernel_rfl) (by kernel_rfl) (A79 x0) (by kernel_rfl) (aux _ rfl)
def k79 (d : Nat) (ids : List Nat) (x0 : List Int) : Cl:=(hresM d ids (C79 x0 (l01New x0)),k2 (ok_spec_l01New x0))
def C172 (x0 : l01Cur) (R : Int × Int × Int) : LV × List (Nat × BC):=(.int .i64 R.1,[(900000,.var [.ro false 1 x0.b.length (rowOf (cInt .u8) x0.b),.int .i64 R.2.1,.int .i64 R.2.2])])
def l01Byte (x0 : l01Cur) : Int × Int × Int:=bif (decide (x0.i < ((x0.b.length : Nat) : Int))) then (bits .and .i64 ((bits .and .i64 (bits .xor .i64 ((IntKind.wrap .i64 ((IntKind.wrap .i64 (x0.h * 6364136223846793005)) + 1442695040888963407)) / 2 ^ 33) ((IntKind.wrap .i64 ((IntKind.wrap .i64 (x0.h * 6364136223846793005)) + 1442695040888963407)) / 2 ^ 45)) 255) + (IntKind.wrap .i64 (x0.b.getD x0.i.toNat default))) 255,x0.i + 1,IntKind.wrap .i64 ((IntKind.wrap .i64 (x0.h * 6364136223846793005)) + 1442695040888963407)) else (bits .and .i64 (bits .xor .i64 ((IntKind.wrap .i64 ((IntKind.wrap .i64 (x0.h * 6364136223846793005)) + 1442695040888963407)) / 2 ^ 33) ((IntKind.wrap .i64 ((IntKind.wrap .i64 (x0.h * 6364136223846793005)) + 1442695040888963407)) / 2 ^ 45)) 255,x0.i,IntKind.wrap .i64 ((IntKind.wrap .i64 (x0.h * 6364136223846793005)) + 1442695040888963407))
def A172 (x0 : l01Cur) : Ann:=.reg 3 [(1005,.wrap),(1006,.wrap)] [] [0,2,3] [900000] [] [pf (0 ≤ (33 : Int) ∧ 33 ≤ (IntKind.bits .i64 : Int)),pf (0 ≤ (45 : Int) ∧ 45 ≤ (IntKind.bits .i64 : Int))] [] [0,4] (r0 1 [0,2,3,34] [900000] (cn (decide (x0.i < ((x0.b.length : Nat) : Int))) (.reg 1 [(11,.wrap)] [] [0,2,3] [900000] [] [pf (0 ≤ (x0.i : Int) ∧ (x0.i : Int) < ((x0.b.length : Nat) : Int)),pf (inR .i64 ((bits .and .i64 (bits .xor .i64 ((IntKind.wrap .i64 ((IntKind.wrap .i64 (x0.h * 6364136223846793005)) + 1442695040888963407)) / 2 ^ 33) ((IntKind.wrap .i64 ((IntKind.wrap .i64 (x0.h * 6364136223846793005)) + 1442695040888963407)) / 2 ^ 45)) 255) + (IntKind.wrap .i64 (x0.b.getD x0.i.toNat default))))] [] [0,4] (r1 1 [2,3] [900000] [pf (inR .i64 (x0.i + 1))] [0] (r0 1 [2] [900000] (rt [(900000,some 900000)] (C172 x0 (bits .and .i64 ((bits .and .i64 (bits .xor .i64 ((IntKind.wrap .i64 ((IntKind.wrap .i64 (x0.h * 6364136223846793005)) + 1442695040888963407)) / 2 ^ 33) ((IntKind.wrap .i64 ((IntKind.wrap .i64 (x0.h * 6364136223846793005)) + 1442695040888963407)) / 2 ^ 45)) 255) + (IntKind.wrap .i64 (x0.b.getD x0.i.toNat default))) 255,x0.i + 1,IntKind.wrap .i64 ((IntKind.wrap .i64 (x0.h * 6364136223846793005)) + 1442695040888963407))))))) (r0 1 [2] [900000] (rt [(900000,some 900000)] (C172 x0 (bits .and .i64 (bits .xor .i64 ((IntKind.wrap .i64 ((IntKind.wrap .i64 (x0.h * 6364136223846793005)) + 1442695040888963407)) / 2 ^ 33) ((IntKind.wrap .i64 ((IntKind.wrap .i64 (x0.h * 6364136223846793005)) + 1442695040888963407)) / 2 ^ 45)) 255,x0.i,IntKind.wrap .i64 ((IntKind.wrap .i64 (x0.h * 6364136223846793005)) + 1442695040888963407)))))))
theorem ok_spec_l01Byte (x0 : l01Cur) (hc : CurOk x0) : FnMT Try.prog 172 [.vp 900000 0] [.var [.ro false 1 x0.b.length (rowOf (cInt .u8) x0.b), .int .i64 x0.i, .int .i64 x0.h]] (C172 x0 (l01Byte x0)) := by
  have aux : ∀ R, l01Byte x0 = R → slim (C172 x0 R) (A172 x0) [] := by
    intro R hR
    refine rg ⟨by trivial,by trivial,trivial⟩ ?_
    refine rg trivial ?_
    revert hR;refine cd (fun hc1 hR=>?_) fun hc1 hR=>?_
    ·
      refine rg ⟨by (have h9:=hc.pos;have h8:=hc.len;(try simp only [inR,decide_eq_true_eq] at *);omega),by (have h9:=and_small (bits .xor .i64 ((IntKind.wrap .i64 ((IntKind.wrap .i64 (x0.h * 6364136223846793005)) + 1442695040888963407)) / 2 ^ 33) ((IntKind.wrap .i64 ((IntKind.wrap .i64 (x0.h * 6364136223846793005)) + 1442695040888963407)) / 2 ^ 45)) 255 255 rfl (by omega);have h8:=getD_byte hc.byte x0.i.toNat;have h7:=wrap_small (n:=x0.b.getD x0.i.toNat default) (by omega);simp only [inR];omega),trivial⟩ ?_
      refine rg ⟨by (have h9:=hc.pos;have h8:=hc.len;(try simp only [inR,decide_eq_true_eq] at *);omega),trivial⟩ ?_
      refine rg trivial ?_
      exact congrArg (C172 x0) hR
    ·
      refine rg trivial ?_
      exact congrArg (C172 x0) hR
  exact FnM.go 58 Try.func172 (by kernel_rfl) (by kernel_rfl) (A172 x0) (by kernel_rfl) (aux _ rfl)
def k172 (d : Nat) (ids : List Nat) (x0 : l01Cur) : Cl:=(hresM d ids (C172 x0 (l01Byte x0)),k1 (ok_spec_l01Byte x0))
theorem byte_bd (x : Int) : 0 ≤ bits .and .i64 x 255 ∧ bits .and .i64 x 255 ≤ 255:=and_small x 255 255 rfl (by omega)
theorem l01Byte_ok {c : l01Cur} (h : CurOk c) : (0 ≤ (l01Byte c).1 ∧ (l01Byte c).1 ≤ 255) ∧ CurOk ⟨c.b, (l01Byte c).2.1, (l01Byte c).2.2⟩ := by
  unfold l01Byte
  refine cond_both (p:=fun (r : Int × Int × Int)=>(0 ≤ r.1 ∧ r.1 ≤ 255) ∧ CurOk ⟨c.b,r.2.1,r.2.2⟩) (fun c1=>⟨byte_bd _,h.mk' ?_ (wrap_inR _)⟩) (fun _=>⟨byte_bd _,h.mk' h.pos (wrap_inR _)⟩)
  have:=h.pos;have:=of_decide_eq_true c1
  simp only;omega
def C127 (x0 : l01Cur) (x1 : Int) (R : Int × Int × Int) : LV × List (Nat × BC):=(.int .i64 R.1,[(900000,.var [.ro false 1 x0.b.length (rowOf (cInt .u8) x0.b),.int .i64 R.2.1,.int .i64 R.2.2])])
def l01Below (x0 : l01Cur) (x1 : Int) : Int × Int × Int:=bif (decide (x1 ≤ 0)) then (0,x0.i,x0.h) else (bif (decide (x1 ≤ 256)) then (((l01Byte x0).1).tmod x1,(l01Byte x0).2.1,(l01Byte x0).2.2) else (((((((l01Byte x0).1) * 16777216) + (((l01Byte (l01Cur.mk x0.b ((l01Byte x0).2.1) ((l01Byte x0).2.2))).1) * 65536)) + (((l01Byte (l01Cur.mk x0.b ((l01Byte (l01Cur.mk x0.b ((l01Byte x0).2.1) ((l01Byte x0).2.2))).2.1) ((l01Byte (l01Cur.mk x0.b ((l01Byte x0).2.1) ((l01Byte x0).2.2))).2.2))).1) * 256)) + ((l01Byte (l01Cur.mk x0.b ((l01Byte (l01Cur.mk x0.b ((l01Byte (l01Cur.mk x0.b ((l01Byte x0).2.1) ((l01Byte x0).2.2))).2.1) ((l01Byte (l01Cur.mk x0.b ((l01Byte x0).2.1) ((l01Byte x0).2.2))).2.2))).2.1) ((l01Byte (l01Cur.mk x0.b ((l01Byte (l01Cur.mk x0.b ((l01Byte x0).2.1) ((l01Byte x0).2.2))).2.1) ((l01Byte (l01Cur.mk x0.b ((l01Byte x0).2.1) ((l01Byte x0).2.2))).2.2))).2.2))).1)).tmod x1,(l01Byte (l01Cur.mk x0.b ((l01Byte (l01Cur.mk x0.b ((l01Byte (l01Cur.mk x0.b ((l01Byte x0).2.1) ((l01Byte x0).2.2))).2.1) ((l01Byte (l01Cur.mk x0.b ((l01Byte x0).2.1) ((l01Byte x0).2.2))).2.2))).2.1) ((l01Byte (l01Cur.mk x0.b ((l01Byte (l01Cur.mk x0.b ((l01Byte x0).2.1) ((l01Byte x0).2.2))).2.1) ((l01Byte (l01Cur.mk x0.b ((l01Byte x0).2.1) ((l01Byte x0).2.2))).2.2))).2.2))).2.1,(l01Byte (l01Cur.mk x0.b ((l01Byte (l01Cur.mk x0.b ((l01Byte (l01Cur.mk x0.b ((l01Byte x0).2.1) ((l01Byte x0).2.2))).2.1) ((l01Byte (l01Cur.mk x0.b ((l01Byte x0).2.1) ((l01Byte x0).2.2))).2.2))).2.1) ((l01Byte (l01Cur.mk x0.b ((l01Byte (l01Cur.mk x0.b ((l01Byte x0).2.1) ((l01Byte x0).2.2))).2.1) ((l01Byte (l01Cur.mk x0.b ((l01Byte x0).2.1) ((l01Byte x0).2.2))).2.2))).2.2))).2.2))
def A127 (x0 : l01Cur) (x1 : Int) : Ann:=r0 1 [0,1,4] [900000] (r0 1 [0,1,4,10] [900000] (cn (decide (x1 ≤ 0)) (r0 1 [0,1,4] [900000] (rt [(900000,some 900000)] (C127 x0 x1 (0,x0.i,x0.h)))) (r0 1 [0,1,4,12] [900000] (cn (decide (x1 ≤ 256)) (.reg 1 [] [(1,k172 14 [900000] x0)] [0,1,4] [900000] [] [pf ((x1 : Int) ≠ 0)] [] [4,0] (rt [(900000,some 900000)] (C127 x0 x1 (((l01Byte x0).1).tmod x1,(l01Byte x0).2.1,(l01Byte x0).2.2)))) (.reg 5 [] [(1,k172 18 [900000] x0),(1001,k172 20 [900000] (l01Cur.mk x0.b ((l01Byte x0).2.1) ((l01Byte x0).2.2))),(2001,k172 22 [900000] (l01Cur.mk x0.b ((l01Byte (l01Cur.mk x0.b ((l01Byte x0).2.1) ((l01Byte x0).2.2))).2.1) ((l01Byte (l01Cur.mk x0.b ((l01Byte x0).2.1) ((l01Byte x0).2.2))).2.2))),(3001,k172 24 [900000] (l01Cur.mk x0.b ((l01Byte (l01Cur.mk x0.b ((l01Byte (l01Cur.mk x0.b ((l01Byte x0).2.1) ((l01Byte x0).2.2))).2.1) ((l01Byte (l01Cur.mk x0.b ((l01Byte x0).2.1) ((l01Byte x0).2.2))).2.2))).2.1) ((l01Byte (l01Cur.mk x0.b ((l01Byte (l01Cur.mk x0.b ((l01Byte x0).2.1) ((l01Byte x0).2.2))).2.1) ((l01Byte (l01Cur.mk x0.b ((l01Byte x0).2.1) ((l01Byte x0).2.2))).2.2))).2.2)))] [4] [900000] [] [pf (inR .i64 (((l01Byte x0).1) * 16777216)),pf (inR .i64 (((l01Byte (l01Cur.mk x0.b ((l01Byte x0).2.1) ((l01Byte x0).2.2))).1) * 65536)),pf (inR .i64 ((((l01Byte x0).1) * 16777216) + (((l01Byte (l01Cur.mk x0.b ((l01Byte x0).2.1) ((l01Byte x0).2.2))).1) * 65536))),pf (inR .i64 (((l01Byte (l01Cur.mk x0.b ((l01Byte (l01Cur.mk x0.b ((l01Byte x0).2.1) ((l01Byte x0).2.2))).2.1) ((l01Byte (l01Cur.mk x0.b ((l01Byte x0).2.1) ((l01Byte x0).2.2))).2.2))).1) * 256)),pf (inR .i64 (((((l01Byte x0).1) * 16777216) + (((l01Byte (l01Cur.mk x0.b ((l01Byte x0).2.1) ((l01Byte x0).2.2))).1) * 65536)) + (((l01Byte (l01Cur.mk x0.b ((l01Byte (l01Cur.mk x0.b ((l01Byte x0).2.1) ((l01Byte x0).2.2))).2.1) ((l01Byte (l01Cur.mk x0.b ((l01Byte x0).2.1) ((l01Byte x0).2.2))).2.2))).1) * 256))),pf (inR .i64 ((((((l01Byte x0).1) * 16777216) + (((l01Byte (l01Cur.mk x0.b ((l01Byte x0).2.1) ((l01Byte x0).2.2))).1) * 65536)) + (((l01Byte (l01Cur.mk x0.b ((l01Byte (l01Cur.mk x0.b ((l01Byte x0).2.1) ((l01Byte x0).2.2))).2.1) ((l01Byte (l01Cur.mk x0.b ((l01Byte x0).2.1) ((l01Byte x0).2.2))).2.2))).1) * 256)) + ((l01Byte (l01Cur.mk x0.b ((l01Byte (l01Cur.mk x0.b ((l01Byte (l01Cur.mk x0.b ((l01Byte x0).2.1) ((l01Byte x0).2.2))).2.1) ((l01Byte (l01Cur.mk x0.b ((l01Byte x0).2.1) ((l01Byte x0).2.2))).2.2))).2.1) ((l01Byte (l01Cur.mk x0.b ((l01Byte (l01Cur.mk x0.b ((l01Byte x0).2.1) ((l01Byte x0).2.2))).2.1) ((l01Byte (l01Cur.mk x0.b ((l01Byte x0).2.1) ((l01Byte x0).2.2))).2.2))).2.2))).1))),pf ((x1 : Int) ≠ 0)] [] [28,32,36,40,0,4,8,12,16,20,24] (rt [(900000,some 900000)] (C127 x0 x1 (((((((l01Byte x0).1) * 16777216) + (((l01Byte (l01Cur.mk x0.b ((l01Byte x0).2.1) ((l01Byte x0).2.2))).1) * 65536)) + (((l01Byte (l01Cur.mk x0.b ((l01Byte (l01Cur.mk x0.b ((l01Byte x0).2.1) ((l01Byte x0).2.2))).2.1) ((l01Byte (l01Cur.mk x0.b ((l01Byte x0).2.1) ((l01Byte x0).2.2))).2.2))).1) * 256)) + ((l01Byte (l01Cur.mk x0.b ((l01Byte (l01Cur.mk x0.b ((l01Byte (l01Cur.mk x0.b ((l01Byte x0).2.1) ((l01Byte x0).2.2))).2.1) ((l01Byte (l01Cur.mk x0.b ((l01Byte x0).2.1) ((l01Byte x0).2.2))).2.2))).2.1) ((l01Byte (l01Cur.mk x0.b ((l01Byte (l01Cur.mk x0.b ((l01Byte x0).2.1) ((l01Byte x0).2.2))).2.1) ((l01Byte (l01Cur.mk x0.b ((l01Byte x0).2.1) ((l01Byte x0).2.2))).2.2))).2.2))).1)).tmod x1,(l01Byte (l01Cur.mk x0.b ((l01Byte (l01Cur.mk x0.b ((l01Byte (l01Cur.mk x0.b ((l01Byte x0).2.1) ((l01Byte x0).2.2))).2.1) ((l01Byte (l01Cur.mk x0.b ((l01Byte x0).2.1) ((l01Byte x0).2.2))).2.2))).2.1) ((l01Byte (l01Cur.mk x0.b ((l01Byte (l01Cur.mk x0.b ((l01Byte x0).2.1) ((l01Byte x0).2.2))).2.1) ((l01Byte (l01Cur.mk x0.b ((l01Byte x0).2.1) ((l01Byte x0).2.2))).2.2))).2.2))).2.1,(l01Byte (l01Cur.mk x0.b ((l01Byte (l01Cur.mk x0.b ((l01Byte (l01Cur.mk x0.b ((l01Byte x0).2.1) ((l01Byte x0).2.2))).2.1) ((l01Byte (l01Cur.mk x0.b ((l01Byte x0).2.1) ((l01Byte x0).2.2))).2.2))).2.1) ((l01Byte (l01Cur.mk x0.b ((l01Byte (l01Cur.mk x0.b ((l01Byte x0).2.1) ((l01Byte x0).2.2))).2.1) ((l01Byte (l01Cur.mk x0.b ((l01Byte x0).2.1) ((l01Byte x0).2.2))).2.2))).2.2))).2.2))))))))
theorem ok_spec_l01Below (x0 : l01Cur) (x1 : Int) (hc : CurOk x0) (hn : x1 ≤ 256) : FnMT Try.prog 127 [.vp 900000 0, .int .i64 x1] [.var [.ro false 1 x0.b.length (rowOf (cInt .u8) x0.b), .int .i64 x0.i, .int .i64 x0.h]] (C127 x0 x1 (l01Below x0 x1)) := by
  have aux : ∀ R, l01Below x0 x1 = R → slim (C127 x0 x1 R) (A127 x0 x1) [] := by
    intro R hR
    refine rg trivial ?_
    refine rg trivial ?_
    revert hR;refine cd (fun hc1 hR=>?_) fun hc1 hR=>?_
    ·
      refine rg trivial ?_
      exact congrArg (C127 x0 x1) hR
    ·
      refine rg trivial ?_
      revert hR;refine cd (fun hc2 hR=>?_) fun hc2 hR=>?_
      ·
        refine rg ⟨by ((try clear hR);intros;(try simp only [decide_eq_true_eq,decide_eq_false_iff_not,Bool.or_eq_true,Bool.and_eq_true,or_f_iff,not_f_iff,not_t_iff,Bool.not_eq_true',inR] at *);(repeat' apply And.intro) <;> (intros;omega)),by trivial,trivial⟩ ?_
        exact congrArg (C127 x0 x1) hR
      ·
        refine rg ⟨by ((try clear hR);intros;(try simp only [decide_eq_true_eq,decide_eq_false_iff_not,Bool.or_eq_true,Bool.and_eq_true,or_f_iff,not_f_iff,not_t_iff,Bool.not_eq_true',inR] at *);(repeat' apply And.intro) <;> (intros;omega)),by ((try clear hR);intros;(try simp only [decide_eq_true_eq,decide_eq_false_iff_not,Bool.or_eq_true,Bool.and_eq_true,or_f_iff,not_f_iff,not_t_iff,Bool.not_eq_true',inR] at *);(repeat' apply And.intro) <;> (intros;omega)),by ((try clear hR);intros;(try simp only [decide_eq_true_eq,decide_eq_false_iff_not,Bool.or_eq_true,Bool.and_eq_true,or_f_iff,not_f_iff,not_t_iff,Bool.not_eq_true',inR] at *);(repeat' apply And.intro) <;> (intros;omega)),by ((try clear hR);intros;(try simp only [decide_eq_true_eq,decide_eq_false_iff_not,Bool.or_eq_true,Bool.and_eq_true,or_f_iff,not_f_iff,not_t_iff,Bool.not_eq_true',inR] at *);(repeat' apply And.intro) <;> (intros;omega)),by ((try clear hR);intros;(try simp only [decide_eq_true_eq,decide_eq_false_iff_not,Bool.or_eq_true,Bool.and_eq_true,or_f_iff,not_f_iff,not_t_iff,Bool.not_eq_true',inR] at *);(repeat' apply And.intro) <;> (intros;omega)),by ((try clear hR);intros;(try simp only [decide_eq_true_eq,decide_eq_false_iff_not,Bool.or_eq_true,Bool.and_eq_true,or_f_iff,not_f_iff,not_t_iff,Bool.not_eq_true',inR] at *);(repeat' apply And.intro) <;> (intros;omega)),by ((try clear hR);intros;(try simp only [decide_eq_true_eq,decide_eq_false_iff_not,Bool.or_eq_true,Bool.and_eq_true,or_f_iff,not_f_iff,not_t_iff,Bool.not_eq_true',inR] at *);(repeat' apply And.intro) <;> (intros;omega)),by trivial,by ((try clear hR);intros;(try simp only [decide_eq_true_eq,decide_eq_false_iff_not,Bool.or_eq_true,Bool.and_eq_true,or_f_iff,not_f_iff,not_t_iff,Bool.not_eq_true',inR] at *);(repeat' apply And.intro) <;> (intros;omega)),by ((try clear hR);intros;(try simp only [decide_eq_true_eq,decide_eq_false_iff_not,Bool.or_eq_true,Bool.and_eq_true,or_f_iff,not_f_iff,not_t_iff,Bool.not_eq_true',inR] at *);(repeat' apply And.intro) <;> (intros;omega)),by ((try clear hR);intros;(try simp only [decide_eq_true_eq,decide_eq_false_iff_not,Bool.or_eq_true,Bool.and_eq_true,or_f_iff,not_f_iff,not_t_iff,Bool.not_eq_true',inR] at *);(repeat' apply And.intro) <;> (intros;omega)),trivial⟩ ?_
        exact congrArg (C127 x0 x1) hR
  exact FnM.go 37 Try.func127 (by kernel_rfl) (by kernel_rfl) (A127 x0 x1) (by kernel_rfl) (aux _ rfl)
def k127 (d : Nat) (ids : List Nat) (x0 : l01Cur) (x1 : Int) : Cl:=(hresM d ids (C127 x0 x1 (l01Below x0 x1)),k2 (ok_spec_l01Below x0 x1))
theorem l01Below_ok {c : l01Cur} (h : CurOk c) {n : Int} (hn : n ≤ 256) : (0 ≤ (l01Below c n).1 ∧ (l01Below c n).1 ≤ 255 ∧ (0 < n → (l01Below c n).1 < n)) ∧ CurOk ⟨c.b, (l01Below c n).2.1, (l01Below c n).2.2⟩ := by
  unfold l01Below
  refine cond_both (p:=fun (r : Int × Int × Int)=>(0 ≤ r.1 ∧ r.1 ≤ 255 ∧ (0 < n → r.1 < n)) ∧ CurOk ⟨c.b,r.2.1,r.2.2⟩) (fun c1=>⟨⟨by simp,by simp,fun h=>h⟩,h⟩) (fun c1=>?_)
  have c1:=of_decide_eq_false c1
  refine cond_both (p:=fun (r : Int × Int × Int)=>(0 ≤ r.1 ∧ r.1 ≤ 255 ∧ (0 < n → r.1 < n)) ∧ CurOk ⟨c.b,r.2.1,r.2.2⟩) (fun c2=>⟨?_,(l01Byte_ok h).2⟩) (fun c2=>absurd (of_decide_eq_false c2) (by omega))
  have h1:=(l01Byte_ok h).1
  have e:=Int.tmod_eq_emod_of_nonneg (a:=(l01Byte c).1) (b:=n) h1.1
  have h2:=Int.emod_nonneg (l01Byte c).1 (show n ≠ 0 by omega)
  have h3:=Int.emod_lt_of_pos (l01Byte c).1 (show 0 < n by omega)
  simp only [e]
  omega
def C130 (x0 : l01Cur) (x1 : Int) (R : Bool × Int × Int) : LV × List (Nat × BC):=(.bool R.1,[(900000,.var [.ro false 1 x0.b.length (rowOf (cInt .u8) x0.b),.int .i64 R.2.1,.int .i64 R.2.2])])
def l01Once (x0 : l01Cur) (x1 : Int) : Bool × Int × Int:=(decide (((l01Below x0 x1).1) = 0),(l01Below x0 x1).2.1,(l01Below x0 x1).2.2)
def A130 (x0 : l01Cur) (x1 : Int) : Ann:=.reg 2 [] [(1002,k127 7 [900000] x0 x1)] [4] [900000] [] [] [] [0] (rt [(900000,some 900000)] (C130 x0 x1 (decide (((l01Below x0 x1).1) = 0),(l01Below x0 x1).2.1,(l01Below x0 x1).2.2)))
theorem ok_spec_l01Once (x0 : l01Cur) (x1 : Int) (hc : CurOk x0) (hn : x1 ≤ 256) : FnMT Try.prog 130 [.vp 900000 0, .int .i64 x1] [.var [.ro false 1 x0.b.length (rowOf (cInt .u8) x0.b), .int .i64 x0.i, .int .i64 x0.h]] (C130 x0 x1 (l01Once x0 x1)) := by
  have aux : ∀ R, l01Once x0 x1 = R → slim (C130 x0 x1 R) (A130 x0 x1) [] := by
    intro R hR
    refine rg ⟨⟨by trivial,by trivial⟩,trivial⟩ ?_
    exact congrArg (C130 x0 x1) hR
  exact FnM.go 9 Try.func130 (by kernel_rfl) (by kernel_rfl) (A130 x0 x1) (by kernel_rfl) (aux _ rfl)
def k130 (d : Nat) (ids : List Nat) (x0 : l01Cur) (x1 : Int) : Cl:=(hresM d ids (C130 x0 x1 (l01Once x0 x1)),k2 (ok_spec_l01Once x0 x1))
def C126 (x0 : l01Cur) (x1 : List Int) (R : Int × Int × Int) : LV × List (Nat × BC):=(.int .i64 R.1,[(900000,.var [.ro false 1 x0.b.length (rowOf (cInt .u8) x0.b),.int .i64 R.2.1,.int .i64 R.2.2])])
def l01Int (x0 : l01Cur) (x1 : List Int) : Int × Int × Int:=((x1.getD (((l01Below x0 ((x1.length : Nat) : Int)).1).toNat) default),(l01Below x0 ((x1.length : Nat) : Int)).2.1,(l01Below x0 ((x1.length : Nat) : Int)).2.2)
def A126 (x0 : l01Cur) (x1 : List Int) : Ann:=.reg 2 [] [(1004,k127 9 [900000] x0 ((x1.length : Nat) : Int))] [4] [900000,900001] [] [pf (0 ≤ ((l01Below x0 ((x1.length : Nat) : Int)).1 : Int) ∧ ((l01Below x0 ((x1.length : Nat) : Int)).1 : Int) < ((x1.length : Nat) : Int))] [] [4,0] (rt [(900000,some 900000)] (C126 x0 x1 ((x1.getD (((l01Below x0 ((x1.length : Nat) : Int)).1).toNat) default),(l01Below x0 ((x1.length : Nat) : Int)).2.1,(l01Below x0 ((x1.length : Nat) : Int)).2.2)))
theorem ok_spec_l01Int (x0 : l01Cur) (x1 : List Int) (hc : CurOk x0) (hn : 0 < x1.length ∧ x1.length ≤ 256) : FnMT Try.prog 126 [.vp 900000 0, .own 900001] [.var [.ro false 1 x0.b.length (rowOf (cInt .u8) x0.b), .int .i64 x0.i, .int .i64 x0.h], .arr 1 x1.length (rowOf (cInt .i64) x1)] (C126 x0 x1 (l01Int x0 x1)) := by
  have aux : ∀ R, l01Int x0 x1 = R → slim (C126 x0 x1 R) (A126 x0 x1) [] := by
    intro R hR
    refine rg ⟨by (have h9:=l01Below_ok hc (n:=((x1.length : Nat) : Int)) (by omega);omega),⟨by trivial,by (intros;omega)⟩,trivial⟩ ?_
    exact congrArg (C126 x0 x1) hR
  exact FnM.go 12 Try.func126 (by kernel_rfl) (by kernel_rfl) (A126 x0 x1) (by kernel_rfl) (aux _ rfl)
def k126 (d : Nat) (ids : List Nat) (x0 : l01Cur) (x1 : List Int) : Cl:=(hresM d ids (C126 x0 x1 (l01Int x0 x1)),k2 (ok_spec_l01Int x0 x1))
def C129 (R : (List UInt8)) : LV × List (Nat × BC):=(.str R,[])
def l1Called (x0 : Int) : (List UInt8):=List.map Lite.byteOf ([((([97,98,99,100,101,102,103,104,105,106,107,108,109,110,111,112,113,114,115,116,117,118,119,120,121,122] : List UInt8).getD ((x0.tmod 26).toNat) 0).toNat : Int),((([97,101,105,111,117] : List UInt8).getD (((x0.tdiv 26).tmod 5).toNat) 0).toNat : Int)] : List Int)
def A129 (x0 : Int) : Ann:=.reg 2 [(1008,.ints ([((([97,98,99,100,101,102,103,104,105,106,107,108,109,110,111,112,113,114,115,116,117,118,119,120,121,122] : List UInt8).getD ((x0.tmod 26).toNat) 0).toNat : Int),((([97,101,105,111,117] : List UInt8).getD (((x0.tdiv 26).tmod 5).toNat) 0).toNat : Int)] : List Int))] [(1007,bsC 10 (cInt .u8) ([((([97,98,99,100,101,102,103,104,105,106,107,108,109,110,111,112,113,114,115,116,117,118,119,120,121,122] : List UInt8).getD ((x0.tmod 26).toNat) 0).toNat : Int),((([97,101,105,111,117] : List UInt8).getD (((x0.tdiv 26).tmod 5).toNat) 0).toNat : Int)] : List Int))] [2] [] [] [pf ((26 : Int) ≠ 0),pf (0 ≤ (x0.tmod 26 : Int) ∧ (x0.tmod 26 : Int) < ((([97,98,99,100,101,102,103,104,105,106,107,108,109,110,111,112,113,114,115,116,117,118,119,120,121,122] : List UInt8).length : Nat) : Int)),pf (inR .i64 (x0.tdiv 26)),pf ((5 : Int) ≠ 0),pf (0 ≤ ((x0.tdiv 26).tmod 5 : Int) ∧ ((x0.tdiv 26).tmod 5 : Int) < ((([97,101,105,111,117] : List UInt8).length : Nat) : Int))] [zf (P:=2 = ([((([97,98,99,100,101,102,103,104,105,106,107,108,109,110,111,112,113,114,115,116,117,118,119,120,121,122] : List UInt8).getD ((x0.tmod 26).toNat) 0).toNat : Int),((([97,101,105,111,117] : List UInt8).getD (((x0.tdiv 26).tmod 5).toNat) 0).toNat : Int)] : List Int).length ∧ ∀ k,k < 2 → (rowOf (cInt .u8) [((([97,98,99,100,101,102,103,104,105,106,107,108,109,110,111,112,113,114,115,116,117,118,119,120,121,122] : List UInt8).getD ((x0.tmod 26).toNat) 0).toNat : Int),((([97,101,105,111,117] : List UInt8).getD (((x0.tdiv 26).tmod 5).toNat) 0).toNat : Int)]) k = [.int .u8 (([((([97,98,99,100,101,102,103,104,105,106,107,108,109,110,111,112,113,114,115,116,117,118,119,120,121,122] : List UInt8).getD ((x0.tmod 26).toNat) 0).toNat : Int),((([97,101,105,111,117] : List UInt8).getD (((x0.tdiv 26).tmod 5).toNat) 0).toNat : Int)] : List Int).getD k default)]) (⟨by first | rfl | simp,fun _ _=>rfl⟩)] [0,4,0,8,12,16,20,3] (rt [] (C129 (List.map Lite.byteOf ([((([97,98,99,100,101,102,103,104,105,106,107,108,109,110,111,112,113,114,115,116,117,118,119,120,121,122] : List UInt8).getD ((x0.tmod 26).toNat) 0).toNat : Int),((([97,101,105,111,117] : List UInt8).getD (((x0.tdiv 26).tmod 5).toNat) 0).toNat : Int)] : List Int))))
theorem ok_spec_l1Called (x0 : Int) (hi : 0 ≤ x0 ∧ x0 ≤ 1000) : FnT Try.prog 129 [.int .i64 x0] (C129 (l1Called x0)) := by
  have aux : ∀ R, l1Called x0 = R → slim (C129 R) (A129 x0) [] := by
    intro R hR
    refine rg ⟨by trivial,by (have e1:=Int.tmod_eq_emod_of_nonneg (a:=x0) (b:=26) (by omega);have e2:=Int.tdiv_eq_ediv_of_nonneg (a:=x0) (b:=26) (by omega);have e3:=Int.tmod_eq_emod_of_nonneg (a:=x0.tdiv 26) (b:=5) (by omega);(try simp only [List.length_cons,List.length_nil]);omega),by ((try clear hR);intros;(try simp only [decide_eq_true_eq,decide_eq_false_iff_not,Bool.or_eq_true,Bool.and_eq_true,or_f_iff,not_f_iff,not_t_iff,Bool.not_eq_true',inR] at *);(repeat' apply And.intro) <;> (have e1:=Int.tmod_eq_emod_of_nonneg (a:=x0) (b:=26) (by omega);have e2:=Int.tdiv_eq_ediv_of_nonneg (a:=x0) (b:=26) (by omega);have e3:=Int.tmod_eq_emod_of_nonneg (a:=x0.tdiv 26) (b:=5) (by omega);(try simp only [List.length_cons,List.length_nil]);omega)),by trivial,by (have e1:=Int.tmod_eq_emod_of_nonneg (a:=x0) (b:=26) (by omega);have e2:=Int.tdiv_eq_ediv_of_nonneg (a:=x0) (b:=26) (by omega);have e3:=Int.tmod_eq_emod_of_nonneg (a:=x0.tdiv 26) (b:=5) (by omega);(try simp only [List.length_cons,List.length_nil]);omega),trivial,trivial⟩ ?_
    exact congrArg C129 hR
  exact Fn.go 12 Try.func129 (by kernel_rfl) (by kernel_rfl) (by simp [C129,Frs,FrsL]) (A129 x0) (by kernel_rfl) (aux _ rfl)
def k129 (x0 : Int) : Cl:=(hres (C129 (l1Called x0)),k1 (ok_spec_l1Called x0))
theorem l01Once_ok {c : l01Cur} (h : CurOk c) {n : Int} (hn : n ≤ 256) : CurOk ⟨c.b, (l01Once c n).2.1, (l01Once c n).2.2⟩ := by
  unfold l01Once
  exact (l01Below_ok h hn).2
theorem l01Int_ok {c : l01Cur} (h : CurOk c) {l : List Int} (hl : 0 < l.length ∧ l.length ≤ 256) : (l01Int c l).1 ∈ l ∧ CurOk ⟨c.b, (l01Int c l).2.1, (l01Int c l).2.2⟩ := by
  have h9:=l01Below_ok h (n:=((l.length : Nat) : Int)) (by omega)
  unfold l01Int
  exact ⟨getD_mem (by have:=h9.1.2.2 (by omega);omega),h9.2⟩
end Go.Proofs.Ytaageiiodlfeiaa
