import Derived.Test.YtaageiiodlfeiaaProg
import Derived.Test.YtaageiiodlfeiaaLiteW
import Derived.KernelRfl
set_option maxHeartbeats 4000000
set_option linter.unusedSimpArgs false
set_option linter.unusedVariables false
namespace Go.Proofs.Ytaageiiodlfeiaa
open Go Go.Lite Go.Proofs
theorem zbd {p:Prop} (h:p:=by simp only;omega):p:=h
theorem zba {p:Prop} (h:p:=by rw [← zey];omega):p:=h
theorem za7 {p:Prop} (h:p:=by first | exact hii1 | assumption):p:=h
theorem za6 {p:Prop} (h:p:=by ( intros;simp only [inR];omega)):p:=h
theorem za1 {p:Prop} (h:p:=by (exfalso;have h7:=of_decide_eq_true hc3;have h6:=of_decide_eq_true hc1;omega)):p:=h
theorem za0 {p:Prop} (h:p:=by (have h7:=of_decide_eq_true hc7;have h9:=zqk (zeh m) hf hS ha om hc8;omega)):p:=h
theorem zay {p:Prop} (h:p:=by trivial):p:=h
theorem zax {p:Prop} (h:p:=by kernel_rfl):p:=h
theorem zaw {p:Prop} (h:p:=by (intros;omega)):p:=h
theorem zav {p:Prop} (h:p:=by simpa using hc1):p:=h
theorem zau {p:Prop} (h:p:=by dsimp only;omega):p:=h
theorem zat {p:Prop} (h:p:=by (try dsimp only);omega):p:=h
theorem zas {p:Prop} (h:p:=by with_reducible assumption):p:=h
theorem zar {p:Prop} (h:p:=by (((try clear hR);(try clear hK1);intros;(try simp only [w1,w2,w3,w4,w5,w6,zbs,inR,IntKind.bits] at *));omega)):p:=h
theorem zaq {p:Prop} (h:p:=by (((try clear hR);(try clear hK1);(try clear hK2);intros;(try simp only [w1,w2,w3,w4,w5,w6,zbs,inR,IntKind.bits] at *));omega)):p:=h
theorem zap {p:Prop} (h:p:=by (((try clear hR);(try clear hK1);(try clear hK2);(try clear hK3);intros;(try simp only [w1,w2,w3,w4,w5,w6,zbs,inR,IntKind.bits] at *));omega)):p:=h
theorem zao {p:Prop} (h:p:=by have h9:=hc3;rw [zbr,zfq] at h9;have h8:=h9.1;simp only [Bool.not_eq_true',decide_eq_false_iff_not,Bool.not_eq_false',decide_eq_true_eq] at h8;omega):p:=h
theorem zan {p:Prop} (h:p:=by (((try clear hR);(try clear hK1);(try clear hK2);(try clear hK3);(try clear hK4);intros;(try simp only [w1,w2,w3,w4,w5,w6,zbs,inR,IntKind.bits] at *));omega)):p:=h
theorem zam {p:Prop} (h:p:=by (((try clear hR);(try clear hK1);(try clear hK2);(try clear hK3);(try clear hK4);(try clear hK5);intros;(try simp only [w1,w2,w3,w4,w5,w6,zbs,inR,IntKind.bits] at *));omega)):p:=h
theorem zal {p:Prop} (h:p:=by ((try clear hR hK1);intros;(try simp only [decide_eq_true_eq,decide_eq_false_iff_not,Bool.or_eq_true,Bool.and_eq_true,zbr,zbo,zbq,Bool.not_eq_true',inR] at *);(repeat' apply And.intro)<;>(intros;omega))):p:=h
theorem zak {p:Prop} (h:p:=by ((try clear hR);(try clear hK1);intros;(try simp only [w1,w2,w3,w4,w5,w6,zbs,inR,IntKind.bits] at *));((repeat first | refine Sw.step ?_ _ _ om om)<;>first | exact hI1.2.1 | exact Sw.refl | exact hI1.2.1.mono om om)):p:=h
theorem zaj {p:Prop} (h:p:=by ((try clear hR hK1 hK2);intros;(try simp only [decide_eq_true_eq,decide_eq_false_iff_not,Bool.or_eq_true,Bool.and_eq_true,zbr,zbo,zbq,Bool.not_eq_true',inR] at *);(repeat' apply And.intro)<;>(first | (intros;omega) | (simp_all [inR];done)))):p:=h
theorem zai {p:Prop} (h:p:=by (((try clear hR);(try clear hK1);intros;(try simp only [w1,w2,w3,w4,w5,w6,zbs,inR,IntKind.bits] at *));refine ⟨om,?_,trivial⟩;((repeat first | refine Sw.step ?_ _ _ om om)<;>first | exact hI1.2.1 | exact Sw.refl | exact hI1.2.1.mono om om))):p:=h
theorem zah {p:Prop} (h:p:=by (((try clear hR);(try clear hK1);intros;(try simp only [w1,w2,w3,w4,w5,w6,zbs,inR,IntKind.bits] at *));(repeat' apply And.intro)<;>first | omega | ((repeat first | refine Sw.step ?_ _ _ om om)<;>first | exact hI1.2.1 | exact Sw.refl | exact hI1.2.1.mono om om))):p:=h
theorem zag {p:Prop} (h:p:=by ((try clear hR hK1);intros;(try simp only [decide_eq_true_eq,decide_eq_false_iff_not,Bool.or_eq_true,Bool.and_eq_true,zbr,zbo,zbq,Bool.not_eq_true',inR] at *);(repeat' apply And.intro)<;>(first | (simp_all [inR];done) | grind [inR,zcz,zdy,zf1,List.length_set,zgj]))):p:=h
theorem zaf {p:Prop} (h:p:=by ((try clear hR);(try clear hK1);(try clear hK2);(try clear hK3);(try clear hK4);(try clear hK5);intros;(try simp only [w1,w2,w3,w4,w5,w6,zbs,inR,IntKind.bits] at *));((repeat first | refine Sw.step ?_ _ _ om om)<;>first | exact hI3.2.1 | exact Sw.refl | exact hI3.2.1.mono om om)):p:=h
theorem zae {p:Prop} (h:p:=by ((try clear hR);(try clear hK1);(try clear hK2);(try clear hK3);(try clear hK4);intros;(try simp only [w1,w2,w3,w4,w5,w6,zbs,inR,IntKind.bits] at *));((repeat first | refine Sw.step ?_ _ _ om om)<;>first | exact hJ1.2.1 | exact hI4.2.1 | exact hI3.2.1 | exact hI1.2.1 | exact Sw.refl | exact hJ1.2.1.mono om om | exact hI4.2.1.mono om om | exact hI3.2.1.mono om om | exact hI1.2.1.mono om om)):p:=h
theorem zad {p:Prop} (h:p:=by (((try clear hR);(try clear hK1);(try clear hK2);intros;(try simp only [w1,w2,w3,w4,w5,w6,zbs,inR,IntKind.bits] at *));refine ⟨om,Sw.both ?_⟩;((repeat first | refine Sw.step ?_ _ _ om om | refine Sw.via (zd2 _ _ _ _ zat) ?_ zat zat)<;>first | exact hI2.2.1 | exact hI1.2.1 | exact Sw.refl | exact hI2.2.1.mono om om | exact hI1.2.1.mono om om))):p:=h
theorem zac {p:Prop} (h:p:=by (((try clear hR);(try clear hK1);(try clear hK2);(try clear hK3);(try clear hK4);intros;(try simp only [w1,w2,w3,w4,w5,w6,zbs,inR,IntKind.bits] at *));(repeat' apply And.intro)<;>first | omega | ((repeat first | refine Sw.step ?_ _ _ om om)<;>first | exact hJ1.2.1 | exact hI4.2.1 | exact hI3.2.1 | exact hI1.2.1 | exact Sw.refl | exact hJ1.2.1.mono om om | exact hI4.2.1.mono om om | exact hI3.2.1.mono om om | exact hI1.2.1.mono om om))):p:=h
theorem zab {p:Prop} (h:p:=by ((try clear hR);(try clear hK1);intros;(try simp only [w1,w2,w3,w4,w5,w6,zbs,inR,IntKind.bits] at *));((repeat first | refine Sw.step ?_ _ _ om om | refine Sw.via (zex _ _ _ zat) ?_ zat zat | refine Sw.via (zee _ _ _ zat) ?_ zat zat | refine Sw.via (zef _ _ _ zat) ?_ zat zat | refine Sw.via (zdg _ _ _ zat) ?_ zat zat | refine Sw.via (ze8 _ _ _ zat) ?_ zat zat | refine Sw.via (zhb _ _ _ _ zat zat) ?_ zat zat | refine Sw.via (zj1 _ _ _ _ zat zat) ?_ zat zat | refine Sw.via (zid _ _ _ _ _ zat zat zat) ?_ zat zat)<;>first | exact hJ13.2.1 | exact hJ12.2.1 | exact hJ11.2.1 | exact hJ10.2.1 | exact hJ9.2.1 | exact hJ8.2.1 | exact hJ7.2.1 | exact hJ6.2.1 | exact hJ4.2.1 | exact hJ3.2.1 | exact hI1.2.1 | exact Sw.refl | exact hJ13.2.1.mono om om | exact hJ12.2.1.mono om om | exact hJ11.2.1.mono om om | exact hJ10.2.1.mono om om | exact hJ9.2.1.mono om om | exact hJ8.2.1.mono om om | exact hJ7.2.1.mono om om | exact hJ6.2.1.mono om om | exact hJ4.2.1.mono om om | exact hJ3.2.1.mono om om | exact hI1.2.1.mono om om)):p:=h
theorem zaa {p:Prop} (h:p:=by (((try clear hR);(try clear hK1);intros;(try simp only [w1,w2,w3,w4,w5,w6,zbs,inR,IntKind.bits] at *));refine ⟨om,Sw.both ?_⟩;((repeat first | refine Sw.step ?_ _ _ om om | refine Sw.via (zex _ _ _ zat) ?_ zat zat | refine Sw.via (zee _ _ _ zat) ?_ zat zat | refine Sw.via (zef _ _ _ zat) ?_ zat zat | refine Sw.via (zdg _ _ _ zat) ?_ zat zat | refine Sw.via (ze8 _ _ _ zat) ?_ zat zat | refine Sw.via (zhb _ _ _ _ zat zat) ?_ zat zat | refine Sw.via (zj1 _ _ _ _ zat zat) ?_ zat zat | refine Sw.via (zid _ _ _ _ _ zat zat zat) ?_ zat zat)<;>first | exact hJ13.2.1 | exact hJ12.2.1 | exact hJ11.2.1 | exact hJ10.2.1 | exact hJ9.2.1 | exact hJ8.2.1 | exact hJ7.2.1 | exact hJ6.2.1 | exact hJ4.2.1 | exact hJ3.2.1 | exact hI1.2.1 | exact Sw.refl | exact hJ13.2.1.mono om om | exact hJ12.2.1.mono om om | exact hJ11.2.1.mono om om | exact hJ10.2.1.mono om om | exact hJ9.2.1.mono om om | exact hJ8.2.1.mono om om | exact hJ7.2.1.mono om om | exact hJ6.2.1.mono om om | exact hJ4.2.1.mono om om | exact hJ3.2.1.mono om om | exact hI1.2.1.mono om om))):p:=h
structure Person where
 name:List UInt8
 sex:Int
 father:Int
 mother:Int
 born:Int
 died:Int
 deriving Inhabited
def zca (fr:Bool) (x:Person):List LV:=cStr x.name++cInt .i64 x.sex++cInt .i64 x.father++cInt .i64 x.mother++cInt .i64 x.born++cInt .i64 x.died

structure Union where
 man:Int
 woman:Int
 from0:Int
 to:Int
 deriving Inhabited
def zcu (fr:Bool) (x:Union):List LV:=cInt .i64 x.man++cInt .i64 x.woman++cInt .i64 x.from0++cInt .i64 x.to

structure Family where
 people:List Person
 unions:List Union
 deriving Inhabited
def zce (fr:Bool) (x:Family):List LV:=cSl fr 6 (zca fr) x.people++cSl fr 4 (zcu fr) x.unions

end Go.Proofs.Ytaageiiodlfeiaa
