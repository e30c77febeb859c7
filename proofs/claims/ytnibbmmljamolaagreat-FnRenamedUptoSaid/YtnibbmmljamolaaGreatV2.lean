import Derived.Test.YtnibbmmljamolaaGreatProg
import Derived.Test.YtnibbmmljamolaaGreatLiteW
import Derived.KernelRfl
set_option maxHeartbeats 4000000
set_option linter.unusedSimpArgs false
set_option linter.unusedVariables false
namespace Go.Proofs.YtnibbmmljamolaaGreat
open Go Go.Lite Go.Proofs
theorem zac{p:Prop}(h:p:=by(try dsimp only); omega):p:=h
theorem zaa{p:Prop}(h:p:=by kernel_rfl):p:=h
theorem vaa{p:Prop}(h:p:=by exact OkL.sw (a := 0) (b := x0.l.length) hok (by((try clear hR); (try clear hK1); intros; (try simp only[w1, w2, w3, w4, w5, w6, za4, inR, IntKind.bits] at *)); ((repeat first|refine Sw.step ?_ _ _ zab zab|refine Sw.via (zc4 _ _ _ zab) ?_ zab zab|refine Sw.via (zch _ _ _ zab) ?_ zab zab|refine Sw.via (zci _ _ _ zab) ?_ zab zab|refine Sw.via (zbp _ _ _ zab) ?_ zab zab|refine Sw.via (zdj _ _ _ zab) ?_ zab zab|refine Sw.via (zep _ _ _ _ zab zac) ?_ zab zab|refine Sw.via (zgt _ _ _ _ zab zac) ?_ zab zab|refine Sw.via (zds _ _ _ _ _ zab zac zab) ?_ zab zab) <;> first|exact hJ13.2.1|exact hJ12.2.1|exact hJ11.2.1|exact hJ10.2.1|exact hJ9.2.1|exact hJ8.2.1|exact hJ7.2.1|exact hJ6.2.1|exact hJ4.2.1|exact hJ3.2.1|exact hI1.2.1|exact Sw.refl|exact hJ13.2.1.mono zab zab|exact hJ12.2.1.mono zab zab|exact hJ11.2.1.mono zab zab|exact hJ10.2.1.mono zab zab|exact hJ9.2.1.mono zab zab|exact hJ8.2.1.mono zab zab|exact hJ7.2.1.mono zab zab|exact hJ6.2.1.mono zab zab|exact hJ4.2.1.mono zab zab|exact hJ3.2.1.mono zab zab|exact hI1.2.1.mono zab zab)) ⟨by omega, by omega⟩):p:=h
theorem vab{p:Prop}(h:p:=by((try clear hR); (try clear hK1); intros; (try simp only[w1, w2, w3, w4, w5, w6, za4, inR, IntKind.bits] at *)); refine⟨by omega, Sw.both ?_⟩; ((repeat first|refine Sw.step ?_ _ _ zab zab|refine Sw.via (zc4 _ _ _ zab) ?_ zab zab|refine Sw.via (zch _ _ _ zab) ?_ zab zab|refine Sw.via (zci _ _ _ zab) ?_ zab zab|refine Sw.via (zbp _ _ _ zab) ?_ zab zab|refine Sw.via (zdj _ _ _ zab) ?_ zab zab|refine Sw.via (zep _ _ _ _ zab zac) ?_ zab zab|refine Sw.via (zgt _ _ _ _ zab zac) ?_ zab zab|refine Sw.via (zds _ _ _ _ _ zab zac zab) ?_ zab zab) <;> first|exact hJ13.2.1|exact hJ12.2.1|exact hJ11.2.1|exact hJ10.2.1|exact hJ9.2.1|exact hJ8.2.1|exact hJ7.2.1|exact hJ6.2.1|exact hJ4.2.1|exact hJ3.2.1|exact hI1.2.1|exact Sw.refl|exact hJ13.2.1.mono zab zab|exact hJ12.2.1.mono zab zab|exact hJ11.2.1.mono zab zab|exact hJ10.2.1.mono zab zab|exact hJ9.2.1.mono zab zab|exact hJ8.2.1.mono zab zab|exact hJ7.2.1.mono zab zab|exact hJ6.2.1.mono zab zab|exact hJ4.2.1.mono zab zab|exact hJ3.2.1.mono zab zab|exact hI1.2.1.mono zab zab)):p:=h
theorem vac{p:Prop}(h:p:=by((try clear hR);(try clear hK1);intros;(try simp only[w1,w2,w3,w4,w5,w6,za4,inR,IntKind.bits] at *));refine⟨by omega,Sw.both ?_⟩;((repeat first|refine Sw.step ?_ _ _ zab zab|refine Sw.via (zc4 _ _ _ zab) ?_ zab zab|refine Sw.via (zch _ _ _ zab) ?_ zab zab|refine Sw.via (zci _ _ _ zab) ?_ zab zab|refine Sw.via (zbp _ _ _ zab) ?_ zab zab|refine Sw.via (zdj _ _ _ zab) ?_ zab zab|refine Sw.via (zep _ _ _ _ zab (by(try dsimp only);omega)) ?_ zab zab|refine Sw.via (zgt _ _ _ _ zab (by(try dsimp only);omega)) ?_ zab zab|refine Sw.via (zds _ _ _ _ _ zab (by(try dsimp only);omega) zab) ?_ zab zab)<;>first|exact hJ13.2.1|exact hJ12.2.1|exact hJ11.2.1|exact hJ10.2.1|exact hJ9.2.1|exact hJ8.2.1|exact hJ7.2.1|exact hJ6.2.1|exact hJ4.2.1|exact hJ3.2.1|exact hI1.2.1|exact Sw.refl|exact hJ13.2.1.mono zab zab|exact hJ12.2.1.mono zab zab|exact hJ11.2.1.mono zab zab|exact hJ10.2.1.mono zab zab|exact hJ9.2.1.mono zab zab|exact hJ8.2.1.mono zab zab|exact hJ7.2.1.mono zab zab|exact hJ6.2.1.mono zab zab|exact hJ4.2.1.mono zab zab|exact hJ3.2.1.mono zab zab|exact hI1.2.1.mono zab zab)):p:=h
theorem vad{p:Prop}(h:p:=by((try clear hR); (try clear hK1); intros; (try simp only[w1, w2, w3, w4, w5, w6, za4, inR, IntKind.bits] at *)); ((repeat first|refine Sw.step ?_ _ _ zab zab|refine Sw.via (zc4 _ _ _ zab) ?_ zab zab|refine Sw.via (zch _ _ _ zab) ?_ zab zab|refine Sw.via (zci _ _ _ zab) ?_ zab zab|refine Sw.via (zbp _ _ _ zab) ?_ zab zab|refine Sw.via (zdj _ _ _ zab) ?_ zab zab|refine Sw.via (zep _ _ _ _ zab zac) ?_ zab zab|refine Sw.via (zgt _ _ _ _ zab zac) ?_ zab zab|refine Sw.via (zds _ _ _ _ _ zab zac zab) ?_ zab zab) <;> first|exact hJ13.2.1|exact hJ12.2.1|exact hJ11.2.1|exact hJ10.2.1|exact hJ9.2.1|exact hJ8.2.1|exact hJ7.2.1|exact hJ6.2.1|exact hJ4.2.1|exact hJ3.2.1|exact hI1.2.1|exact Sw.refl|exact hJ13.2.1.mono zab zab|exact hJ12.2.1.mono zab zab|exact hJ11.2.1.mono zab zab|exact hJ10.2.1.mono zab zab|exact hJ9.2.1.mono zab zab|exact hJ8.2.1.mono zab zab|exact hJ7.2.1.mono zab zab|exact hJ6.2.1.mono zab zab|exact hJ4.2.1.mono zab zab|exact hJ3.2.1.mono zab zab|exact hI1.2.1.mono zab zab)):p:=h
theorem vae{p:Prop}(h:p:=by have h9:=h.rng;have h8:=zsq h9.2.2.1.1 h9.2.2.2.1;have h7:=zne (a:=(x0.num.getD x1.toNat default) * x3+x2 * (x0.den.getD x1.toNat default)) (b:=zbj ((x0.num.getD x1.toNat default) * x3+x2 * (x0.den.getD x1.toNat default)) ((x0.den.getD x1.toNat default) * x3)) (by(try simp only[inR] at h9);omega) h8.1;have h6:=zne (a:=(x0.den.getD x1.toNat default) * x3) (b:=zbj ((x0.num.getD x1.toNat default) * x3+x2 * (x0.den.getD x1.toNat default)) ((x0.den.getD x1.toNat default) * x3)) (by(try simp only[inR] at h9);omega) h8.1;(try simp only[inR] at *);omega):p:=h
theorem vaf{p:Prop}(h:p:=by exact OkL.sw (a := 0) (b := x0.l.length) hok (by((try clear hR); (try clear hK1); (try clear hK2); intros; (try simp only[w1, w2, w3, w4, w5, w6, za4, inR, IntKind.bits] at *)); ((repeat first|refine Sw.step ?_ _ _ zab zab|refine Sw.via (zcx _ _ _ _ zab) ?_ zab zab) <;> first|exact hI2.2.1|exact hI1.2.1|exact Sw.refl|exact hI2.2.1.mono zab zab|exact hI1.2.1.mono zab zab)) ⟨by omega, by omega⟩):p:=h
theorem vag{p:Prop}(h:p:=by(try clear hR hK1); intros; (try simp only[ob, oa, oj, oc, zar, zan, not_t_iff, od, inR] at *); (repeat' apply And.intro) <;> (first|(intros; omega)|(have h9 := tdiv4 (x2 - x1) zab; have h8 := zhn (x2 - x1) zab; have h7 := zfi (zcu v1.2.1).1 (zda (x2 - x1) - 1) zab; ((try clear hR); (try clear hK1); intros; (try simp only[w1, w2, w3, w4, w5, w6, za4, inR, IntKind.bits] at *)); omega))):p:=h
theorem vah{p:Prop}(h:p:=by((try clear hR); (try clear hK1); (try clear hK2); intros; (try simp only[w1, w2, w3, w4, w5, w6, za4, inR, IntKind.bits] at *)); refine⟨by omega, Sw.both ?_⟩; ((repeat first|refine Sw.step ?_ _ _ zab zab|refine Sw.via (zcx _ _ _ _ zab) ?_ zab zab) <;> first|exact hI2.2.1|exact hI1.2.1|exact Sw.refl|exact hI2.2.1.mono zab zab|exact hI1.2.1.mono zab zab)):p:=h
theorem vai{p:Prop}(h:p:=by simp only[oc, ob] at hc1; have h9 := zi0 hb v1.2.toNat; have h8 : (v1.2).tmod 7 = v1.2 % 7 := Int.tmod_eq_emod_of_nonneg zab; have h7 := zls (n := x0.getD v1.2.toNat default) zab; have h6 : 0 ≤ x1 * (v1.2 % 7 + 1) ∧ x1 * (v1.2 % 7 + 1) ≤ 255 * 7 := ⟨Int.mul_nonneg zab zab, Int.mul_le_mul zab zab zab zab⟩; (first|rw[h7, h8]|rw[h7]|rw[h8]); simp only[inR]; omega):p:=h
theorem vaj{p:Prop}(h:p:=by(try clear hR hK1);intros;(try simp only[ob,oa,oj,oc,zar,zan,not_t_iff,od,inR] at *);(repeat' apply And.intro)<;>(first|(have h9:=zht hp hi hj hii1;have:=zb4 x0 x1 hp hi;have:=zb4 x0 x2 hp hj;omega)|(have:=zem x0 x1 hp hi ((zaf x0 x1 x2).getD i1 default).toNat;have:=zem x0 x2 hp hj ((zaf x0 x1 x2).getD i1 default).toNat;omega)|(intros;omega))):p:=h
theorem vak{p:Prop}(h:p:=by(try clear hR hK1); intros; (try simp only[ob, oa, oj, oc, zar, zan, not_t_iff, od, inR] at *); (repeat' apply And.intro) <;> (have h9 := tdiv4 (x2 - x1) zab; have h8 := zhn (x2 - x1) zab; have h7 := zfi (zcu v1.2.1).1 (zda (x2 - x1) - 1) zab; ((try clear hR); (try clear hK1); intros; (try simp only[w1, w2, w3, w4, w5, w6, za4, inR, IntKind.bits] at *)); omega)):p:=h
theorem vam{p:Prop}(h:p:=by((try clear hR); (try clear hK1); (try clear hK2); intros; (try simp only[w1, w2, w3, w4, w5, w6, za4, inR, IntKind.bits] at *)); ((repeat first|refine Sw.step ?_ _ _ zab zab|refine Sw.via (zcx _ _ _ _ zab) ?_ zab zab) <;> first|exact hI2.2.1|exact hI1.2.1|exact Sw.refl|exact hI2.2.1.mono zab zab|exact hI1.2.1.mono zab zab)):p:=h
theorem van{p:Prop}(h:p:=by(try clear hR hK1);intros;(try simp only[ob,oa,oj,oc,zar,zan,not_t_iff,od,inR] at *);(repeat' apply And.intro)<;>(first|(intros;omega)|(have h9:=tdiv4 (x2 - x1) zab;have h8:=zhn (x2 - x1) zab;have h7:=zfi (zcu v1.2.1).1 (zda (x2 - x1) - 1) zab;((try clear hR);(try clear hK1);intros;(try simp only[w1,w2,w3,w4,w5,w6,za4,inR,IntKind.bits] at *));omega))):p:=h
theorem vao{p:Prop}(h:p:=by have h9 := h.den; have h8 := zsq (a := x2) (b := x3 * ((x1.length : Nat) : Int)) zab h9.1.1; have h7 := zne (a := x2) (b := zbj x2 (x3 * ((x1.length : Nat) : Int))) zab h8.1; have h6 := zne (a := x3 * ((x1.length : Nat) : Int)) (b := zbj x2 (x3 * ((x1.length : Nat) : Int))) (by(try simp only[inR] at h9); omega) h8.1; (try simp only[inR] at *); omega):p:=h
theorem vap{p:Prop}(h:p:=by exact OkL.sw (a:=0) (b:=x0.l.length) hok (by((try clear hR);(try clear hK1);(try clear hK2);(try clear hK3);(try clear hK4);(try clear hK5);intros;(try simp only[w1,w2,w3,w4,w5,w6,za4,inR,IntKind.bits] at *));((repeat first|refine Sw.step ?_ _ _ zab zab)<;>first|exact hI3.2.1|exact Sw.refl|exact hI3.2.1.mono zab zab)) ⟨by omega,by omega⟩):p:=h
theorem vaq{p:Prop}(h:p:=by have h6 := oB hc1; have h5 := oB hc7; have h9 := zhf (zgo m) hf hI2.2 ha ⟨hb.1, by omega⟩ zab hii2; have h3 := sumR hf ha ⟨hb.1, by omega⟩ (n := i2) (by rw[←zdt]; omega); rw[←hI2.1] at h3; have h2 := Int.tdiv_eq_ediv_of_nonneg (a := (za2 m (kin.mk x0.f v2.2) ((zav x0.f x1).getD i2 default) x2).1) (b := 2) zab; simp only[inR]; omega):p:=h
theorem vas{p:Prop}(h:p:=by have h6 := om hc1; have h9 := zhf (zgo m) hf hI1.2 hb ⟨ha.1, h6⟩ zab hii1; have h3 := sumR hf hb ⟨ha.1, h6⟩ (n := i1) (by rw[←zdt]; omega); rw[←hI1.1] at h3; have h2 := Int.tdiv_eq_ediv_of_nonneg (a := (za2 m (kin.mk x0.f v1.2) ((zav x0.f x2).getD i1 default) x1).1) (b := 2) zab; simp only[inR]; omega):p:=h
theorem vat{p:Prop}(h:p:=by exact OkL.sw (a:=0) (b:=x0.l.length) hok (by((try clear hR);(try clear hK1);(try clear hK2);(try clear hK3);intros;(try simp only[w1,w2,w3,w4,w5,w6,za4,inR,IntKind.bits] at *));((repeat first|refine Sw.step ?_ _ _ zab zab)<;>first|exact hI1.2.1|exact Sw.refl|exact hI1.2.1.mono zab zab)) ⟨by omega,by omega⟩):p:=h
theorem vau{p:Prop}(h:p:=by(try clear hR hK1); intros; (try simp only[ob, oa, oj, oc, zar, zan, not_t_iff, od, inR] at *); (repeat' apply And.intro) <;> (first|(intros; omega)|(have hn9 := fam_n hf; have hu9 := fam_u hf (k := i1) hii1; have h91 := hu9.man; have h92 := hu9.woman; have h93 := hu9.from0; have h94 := hu9.to; omega))):p:=h
theorem vav{p:Prop}(h:p:=by exact OkL.sw (a:=0) (b:=x0.l.length) hok (by((try clear hR);(try clear hK1);intros;(try simp only[w1,w2,w3,w4,w5,w6,za4,inR,IntKind.bits] at *));((repeat first|refine Sw.step ?_ _ _ zab zab)<;>first|exact hI1.2.1|exact Sw.refl|exact hI1.2.1.mono zab zab)) ⟨by omega,by omega⟩):p:=h
theorem vaw{p:Prop}(h:p:=by((try clear hR);(try clear hK1);(try clear hK2);(try clear hK3);(try clear hK4);(try clear hK5);intros;(try simp only[w1,w2,w3,w4,w5,w6,za4,inR,IntKind.bits] at *));((repeat first|refine Sw.step ?_ _ _ zab zab)<;>first|exact hI3.2.1|exact Sw.refl|exact hI3.2.1.mono zab zab)):p:=h
theorem vax{p:Prop}(h:p:=by((try clear hR);(try clear hK1);intros;(try simp only[w1,w2,w3,w4,w5,w6,za4,inR,IntKind.bits] at *));(repeat' apply And.intro)<;>first|omega|((repeat first|refine Sw.step ?_ _ _ zab zab)<;>first|exact hI1.2.1|exact Sw.refl|exact hI1.2.1.mono zab zab)):p:=h
theorem vay{p:Prop}(h:p:=by((try clear hR);(try clear hK1);(try clear hK2);(try clear hK3);intros;(try simp only[w1,w2,w3,w4,w5,w6,za4,inR,IntKind.bits] at *));((repeat first|refine Sw.step ?_ _ _ zab zab)<;>first|exact hI1.2.1|exact Sw.refl|exact hI1.2.1.mono zab zab)):p:=h
theorem vaz{p:Prop}(h:p:=by((try clear hR);(try clear hK1);intros;(try simp only[w1,w2,w3,w4,w5,w6,za4,inR,IntKind.bits] at *));refine⟨by omega,?_,trivial⟩;((repeat first|refine Sw.step ?_ _ _ zab zab)<;>first|exact hI1.2.1|exact Sw.refl|exact hI1.2.1.mono zab zab)):p:=h
theorem vaA{p:Prop}(h:p:=by simp only[zar,oa] at hc2;have hn9:=fam_n hf;obtain⟨⟨e1,e2⟩,e3,e4⟩:=hI1;simp only[e1];have h9:=zbm hJ3.2 (l:=[0,1,16,20,30]) (by simp);have h8:=mem5 h9.1;have h5:=zi8 hf (r:=j2.1) zab;have h4:=zi8 hf (r:=j3.1) zab;(try simp only[inR]);omega):p:=h
theorem vaB{p:Prop}(h:p:=by(try clear hR); intros; (try simp only[ob, oa, oj, oc, zar, zan, not_t_iff, od, inR] at *); (repeat' apply And.intro) <;> (have h9 := zkm hb hi.1 hf hn; have h8 := zx3 hb (i := x1 + 2) zab 3 zab; intros; (try simp only[inR, ob] at *); omega)):p:=h
theorem vaC{p:Prop}(h:p:=by have h7 := om hc7; have h9 := zwa (zgo m) hf hS ha zab hc8; have h2 := Int.tdiv_eq_ediv_of_nonneg (a := (za2 m x0 (x0.f.people.getD x1.toNat default).father (x0.f.people.getD x1.toNat default).mother).1) (b := 2) h9.2.1.1; simp only[inR]; omega):p:=h
theorem vaD{p:Prop}(h:p:=by((try clear hR);(try clear hK1);intros;(try simp only[w1,w2,w3,w4,w5,w6,za4,inR,IntKind.bits] at *));((repeat first|refine Sw.step ?_ _ _ zab zab)<;>first|exact hI1.2.1|exact Sw.refl|exact hI1.2.1.mono zab zab)):p:=h
theorem vaE{p:Prop}(h:p:=by(try clear hR hK1); intros; (try simp only[ob, oa, oj, oc, zar, zan, not_t_iff, od, inR] at *); (repeat' apply And.intro) <;> (first|(simp_all [inR]; done)|grind [inR, zbc, zeb, zd2, Ob, zjb])):p:=h
theorem vaF{p:Prop}(h:p:=by have e1:=Int.tmod_eq_emod_of_nonneg (a:=x0) (b:=26) zab;have e2:=Int.tdiv_eq_ediv_of_nonneg (a:=x0) (b:=26) zab;have e3:=Int.tmod_eq_emod_of_nonneg (a:=x0.tdiv 26) (b:=5) zab;(try simp only[ow,oC]);omega):p:=h
theorem vaG{p:Prop}(h:p:=by(try clear hR hK1); intros; (try simp only[ob, oa, oj, oc, zar, zan, not_t_iff, od, inR] at *); (repeat' apply And.intro) <;> (first|(intros; omega)|((have h9 := hJ2.cnt; (try simp only[inR]); omega)))):p:=h
theorem vaH{p:Prop}(h:p:=by(try clear hR hK1);intros;(try simp only[ob,oa,oj,oc,zar,zan,not_t_iff,od,inR] at *);(repeat' apply And.intro)<;>(first|(simp_all [inR];done)|grind [inR,zbc,zeb,zd2,Ob,zjb])):p:=h
theorem vaI{p:Prop}(h:p:=by have h9:=z2o;have h8:=(tab0.getD j2.1.toNat 0).toNat_lt;have h7:=(tab0.getD (j2.1 / 2 ^ 8).toNat 0).toNat_lt;((try clear hR);intros;(try simp only[w1,w2,w3,w4,w5,w6,za4,inR,IntKind.bits] at *));omega):p:=h
theorem vaJ{p:Prop}(h:p:=by(try clear hR hK1); intros; (try simp only[ob, oa, oj, oc, zar, zan, not_t_iff, od, inR] at *); (repeat' apply And.intro) <;> (first|(intros; omega)|(have := zrd hp hi hj; omega))):p:=h
theorem vaK{p:Prop}(h:p:=by(try clear hR hK1);intros;(try simp only[ob,oa,oj,oc,zar,zan,not_t_iff,od,inR] at *);(repeat' apply And.intro)<;>(first|(intros;omega)|((have h9:=hJ2.cnt;(try simp only[inR]);omega)))):p:=h
theorem vaL{p:Prop}(h:p:=by(try clear hR hK1); intros; (try simp only[ob, oa, oj, oc, zar, zan, not_t_iff, od, inR] at *); (repeat' apply And.intro) <;> grind [inR, zbc, zeb, zd2, Ob, zjb]):p:=h
theorem vaM{p:Prop}(h:p:=by refine⟨⟨by(unfold zea; with_reducible exact hI1.1.1), by with_reducible assumption⟩, by first|(with_reducible exact hJ4)|(with_reducible exact(zbm hJ4 (by simp)).2), by omega⟩):p:=h
theorem vaN{p:Prop}(h:p:=by((try clear hR); (try clear hK1); (try clear hK2); (try clear hK3); (try clear hK4); (try clear hK5); intros; (try simp only[w1, w2, w3, w4, w5, w6, za4, inR, IntKind.bits] at *)); omega):p:=h
theorem vaO{p:Prop}(h:p:=by have h9 := (zb0 x0 x1).1 (by simpa using hc1); have h8 := zsw (ShI.div h9.1 hI2 (zrj (by assumption))); dsimp only at h8; have h7 := (fam_n h9.1).1; (try simp only[inR]); omega):p:=h
theorem vaP{p:Prop}(h:p:=by(try clear hR hK1); intros; (try simp only[ob, oa, oj, oc, zar, zan, not_t_iff, od, inR] at *); (repeat' apply And.intro) <;> (first|(intros; omega)|(simp_all [inR]; done))):p:=h
theorem vaQ{p:Prop}(h:p:=by(try clear hR hK1);intros;(try simp only[ob,oa,oj,oc,zar,zan,not_t_iff,od,inR] at *);(repeat' apply And.intro)<;>(first|(intros;omega)|(have:=zrd hp hi hj;omega))):p:=h
theorem vaR{p:Prop}(h:p:=by(try clear hR); intros; (try simp only[ob, oa, oj, oc, zar, zan, not_t_iff, od, inR] at *); (repeat' apply And.intro) <;> (first|(intros; omega)|(simp_all [inR]; done))):p:=h
theorem vaS{p:Prop}(h:p:=by(try clear hR);intros;(try simp only[ob,oa,oj,oc,zar,zan,not_t_iff,od,inR] at *);(repeat' apply And.intro)<;>(have h3:=(znm x0 x1 x2).1 (by simpa using hc1);omega)):p:=h
theorem vaT{p:Prop}(h:p:=by have h0 := hI2.wait 0 zab; have h1 := (zcy x0 (v2.2.getD 0 default)).2 i3 hii3; have h2 := hp (v2.2.getD 0 default).toNat zab; have := hI3.1.rg.len; omega):p:=h
theorem vaU{p:Prop}(h:p:=by((try clear hR);(try clear hK1);(try clear hK2);(try clear hK3);(try clear hK4);(try clear hK5);intros;(try simp only[w1,w2,w3,w4,w5,w6,za4,inR,IntKind.bits] at *));omega):p:=h
theorem vaV{p:Prop}(h:p:=by have h9 := Int.tmod_nonneg (a := v1.1) v1.2 hI1.1; have h8 := Int.tmod_lt_of_pos v1.1 (b := v1.2) (by simp only[ob, oa, od, Bool.not_eq_false'] at *; omega); omega):p:=h
theorem vaW{p:Prop}(h:p:=by(try clear hR hK1 hK2); intros; (try simp only[ob, oa, oj, oc, zar, zan, not_t_iff, od, inR] at *); (repeat' apply And.intro) <;> (simp_all [inR]; done)):p:=h
theorem vaX{p:Prop}(h:p:=by(try clear hR);have hp9:=fam_p hf (k:=x2.toNat) zab;have hq9:=fam_p hf (k:=x3.toNat) zab;have hb9:=hp9.born;have hc9:=hq9.born;simp only[inR];omega):p:=h
theorem vaY{p:Prop}(h:p:=by have h9 := tdiv4 (x2 - x1) zab; ((try clear hR); (try clear hK1); intros; (try simp only[w1, w2, w3, w4, w5, w6, za4, inR, IntKind.bits] at *)); omega):p:=h
theorem vaZ{p:Prop}(h:p:=by(try clear hR hK1); intros; (try simp only[ob, oa, oj, oc, zar, zan, not_t_iff, od, inR] at *); (repeat' apply And.intro) <;> (simp_all [inR]; done)):p:=h
theorem va0{p:Prop}(h:p:=by(try clear hR); (try clear hJ101); (try clear hJ102); ((try clear hR); intros; (try simp only[w1, w2, w3, w4, w5, w6, za4, inR, IntKind.bits] at *)); omega):p:=h
theorem va1{p:Prop}(h:p:=by(try clear hR hK1); intros; (try simp only[ob, oa, oj, oc, zar, zan, not_t_iff, od, inR, l1In] at *); (repeat' apply And.intro) <;> (intros; omega)):p:=h
theorem va2{p:Prop}(h:p:=by(try clear hR hK1 hK2); intros; (try simp only[ob, oa, oj, oc, zar, zan, not_t_iff, od, inR] at *); (repeat' apply And.intro) <;> (intros; omega)):p:=h
theorem va3{p:Prop}(h:p:=by((try clear hR); (try clear hK1); (try clear hK2); (try clear hK3); intros; (try simp only[w1, w2, w3, w4, w5, w6, za4, inR, IntKind.bits] at *)); omega):p:=h
theorem va4{p:Prop}(h:p:=by(try clear hR); intros; (try simp only[ob, oa, oj, oc, zar, zan, not_t_iff, od, inR] at *); (repeat' apply And.intro) <;> (simp_all [inR]; done)):p:=h
theorem va5{p:Prop}(h:p:=by(try clear hR hK1); intros; (try simp only[ob, oa, oj, oc, zar, zan, not_t_iff, od, inR] at *); (repeat' apply And.intro) <;> (intros; omega)):p:=h
theorem va6{p:Prop}(h:p:=by(try clear hR hK1 hK2);intros;(try simp only[ob,oa,oj,oc,zar,zan,not_t_iff,od,inR] at *);(repeat' apply And.intro)<;>(simp_all [inR];done)):p:=h
theorem va7{p:Prop}(h:p:=by(try clear hR); intros; (try simp only[ob, oa, oj, oc, zar, zan, not_t_iff, od, inR] at *); (repeat' apply And.intro) <;> (intros; omega)):p:=h
theorem va8{p:Prop}(h:p:=by have hn9 := fam_n hf; have e := Int.tdiv_eq_ediv_of_nonneg (a := ((x1.people.length : Nat) : Int)) (b := 2) zab; (try simp only[inR]); omega):p:=h
theorem va9{p:Prop}(h:p:=by have h9:=tdiv4 (x2 - x1) zab;((try clear hR);(try clear hK1);intros;(try simp only[w1,w2,w3,w4,w5,w6,za4,inR,IntKind.bits] at *));omega):p:=h
theorem vba{p:Prop}(h:p:=by have h9:=hJ3.2.1.len;have h8:=hI3.2.len;have h7:=zha (yc.mk v3.1 j3.2.2.2.2) ((i3:Nat):Int);dsimp only at h7;simp only[inR];omega):p:=h
theorem vbb{p:Prop}(h:p:=by have h9 := tdiv4 (x2 - x1) zab; ((try clear hR); intros; (try simp only[w1, w2, w3, w4, w5, w6, za4, inR, IntKind.bits] at *)); omega):p:=h
theorem vbc{p:Prop}(h:p:=by have h9 := za1 hJ2 (n := Min.min ((x1.people.length : Nat) : Int) 5) zab; simp only[oc, ob] at hc1; (try simp only[inR]); omega):p:=h
theorem vbd{p:Prop}(h:p:=by((try clear hR);(try clear hK1);(try clear hK2);(try clear hK3);intros;(try simp only[w1,w2,w3,w4,w5,w6,za4,inR,IntKind.bits] at *));omega):p:=h
theorem vbe{p:Prop}(h:p:=by(try clear hR);intros;(try simp only[ob,oa,oj,oc,zar,zan,not_t_iff,od,inR] at *);(repeat' apply And.intro)<;>(simp_all [inR];done)):p:=h
theorem vbf{p:Prop}(h:p:=by have h9 := zlq (((v1.1 * 1103) + (x0.getD v1.2.toNat default)) + 7) 1073741823 1073741823 rfl zab; simp only[oc, ob] at *; omega):p:=h
theorem vbg{p:Prop}(h:p:=by(try clear hR);intros;(try simp only[ob,oa,oj,oc,zar,zan,not_t_iff,od,inR,l1In] at *);(repeat' apply And.intro)<;>(intros;omega)):p:=h
theorem vbh{p:Prop}(h:p:=by((try clear hR); (try clear hK1); (try clear hK2); intros; (try simp only[w1, w2, w3, w4, w5, w6, za4, inR, IntKind.bits] at *)); omega):p:=h
theorem vbi{p:Prop}(h:p:=by(try clear hR hK1);intros;(try simp only[ob,oa,oj,oc,zar,zan,not_t_iff,od,inR] at *);(repeat' apply And.intro)<;>(intros;omega)):p:=h
theorem vbj{p:Prop}(h:p:=by(try clear hR);intros;(try simp only[ob,oa,oj,oc,zar,zan,not_t_iff,od,inR] at *);(repeat' apply And.intro)<;>(intros;omega)):p:=h
theorem vbk{p:Prop}(h:p:=by have h4 := hJ1.1; have h5 := hI1.2.gb; have h6 := hI1.2.ok.len; have h7 := hI2.2.len; simp only[oc, ob] at hc1; simp only[inR]; omega):p:=h
theorem vbl{p:Prop}(h:p:=by have h9 := (zb0 x0 x1).1 (by simpa using hc1); have h8 := ShJ.lens hI2.1; have h7 := (fam_n h9.1).1; (try simp only[inR]); omega):p:=h
theorem vbm{p:Prop}(h:p:=by have h9:=za1 hJ2 (n:=Min.min ((x1.people.length:Nat):Int) 5) zab;simp only[oc,ob] at hc1;(try simp only[inR]);omega):p:=h
theorem vbn{p:Prop}(h:p:=by have hn9:=fam_n hf;have hu9:=fam_u hf (k:=i1) hii1;have h91:=hu9.man;have h92:=hu9.woman;have h93:=hu9.from0;have h94:=hu9.to;omega):p:=h
theorem vbo{p:Prop}(h:p:=by have h9:=tdiv4 (x2 - x1) zab;((try clear hR);intros;(try simp only[w1,w2,w3,w4,w5,w6,za4,inR,IntKind.bits] at *));omega):p:=h
theorem vbp{p:Prop}(h:p:=by((try clear hR);(try clear hK1);(try clear hK2);intros;(try simp only[w1,w2,w3,w4,w5,w6,za4,inR,IntKind.bits] at *));omega):p:=h
theorem vbq{p:Prop}(h:p:=by have h9:=(zb0 x0 x1).1 (by simpa using hc1);have h8:=ShJ.lens hI2.1;have h7:=(fam_n h9.1).1;(try simp only[inR]);omega):p:=h
theorem vbr{p:Prop}(h:p:=by((try clear hR); (try clear hK1); intros; (try simp only[w1, w2, w3, w4, w5, w6, za4, inR, IntKind.bits] at *)); omega):p:=h
theorem vbs{p:Prop}(h:p:=by have h4:=hJ1.1;have h5:=hI1.2.gb;have h6:=hI1.2.ok.len;have h7:=hI2.2.len;simp only[oc,ob] at hc1;simp only[inR];omega):p:=h
theorem vbt{p:Prop}(h:p:=by have h9:=zpj x0 hx;((try clear hR);intros;(try simp only[w1,w2,w3,w4,w5,w6,za4,inR,IntKind.bits] at *));omega):p:=h
theorem vbu{p:Prop}(h:p:=by have h4 := hJ1.1; have h5 := hI1.2.gb; have h6 := hI1.2.ok.len; have h7 := hI2.2.len; simp only[oc, ob] at hc1; omega):p:=h
theorem vbv{p:Prop}(h:p:=by((try clear hR);(try clear hK1);intros;(try simp only[w1,w2,w3,w4,w5,w6,za4,inR,IntKind.bits] at *));omega):p:=h
theorem vbw{p:Prop}(h:p:=by have h9 := zht hp hi hj hii1; have := zb4 x0 x1 hp hi; have := zb4 x0 x2 hp hj; omega):p:=h
theorem vbx{p:Prop}(h:p:=by have h9 := fam_n hf; have h8 := hI1.1; have h7 := hI1.2; simp only[ob] at hc1; (try simp only[inR]); omega):p:=h
theorem vby{p:Prop}(h:p:=by have h9 := (zb0 x0 x1).1 (by simpa using hc1); have h8 := fam_n h9.1; (try simp only[inR]); omega):p:=h
theorem vbz{p:Prop}(h:p:=by refine⟨by(first|(simp only[oC];omega)|omega),fun y hy=>?_⟩;first|exact hI1.2 y hy|cases hy):p:=h
theorem vbA{p:Prop}(h:p:=by have h9:=z3d hc1;first|exact h9.1|exact h9.2.1|exact h9.2.2.1|exact h9.2.2.2|omega):p:=h
theorem vbB{p:Prop}(h:p:=by have h9:=fam_n hf;have h8:=hI1.1;have h7:=hI1.2;simp only[ob] at hc1;(try simp only[inR]);omega):p:=h
theorem vbC{p:Prop}(h:p:=by obtain⟨⟨e1, e2⟩, e3, e4⟩ := hI1; first|(rw[e1]; exact zc1 x1 hf)|(rw[e1]; omega)):p:=h
theorem vbD{p:Prop}(h:p:=by(repeat (first|exact hc|refine cuI2 ?_ (by simp) rfl|refine cuO2 ?_ zab rfl)); done):p:=h
theorem vbE{p:Prop}(h:p:=by have h9 := zn2 hr; have h8 := h9.2.2 i1 hii1 i2 hii2; have h7 := hI2.2 i1 zab; omega):p:=h
theorem vbF{p:Prop}(h:p:=by first|(with_reducible exact hJ4)|(with_reducible exact(zbm hJ4 (by simp)).2)):p:=h
theorem vbG{p:Prop}(h:p:=by have hn9 := fam_n hI1.1.2; simp only[zea, oh, oI]; (try simp only at hn9); omega):p:=h
theorem vbJ{p:Prop}(h:p:=by with_reducible exact zzd (zjl hx0).2 zab (zeg hx0 14).2.1.1):p:=h
theorem vbK{p:Prop}(h:p:=by have h7 := om hc7; have h9 := zwa (zgo m) hf hS ha zab hc8; omega):p:=h
theorem vbL{p:Prop}(h:p:=by have hn9:=fam_n hI1.1.2;simp only[zea,oh,oI];(try simp only at hn9);omega):p:=h
theorem vbN{p:Prop}(h:p:=by have h9 := hc.pos; have h8 := hc.len; (try simp only[inR, ob] at *); omega):p:=h
theorem vbO{p:Prop}(h:p:=by(try simp only[ob, oa, oh, Ob, ow, oC, List.length_replicate] at *); omega):p:=h
theorem vbP{p:Prop}(h:p:=by have h9 := za1 hI1.2.2 (n := 2) zab; simp only[inR]; omega):p:=h
theorem vbQ{p:Prop}(h:p:=by have h9:=hg0;simp only[zj0,oc] at h9;first|exact h9.1.2|exact h9.2):p:=h
theorem vbR{p:Prop}(h:p:=by simp only[oc, ob] at hc1; (try dsimp only); (try simp only[inR]); omega):p:=h
theorem vbS{p:Prop}(h:p:=by have h9 := hI1.1; (try simp only[zan, zar, ob] at hc1); omega):p:=h
theorem vbT{p:Prop}(h:p:=by simp only[zar,oa] at hc2;obtain⟨⟨e1,e2⟩,e3,e4⟩:=hI1;rw[e1];omega):p:=h
theorem vbU{p:Prop}(h:p:=by have := zb4 x0 x1 hp hi; have := zb4 x0 x2 hp hj; omega):p:=h
theorem vbW{p:Prop}(h:p:=by have h9 := za1 hc (n := 2) zab; simp only[inR]; omega):p:=h
theorem vbY{p:Prop}(h:p:=by unfold kidN;cases isKid f (v:Int) c<;>cases tk.getD c default<;>simp):p:=h
theorem vbZ{p:Prop}(h:p:=by have h8 := zq4 1 j1 x0; have h9 := zq4 2 j1 x0; omega):p:=h
theorem vb1{p:Prop}(h:p:=by have h9 := zqo hf (x := x0.custom) hp.1 hii1; dsimp only; omega):p:=h
theorem vb2{p:Prop}(h:p:=by have h9 := zi0 hb v1.2.toNat; (try simp only[inR]); omega):p:=h
theorem vb4{p:Prop}(h:p:=by have h9:=zkm hb hi.1 hf hn;(try simp only[inR]);omega):p:=h
theorem vb5{p:Prop}(h:p:=by simp only[ob, oa, od, Bool.not_eq_false'] at *; omega):p:=h
theorem vb6{p:Prop}(h:p:=by exfalso; have h7 := om hc3; have h6 := om hc1; omega):p:=h
theorem vb7{p:Prop}(h:p:=by have h9:=h.rng;(try simp only[inR] at *);omega):p:=h
theorem vb8{p:Prop}(h:p:=by have h9:=h.den;(try simp only[inR] at *);omega):p:=h
theorem vb9{p:Prop}(h:p:=by have := h9.1.2.2 zab; dsimp only; omega):p:=h
theorem vca{p:Prop}(h:p:=by have h9:=fam_n hf;(try simp only[inR]);omega):p:=h
theorem vcc{p:Prop}(h:p:=by with_reducible exact(zeg hx0 14).2.2.2):p:=h
theorem vce{p:Prop}(h:p:=by with_reducible exact(zkr hx0 hI1).gnm):p:=h
theorem vcf{p:Prop}(h:p:=by with_reducible exact(zkr hx0 hI1).c1):p:=h
theorem vcg{p:Prop}(h:p:=by with_reducible exact(zkr hx0 hI1).c2):p:=h
theorem vch{p:Prop}(h:p:=by with_reducible exact(zrs hx0).1.1):p:=h
theorem vci{p:Prop}(h:p:=by with_reducible exact(zrs hx0).1.2):p:=h
theorem vcj{p:Prop}(h:p:=by simp only[oS,Oa,or_false] at h;omega):p:=h
theorem vck{p:Prop}(h:p:=by with_reducible exact(zjl hx0).1):p:=h
theorem vcl{p:Prop}(h:p:=by with_reducible exact(zjl hx0).2):p:=h
theorem vcn{p:Prop}(h:p:=by(try simp only[inR] at h9);omega):p:=h
theorem vco{p:Prop}(h:p:=by simp only[oc, ob] at h9; omega):p:=h
theorem vcq{p:Prop}(h:p:=by intros; simp only[inR]; omega):p:=h
theorem vcr{p:Prop}(h:p:=by simp only[Ob, ob] at *; omega):p:=h
theorem vcx{p:Prop}(h:p:=by intros;simp only[inR];omega):p:=h
theorem vcy{p:Prop}(h:p:=by rw[←zdt]; omega):p:=h
theorem vcA{p:Prop}(h:p:=by with_reducible assumption):p:=h
theorem vcB{p:Prop}(h:p:=by exact zc1 x0 hf):p:=h
theorem vcC{p:Prop}(h:p:=by simp only[ow,oC];omega):p:=h
theorem vcD{p:Prop}(h:p:=by simp only[oh,oI];omega):p:=h
theorem vcE{p:Prop}(h:p:=by(try dsimp only); omega):p:=h
theorem vcF{p:Prop}(h:p:=by(try dsimp only);omega):p:=h
theorem vcH{p:Prop}(h:p:=by have := om hc1; omega):p:=h
theorem vcI{p:Prop}(h:p:=by have := om hc2; omega):p:=h
theorem vcJ{p:Prop}(h:p:=by have := om hc3; omega):p:=h
theorem vcK{p:Prop}(h:p:=by have := om hc5; omega):p:=h
theorem vcP{p:Prop}(h:p:=by have:=oB hc2;omega):p:=h
theorem vcQ{p:Prop}(h:p:=by dsimp only; omega):p:=h
theorem vcS{p:Prop}(h:p:=by exact True.intro):p:=h
theorem vcT{p:Prop}(h:p:=by dsimp only;omega):p:=h
theorem vcV{p:Prop}(h:p:=by simp only;omega):p:=h
theorem vcW{p:Prop}(h:p:=by simpa using hc1):p:=h
theorem vc1{p:Prop}(h:p:=by decide +kernel):p:=h
theorem vc2{p:Prop}(h:p:=by clear hR;omega):p:=h
theorem vc4{p:Prop}(h:p:=by intros; omega):p:=h
theorem vc6{p:Prop}(h:p:=by intros;omega):p:=h
theorem vda{p:Prop}(h:p:=by simp; done):p:=h
theorem vdg{p:Prop}(h:p:=by trivial):p:=h

structure ya where
  name:List UInt8
  sex:Int
  father:Int
  mother:Int
  born:Int
  died:Int
  deriving Inhabited
def zah(fr:Bool)(x:ya):List LV:=cStr x.name++cInt .i64 x.sex++cInt .i64 x.father++cInt .i64 x.mother++cInt .i64 x.born++cInt .i64 x.died

structure yb where
  man:Int
  woman:Int
  from0:Int
  to:Int
  deriving Inhabited
def zas(fr:Bool)(x:yb):List LV:=cInt .i64 x.man++cInt .i64 x.woman++cInt .i64 x.from0++cInt .i64 x.to

structure yc where
  people:List ya
  unions:List yb
  deriving Inhabited
def zaw(fr:Bool)(x:yc):List LV:=cSl fr 6 (zah fr) x.people++cSl fr 4 (zas fr) x.unions

def C97(R:Bool):LV×List (Nat×BC):=(.bool R,[])
def l1In(x0:Int)(x1:Int)(x2:Int):Bool:=(decide (x1≤x0))&&(decide (x0≤x2))
def A97(x0:Int)(x1:Int)(x2:Int):Ann:=.reg 2 [] [] [6] [] [decide (x1≤x0)] [] [] [1,1,1] (rt [] (C97 ((decide (x1≤x0))&&(decide (x0≤x2)))))
theorem ztm(x0:Int)(x1:Int)(x2:Int):FnT Tryz.prog 97 [.int .i64 x0,.int .i64 x1,.int .i64 x2] (C97 (l1In x0 x1 x2)):=by have aux:∀R,l1In x0 x1 x2=R→slim (C97 R) (A97 x0 x1 x2) []:=(by intro R hR;refine rT ?_;exact oe C97 hR);exact Fn.go 15 Tryz.func97 zaa zaa (by simp[C97,Frs,FrsL]) (A97 x0 x1 x2) zaa (aux _ rfl)
def k97(x0:Int)(x1:Int)(x2:Int):Cl:=(hres (C97 (l1In x0 x1 x2)),k0 (ztm x0 x1 x2))
def C141(R:Bool):LV×List (Nat×BC):=(.bool R,[])
def zb7(x0:List UInt8):Bool:=loopN (fun i1 (v1:Unit) next=>bif((decide (((x0.getD i1 0).toNat:Int)<97))||(decide (122<((x0.getD i1 0).toNat:Int)))) then false else(next ())) (fun (v1:Unit)=>l1In ((x0.length:Nat):Int) 1 12) x0.length 0 ()
def z1v(i1:Nat)(v1:Unit):Dl:=⟨[(3,.int .i64 ((i1:Nat):Int))],[]⟩
def A141b1(x0:List UInt8)(i1:Nat)(v1:Unit):Ann:=let q3:=((x0.length:Nat):Int);let q1:=((x0.getD i1 0).toNat:Int);let q4:=decide (q1<97);let q2:=(0≤(((i1:Nat):Int):Int)∧(((i1:Nat):Int):Int)<q3);r0 1 [0,2,3,7] [] (cn (decide (((i1:Nat):Int)<q3)) (.reg 1 [] [] [0,2,3,19] [] [!q4,decide (q1<97)] [pf q2,gt (!q4) (pf q2)] [] [0,1,1,4,1,6] (cn (q4||(decide (122<q1))) (r0 1 [0,2,3] [] (rt [] (C141 false))) (r1 1 [0,2,3] [] [pf (inR .i64 (((i1:Nat):Int)+1))] [0] (.next 0 [] (z1v (i1+1) ()))))) (.reg 1 [] [(2,k97 q3 1 12)] [2] [] [] [] [] [0] (rt [] (C141 (l1In q3 1 12)))))
def A141(x0:List UInt8):Ann:=r0 1 [0,2] [] (r0 1 [0,2,3] [] (lp (z1v) [] [] [] (z1v 0 ()) (A141b1 x0)))
theorem zp4(x0 : List UInt8)(hx : x0.length ≤ 1048576) : FnT Tryz.prog 141 [.str x0] (C141 (zb7 x0)) := by
 have aux : ∀R, zb7 x0 = R → slim (C141 R) (A141 x0) [] := by
  intro R hR;refine rT ?_;refine rT ?_;refine lN (fun i v=>True) vdg rfl (fun i1 v1 F1 hn1 hI1 hR hK1=>?_) hR;refine rT ?_;refine⟨fun hc1=>?_,fun hc1=>?_⟩
  ·have hii1 : i1 < x0.length := vcH;replace hR := zai hR hii1;refine rg ⟨vc4, vc4, trivial⟩ ?_;refine cd (fun hc2 hR => ?_) (fun hc2 hR => ?_) hR
   ·refine rT ?_;exact oe C141 hR
   refine rg ⟨vcx,trivial⟩ ?_;exact hK1 () hii1 vdg hR
  obtain rfl:i1=x0.length:=by have:=oB hc1;omega
  replace hR:=zaq hR (oR _);refine rg ⟨trivial,trivial⟩ ?_;exact oe C141 hR
 exact Fn.go 23 Tryz.func141 zaa zaa (by simp[C141,Frs,FrsL]) (A141 x0) zaa (aux _ rfl)
def k141(x0:List UInt8):Cl:=(hres (C141 (zb7 x0)),k1 (zp4 x0))
def C142(R:Bool):LV×List (Nat×BC):=(.bool R,[])
def zdx(x0:yc)(x1:Int)(x2:Int)(x3:Int)(x4:Int):Bool:=bif(decide (x2=(-1))) then true else(bif(((decide (x2<0))||(decide (x1≤x2)))||(!decide (((x0.people.getD x2.toNat default).sex)=x3))) then false else((decide (((x0.people.getD x2.toNat default).born)<((x0.people.getD x1.toNat default).born)))&&((decide (((x0.people.getD x2.toNat default).died)=(-1)))||(decide (((x0.people.getD x1.toNat default).born)≤(IntKind.wrap .i64 (((x0.people.getD x2.toNat default).died)+x4)))))))
def A142(x0:yc)(x1:Int)(x2:Int)(x3:Int)(x4:Int):Ann:=let q5:=x0.people.getD x2.toNat default;let q3:=(decide (x2<0))||(decide (x1≤x2));let q2:=decide ((q5.died)=(-1));let q4:=(0≤(x2:Int)∧(x2:Int)<((x0.people.length:Nat):Int));let q1:=(q5.born)<((x0.people.getD x1.toNat default).born);let q6:=decide q1;r0 1 [1,2,3,4,5,10] [5] (r0 1 [1,2,3,4,5,10,14] [5] (cn (decide (x2=(-1))) (r0 1 [1,2,3,4,5,10] [5] (rt [] (C142 true))) (.reg 1 [] [] [1,2,4,5,10,31] [5] [!(decide (x2<0)),decide (x2<0),!q3,(decide (x2<0))||(decide (x1≤x2))] [gt (!q3) (pf q4)] [] [1,1,6,9,9,9,0,9,9,9,9,14] (cn (q3||(!decide ((q5.sex)=x3))) (r0 1 [1,2,4,5,10] [5] (rt [] (C142 false))) (.reg 3 [(2013,.wrap)] [] [10] [] [decide q1,q6&&(!q2)] [pf q4,pf (0≤(x1:Int)∧(x1:Int)<((x0.people.length:Nat):Int)),gt q6 (gf q2 (pf ((q6&&(!q2))=true)))] [] [0,4,1,1,1,5,5,5,5,5,1,8,1] (rt [] (C142 (q6&&(q2||(decide (((x0.people.getD x1.toNat default).born)≤(IntKind.wrap .i64 ((q5.died)+x4)))))))))))))
theorem zmy(x0 : yc)(x1 : Int)(x2 : Int)(x3 : Int)(x4 : Int)(hx : x0.people.length ≤ 1048576)(hi : 0 ≤ x1 ∧ x1 < x0.people.length) : FnT Tryz.prog 142 [.agg (zaw false x0), .int .i64 x1, .int .i64 x2, .int .i64 x3, .int .i64 x4] (C142 (zdx x0 x1 x2 x3 x4)) := by
 have aux : ∀R, zdx x0 x1 x2 x3 x4 = R → slim (C142 R) (A142 x0 x1 x2 x3 x4) [] := by
  intro R hR;refine rT ?_;refine rT ?_;refine cd (fun hc1 hR=>?_) (fun hc1 hR=>?_) hR
  ·refine rT ?_;exact oe C142 hR
  refine rg ⟨vbj,trivial⟩ ?_;refine cd (fun hc2 hR=>?_) (fun hc2 hR=>?_) hR
  ·refine rT ?_;exact oe C142 hR
  refine rg ⟨vbj,vdg,vbj,trivial⟩ ?_;exact oe C142 hR
 exact Fn.go 60 Tryz.func142 zaa zaa (by simp[C142,Frs,FrsL]) (A142 x0 x1 x2 x3 x4) zaa (aux _ rfl)
def k142(x0:yc)(x1:Int)(x2:Int)(x3:Int)(x4:Int):Cl:=(hres (C142 (zdx x0 x1 x2 x3 x4)),k2 (zmy x0 x1 x2 x3 x4))
def C120(R:Bool):LV×List (Nat×BC):=(.bool R,[])
def zdl(x0:yc)(x1:Int):Bool:=bif((((!(zb7 ((x0.people.getD x1.toNat default).name)))||(!(l1In ((x0.people.getD x1.toNat default).sex) 1 2)))||(!(l1In ((x0.people.getD x1.toNat default).born) 0 9999)))||((!decide (((x0.people.getD x1.toNat default).died)=(-1)))&&(!(l1In ((x0.people.getD x1.toNat default).died) ((x0.people.getD x1.toNat default).born) 9999)))) then false else(loopN (fun i1 (v1:Unit) next=>bif(((x0.people.getD i1 default).name)==((x0.people.getD x1.toNat default).name)) then false else(next ())) (fun (v1:Unit)=>(zdx x0 x1 ((x0.people.getD x1.toNat default).father) 1 1)&&(zdx x0 x1 ((x0.people.getD x1.toNat default).mother) 2 0)) x1.toNat 0 ())
def z13(i1:Nat)(v1:Unit):Dl:=⟨[(6,.int .i64 ((i1:Nat):Int))],[]⟩
def A120b1(x0:yc)(x1:Int)(i1:Nat)(v1:Unit):Ann:=let q2:=((i1:Nat):Int);let q1:=x0.people.getD x1.toNat default;let q3:=zdx x0 x1 (q1.father) 1 1;r0 1 [1,2,4,5,6,43] [2,5] (cn (decide (q2<x1)) (r1 1 [1,2,4,5,6,54] [2,5] [pf (0≤(q2:Int)∧(q2:Int)<((x0.people.length:Nat):Int))] [0] (cn (((x0.people.getD i1 default).name)==(q1.name)) (r0 1 [1,2,4,5,6] [2,5] (rt [] (C120 false))) (r1 1 [1,2,4,5,6] [2,5] [pf (inR .i64 (q2+1))] [0] (.next 0 [] (z13 (i1+1) ()))))) (.reg 1 [] [(4,k142 x0 x1 (q1.father) 1 1),(10,cg q3 (k142 x0 x1 (q1.mother) 2 0))] [4] [] [zdx x0 x1 (q1.father) 1 1] [] [] [0,1,1,1,1,4,1] (rt [] (C120 (q3&&(zdx x0 x1 (q1.mother) 2 0))))))
def A120(x0:yc)(x1:Int):Ann:=let q1:=x0.people.getD x1.toNat default;let q3:=zb7 (q1.name);let q4:=!decide ((q1.died)=(-1));let q5:=(!q3)||(!(l1In (q1.sex) 1 2));let q2:=q5||(!(l1In (q1.born) 0 9999));r1 2 [1,2,4,5] [2,5] [pf (0≤(x1:Int)∧(x1:Int)<((x0.people.length:Nat):Int))] [0] (.reg 1 [] [(2,k141 (q1.name)),(7,cg (!(!q3)) (k97 (q1.sex) 1 2)),(13,cg (!q5) (k97 (q1.born) 0 9999)),(25,cg ((!q2)&&q4) (k97 (q1.died) (q1.born) 9999))] [1,2,4,5,40] [2,5] [!(!q3),!q3,!q5,(!q3)||(!(l1In (q1.sex) 1 2)),!q2,(!q2)&&q4,q5||(!(l1In (q1.born) 0 9999))] [gt (!q2) (gt q4 (pf (((!q2)&&q4)=true)))] [] [4,1,1,8,1,6,9,9,12,9,14,17,17,17,21,21,21,21,16,21,17,0,26] (cn (q2||(q4&&(!(l1In (q1.died) (q1.born) 9999)))) (r0 1 [1,2,4,5] [2,5] (rt [] (C120 false))) (r0 1 [1,2,4,5,6] [2,5] (lp (z13) [] [] [] (z13 0 ()) (A120b1 x0 x1)))))
theorem zmx(x0 : yc)(x1 : Int)(hx : x0.people.length ≤ 1048576)(hn : ∀p ∈ x0.people, p.name.length ≤ 1048576)(hi : 0 ≤ x1 ∧ x1 < x0.people.length) : FnT Tryz.prog 120 [.agg (zaw false x0), .int .i64 x1] (C120 (zdl x0 x1)) := by
 have aux : ∀R, zdl x0 x1 = R → slim (C120 R) (A120 x0 x1) [] := by
  intro R hR;refine rg ⟨vdg,trivial⟩ ?_;refine rg ⟨by((try clear hR);intros;(try simp only[ob,oa,oj,oc,zar,zan,not_t_iff,od,inR] at *);(repeat' apply And.intro)<;>(first|(intros;omega)|(simp_all [inR];done))),vbe,fun hg0=>trivial,fun hg0=>trivial,fun hg0=>trivial,trivial⟩ ?_;refine cd (fun hc1 hR=>?_) (fun hc1 hR=>?_) hR
  ·refine rT ?_;exact oe C120 hR
  refine rT ?_;refine lN (fun i v=>True) vdg rfl (fun i1 v1 F1 hn1 hI1 hR hK1=>?_) hR;refine rT ?_;refine⟨fun hc2=>?_,fun hc2=>?_⟩
  ·have hii1 : i1 < x1.toNat := vcI;replace hR := zai hR hii1;refine rg ⟨vc4, trivial⟩ ?_;refine cd (fun hc3 hR => ?_) (fun hc3 hR => ?_) hR
   ·refine rT ?_;exact oe C120 hR
   refine rg ⟨vcx,trivial⟩ ?_;exact hK1 () hii1 vdg hR
  obtain rfl:i1=x1.toNat:=by have:=oB hc2;omega
  replace hR:=zaq hR (oR _);refine rg ⟨⟨vdg,vdg⟩,fun hg0=>⟨vdg,vdg⟩,trivial⟩ ?_;exact oe C120 hR
 exact Fn.go 67 Tryz.func120 zaa zaa (by simp[C120,Frs,FrsL]) (A120 x0 x1) zaa (aux _ rfl)
def k120(x0:yc)(x1:Int):Cl:=(hres (C120 (zdl x0 x1)),k3 (zmx x0 x1))
def C88(R:(List Int)):LV×List (Nat×BC):=(.own 0,[(0,.arr 1 R.length (rowOf (cInt .i64) R))])
def zat(x0:yc):(List Int):=loopN (fun i1 (v1:(List Int)) next=>bif(decide (0≤((x0.people.getD i1 default).father))) then(bif(decide (0≤((x0.people.getD i1 default).mother))) then(next (v1++[Max.max ((v1.getD (((x0.people.getD i1 default).father).toNat) default)+1) ((v1.getD (((x0.people.getD i1 default).mother).toNat) default)+1)])) else(next (v1++[(v1.getD (((x0.people.getD i1 default).father).toNat) default)+1]))) else(bif(decide (0≤((x0.people.getD i1 default).mother))) then(next (v1++[Max.max 0 ((v1.getD (((x0.people.getD i1 default).mother).toNat) default)+1)])) else(next (v1++[0])))) (fun (v1:(List Int))=>v1) x0.people.length 0 ([]:List Int)
def D88b1(i1:Nat)(v1:(List Int)):Dl:=⟨[(11,.int .i64 ((i1:Nat):Int)),(3,.own 20003)],[(20003,.arr 1 v1.length (rowOf (cInt .i64) v1))]⟩
def A88b1(x0:yc)(i1:Nat)(v1:(List Int)):Ann:=let q6:=((i1:Nat):Int);let q1:=x0.people.getD i1 default;let q7:=((x0.people.length:Nat):Int);let q4:=inR .i64 (q6+1);let q8:=decide (0≤(q1.mother));let q3:=v1.getD ((q1.father).toNat) default;let q2:=(v1.getD ((q1.mother).toNat) default)+1;let q9:=q3+1;let q5:=(0≤(q1.mother:Int)∧(q1.mother:Int)<((v1.length:Nat):Int));r0 1 [2,3,9,10,11,12] [20003] (cn (decide (q6<q7)) (r1 2 [2,3,5,6,9,10,11] [5,20003] [pf (0≤(q6:Int)∧(q6:Int)<q7)] [0] (r0 1 [2,3,5,6,9,10,11,17] [5,20003] (cn (decide (0≤(q1.father))) (r1 1 [2,3,5,6,9,10,11] [5,20003] [pf (0≤(q1.father:Int)∧(q1.father:Int)<((v1.length:Nat):Int)),pf (inR .i64 q9)] [0,4] (r0 1 [2,3,5,6,9,10,11,26] [5,20003] (cn q8 (r1 1 [2,3,6,9,10,11] [20003] [pf q5,pf (inR .i64 q2)] [0,4] (.reg 1 [] [(2,bsC 37 (cInt .i64) ([Max.max q9 q2]:List Int)),(3,ap1 38 (cInt .i64) 8 v1 (Max.max q9 q2))] [2,3,9,10,11] [38] [] [] [] [0,4] (r1 1 [2,3,9,10,11] [38] [pf q4] [0] (.next 0 [(20003,some 38)] (D88b1 (i1+1) (v1++[Max.max q9 q2])))))) (.reg 1 [] [(2,bsC 37 (cInt .i64) ([q3+1]:List Int)),(3,ap1 38 (cInt .i64) 8 v1 q9)] [2,3,9,10,11] [38] [] [] [] [0,4] (r1 1 [2,3,9,10,11] [38] [pf q4] [0] (.next 0 [(20003,some 38)] (D88b1 (i1+1) (v1++[q3+1])))))))) (r0 1 [2,3,5,6,9,10,11,26] [5,20003] (cn q8 (r1 1 [2,3,6,9,10,11] [20003] [pf q5,pf (inR .i64 q2)] [0,4] (.reg 1 [] [(2,bsC 37 (cInt .i64) ([Max.max 0 q2]:List Int)),(3,ap1 38 (cInt .i64) 8 v1 (Max.max 0 q2))] [2,3,9,10,11] [38] [] [] [] [0,4] (r1 1 [2,3,9,10,11] [38] [pf q4] [0] (.next 0 [(20003,some 38)] (D88b1 (i1+1) (v1++[Max.max 0 q2])))))) (.reg 1 [] [(2,bsC 37 (cInt .i64) ([0]:List Int)),(3,ap1 38 (cInt .i64) 8 v1 0)] [2,3,9,10,11] [38] [] [] [] [0,4] (r1 1 [2,3,9,10,11] [38] [pf q4] [0] (.next 0 [(20003,some 38)] (D88b1 (i1+1) (v1++[0])))))))))) (r0 1 [2] [20003] (rt [(0,some 20003)] (C88 v1))))
def A88(x0:yc):Ann:=.reg 2 [] [(1000,bsC 7 (cInt .i64) ([]:List Int))] [1,2,3] [1,7] [] [] [] [0] (r0 1 [2,3,9,10,11] [7] (lp (D88b1) [] [7] [(20003,some 7)] (D88b1 0 ([]:List Int)) (A88b1 x0)))
theorem zes(x:yc):(zat x).length=x.people.length:=by unfold zat;refine za3 (fun i (v:List Int)=>v.length=i) (fun (r:List Int)=>r.length=x.people.length) rfl (fun i v next _ hv hn=>?_) (fun v hv=>hv);cases decide (0≤(x.people.getD i default).father)<;>cases decide (0≤(x.people.getD i default).mother)<;>exact hn _ (by simp[hv])
theorem zm0(x0 : yc)(hx : x0.people.length ≤ 1048576)(hp : ∀(k : Nat), k < x0.people.length → (x0.people.getD k default).father < k ∧ (x0.people.getD k default).mother < k) : FnT Tryz.prog 88 [.agg (zaw false x0)] (C88 (zat x0)) := by
 have aux : ∀R, zat x0 = R → slim (C88 R) (A88 x0) [] := by
  intro R hR;refine rg ⟨trivial,trivial⟩ ?_;refine rT ?_;refine lN (fun i v=>v.length=i∧∀k:Nat,k<i→0≤v.getD k default∧v.getD k default≤i) vdg rfl (fun i1 v1 F1 hn1 hI1 hR hK1=>?_) hR;refine rT ?_;refine⟨fun hc1=>?_,fun hc1=>?_⟩
  ·have hii1 : i1 < x0.people.length := vcH;replace hR := zai hR hii1;refine rg ⟨vc4, trivial⟩ ?_;refine rT ?_;refine cd (fun hc2 hR => ?_) (fun hc2 hR => ?_) hR
   ·refine rg ⟨vaP, vaL, trivial⟩ ?_;refine rT ?_;refine cd (fun hc3 hR => ?_) (fun hc3 hR => ?_) hR
    ·refine rg ⟨vaP, vaL, trivial⟩ ?_;refine rg ⟨trivial, vdh, trivial⟩ ?_;refine rg ⟨vcq, trivial⟩ ?_;exact hK1 (v1 ++ [Max.max ((v1.getD (((x0.people.getD i1 default).father).toNat) default) + 1) ((v1.getD (((x0.people.getD i1 default).mother).toNat) default) + 1)]) hii1 vaE hR
    refine rg ⟨trivial,vdh,trivial⟩ ?_;refine rg ⟨vcx,trivial⟩ ?_;exact hK1 (v1++[(v1.getD (((x0.people.getD i1 default).father).toNat) default)+1]) hii1 vaH hR
   refine rT ?_;refine cd (fun hc4 hR=>?_) (fun hc4 hR=>?_) hR
   ·refine rg ⟨vaP, vaL, trivial⟩ ?_;refine rg ⟨trivial, vdh, trivial⟩ ?_;refine rg ⟨vcq, trivial⟩ ?_;exact hK1 (v1 ++ [Max.max 0 ((v1.getD (((x0.people.getD i1 default).mother).toNat) default) + 1)]) hii1 vaE hR
   refine rg ⟨trivial,vdh,trivial⟩ ?_;refine rg ⟨vcx,trivial⟩ ?_;exact hK1 (v1++[0]) hii1 vaH hR
  obtain rfl:i1=x0.people.length:=by have:=oB hc1;omega
  replace hR:=zaq hR (oR _);refine rT ?_;exact oe C88 hR
 exact Fn.go 41 Tryz.func88 zaa zaa (by simp[C88,Frs,FrsL,FrsB,rowOf,cInt,cBool,cStr,cSl,zbd,zah,zas,zaw]) (A88 x0) zaa (aux _ rfl)
def k88(x0:yc):Cl:=(hres (C88 (zat x0)),k2 (zm0 x0))
def C121(R:Bool):LV×List (Nat×BC):=(.bool R,[])
def zf1(x0:yc)(x1:Int):Bool:=bif((((!(l1In ((x0.unions.getD x1.toNat default).man) 0 (((x0.people.length:Nat):Int) - 1)))||(!(l1In ((x0.unions.getD x1.toNat default).woman) 0 (((x0.people.length:Nat):Int) - 1))))||(!decide (((x0.people.getD (((x0.unions.getD x1.toNat default).man).toNat) default).sex)=1)))||(!decide (((x0.people.getD (((x0.unions.getD x1.toNat default).woman).toNat) default).sex)=2))) then false else(bif((decide (9999<((x0.unions.getD x1.toNat default).from0)))||((!decide (((x0.unions.getD x1.toNat default).to)=(-1)))&&(!(l1In ((x0.unions.getD x1.toNat default).to) ((x0.unions.getD x1.toNat default).from0) 9999)))) then false else(loopN (fun i1 (v1:Unit) next=>bif((decide (((x0.unions.getD x1.toNat default).from0)<((x0.people.getD (([(x0.unions.getD x1.toNat default).man,(x0.unions.getD x1.toNat default).woman].getD i1 default).toNat) default).born)))||((!decide (((x0.people.getD (([(x0.unions.getD x1.toNat default).man,(x0.unions.getD x1.toNat default).woman].getD i1 default).toNat) default).died)=(-1)))&&((decide (((x0.people.getD (([(x0.unions.getD x1.toNat default).man,(x0.unions.getD x1.toNat default).woman].getD i1 default).toNat) default).died)<((x0.unions.getD x1.toNat default).from0)))||(decide (((x0.people.getD (([(x0.unions.getD x1.toNat default).man,(x0.unions.getD x1.toNat default).woman].getD i1 default).toNat) default).died)<((x0.unions.getD x1.toNat default).to)))))) then false else(next ())) (fun (v1:Unit)=>loopN (fun i2 (v2:Unit) next=>bif((decide (((x0.unions.getD i2 default).man)=((x0.unions.getD x1.toNat default).man)))&&(decide (((x0.unions.getD i2 default).woman)=((x0.unions.getD x1.toNat default).woman)))) then false else(next ())) (fun (v2:Unit)=>true) x1.toNat 0 ()) 2 0 ()))
def z12(i1:Nat)(v1:Unit):Dl:=⟨[(75,.int .i64 ((i1:Nat):Int))],[]⟩
def z11(i2:Nat)(v2:Unit):Dl:=⟨[(10,.int .i64 ((i2:Nat):Int))],[]⟩
def A121b2(x0:yc)(x1:Int)(i2:Nat)(v2:Unit):Ann:=let q1:=((x0.unions.getD i2 default).man)=((x0.unions.getD x1.toNat default).man);let q2:=(0≤(((i2:Nat):Int):Int)∧(((i2:Nat):Int):Int)<((x0.unions.length:Nat):Int));r0 1 [1,2,4,5,10,111] [2,5] (cn (decide (((i2:Nat):Int)<x1)) (.reg 1 [] [] [1,2,4,5,10,133] [2,5] [decide q1] [pf q2,gt (decide q1) (pf q2)] [] [0,1,1,1,4,1,1,1,1,1,1] (cn ((decide q1)&&(decide (((x0.unions.getD i2 default).woman)=((x0.unions.getD x1.toNat default).woman)))) (r0 1 [1,2,4,5,10] [2,5] (rt [] (C121 false))) (r1 1 [1,2,4,5,10] [2,5] [pf (inR .i64 (((i2:Nat):Int)+1))] [0] (.next 0 [] (z11 (i2+1) ()))))) (r0 1 [4] [] (rt [] (C121 true))))
def A121b1(x0:yc)(x1:Int)(i1:Nat)(v1:Unit):Ann:=let q6:=((i1:Nat):Int);let q2:=x0.unions.getD x1.toNat default;let q7:=(([q2.man,q2.woman].getD i1 default):Int);let q1:=(x0.people.getD (([q2.man,q2.woman].getD i1 default).toNat) default);let q4:=!decide ((q1.died)=(-1));let q3:=decide ((q2.from0)<(q1.born));let q5:=decide ((q1.died)<(q2.from0));let q8:=(!q3)&&q4;r0 1 [1,2,4,5,73,74,75,76] [2,5,73] (cn (decide (q6<2)) (.reg 3 [] [] [1,2,4,5,73,74,75,107] [2,5,73] [!q3,(!q3)&&q4,q8&&(!q5),decide ((q2.from0)<(q1.born))] [pf (0≤(q6:Int)∧(q6:Int)<((2:Nat):Int)),pf (0≤q7∧q7<((x0.people.length:Nat):Int)),gt q8 (gf q5 (pf ((q8&&(!q5))=true))),gt (!q3) (gt q4 (pf (q8=true)))] [] [0,4,1,1,1,5,5,5,5,5,9,9,9,9,5,8,1,12,14] (cn (q3||(q4&&(q5||(decide ((q1.died)<(q2.to)))))) (r0 1 [1,2,4,5,73,74,75] [2,5,73] (rt [] (C121 false))) (r1 1 [1,2,4,5,73,74,75] [2,5,73] [pf (inR .i64 (q6+1))] [0] (.next 0 [] (z12 (i1+1) ()))))) (r0 1 [1,2,4,5,10] [2,5] (lp (z11) [] [] [] (z11 0 ()) (A121b2 x0 x1))))
def A121(x0:yc)(x1:Int):Ann:=let q8:=((x0.people.length:Nat):Int);let q1:=x0.unions.getD x1.toNat default;let q2:=q8 - 1;let q6:=!decide ((q1.to)=(-1));let q5:=decide (9999<(q1.from0));let q7:=l1In (q1.man) 0 q2;let q4:=!decide (((x0.people.getD ((q1.man).toNat) default).sex)=1);let q3:=(!q7)||(!(l1In (q1.woman) 0 q2));r1 3 [1,2,4,5,6] [2,5] [pf (0≤(x1:Int)∧(x1:Int)<((x0.unions.length:Nat):Int))] [0] (.reg 1 [] [(4,k97 (q1.man) 0 q2),(11,cg (!(!q7)) (k97 (q1.woman) 0 q2))] [1,2,4,5,52] [2,5] [!(!q7),!q7,!q3,(!q7)||(!(l1In (q1.woman) 0 q2)),!(q3||q4),q3||q4] [pf (inR .i64 q2),gt (!(!q7)) (pf (inR .i64 q2)),gt (!q3) (pf (0≤(q1.man:Int)∧(q1.man:Int)<q8)),gt (!(q3||q4)) (pf (0≤(q1.woman:Int)∧(q1.woman:Int)<q8))] [] [0,16,1,1,4,1,1,20,1,6,9,9,9,9,8,9,9,9,14,17,17,17,17,12,17,17,17,22] (cn ((q3||q4)||(!decide (((x0.people.getD ((q1.woman).toNat) default).sex)=2))) (r0 1 [1,2,4,5] [2,5] (rt [] (C121 false))) (.reg 1 [] [(12,cg ((!q5)&&q6) (k97 (q1.to) (q1.from0) 9999))] [1,2,4,5,68] [2,5] [!q5,(!q5)&&q6,decide (9999<(q1.from0))] [gt (!q5) (gt q6 (pf (((!q5)&&q6)=true)))] [] [1,1,1,5,5,5,5,4,5,1,0,10] (cn (q5||(q6&&(!(l1In (q1.to) (q1.from0) 9999)))) (r0 1 [1,2,4,5] [2,5] (rt [] (C121 false))) (.reg 1 [] [(4,bsC 73 (cInt .i64) ([q1.man,q1.woman]:List Int))] [1,2,4,5,73,74,75] [2,5,73] [] [] [] [0] (lp (z12) [] [] [] (z12 0 ()) (A121b1 x0 x1)))))))
theorem zoc(x0 : yc)(x1 : Int)(hx : x0.people.length ≤ 1048576)(hu : x0.unions.length ≤ 1048576)(hi : 0 ≤ x1 ∧ x1 < x0.unions.length) : FnT Tryz.prog 121 [.agg (zaw false x0), .int .i64 x1] (C121 (zf1 x0 x1)) := by
 have aux : ∀R, zf1 x0 x1 = R → slim (C121 R) (A121 x0 x1) [] := by
  intro R hR;refine rg ⟨vdg,trivial⟩ ?_;refine rg ⟨vcx,vcx,vbg,vbg,trivial,fun hg0=>trivial,trivial⟩ ?_;refine cd (fun hc1 hR=>?_) (fun hc1 hR=>?_) hR
  ·refine rT ?_;exact oe C121 hR
  refine rg ⟨vbg,fun hg0=>trivial,trivial⟩ ?_;refine cd (fun hc2 hR=>?_) (fun hc2 hR=>?_) hR
  ·refine rT ?_;exact oe C121 hR
  refine rg ⟨trivial,trivial⟩ ?_;refine lN (fun i v=>True) vdg rfl (fun i1 v1 F1 hn1 hI1 hR hK1=>?_) hR;refine rT ?_;refine⟨fun hc3=>?_,fun hc3=>?_⟩
  ·have hii1 : i1 < 2 := vcJ;replace hR := zai hR hii1;refine rg ⟨vc4, by ((try clear hR hK1); intros; (try simp only [ob, oa, oj, oc, zar, zan, not_t_iff, od, inR, l1In] at *); (repeat' apply And.intro) <;> grind [inR, zbc, zeb, zd2, Ob, zjb, l1In]), va1, va1, trivial⟩ ?_;refine cd (fun hc4 hR => ?_) (fun hc4 hR => ?_) hR
   ·refine rT ?_;exact oe C121 hR
   refine rg ⟨vcx,trivial⟩ ?_;exact hK1 () hii1 vdg hR
  obtain rfl:i1=2:=by have:=oB hc3;omega
  replace hR:=zaq hR (oR _);refine rT ?_;refine lN (fun i v=>True) vdg rfl (fun i2 v2 F2 hn2 hI2 hR hK2=>?_) hR;refine rT ?_;refine⟨fun hc5=>?_,fun hc5=>?_⟩
  ·have hii2 : i2 < x1.toNat := vcK;replace hR := zai hR hii2;refine rg ⟨vc4, vc4, trivial⟩ ?_;refine cd (fun hc6 hR => ?_) (fun hc6 hR => ?_) hR
   ·refine rT ?_;exact oe C121 hR
   refine rg ⟨vcx,trivial⟩ ?_;exact hK2 () hii2 vdg hR
  obtain rfl:i2=x1.toNat:=by have:=oB hc5;omega
  replace hR:=zaq hR (oR _);refine rT ?_;exact oe C121 hR
 exact Fn.go 134 Tryz.func121 zaa zaa (by simp[C121,Frs,FrsL]) (A121 x0 x1) zaa (aux _ rfl)
def k121(x0:yc)(x1:Int):Cl:=(hres (C121 (zf1 x0 x1)),k3 (zoc x0 x1))
end Go.Proofs.YtnibbmmljamolaaGreat
