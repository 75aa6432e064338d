/- Make, Mk2, Poly1, Same, Rf5 -/
import Derived.Test.YtohahgiidooijaaGreatQNM7
import Derived.Test.YtohahgiidooijaaGreatQNM1
set_option linter.unusedVariables false
namespace Go.Proofs.YtohahgiidooijaaGreat
open Go.RowKit Go.Front Go.Num
attribute [local go_sem] XW.cell XW.frozen
def InR(xs:List Int):Prop:=∀ x ∈ xs,-9223372036854775808≤x∧x≤9223372036854775807
theorem eB.cells'{w:World}{ao:Option Addr}{n c:Nat}{qs:List Rat}(h:eB w ⟨ao,n,c⟩ qs){k:Nat}(hk:k<n):∃ b off r,ao=some ⟨b,off,none⟩∧b<w.heap.size∧RAt w b (off+k*3) r∧bX w r (qs.getD k 0) :=
 let ⟨b,off,r,h1,h2,h3⟩:=h.at hk;⟨b,off,r,h1,nXo _ _ h2.1,h2,h3⟩
set_option maxRecDepth 8000
set_option maxHeartbeats 4000000
theorem aV.rawn{w:World}{s:IH}{z:Int}(h:aV w s z){w':World}{t:IH}{y:Int}(k:b8 w' t y)(hz:z.natAbs≤y.natAbs):b8 w s z:=by
 obtain ⟨ds,h1,h2,h3⟩:=k;have h4:=d9 h1 t.neg;rw [←h2] at h4;exact h.rawk (k:=t.n) (nXz hz h4) h3
theorem kg(s t:IH)(z y:Int)(w:World)(h:b8 w s z)(k:b8 w t y):av 218 [s.v,t.v] w IH.v (fun s w'=>aV w' s (z-y)):=by
 obtain ⟨neg,ao,n,c⟩:=s;obtain ⟨neg',bo,m,d⟩:=t;have HR:=Hi h;have KR:=Hi k;have HX:=Hi (Ext.refl w);have HV:Hid (z-y=z+-y):=Hi (by omega);clear h k;unfold av;go_enter Tryz.func218,Tryz.ntmps218
 go_upto_region 1 with fail
 refine nY ?_;intro w1 hE B2 B3 B4 hz_w1 hr_w1;refine mV3 hE ?_ HR KR HX;clear HR KR HX;intro HR KR HX;have hs_w1:=hE.size;clear hE;replace b_B2:=bX3 B2;replace b_B3:=bX3 B3;replace b_B4:=bX3 B4;refine wpG 4 (fun opIx=>match opIx with
  | 2=>.spec IH default IH.v (fun s w'=>aV w' s (-y))
  | 3=>.spec IH default IH.v (fun s w'=>aV w' s (z+-y))
  | _=>.quiet) (fun|3=>[2]|_=>[]) fun w0 he0 hz0 hc0 hf0=>?_
 refine wps he0.out rfl rfl (fun w1 hW hG=>?_) fun x2=>?_
 ·exact spc [IH.v ⟨neg',bo,m,d⟩] Tryz.func154 (gx ⟨neg',bo,m,d⟩ y _ (KR.out.ext hW))
 refine qZ ?_;refine wps he0.out rfl rfl (fun w1 hW hG=>?_) fun x3=>?_
 ·have g2:=(hG 2 (by decide):aM _ _).get fun _ e g=>g.ext e
  exact spc [IH.v ⟨neg,ao,n,c⟩,x2.v] Tryz.func142 (gy ⟨neg,ao,n,c⟩ x2 z (-y) _ (HR.out.ext hW) (g2.rawn KR.out (by omega)))
 refine qZ ?_;refine am ?_;intro w2 hI;have hE:=he0.out.trans hI.ext;have G2:=gT (hI.facts 2);have G3:=gT (hI.facts 3);clear hI he0 hz0 hc0 hf0;refine mV6 hE ?_ B2 B3 B4 HX HR KR;clear B2 B3 B4 HX HR KR;intro B2 B3 B4 HX HR KR;have hs_w2:=hE.size;clear hE;replace b_B2:=bX3 B2;replace b_B3:=bX3 B3;replace b_B4:=bX3 B4;simp only [pD];rw [←HV.out] at G3;go_wp2;have hF:=((Fin.start (L:=w.heap.size+2) HX.out (aj B4.out rfl)).set (by omega) (i:=0) (v:=.bool x3.neg) rfl).set (by omega) (i:=1) (v:=.slice x3.a x3.n x3.c) rfl;exact bodyPost_ret (v:=x3.v) (by simp [results,Tryz.results218,go_sem,ab B4.out]) rfl ⟨x3,rfl,hF.ext,G3.out.keep hF.keep⟩
theorem lQ(z y:Int):bq (z-y) 0=bq z y:=by
 unfold bq;split
 ·rw [if_pos (by omega)]
 ·split
  ·rw [if_neg (by omega),if_pos (by omega)]
  ·rw [if_neg (by omega),if_neg (by omega)]
theorem ko(s t:IH)(z y:Int)(k:Nat)(w:World)(h:b8 w s z)(g:b8 w t y)(hz:z.natAbs<W32 ^ k)(hy:y.natAbs<W32 ^ k)(hk:k≤1073741823)(hk1:1≤k):av 174 [s.v,t.v] w (fun _:Unit=>.int .i64 (bq z y)) (fun _ _=>True):=by
 obtain ⟨neg,ao,n,c⟩:=s;obtain ⟨neg',bo,m,d⟩:=t;have HR:=Hi h;have KR:=Hi g;have HX:=Hi (Ext.refl w);have HV:=Hi (lQ z y);have HL:Hid ((z-y).natAbs<W32 ^ (k+1)):=Hi (by
  have h5:W32 ^ k*2≤W32 ^ (k+1):=by rw [nXq];exact nXf _ (by decide)
  omega)
 clear h g hz hy;unfold av;go_enter Tryz.func174,Tryz.ntmps174
 go_wp2_with fail
 refine k9 (F:=fun W=>Calls _ _ _ W _) ?_;intro w1 hE B2 B3 hz_w1 hr_w1;refine mV3 hE ?_ HR KR HX;clear HR KR HX;intro HR KR HX;have hs_w1:=hE.size;clear hE;replace b_B2:=bX3 B2;replace b_B3:=bX3 B3
 change Calls _ _ _ _ _
 refine cM (kg ⟨neg,ao,n,c⟩ ⟨neg',bo,m,d⟩ z y _ HR.out KR.out) fun x2 w2 hE G2=>?_
 refine mV5 hE ?_ B2 B3 HR KR HX;clear B2 B3 HR KR HX;intro B2 B3 HR KR HX;have hs_w2:=hE.size;clear hE;replace b_B2:=bX3 B2;replace b_B3:=bX3 B3
 go_wp2_with fail
 refine cM (br x2 (z-y) _ (G2.out.rawk HL.out (by omega))) fun x3 w3 hE _=>?_
 refine mV6 hE ?_ G2 B2 B3 HR KR HX;clear G2 B2 B3 HR KR HX;intro G2 B2 B3 HR KR HX;have hs_w3:=hE.size;clear hE;replace b_B2:=bX3 B2;replace b_B3:=bX3 B3;rw [HV.out];go_wp2
 go_ret
 exact ⟨(),rfl,HX.out,trivial⟩
theorem kI{z e z' e':Int}{q r:Rat}(h0:0<e)(k0:0<e')(h:(z:Rat) / (e:Rat)=q)(k:(z':Rat) / (e':Rat)=r):bq (z*e') (z'*e)=fS q r:=by
 have f:∀ (a b:Int),0<b→(a:Rat) / (b:Rat)=mkRat a b.natAbs:=fun a b hb=>by
  rw [Rat.mkRat_eq_div]
  congr 1
  rw [←Rat.intCast_natCast,Int.natAbs_of_nonneg (by omega)]
 rw [←h,←k,f z e h0,f z' e' k0,kK (by omega) (by omega)];rw [Int.natAbs_of_nonneg (by omega),Int.natAbs_of_nonneg (by omega)]
theorem fO{a b:Int}(h:Big a)(k:Big b):(a*b).natAbs<W32 ^ (jv+jv):=by
 rw [Int.natAbs_mul];exact eW h k
theorem dC:jv+jv≤1073741823∧jv+jv≤1073741824∧1≤jv+jv:=by unfold jv;omega
theorem cj(s t:RH)(q r:Rat)(w:World)(h:bX w s q)(k:bX w t r):av 108 [s.v,t.v] w (fun _:Unit=>.int .i64 (fS q r)) (fun _ _=>True):=by
 obtain ⟨neg,ao,n,c,bo,m,d⟩:=s;obtain ⟨neg',ao',n',c',bo',m',d'⟩:=t;have HR:=Hi h;have KR:=Hi k;have HX:=Hi (Ext.refl w);clear h k;unfold av;go_enter Tryz.func108,Tryz.ntmps108
 go_wp2_with fail
 refine k9 (F:=fun W=>Calls _ _ _ W _) ?_;intro w1 hE B2 B3 hz_w1 hr_w1;refine mV3 hE ?_ HR KR HX;clear HR KR HX;intro HR KR HX;have hs_w1:=hE.size;clear hE;replace b_B2:=bX3 B2;replace b_B3:=bX3 B3
 change Calls _ _ _ _ _
 refine cM (bw ⟨neg,ao,n,c,bo,m,d⟩ q _ HR.out) fun x2 w2 hE G2=>?_
 refine mV5 hE ?_ B2 B3 HR KR HX;clear B2 B3 HR KR HX;intro B2 B3 HR KR HX;have hs_w2:=hE.size;clear hE;replace b_B2:=bX3 B2;replace b_B3:=bX3 B3;obtain ⟨⟨an,aa,al,ac⟩,⟨bn,ba,bl,bc⟩⟩:=x2;obtain ⟨z,e,g1,g2,p3,g4,p5,p6⟩:=G2.out.div;have J1:=Hi g1;have J2:=Hi g2;have J4:=Hi g4;have P3:=Hi p3;have P5:=Hi p5;have P6:=Hi p6;clear g1 g2 g4 p3 p5 p6 G2;simp only [PP]
 go_upto_region 2 with fail
 refine k9 ?_;intro y3 hE B5 B6 hz_y3 hr_y3;refine mV7 hE ?_ B2 B3 HR KR HX J1 J2;clear B2 B3 HR KR HX J1 J2;intro B2 B3 HR KR HX J1 J2;have hs_y3:=hE.size;clear hE;replace b_B2:=bX3 B2;replace b_B3:=bX3 B3;replace b_B5:=bX3 B5;replace b_B6:=bX3 B6
 go_wp2_with fail
 refine cM (bw ⟨neg',ao',n',c',bo',m',d'⟩ r _ KR.out) fun x4 w4 hE G4=>?_
 refine mV8 hE ?_ B5 B6 B2 B3 HR KR HX J1;clear B5 B6 B2 B3 HR KR HX J1;intro B5 B6 B2 B3 HR KR HX J1;replace J2:=mV hE J2;have hs_w4:=hE.size;clear hE;replace b_B2:=bX3 B2;replace b_B3:=bX3 B3;replace b_B5:=bX3 B5;replace b_B6:=bX3 B6;obtain ⟨⟨an',aa',al',ac'⟩,⟨bn',ba',bl',bc'⟩⟩:=x4;obtain ⟨z',e',g1,g2,p3,g4,p5,p6⟩:=G4.out.div;have K1:=Hi g1;have K2:=Hi g2;have K4:=Hi g4;have Q3:=Hi p3;have Q5:=Hi p5;have Q6:=Hi p6;clear g1 g2 g4 p3 p5 p6 G4;simp only [PP]
 go_upto_region 3 with fail
 refine k9 ?_;intro y5 hE B7 B8 hz_y5 hr_y5;refine mV8 hE ?_ B5 B6 B2 B3 HR KR HX J1;clear B5 B6 B2 B3 HR KR HX J1;intro B5 B6 B2 B3 HR KR HX J1;refine mV3 hE ?_ J2 K1 K2;clear J2 K1 K2;intro J2 K1 K2;have hs_y5:=hE.size;clear hE;replace b_B2:=bX3 B2;replace b_B3:=bX3 B3;replace b_B5:=bX3 B5;replace b_B6:=bX3 B6;replace b_B7:=bX3 B7;replace b_B8:=bX3 B8;have HV:=Hi (kI P3.out Q3.out J4.out K4.out);have M1:=Hi (fO P5.out Q6.out);have M2:=Hi (fO Q5.out P6.out);clear J4 K4;refine wpG 7 (fun opIx=>match opIx with
  | 2=>.spec IH default IH.v (fun s w'=>aV w' s (z*e'))
  | 5=>.spec IH default IH.v (fun s w'=>aV w' s (z'*e))
  | 6=>.spec Unit () (fun _=>.int .i64 (fS q r)) (fun _ _=>True)
  | _=>.quiet) (fun|6=>[2,5]|_=>[]) fun w0 he0 hz0 hc0 hf0=>?_
 refine wps he0.out rfl rfl (fun w1 hW hG=>?_) fun x2=>?_
 ·exact spc [IH.v ⟨an,aa,al,ac⟩,IH.v ⟨bn',ba',bl',bc'⟩] Tryz.func112 (bm _ _ _ _ _ (J1.out.ext hW) (K2.out.ext hW))
 refine qZ ?_;refine wps he0.out rfl rfl (fun w1 hW hG=>?_) fun x5=>?_
 ·exact spc [IH.v ⟨an',aa',al',ac'⟩,IH.v ⟨bn,ba,bl,bc⟩] Tryz.func112 (bm _ _ _ _ _ (K1.out.ext hW) (J2.out.ext hW))
 refine qZ ?_;refine wps he0.out rfl rfl (fun w1 hW hG=>?_) fun x6=>?_
 ·have g2:=(hG 2 (by decide):aM _ _).get fun _ e g=>g.ext e
  have g5:=(hG 5 (by decide):aM _ _).get fun _ e g=>g.ext e
  exact spc [x2.v,x5.v] Tryz.func174 (HV.out ▸ ko x2 x5 _ _ (jv+jv) _ (g2.rawk M1.out dC.2.1) (g5.rawk M2.out dC.2.1) M1.out M2.out dC.1 dC.2.2)
 refine qZ ?_;refine am ?_;intro w6 hI;have hE:=he0.out.trans hI.ext;have G2:=gT (hI.facts 2);have G5:=gT (hI.facts 5);clear hI he0 hz0 hc0 hf0;refine mV8 hE ?_ B7 B8 B5 B6 B2 B3 HR KR;clear B7 B8 B5 B6 B2 B3 HR KR;intro B7 B8 B5 B6 B2 B3 HR KR;refine mV5 hE ?_ HX J1 K2 K1 J2;clear HX J1 K2 K1 J2;intro HX J1 K2 K1 J2;have hs_w6:=hE.size;clear hE;replace b_B2:=bX3 B2;replace b_B3:=bX3 B3;replace b_B5:=bX3 B5;replace b_B6:=bX3 B6;replace b_B7:=bX3 B7;replace b_B8:=bX3 B8;simp only [pD];go_wp2
 go_ret
 exact ⟨(),rfl,HX.out,trivial⟩
theorem gJ(q:Rat):q.abs.num=(q.num.natAbs:Int)∧q.abs.den=q.den:=by
 rcases Rat.le_total (a:=0) (b:=q) with h|h
 ·rw [Rat.abs_of_nonneg h];exact ⟨by have:=Rat.num_nonneg.2 h;omega,rfl⟩
 ·rw [Rat.abs_of_nonpos h,Rat.neg_num,Rat.neg_den];refine ⟨?_,rfl⟩;have:0≤(-q).num:=Rat.num_nonneg.2 (by grind);rw [Rat.neg_num] at this;omega
theorem kC{z e z' e':Int}{q r:Rat}(h:(z:Rat) / (e:Rat)=q)(k:(z':Rat) / (e':Rat)=r):((z*e':Int):Rat) / ((e*z':Int):Rat)=q / r:=by
 subst h k;rw [Rat.intCast_mul,Rat.intCast_mul,Rat.div_def,Rat.div_def,Rat.div_def,Rat.div_def,dP,dP,Rat.inv_inv];grind
theorem lA{z e:Int}{q:Rat}(he:0<e)(h:(z:Rat) / (e:Rat)=q):z=0↔q=0:=by
 subst h;constructor
 ·rintro rfl;rw [Rat.div_def];show (0:Rat)*_=0;grind
 ·intro h;rw [Rat.div_def] at h;rcases Rat.mul_eq_zero.1 h with h1|h1
  ·exact Rat.intCast_eq_zero_iff.1 h1
  ·have a1:(e:Rat)≠0:=by intro h0;have:=Rat.intCast_eq_zero_iff.1 h0;omega
   have:=nXy _ a1;rw [h1] at this;grind
def ng(r:Rat):Int:=if r=0 then 3 else 0
theorem kD{r:Rat}(h:r=0):ng r=3:=if_pos h
theorem kE{r:Rat}(h:r≠0):ng r=0:=if_neg h
def ob(q r:Rat)(x:RH)(w':World):Prop:=r≠0→aQ w' x (q / r)
abbrev DV(s:RH)(e:Int):Value:=.tuple #[s.v,.int .i64 e]
theorem jP(s t:RH)(q r:Rat)(w:World)(h:bX w s q)(k:bX w t r):av 48 [s.v,t.v] w (fun x:RH=>DV x (ng r)) (ob q r):=by
 obtain ⟨neg,ao,n,c,bo,m,d⟩:=s;obtain ⟨neg',ao',n',c',bo',m',d'⟩:=t;have HR:=Hi h;have KR:=Hi k;have HX:=Hi (Ext.refl w);clear h k;unfold av;go_enter Tryz.func48,Tryz.ntmps48
 go_wp2_with fail
 refine nY (F:=fun W=>Calls _ _ _ W _) ?_;intro w1 hE B2 B3 B4 hz_w1 hr_w1;refine mV3 hE ?_ HR KR HX;clear HR KR HX;intro HR KR HX;have hs_w1:=hE.size;clear hE;replace b_B2:=bX3 B2;replace b_B3:=bX3 B3;replace b_B4:=bX3 B4
 change Calls _ _ _ _ _
 refine cM (bw ⟨neg,ao,n,c,bo,m,d⟩ q _ HR.out) fun x2 w2 hE G2=>?_
 refine mV6 hE ?_ B2 B3 B4 HR KR HX;clear B2 B3 B4 HR KR HX;intro B2 B3 B4 HR KR HX;have hs_w2:=hE.size;clear hE;replace b_B2:=bX3 B2;replace b_B3:=bX3 B3;replace b_B4:=bX3 B4;obtain ⟨⟨an,aa,al,ac⟩,⟨bn,ba,bl,bc⟩⟩:=x2;obtain ⟨z,e,g1,g2,p3,g4,p5,p6⟩:=G2.out.div;have J1:=Hi g1;have J2:=Hi g2;have J4:=Hi g4;have P5:=Hi p5;have P6:=Hi p6;clear g1 g2 g4 p3 p5 p6 G2;simp only [PP]
 go_upto_region 2 with fail
 refine k9 ?_;intro y3 hE B6 B7 hz_y3 hr_y3;refine mV8 hE ?_ B2 B3 B4 HR KR HX J1 J2;clear B2 B3 B4 HR KR HX J1 J2;intro B2 B3 B4 HR KR HX J1 J2;have hs_y3:=hE.size;clear hE;replace b_B2:=bX3 B2;replace b_B3:=bX3 B3;replace b_B4:=bX3 B4;replace b_B6:=bX3 B6;replace b_B7:=bX3 B7
 go_wp2_with fail
 refine cM (bw ⟨neg',ao',n',c',bo',m',d'⟩ r _ KR.out) fun x4 w4 hE G4=>?_
 refine mV8 hE ?_ B6 B7 B2 B3 B4 HR KR HX;clear B6 B7 B2 B3 B4 HR KR HX;intro B6 B7 B2 B3 B4 HR KR HX;refine mV2 hE ?_ J1 J2;clear J1 J2;intro J1 J2;have hs_w4:=hE.size;clear hE;replace b_B2:=bX3 B2;replace b_B3:=bX3 B3;replace b_B4:=bX3 B4;replace b_B6:=bX3 B6;replace b_B7:=bX3 B7;obtain ⟨⟨an',aa',al',ac'⟩,⟨bn',ba',bl',bc'⟩⟩:=x4;obtain ⟨z',e',g1,g2,p3,g4,p5,p6⟩:=G4.out.div;have K1:=Hi g1;have K2:=Hi g2;have K4:=Hi g4;have KN:=Hi (lA p3 g4);have Q5:=Hi p5;have Q6:=Hi p6;clear g1 g2 g4 p3 p5 p6 G4;simp only [PP]
 go_upto_region 3 with fail
 refine k9 ?_;intro y5 hE B8 B9 hz_y5 hr_y5;refine mV8 hE ?_ B6 B7 B2 B3 B4 HR KR HX;clear B6 B7 B2 B3 B4 HR KR HX;intro B6 B7 B2 B3 B4 HR KR HX;refine mV4 hE ?_ J1 J2 K1 K2;clear J1 J2 K1 K2;intro J1 J2 K1 K2;have hs_y5:=hE.size;clear hE;replace b_B2:=bX3 B2;replace b_B3:=bX3 B3;replace b_B4:=bX3 B4;replace b_B6:=bX3 B6;replace b_B7:=bX3 B7;replace b_B8:=bX3 B8;replace b_B9:=bX3 B9;have HV:=Hi (kC J4.out K4.out);have M1:=Hi (fO P5.out Q6.out);have M2:=Hi (fO P6.out Q5.out);clear J4 K4
 go_wp2_with fail
 refine cM (br ⟨an',aa',al',ac'⟩ z' _ K1.out) fun x6 w6 hE _=>?_
 refine mV8 hE ?_ B8 B9 B6 B7 B2 B3 B4 HR;clear B8 B9 B6 B7 B2 B3 B4 HR;intro B8 B9 B6 B7 B2 B3 B4 HR;refine mV6 hE ?_ KR HX J1 J2 K1 K2;clear KR HX J1 J2 K1 K2;intro KR HX J1 J2 K1 K2;have hs_w6:=hE.size;clear hE;replace b_B2:=bX3 B2;replace b_B3:=bX3 B3;replace b_B4:=bX3 B4;replace b_B6:=bX3 B6;replace b_B7:=bX3 B7;replace b_B8:=bX3 B8;replace b_B9:=bX3 B9;by_cases hz:z'=0
 case pos =>
  have hr:r=0:=KN.out.1 hz;subst hz;have HRz:=Hi hr;rw [bp rfl];have HZe:Hid (Ending.returned (DV ⟨false,none,0,0,none,0,0⟩ 3)=Ending.returned (DV ⟨false,none,0,0,none,0,0⟩ (ng r))):=Hi (by rw [kD HRz.out]);clear hr M1 M2 HV P5 P6 Q5 Q6 KN;go_wp2;have hF:=(((Fin.start (L:=w.heap.size+2) HX.out (aj B4.out rfl)).set (by omega) (i:=0) (v:=.bool false) rfl).set (by omega) (i:=1) (v:=.slice none 0 0) rfl).set (by omega) (i:=2) (v:=.slice none 0 0) rfl;exact bodyPost_ret (v:=DV ⟨false,none,0,0,none,0,0⟩ 3) (by simp [results,Tryz.results48,go_sem,ab B4.out,DV]) rfl ⟨⟨false,none,0,0,none,0,0⟩,HZe.out,hF.ext,fun h=>(h HRz.out).elim⟩
 have HRz:Hid (r≠0):=Hi (fun h=>hz (KN.out.2 h));have hcz:bq z' 0=-1∨bq z' 0=1:=by
  rcases Int.lt_or_gt_of_ne hz with h|h
  ·exact Or.inl (bj h)
  ·exact Or.inr (bh h)
 obtain ⟨v,hv⟩:∃ v,v=bq z' 0:=⟨_,rfl⟩;rw [←hv] at hcz ⊢;have hvb:(v == 0)=false:=by rw [nXp];omega
 clear hv hcz hz KN;have HZe:∀ x:RH,Ending.returned (DV x 0)=Ending.returned (DV x (ng r)):=fun x=>by rw [kE HRz.out]
 go_upto_region 5 with fail
 refine wpG 7 (fun opIx=>match opIx with
  | 2=>.spec IH default IH.v (fun s w'=>aV w' s (z*e'))
  | 5=>.spec IH default IH.v (fun s w'=>aV w' s (e*z'))
  | 6=>.spec RH default RH.v (fun s w'=>aQ w' s (q / r))
  | _=>.quiet) (fun|6=>[2,5]|_=>[]) fun w0 he0 hz0 hc0 hf0=>?_
 refine wps he0.out rfl rfl (fun w1 hW hG=>?_) fun x2=>?_
 ·exact spc [IH.v ⟨an,aa,al,ac⟩,IH.v ⟨bn',ba',bl',bc'⟩] Tryz.func112 (bm _ _ _ _ _ (J1.out.ext hW) (K2.out.ext hW))
 refine qZ ?_;refine wps he0.out rfl rfl (fun w1 hW hG=>?_) fun x5=>?_
 ·exact spc [IH.v ⟨bn,ba,bl,bc⟩,IH.v ⟨an',aa',al',ac'⟩] Tryz.func112 (bm _ _ _ _ _ (J2.out.ext hW) (K1.out.ext hW))
 refine qZ ?_;refine wps he0.out rfl rfl (fun w1 hW hG=>?_) fun x6=>?_
 ·have g2:=(hG 2 (by decide):aM _ _).get fun _ e g=>g.ext e
  have g5:=(hG 5 (by decide):aM _ _).get fun _ e g=>g.ext e
  exact spc [x2.v,x5.v] Tryz.func88 (HV.out ▸ ct x2 x5 _ _ _ (g2.rawk M1.out dC.2.1) (g5.rawk M2.out dC.2.1))
 refine qZ ?_;refine am ?_;intro w7 hI;have hE:=he0.out.trans hI.ext;have G2:=gT (hI.facts 2);have G5:=gT (hI.facts 5);have G6:=gT (hI.facts 6);clear hI he0 hz0 hc0 hf0;refine mV8 hE ?_ B8 B9 B6 B7 B2 B3 B4 HR;clear B8 B9 B6 B7 B2 B3 B4 HR;intro B8 B9 B6 B7 B2 B3 B4 HR;refine mV6 hE ?_ KR HX J1 K2 J2 K1;clear KR HX J1 K2 J2 K1;intro KR HX J1 K2 J2 K1;have hs_w7:=hE.size;clear hE;replace b_B2:=bX3 B2;replace b_B3:=bX3 B3;replace b_B4:=bX3 B4;replace b_B6:=bX3 B6;replace b_B7:=bX3 B7;replace b_B8:=bX3 B8;replace b_B9:=bX3 B9;simp only [pD];go_wp2;have hF:=(((Fin.start (L:=w.heap.size+2) HX.out (aj B4.out rfl)).set (by omega) (i:=0) (v:=.bool x6.neg) rfl).set (by omega) (i:=1) (v:=.slice x6.a x6.n x6.c) rfl).set (by omega) (i:=2) (v:=.slice x6.b x6.m x6.d) rfl;exact bodyPost_ret (v:=DV x6 0) (by simp [results,Tryz.results48,go_sem,ab B4.out,DV]) rfl ⟨x6,HZe x6,hF.ext,fun _=>G6.out.keep hF.keep⟩
end Go.Proofs.YtohahgiidooijaaGreat
/- Stab, StbP, Stb1, Stb2, Stb3 -/
namespace Go.Stab
def sm:Nat→(Nat→Rat)→Rat
 | 0,_=>0
 | n+1,f=>sm n f+f n
def sh(u:Nat→Rat):Nat→Rat
 | 0=>0
 | n+1=>u n
def ap:List Rat→(Nat→Rat)→Nat→Rat
 | [],_=>fun _=>0
 | a :: l,u=>fun n=>a*u n+sh (ap l u) n
def E(n:Nat)(u:Nat→Rat):Rat:=sm n (fun i=>u i*u i)
def Inv(c:List Rat):Prop:=∃ C:Rat,0≤C∧∀ u N,E N u≤C*E N (ap c u)
def shn(i:Nat)(u:Nat→Rat)(n:Nat):Rat:=if i≤n then u (n-i) else 0
def G(L:Nat)(u:Nat→Rat)(i j:Nat):Rat:=sm L (fun n=>shn i u n*shn j u n)
def seq(c:List Rat)(n:Nat):Rat:=c.getD n 0
end Go.Stab
namespace Go.Proofs.YtohahgiidooijaaGreat
open Go.RowKit Go.Front Go.Num
attribute [local go_sem] XW.cell XW.frozen
def dJ(w:World)(p:Nat×RH)(q:Rat):Prop:=RBk w p.1 [p.2] #[]∧aQ w p.2 q
theorem dJ.ext{w w':World}{p:Nat×RH}{q:Rat}(h:dJ w p q)(he:Ext w w'):dJ w' p q:=⟨h.1.ext he,h.2.ext he⟩
instance {w w':World} {p:Nat×RH} {q:Rat}:Go.Front.Mv w w' (dJ w p q) (dJ w' p q):=⟨fun e h=>dJ.ext h e⟩

theorem i4{P:Program}{o:Oper}{a:Act}{w:World}{T:TypeId}(x:RH)(q:Rat)(hx:aQ w x q)(hT:T=30)
 (hrun:(execOp a.eval o).run P w=.ok (.value (.slice (some ⟨w.heap.size,0,none⟩) 1 1)) (w.alloc (.cells #[.bool x.neg,.slice x.a x.n x.c,.slice x.b x.m x.d] T))) :
  bT P o a w (fun p:Nat×RH=>.slice (some ⟨p.1,0,none⟩) 1 1) (fun p w'=>dJ w' p q):=by
 subst hT;unfold bT;rw [hrun];exact ⟨Ext.alloc _ _,(w.heap.size,x),rfl,mw (heap_alloc_new _ _) rfl,hx.ext (Ext.alloc _ _)⟩
end Go.Proofs.YtohahgiidooijaaGreat
namespace Go.Proofs.YtohahgiidooijaaGreat
open Go.RowKit Go.Front Go.Num
def grow:Nat→Nat→Nat
 | 0,s=>s
 | m+1,s=>grow m (5*s+3)
end Go.Proofs.YtohahgiidooijaaGreat
namespace Go.Proofs.YtohahgiidooijaaGreat
open Go.RowKit Go.Front Go.Num
attribute [local go_sem] XW.cell XW.frozen
end Go.Proofs.YtohahgiidooijaaGreat
namespace Go.Proofs.YtohahgiidooijaaGreat
open Go.RowKit Go.Front Go.Num
end Go.Proofs.YtohahgiidooijaaGreat
namespace Go.Proofs.YtohahgiidooijaaGreat
open Go.RowKit Go.Front Go.Num Stab
end Go.Proofs.YtohahgiidooijaaGreat
/- Chb1, Chb2, Chb3, Chb4, ChbP -/
namespace Go.Proofs.YtohahgiidooijaaGreat
open Go.RowKit Go.Front Go.Num
attribute [local go_sem] XW.cell XW.frozen
end Go.Proofs.YtohahgiidooijaaGreat
namespace Go.Proofs.YtohahgiidooijaaGreat
open Go.RowKit Go.Front Go.Num
end Go.Proofs.YtohahgiidooijaaGreat
/- Fb, Crs, Acr, Amp, Awk8 -/
namespace Go.Proofs.YtohahgiidooijaaGreat
open Go.RowKit Go.Front Go.Num
attribute [local go_sem] XW.cell XW.frozen
end Go.Proofs.YtohahgiidooijaaGreat
namespace Go.Proofs.YtohahgiidooijaaGreat
open Go.RowKit Go.Front Go.Num
end Go.Proofs.YtohahgiidooijaaGreat
namespace Go.Proofs.YtohahgiidooijaaGreat
open Go.RowKit Go.Front Go.Num
attribute [local go_sem] XW.cell XW.frozen
end Go.Proofs.YtohahgiidooijaaGreat
namespace Go.Proofs.YtohahgiidooijaaGreat
open Go.RowKit Go.Front Go.Num
end Go.Proofs.YtohahgiidooijaaGreat
/- Fr, Run, MgP, FrB -/
namespace Go.Proofs.YtohahgiidooijaaGreat
open Go.RowKit Go.Front Go.Num Stab
end Go.Proofs.YtohahgiidooijaaGreat
/- Py1, Py2 -/
namespace Go.Proofs.YtohahgiidooijaaGreat
open Go.RowKit Go.Front Go.Num
attribute [local go_sem] XW.cell XW.frozen
end Go.Proofs.YtohahgiidooijaaGreat
/- Py3, Py4 -/
namespace Go.Proofs.YtohahgiidooijaaGreat
open Go.RowKit Go.Front Go.Num Stab
attribute [local go_sem] XW.cell XW.frozen
theorem nG(w:World)(a:Option Addr)(n c:Nat):(binOp .eql 41 (.slice a n c) (.slice none 0 0)).run Tryz.prog w=.ok (.bool a.isNone) w:=by
 have h:∀ d:Nat,(Op.equalIn (d+1) 41 (.slice a n c) (.slice none 0 0)).run Tryz.prog w=.ok a.isNone w:=fun d=>by
  cases a <;> simp [Op.equalIn,run_underlying Tryz.underlying41]
 simp only [binOp];simp [Op.equal,Op.maxDepth,h]
attribute [local go_sem] nG
end Go.Proofs.YtohahgiidooijaaGreat
/- Py5 -/
namespace Go.Proofs.YtohahgiidooijaaGreat
open Go.RowKit Go.Front Go.Num Stab
attribute [local go_sem] XW.cell XW.frozen
end Go.Proofs.YtohahgiidooijaaGreat
/- Ev, Pd7 -/
namespace Go.Proofs.YtohahgiidooijaaGreat
open Go.RowKit Go.Front Go.Num Stab
end Go.Proofs.YtohahgiidooijaaGreat
/- Sturm's theorem over the rationals: on a fine enough grid the changes of sign in a chain fall by one where the first member changes its sign. Plain facts. -/
namespace Go.Proofs.YtohahgiidooijaaGreat.Sg
def sg(q:Rat):Int:=if q<0 then -1 else if q=0 then 0 else 1
theorem cX{q:Rat}(h:q<0):sg q=-1:=if_pos h
def vr:Int→List Int→Nat
 | _,[]=>0
 | last,s :: l=>if s=0 then vr last l else (if last≠0∧s≠last then 1 else 0)+vr s l
theorem eW{a b c:Rat}(h:a<b)(k:0<c):a*c<b*c:=by
 have:=Rat.mul_pos (show 0<b-a by grind) k;grind
def Big(r x:Rat):Prop:=r≤x∨x≤-r
def sgs(l:List (Rat→Rat))(x:Rat):List Int:=l.map (fun f=>sg (f x))
def V(f:Rat→Rat)(l:List (Rat→Rat))(x:Rat):Nat:=vr 0 (sgs (f :: l) x)
end Go.Proofs.YtohahgiidooijaaGreat.Sg
/- Polynomial functions over the rationals: divisors, coprime ones, the greatest common divisor, the polynomial with the same roots, each once. Plain facts. -/
namespace Go.Proofs.YtohahgiidooijaaGreat.Sg
open Go.RowKit Go.Front Go.Num Go.Stab Go.Proofs.YtohahgiidooijaaGreat
end Go.Proofs.YtohahgiidooijaaGreat.Sg
/- Siegel's lemma: whole numbers, not all 0, that solve one equation less than there are unknowns. Plain facts. -/
namespace Go.Proofs.YtohahgiidooijaaGreat.Sie
end Go.Proofs.YtohahgiidooijaaGreat.Sie
/- The chains of the program fit Sturm's theorem. Plain facts. -/
namespace Go.Proofs.YtohahgiidooijaaGreat.Sg
open Go.RowKit Go.Front Go.Num Go.Stab Go.Proofs.YtohahgiidooijaaGreat
end Go.Proofs.YtohahgiidooijaaGreat.Sg
/- The chain of remainders: plain facts for the walk of remainders. -/
namespace Go.Proofs.YtohahgiidooijaaGreat
open Go.RowKit Go.Front Go.Num Stab
end Go.Proofs.YtohahgiidooijaaGreat
/- Roots of a polynomial and of that with each root once; what a count says of two halves. Plain facts. -/
namespace Go.Proofs.YtohahgiidooijaaGreat.Sg
open Go.RowKit Go.Front Go.Num Go.Stab Go.Proofs.YtohahgiidooijaaGreat
end Go.Proofs.YtohahgiidooijaaGreat.Sg
/- The members of Euclid's sequence of two polynomials with whole coefficients are small. Plain facts. -/
namespace Go.Proofs.YtohahgiidooijaaGreat.Sg
open Go.RowKit Go.Front Go.Num Go.Stab Go.Proofs.YtohahgiidooijaaGreat Sie
end Go.Proofs.YtohahgiidooijaaGreat.Sg
/- Sizes in Euclid's algorithm: with a factor of 3 a round, or by the bound of all members. Plain facts. -/
namespace Go.Proofs.YtohahgiidooijaaGreat
open Go.RowKit Go.Front Go.Num Stab Sg
def KZ(K S n:Nat):Prop:=(S+2)*3 ^ n≤K∨3*(((S+2)*(2*n)+S+2)*(2*n+3))≤K
end Go.Proofs.YtohahgiidooijaaGreat
/- Py6, Py7, Py8 -/
namespace Go.Proofs.YtohahgiidooijaaGreat
open Go.RowKit Go.Front Go.Num Stab
attribute [local go_sem] XW.cell XW.frozen
theorem bB{w1:World}{b:Nat}{T:TypeId}{c0 c1 v0 v1:Value}{F:World→Prop}(hb:w1.heap[b]?=some (.cells #[c0,c1] T (0,0)))(hn:#[c0,c1].toList.all gt=true)(h:∀ w2,lc w1 b T #[v0,v1] w2→F w2) :
  F ((w1.setCell ⟨b,0,none⟩ v0).setCell ⟨b,1,none⟩ v1) :=
 h _ (lc.of (nXa.1 hb).1 (aj hb hn) ((aD.setCell w1 ⟨b,0,none⟩ v0).trans (aD.setCell _ ⟨b,1,none⟩ v1)) (by simp [World.setCell]) (aJ (aJ hb 0 v0) 1 v1))
end Go.Proofs.YtohahgiidooijaaGreat
