/- Rfc, Rfd -/
import Derived.Test.YtohahgiidooijaaGreatQDM1
import Derived.Test.YtohahgiidooijaaGreatQDM7
import Derived.Test.YtohahgiidooijaaGreatQDK1
import Derived.Test.YtohahgiidooijaaGreatQDM11
set_option linter.unusedVariables false
set_option maxHeartbeats 4000000
set_option maxRecDepth 8000
namespace Go.Proofs.YtohahgiidooijaaGreat
open Go.RowKit Go.Front Go.Num
attribute [local go_sem] XW.cell XW.frozen
theorem uR{w1:World}{b:Nat}{T:TypeId}{c0 c1 c2 v0 v1:Value}{F:World→Prop}(hb:w1.heap[b]?=some (.cells #[c0,c1,c2] T (0,0)))(hn:#[c0,c1,c2].toList.all iI=true)(h:∀ w2,fv w1 b T #[v0,v1,c2] w2→F w2) :
  F ((w1.setCell ⟨b,0,none⟩ v0).setCell ⟨b,1,none⟩ v1) :=
 h _ (fv.of (nXa.1 hb).1 (ak hb hn) ((br.setCell w1 ⟨b,0,none⟩ v0).trans (br.setCell _ ⟨b,1,none⟩ v1)) (by simp [World.setCell]) (aU (aU hb 0 v0) 1 v1))
theorem cr.rawn{w:World}{s:IH}{z:Int}(h:cr w s z){w':World}{t:IH}{y:Int}(k:eZ w' t y)(hz:z.natAbs≤y.natAbs):eZ w s z:=by
 obtain ⟨ds,h1,h2,h3⟩:=k;have h4:=iw h1 t.neg;rw [←h2] at h4;exact h.rawk (k:=t.n) (nYj hz h4) h3
theorem vB(s t:IH)(z y:Int)(w:World)(h:eZ w s z)(k:eZ w t y):au 218 [s.v,t.v] w IH.v (fun s w'=>cr w' s (z-y)):=by
 obtain ⟨neg,ao,n,c⟩:=s;obtain ⟨neg',bo,m,d⟩:=t;have HR:=Hi h;have KR:=Hi k;have HX:=Hi (Ext.refl w);have HV:Hid (z-y=z+-y):=Hi (by omega);clear h k;unfold au;go_enter Tryz.func218,Tryz.ntmps218
 go_upto_region 1 with fail
 refine xI ?_;intro w1 hE B2 B3 B4 hz_w1 hr_w1;refine mV3 hE ?_ HR KR HX;clear HR KR HX;intro HR KR HX;have hs_w1:=hE.size;clear hE;replace b_B2:=bX3 B2;replace b_B3:=bX3 B3;replace b_B4:=bX3 B4;refine wpG 4 (fun opIx=>match opIx with
  | 2=>.spec IH default IH.v (fun s w'=>cr w' s (-y))
  | 3=>.spec IH default IH.v (fun s w'=>cr w' s (z+-y))
  | _=>.quiet) (fun|3=>[2]|_=>[]) fun w0 he0 hz0 hc0 hf0=>?_
 refine wps he0.out rfl rfl (fun w1 hW hG=>?_) fun x2=>?_
 ·exact spc [IH.v ⟨neg',bo,m,d⟩] Tryz.func154 (li ⟨neg',bo,m,d⟩ y _ (KR.out.ext hW))
 refine qZ ?_;refine wps he0.out rfl rfl (fun w1 hW hG=>?_) fun x3=>?_
 ·have g2:=(hG 2 (by decide):aD _ _).get fun _ e g=>g.ext e
  exact spc [IH.v ⟨neg,ao,n,c⟩,x2.v] Tryz.func142 (oF ⟨neg,ao,n,c⟩ x2 z (-y) _ (HR.out.ext hW) (g2.rawn KR.out (by omega)))
 refine qZ ?_;refine aq ?_;intro w2 hI;have hE:=he0.out.trans hI.ext;have G2:=gT (hI.facts 2);have G3:=gT (hI.facts 3);clear hI he0 hz0 hc0 hf0;refine mV6 hE ?_ B2 B3 B4 HX HR KR;clear B2 B3 B4 HX HR KR;intro B2 B3 B4 HX HR KR;have hs_w2:=hE.size;clear hE;replace b_B2:=bX3 B2;replace b_B3:=bX3 B3;replace b_B4:=bX3 B4;simp only [pD];rw [←HV.out] at G3;go_wp2;have hF:=((Fin.start (L:=w.heap.size+2) HX.out (ak B4.out rfl)).set (by omega) (i:=0) (v:=.bool x3.neg) rfl).set (by omega) (i:=1) (v:=.slice x3.a x3.n x3.c) rfl;exact bodyPost_ret (v:=x3.v) (by simp [results,Tryz.results218,go_sem,ae B4.out]) rfl ⟨x3,rfl,hF.ext,G3.out.keep hF.keep⟩
theorem z6(z y:Int):ci (z-y) 0=ci z y:=by
 unfold ci;split
 ·rw [if_pos (by omega)]
 ·split
  ·rw [if_neg (by omega),if_pos (by omega)]
  ·rw [if_neg (by omega),if_neg (by omega)]
theorem vG(s t:IH)(z y:Int)(k:Nat)(w:World)(h:eZ w s z)(g:eZ w t y)(hz:z.natAbs<W32 ^ k)(hy:y.natAbs<W32 ^ k)(hk:k≤1073741823)(hk1:1≤k):au 174 [s.v,t.v] w (fun _:Unit=>.int .i64 (ci z y)) (fun _ _=>True):=by
 obtain ⟨neg,ao,n,c⟩:=s;obtain ⟨neg',bo,m,d⟩:=t;have HR:=Hi h;have KR:=Hi g;have HX:=Hi (Ext.refl w);have HV:=Hi (z6 z y);have HL:Hid ((z-y).natAbs<W32 ^ (k+1)):=Hi (by
  have h5:W32 ^ k*2≤W32 ^ (k+1):=by rw [nXt];exact nXf _ (by decide)
  omega)
 clear h g hz hy;unfold au;go_enter Tryz.func174,Tryz.ntmps174
 go_wp2_with fail
 refine jV (F:=fun W=>Calls _ _ _ W _) ?_;intro w1 hE B2 B3 hz_w1 hr_w1;refine mV3 hE ?_ HR KR HX;clear HR KR HX;intro HR KR HX;have hs_w1:=hE.size;clear hE;replace b_B2:=bX3 B2;replace b_B3:=bX3 B3
 change Calls _ _ _ _ _
 refine cM (vB ⟨neg,ao,n,c⟩ ⟨neg',bo,m,d⟩ z y _ HR.out KR.out) fun x2 w2 hE G2=>?_
 refine mV5 hE ?_ B2 B3 HR KR HX;clear B2 B3 HR KR HX;intro B2 B3 HR KR HX;have hs_w2:=hE.size;clear hE;replace b_B2:=bX3 B2;replace b_B3:=bX3 B3
 go_wp2_with fail
 refine cM (dh x2 (z-y) _ (G2.out.rawk HL.out (by omega))) fun x3 w3 hE _=>?_
 refine mV6 hE ?_ G2 B2 B3 HR KR HX;clear G2 B2 B3 HR KR HX;intro G2 B2 B3 HR KR HX;have hs_w3:=hE.size;clear hE;replace b_B2:=bX3 B2;replace b_B3:=bX3 B3;rw [HV.out];go_wp2
 go_ret
 exact ⟨(),rfl,HX.out,trivial⟩
theorem wQ{z e z' e':Int}{q r:Rat}(h0:0<e)(k0:0<e')(h:(z:Rat) / (e:Rat)=q)(k:(z':Rat) / (e':Rat)=r):ci (z*e') (z'*e)=je q r:=by
 have f:∀ (a b:Int),0<b→(a:Rat) / (b:Rat)=mkRat a b.natAbs:=fun a b hb=>by
  rw [Rat.mkRat_eq_div]
  congr 1
  rw [←Rat.intCast_natCast,Int.natAbs_of_nonneg (by omega)]
 rw [←h,←k,f z e h0,f z' e' k0,qp (by omega) (by omega)];rw [Int.natAbs_of_nonneg (by omega),Int.natAbs_of_nonneg (by omega)]
theorem nF{a b:Int}(h:Big a)(k:Big b):(a*b).natAbs<W32 ^ (tA+tA):=by
 rw [Int.natAbs_mul];exact iZ h k
theorem jH:tA+tA≤1073741823∧tA+tA≤1073741824∧1≤tA+tA:=by unfold tA;omega
theorem uC(s t:RH)(q r:Rat)(w:World)(h:bp w s q)(k:bp w t r):au 108 [s.v,t.v] w (fun _:Unit=>.int .i64 (je q r)) (fun _ _=>True):=by
 obtain ⟨neg,ao,n,c,bo,m,d⟩:=s;obtain ⟨neg',ao',n',c',bo',m',d'⟩:=t;have HR:=Hi h;have KR:=Hi k;have HX:=Hi (Ext.refl w);clear h k;unfold au;go_enter Tryz.func108,Tryz.ntmps108
 go_wp2_with fail
 refine jV (F:=fun W=>Calls _ _ _ W _) ?_;intro w1 hE B2 B3 hz_w1 hr_w1;refine mV3 hE ?_ HR KR HX;clear HR KR HX;intro HR KR HX;have hs_w1:=hE.size;clear hE;replace b_B2:=bX3 B2;replace b_B3:=bX3 B3
 change Calls _ _ _ _ _
 refine cM (cT ⟨neg,ao,n,c,bo,m,d⟩ q _ HR.out) fun x2 w2 hE G2=>?_
 refine mV5 hE ?_ B2 B3 HR KR HX;clear B2 B3 HR KR HX;intro B2 B3 HR KR HX;have hs_w2:=hE.size;clear hE;replace b_B2:=bX3 B2;replace b_B3:=bX3 B3;obtain ⟨⟨an,aa,al,ac⟩,⟨bn,ba,bl,bc⟩⟩:=x2;obtain ⟨z,e,g1,g2,p3,g4,p5,p6⟩:=G2.out.div;have J1:=Hi g1;have J2:=Hi g2;have J4:=Hi g4;have P3:=Hi p3;have P5:=Hi p5;have P6:=Hi p6;clear g1 g2 g4 p3 p5 p6 G2;simp only [PP]
 go_upto_region 2 with fail
 refine jV ?_;intro y3 hE B5 B6 hz_y3 hr_y3;refine mV7 hE ?_ B2 B3 HR KR HX J1 J2;clear B2 B3 HR KR HX J1 J2;intro B2 B3 HR KR HX J1 J2;have hs_y3:=hE.size;clear hE;replace b_B2:=bX3 B2;replace b_B3:=bX3 B3;replace b_B5:=bX3 B5;replace b_B6:=bX3 B6
 go_wp2_with fail
 refine cM (cT ⟨neg',ao',n',c',bo',m',d'⟩ r _ KR.out) fun x4 w4 hE G4=>?_
 refine mV8 hE ?_ B5 B6 B2 B3 HR KR HX J1;clear B5 B6 B2 B3 HR KR HX J1;intro B5 B6 B2 B3 HR KR HX J1;replace J2:=mV hE J2;have hs_w4:=hE.size;clear hE;replace b_B2:=bX3 B2;replace b_B3:=bX3 B3;replace b_B5:=bX3 B5;replace b_B6:=bX3 B6;obtain ⟨⟨an',aa',al',ac'⟩,⟨bn',ba',bl',bc'⟩⟩:=x4;obtain ⟨z',e',g1,g2,p3,g4,p5,p6⟩:=G4.out.div;have K1:=Hi g1;have K2:=Hi g2;have K4:=Hi g4;have Q3:=Hi p3;have Q5:=Hi p5;have Q6:=Hi p6;clear g1 g2 g4 p3 p5 p6 G4;simp only [PP]
 go_upto_region 3 with fail
 refine jV ?_;intro y5 hE B7 B8 hz_y5 hr_y5;refine mV8 hE ?_ B5 B6 B2 B3 HR KR HX J1;clear B5 B6 B2 B3 HR KR HX J1;intro B5 B6 B2 B3 HR KR HX J1;refine mV3 hE ?_ J2 K1 K2;clear J2 K1 K2;intro J2 K1 K2;have hs_y5:=hE.size;clear hE;replace b_B2:=bX3 B2;replace b_B3:=bX3 B3;replace b_B5:=bX3 B5;replace b_B6:=bX3 B6;replace b_B7:=bX3 B7;replace b_B8:=bX3 B8;have HV:=Hi (wQ P3.out Q3.out J4.out K4.out);have M1:=Hi (nF P5.out Q6.out);have M2:=Hi (nF Q5.out P6.out);clear J4 K4;refine wpG 7 (fun opIx=>match opIx with
  | 2=>.spec IH default IH.v (fun s w'=>cr w' s (z*e'))
  | 5=>.spec IH default IH.v (fun s w'=>cr w' s (z'*e))
  | 6=>.spec Unit () (fun _=>.int .i64 (je q r)) (fun _ _=>True)
  | _=>.quiet) (fun|6=>[2,5]|_=>[]) fun w0 he0 hz0 hc0 hf0=>?_
 refine wps he0.out rfl rfl (fun w1 hW hG=>?_) fun x2=>?_
 ·exact spc [IH.v ⟨an,aa,al,ac⟩,IH.v ⟨bn',ba',bl',bc'⟩] Tryz.func112 (dt _ _ _ _ _ (J1.out.ext hW) (K2.out.ext hW))
 refine qZ ?_;refine wps he0.out rfl rfl (fun w1 hW hG=>?_) fun x5=>?_
 ·exact spc [IH.v ⟨an',aa',al',ac'⟩,IH.v ⟨bn,ba,bl,bc⟩] Tryz.func112 (dt _ _ _ _ _ (K1.out.ext hW) (J2.out.ext hW))
 refine qZ ?_;refine wps he0.out rfl rfl (fun w1 hW hG=>?_) fun x6=>?_
 ·have g2:=(hG 2 (by decide):aD _ _).get fun _ e g=>g.ext e
  have g5:=(hG 5 (by decide):aD _ _).get fun _ e g=>g.ext e
  exact spc [x2.v,x5.v] Tryz.func174 (HV.out ▸ vG x2 x5 _ _ (tA+tA) _ (g2.rawk M1.out jH.2.1) (g5.rawk M2.out jH.2.1) M1.out M2.out jH.1 jH.2.2)
 refine qZ ?_;refine aq ?_;intro w6 hI;have hE:=he0.out.trans hI.ext;have G2:=gT (hI.facts 2);have G5:=gT (hI.facts 5);clear hI he0 hz0 hc0 hf0;refine mV8 hE ?_ B7 B8 B5 B6 B2 B3 HR KR;clear B7 B8 B5 B6 B2 B3 HR KR;intro B7 B8 B5 B6 B2 B3 HR KR;refine mV5 hE ?_ HX J1 K2 K1 J2;clear HX J1 K2 K1 J2;intro HX J1 K2 K1 J2;have hs_w6:=hE.size;clear hE;replace b_B2:=bX3 B2;replace b_B3:=bX3 B3;replace b_B5:=bX3 B5;replace b_B6:=bX3 B6;replace b_B7:=bX3 B7;replace b_B8:=bX3 B8;simp only [pD];go_wp2
 go_ret
 exact ⟨(),rfl,HX.out,trivial⟩
theorem jv(s t:RH)(q r:Rat)(w:World)(h:bp w s q)(k:bp w t r):au 177 [s.v,t.v] w (fun _:Unit=>.bool (decide (q<r))) (fun _ _=>True):=by
 obtain ⟨neg,ao,n,c,bo,m,d⟩:=s;obtain ⟨neg',ao',n',c',bo',m',d'⟩:=t;have HR:=Hi h;have KR:=Hi k;have HX:=Hi (Ext.refl w);have HV:Hid (decide (je q r<0)=decide (q<r)):=Hi (by
  unfold je;by_cases h:q<r
  ·rw [if_pos h,decide_eq_true h];rfl
  ·rw [if_neg h,decide_eq_false h];split <;> rfl)
 clear h k;unfold au;go_enter Tryz.func177,Tryz.ntmps177
 go_wp2_with fail
 refine jV (F:=fun W=>Calls _ _ _ W _) ?_;intro w1 hE B2 B3 hz_w1 hr_w1;refine mV3 hE ?_ HR KR HX;clear HR KR HX;intro HR KR HX;have hs_w1:=hE.size;clear hE;replace b_B2:=bX3 B2;replace b_B3:=bX3 B3
 change Calls _ _ _ _ _
 refine cM (uC ⟨neg,ao,n,c,bo,m,d⟩ ⟨neg',ao',n',c',bo',m',d'⟩ q r _ HR.out KR.out) fun x2 w2 hE _=>?_
 refine mV5 hE ?_ B2 B3 HR KR HX;clear B2 B3 HR KR HX;intro B2 B3 HR KR HX;have hs_w2:=hE.size;clear hE;replace b_B2:=bX3 B2;replace b_B3:=bX3 B3;obtain ⟨v,hv⟩:∃ v,v=je q r:=⟨_,rfl⟩;rw [←hv] at HV ⊢;clear hv;go_wp2
 go_ret
 exact ⟨(),by rw [←HV.out];rfl,HX.out,trivial⟩
theorem vH(s:IH)(z:Int)(w:World)(h:eZ w s z):au 219 [s.v] w IH.v (fun s w'=>cr w' s (z.natAbs:Int)):=by
 obtain ⟨neg,ao,n,c⟩:=s;obtain ⟨ds,hU,hz,hn⟩:=h;simp only at hU hz hn;have HU:=Hi hU;have HZ:Hid (((z.natAbs:Nat):Int).natAbs=val ds):=Hi (by rw [hz,bw];simp);have HX:=Hi (Ext.refl w);clear hU hz;unfold au;go_enter Tryz.func219,Tryz.ntmps219
 go_wp2_with fail
 refine jV (F:=fun W=>Calls _ _ _ W _) ?_;intro w1 hE B1 B2 hz_w1 hr_w1;refine mV2 hE ?_ HU HX;clear HU HX;intro HU HX;have hs_w1:=hE.size;clear hE;replace b_B1:=bX3 B1;replace b_B2:=bX3 B2
 change Calls _ _ _ _ _
 refine cM (aR ⟨ao,n,c⟩ ds _ HU.out (by omega)) fun x2 w2 hE G2=>?_
 refine mV4 hE ?_ B1 B2 HU HX;clear B1 B2 HU HX;intro B1 B2 HU HX;have hs_w2:=hE.size;clear hE;replace b_B1:=bX3 B1;replace b_B2:=bX3 B2;go_wp2;have hF:=((Fin.start (L:=w.heap.size+1) HX.out (ak B2.out rfl)).set (by omega) (i:=0) (v:=.bool false) rfl).set (by omega) (i:=1) (v:=.slice x2.a x2.n x2.c) rfl;exact bodyPost_ret (v:=IH.v ⟨false,x2.a,x2.n,x2.c⟩) (by simp [results,Tryz.results219,go_sem,ae B2.out]) rfl ⟨⟨false,x2.a,x2.n,x2.c⟩,rfl,hF.ext,by simp,by rw [HZ.out];exact hF.keep _ _ _ _ G2.out⟩
theorem bp.bsz{w:World}{s:RH}{q:Rat}(h:bp w s q):Sz 134217728 q:=by
 obtain ⟨ds,es,h1,h2,h3,h4,h5⟩:=h;exact bp.sz (s:=s) ⟨ds,es,h1,h2,h3,h4,h5⟩ (by decide) h4 h5
theorem ay.numI{w:World}{neg:Bool}{a b:Option Addr}{n c m d:Nat}{q:Rat}(h:ay w ⟨neg,a,n,c,b,m,d⟩ q):cr w ⟨neg,a,n,c⟩ q.num:=⟨h.1,h.2.1⟩
theorem uu(s:RH)(q:Rat)(w:World)(h:bp w s q):au 235 [s.v] w RH.v (fun x w'=>ay w' x (-q)):=by
 have ZQ:=Hi h.bsz;obtain ⟨neg,ao,n,c,bo,m,d⟩:=s;have HR:=Hi h;have HX:=Hi (Ext.refl w);clear h;unfold au;go_enter Tryz.func235,Tryz.ntmps235
 go_wp2_with fail
 refine jV (F:=fun W=>Calls _ _ _ W _) ?_;intro w1 hE B1 B2 hz_w1 hr_w1;refine mV2 hE ?_ HR HX;clear HR HX;intro HR HX;have hs_w1:=hE.size;clear hE;replace b_B1:=bX3 B1;replace b_B2:=bX3 B2
 change Calls _ _ _ _ _
 refine cM (cY ⟨neg,ao,n,c,bo,m,d⟩ q _ HR.out) fun x2 w2 hE G2=>?_
 refine mV4 hE ?_ B1 B2 HR HX;clear B1 B2 HR HX;intro B1 B2 HR HX;have hs_w2:=hE.size;clear hE;replace b_B1:=bX3 B1;replace b_B2:=bX3 B2
 go_upto_region 2 with fail
 refine aV B1.out rfl ?_;intro y3 T;replace HX:=Hi (T.ext HX.out (by omega));replace HR:=Hi (HR.out.keep T.keep);replace B1:=Hi (T.bx);replace B2:=Hi (T.rest _ _ (by omega) B2.out);replace G2:=Hi (G2.out.keep T.keep);have hs_y3:=nle T.size;have hr_y3:=nle T.size.symm;clear T;replace b_B1:=bX3 B1;replace b_B2:=bX3 B2;obtain ⟨xn,xa,xl,xc,xb,xm,xd⟩:=x2
 go_wp2_with fail
 refine cM (li ⟨xn,xa,xl,xc⟩ q.num _ (G2.out.numI.rawk ZQ.out.1 (by decide))) fun x4 w4 hE G4=>?_
 refine mV5 hE ?_ HX HR B1 B2 G2;clear HX HR B1 B2 G2;intro HX HR B1 B2 G2;have hs_w4:=hE.size;clear hE;replace b_B1:=bX3 B1;replace b_B2:=bX3 B2;obtain ⟨yn,ya,yl,yc⟩:=x4
 go_upto_region 3 with fail
 refine uR B1.out rfl ?_;intro y5 T;replace HX:=Hi (T.ext HX.out (by omega));replace HR:=Hi (HR.out.keep T.keep);replace B1:=Hi (T.bx);replace B2:=Hi (T.rest _ _ (by omega) B2.out);replace G2:=Hi (G2.out.keep T.keep);replace G4:=Hi (G4.out.keep T.keep);have hs_y5:=nle T.size;have hr_y5:=nle T.size.symm;clear T;replace b_B1:=bX3 B1;replace b_B2:=bX3 B2;go_wp2;have hF:=((((Fin.start (L:=w.heap.size+1) HX.out (ak B2.out rfl)).set (by omega) (i:=0) (v:=.bool (⟨yn,ya,yl,yc,xb,xm,xd⟩:RH).neg) rfl).set (by omega) (i:=1) (v:=.slice (⟨yn,ya,yl,yc,xb,xm,xd⟩:RH).a (⟨yn,ya,yl,yc,xb,xm,xd⟩:RH).n (⟨yn,ya,yl,yc,xb,xm,xd⟩:RH).c) rfl).set (by omega) (i:=2) (v:=.slice (⟨yn,ya,yl,yc,xb,xm,xd⟩:RH).b (⟨yn,ya,yl,yc,xb,xm,xd⟩:RH).m (⟨yn,ya,yl,yc,xb,xm,xd⟩:RH).d) rfl);exact bodyPost_ret (v:=(⟨yn,ya,yl,yc,xb,xm,xd⟩:RH).v) (by simp [results,Tryz.results235,go_sem,ae B2.out]) rfl ⟨(⟨yn,ya,yl,yc,xb,xm,xd⟩:RH),rfl,hF.ext,(ay.keep (s:=⟨yn,ya,yl,yc,xb,xm,xd⟩) ⟨by rw [Rat.neg_num];exact G4.out.1,by rw [Rat.neg_num];exact G4.out.2,by rw [Rat.neg_den];exact G2.out.2.2⟩ hF.keep)⟩
theorem xr(q:Rat):q.abs.num=(q.num.natAbs:Int)∧q.abs.den=q.den:=by
 rcases Rat.le_total (a:=0) (b:=q) with h|h
 ·rw [Rat.abs_of_nonneg h];exact ⟨by have:=Rat.num_nonneg.2 h;omega,rfl⟩
 ·rw [Rat.abs_of_nonpos h,Rat.neg_num,Rat.neg_den];refine ⟨?_,rfl⟩;have:0≤(-q).num:=Rat.num_nonneg.2 (by grind);rw [Rat.neg_num] at this;omega
theorem oh(s:RH)(q:Rat)(w:World)(h:bp w s q):au 178 [s.v] w RH.v (fun x w'=>ay w' x q.abs):=by
 have ZQ:=Hi h.bsz;obtain ⟨neg,ao,n,c,bo,m,d⟩:=s;have HR:=Hi h;have HX:=Hi (Ext.refl w);have HA:=Hi (xr q);clear h;unfold au;go_enter Tryz.func178,Tryz.ntmps178
 go_wp2_with fail
 refine jV (F:=fun W=>Calls _ _ _ W _) ?_;intro w1 hE B1 B2 hz_w1 hr_w1;refine mV2 hE ?_ HR HX;clear HR HX;intro HR HX;have hs_w1:=hE.size;clear hE;replace b_B1:=bX3 B1;replace b_B2:=bX3 B2
 change Calls _ _ _ _ _
 refine cM (cY ⟨neg,ao,n,c,bo,m,d⟩ q _ HR.out) fun x2 w2 hE G2=>?_
 refine mV4 hE ?_ B1 B2 HR HX;clear B1 B2 HR HX;intro B1 B2 HR HX;have hs_w2:=hE.size;clear hE;replace b_B1:=bX3 B1;replace b_B2:=bX3 B2
 go_upto_region 2 with fail
 refine aV B1.out rfl ?_;intro y3 T;replace HX:=Hi (T.ext HX.out (by omega));replace HR:=Hi (HR.out.keep T.keep);replace B1:=Hi (T.bx);replace B2:=Hi (T.rest _ _ (by omega) B2.out);replace G2:=Hi (G2.out.keep T.keep);have hs_y3:=nle T.size;have hr_y3:=nle T.size.symm;clear T;replace b_B1:=bX3 B1;replace b_B2:=bX3 B2;obtain ⟨xn,xa,xl,xc,xb,xm,xd⟩:=x2
 go_wp2_with fail
 refine cM (vH ⟨xn,xa,xl,xc⟩ q.num _ (G2.out.numI.rawk ZQ.out.1 (by decide))) fun x4 w4 hE G4=>?_
 refine mV5 hE ?_ HX HR B1 B2 G2;clear HX HR B1 B2 G2;intro HX HR B1 B2 G2;have hs_w4:=hE.size;clear hE;replace b_B1:=bX3 B1;replace b_B2:=bX3 B2;obtain ⟨yn,ya,yl,yc⟩:=x4
 go_upto_region 3 with fail
 refine uR B1.out rfl ?_;intro y5 T;replace HX:=Hi (T.ext HX.out (by omega));replace HR:=Hi (HR.out.keep T.keep);replace B1:=Hi (T.bx);replace B2:=Hi (T.rest _ _ (by omega) B2.out);replace G2:=Hi (G2.out.keep T.keep);replace G4:=Hi (G4.out.keep T.keep);have hs_y5:=nle T.size;have hr_y5:=nle T.size.symm;clear T;replace b_B1:=bX3 B1;replace b_B2:=bX3 B2;go_wp2;have hF:=((((Fin.start (L:=w.heap.size+1) HX.out (ak B2.out rfl)).set (by omega) (i:=0) (v:=.bool (⟨yn,ya,yl,yc,xb,xm,xd⟩:RH).neg) rfl).set (by omega) (i:=1) (v:=.slice (⟨yn,ya,yl,yc,xb,xm,xd⟩:RH).a (⟨yn,ya,yl,yc,xb,xm,xd⟩:RH).n (⟨yn,ya,yl,yc,xb,xm,xd⟩:RH).c) rfl).set (by omega) (i:=2) (v:=.slice (⟨yn,ya,yl,yc,xb,xm,xd⟩:RH).b (⟨yn,ya,yl,yc,xb,xm,xd⟩:RH).m (⟨yn,ya,yl,yc,xb,xm,xd⟩:RH).d) rfl);exact bodyPost_ret (v:=(⟨yn,ya,yl,yc,xb,xm,xd⟩:RH).v) (by simp [results,Tryz.results178,go_sem,ae B2.out]) rfl ⟨(⟨yn,ya,yl,yc,xb,xm,xd⟩:RH),rfl,hF.ext,(ay.keep (s:=⟨yn,ya,yl,yc,xb,xm,xd⟩) ⟨by rw [HA.out.1];exact G4.out.1,by rw [HA.out.1];exact G4.out.2,by rw [HA.out.2];exact G2.out.2.2⟩ hF.keep)⟩
theorem ur(s t:RH)(q r:Rat)(w:World)(h:bp w s q)(k:bp w t r):au 223 [s.v,t.v] w RH.v (fun s w'=>ay w' s (q-r)):=by
 have ZR:=Hi k.bsz;obtain ⟨neg,ao,n,c,bo,m,d⟩:=s;obtain ⟨neg',ao',n',c',bo',m',d'⟩:=t;have HR:=Hi h;have KR:=Hi k;have HX:=Hi (Ext.refl w);have HV:Hid (q-r=q+-r):=Hi (Rat.sub_eq_add_neg _ _);clear h k;unfold au;go_enter Tryz.func223,Tryz.ntmps223
 go_upto_region 1 with fail
 refine xI ?_;intro w1 hE B2 B3 B4 hz_w1 hr_w1;refine mV3 hE ?_ HR KR HX;clear HR KR HX;intro HR KR HX;have hs_w1:=hE.size;clear hE;replace b_B2:=bX3 B2;replace b_B3:=bX3 B3;replace b_B4:=bX3 B4;refine wpG 4 (fun opIx=>match opIx with
  | 2=>.spec RH default RH.v (fun s w'=>ay w' s (-r))
  | 3=>.spec RH default RH.v (fun s w'=>ay w' s (q+-r))
  | _=>.quiet) (fun|3=>[2]|_=>[]) fun w0 he0 hz0 hc0 hf0=>?_
 refine wps he0.out rfl rfl (fun w1 hW hG=>?_) fun x2=>?_
 ·exact spc [RH.v ⟨neg',ao',n',c',bo',m',d'⟩] Tryz.func235 (uu ⟨neg',ao',n',c',bo',m',d'⟩ r _ (KR.out.ext hW))
 refine qZ ?_;refine wps he0.out rfl rfl (fun w1 hW hG=>?_) fun x3=>?_
 ·have g2:=(hG 2 (by decide):aD _ _).get fun _ e g=>g.ext e
  exact spc [RH.v ⟨neg,ao,n,c,bo,m,d⟩,x2.v] Tryz.func81 (eK ⟨neg,ao,n,c,bo,m,d⟩ x2 q (-r) _ (HR.out.ext hW) (g2.raw ZR.out.neg (by decide)))
 refine qZ ?_;refine aq ?_;intro w2 hI;have hE:=he0.out.trans hI.ext;have G2:=gT (hI.facts 2);have G3:=gT (hI.facts 3);clear hI he0 hz0 hc0 hf0;refine mV6 hE ?_ B2 B3 B4 HX KR HR;clear B2 B3 B4 HX KR HR;intro B2 B3 B4 HX KR HR;have hs_w2:=hE.size;clear hE;replace b_B2:=bX3 B2;replace b_B3:=bX3 B3;replace b_B4:=bX3 B4;simp only [pD];rw [←HV.out] at G3;go_wp2;have hF:=((((Fin.start (L:=w.heap.size+2) HX.out (ak B4.out rfl)).set (by omega) (i:=0) (v:=.bool x3.neg) rfl).set (by omega) (i:=1) (v:=.slice x3.a x3.n x3.c) rfl).set (by omega) (i:=2) (v:=.slice x3.b x3.m x3.d) rfl);exact bodyPost_ret (v:=x3.v) (by simp [results,Tryz.results223,go_sem,ae B4.out]) rfl ⟨x3,rfl,hF.ext,G3.out.keep hF.keep⟩
theorem wu{z e z' e':Int}{q r:Rat}(h:(z:Rat) / (e:Rat)=q)(k:(z':Rat) / (e':Rat)=r):((z*e':Int):Rat) / ((e*z':Int):Rat)=q / r:=by
 subst h k;rw [Rat.intCast_mul,Rat.intCast_mul,Rat.div_def,Rat.div_def,Rat.div_def,Rat.div_def,j9,j9,Rat.inv_inv];grind
theorem yN{z e:Int}{q:Rat}(he:0<e)(h:(z:Rat) / (e:Rat)=q):z=0↔q=0:=by
 subst h;constructor
 ·rintro rfl;rw [Rat.div_def];show (0:Rat)*_=0;grind
 ·intro h;rw [Rat.div_def] at h;rcases nXq.1 h with h1|h1
  ·exact Rat.intCast_eq_zero_iff.1 h1
  ·have a1:(e:Rat)≠0:=by intro h0;have:=Rat.intCast_eq_zero_iff.1 h0;omega
   have:=nYi _ a1;rw [h1] at this;grind
def Ez(r:Rat):Int:=if r=0 then 3 else 0
theorem oT{r:Rat}(h:r=0):Ez r=3:=if_pos h
theorem wB{r:Rat}(h:r≠0):Ez r=0:=if_neg h
def Gr(q r:Rat)(x:RH)(w':World):Prop:=r≠0→ay w' x (q / r)
abbrev DV(s:RH)(e:Int):Value:=.tuple #[s.v,.int .i64 e]
theorem uB(s t:RH)(q r:Rat)(w:World)(h:bp w s q)(k:bp w t r):au 48 [s.v,t.v] w (fun x:RH=>DV x (Ez r)) (Gr q r):=by
 obtain ⟨neg,ao,n,c,bo,m,d⟩:=s;obtain ⟨neg',ao',n',c',bo',m',d'⟩:=t;have HR:=Hi h;have KR:=Hi k;have HX:=Hi (Ext.refl w);clear h k;unfold au;go_enter Tryz.func48,Tryz.ntmps48
 go_wp2_with fail
 refine xI (F:=fun W=>Calls _ _ _ W _) ?_;intro w1 hE B2 B3 B4 hz_w1 hr_w1;refine mV3 hE ?_ HR KR HX;clear HR KR HX;intro HR KR HX;have hs_w1:=hE.size;clear hE;replace b_B2:=bX3 B2;replace b_B3:=bX3 B3;replace b_B4:=bX3 B4
 change Calls _ _ _ _ _
 refine cM (cT ⟨neg,ao,n,c,bo,m,d⟩ q _ HR.out) fun x2 w2 hE G2=>?_
 refine mV6 hE ?_ B2 B3 B4 HR KR HX;clear B2 B3 B4 HR KR HX;intro B2 B3 B4 HR KR HX;have hs_w2:=hE.size;clear hE;replace b_B2:=bX3 B2;replace b_B3:=bX3 B3;replace b_B4:=bX3 B4;obtain ⟨⟨an,aa,al,ac⟩,⟨bn,ba,bl,bc⟩⟩:=x2;obtain ⟨z,e,g1,g2,p3,g4,p5,p6⟩:=G2.out.div;have J1:=Hi g1;have J2:=Hi g2;have J4:=Hi g4;have P5:=Hi p5;have P6:=Hi p6;clear g1 g2 g4 p3 p5 p6 G2;simp only [PP]
 go_upto_region 2 with fail
 refine jV ?_;intro y3 hE B6 B7 hz_y3 hr_y3;refine mV8 hE ?_ B2 B3 B4 HR KR HX J1 J2;clear B2 B3 B4 HR KR HX J1 J2;intro B2 B3 B4 HR KR HX J1 J2;have hs_y3:=hE.size;clear hE;replace b_B2:=bX3 B2;replace b_B3:=bX3 B3;replace b_B4:=bX3 B4;replace b_B6:=bX3 B6;replace b_B7:=bX3 B7
 go_wp2_with fail
 refine cM (cT ⟨neg',ao',n',c',bo',m',d'⟩ r _ KR.out) fun x4 w4 hE G4=>?_
 refine mV8 hE ?_ B6 B7 B2 B3 B4 HR KR HX;clear B6 B7 B2 B3 B4 HR KR HX;intro B6 B7 B2 B3 B4 HR KR HX;refine mV2 hE ?_ J1 J2;clear J1 J2;intro J1 J2;have hs_w4:=hE.size;clear hE;replace b_B2:=bX3 B2;replace b_B3:=bX3 B3;replace b_B4:=bX3 B4;replace b_B6:=bX3 B6;replace b_B7:=bX3 B7;obtain ⟨⟨an',aa',al',ac'⟩,⟨bn',ba',bl',bc'⟩⟩:=x4;obtain ⟨z',e',g1,g2,p3,g4,p5,p6⟩:=G4.out.div;have K1:=Hi g1;have K2:=Hi g2;have K4:=Hi g4;have KN:=Hi (yN p3 g4);have Q5:=Hi p5;have Q6:=Hi p6;clear g1 g2 g4 p3 p5 p6 G4;simp only [PP]
 go_upto_region 3 with fail
 refine jV ?_;intro y5 hE B8 B9 hz_y5 hr_y5;refine mV8 hE ?_ B6 B7 B2 B3 B4 HR KR HX;clear B6 B7 B2 B3 B4 HR KR HX;intro B6 B7 B2 B3 B4 HR KR HX;refine mV4 hE ?_ J1 J2 K1 K2;clear J1 J2 K1 K2;intro J1 J2 K1 K2;have hs_y5:=hE.size;clear hE;replace b_B2:=bX3 B2;replace b_B3:=bX3 B3;replace b_B4:=bX3 B4;replace b_B6:=bX3 B6;replace b_B7:=bX3 B7;replace b_B8:=bX3 B8;replace b_B9:=bX3 B9;have HV:=Hi (wu J4.out K4.out);have M1:=Hi (nF P5.out Q6.out);have M2:=Hi (nF P6.out Q5.out);clear J4 K4
 go_wp2_with fail
 refine cM (dh ⟨an',aa',al',ac'⟩ z' _ K1.out) fun x6 w6 hE _=>?_
 refine mV8 hE ?_ B8 B9 B6 B7 B2 B3 B4 HR;clear B8 B9 B6 B7 B2 B3 B4 HR;intro B8 B9 B6 B7 B2 B3 B4 HR;refine mV6 hE ?_ KR HX J1 J2 K1 K2;clear KR HX J1 J2 K1 K2;intro KR HX J1 J2 K1 K2;have hs_w6:=hE.size;clear hE;replace b_B2:=bX3 B2;replace b_B3:=bX3 B3;replace b_B4:=bX3 B4;replace b_B6:=bX3 B6;replace b_B7:=bX3 B7;replace b_B8:=bX3 B8;replace b_B9:=bX3 B9;by_cases hz:z'=0
 case pos =>
  have hr:r=0:=KN.out.1 hz;subst hz;have HRz:=Hi hr;rw [cX rfl];have HZe:Hid (Ending.returned (DV ⟨false,none,0,0,none,0,0⟩ 3)=Ending.returned (DV ⟨false,none,0,0,none,0,0⟩ (Ez r))):=Hi (by rw [oT HRz.out]);clear hr M1 M2 HV P5 P6 Q5 Q6 KN;go_wp2;have hF:=(((Fin.start (L:=w.heap.size+2) HX.out (ak B4.out rfl)).set (by omega) (i:=0) (v:=.bool false) rfl).set (by omega) (i:=1) (v:=.slice none 0 0) rfl).set (by omega) (i:=2) (v:=.slice none 0 0) rfl;exact bodyPost_ret (v:=DV ⟨false,none,0,0,none,0,0⟩ 3) (by simp [results,Tryz.results48,go_sem,ae B4.out,DV]) rfl ⟨⟨false,none,0,0,none,0,0⟩,HZe.out,hF.ext,fun h=>(h HRz.out).elim⟩
 have HRz:Hid (r≠0):=Hi (fun h=>hz (KN.out.2 h));have hcz:ci z' 0=-1∨ci z' 0=1:=by
  rcases Int.lt_or_gt_of_ne hz with h|h
  ·exact Or.inl (cW h)
  ·exact Or.inr (cP h)
 obtain ⟨v,hv⟩:∃ v,v=ci z' 0:=⟨_,rfl⟩;rw [←hv] at hcz ⊢;have hvb:(v == 0)=false:=by rw [nXr];omega
 clear hv hcz hz KN;have HZe:∀ x:RH,Ending.returned (DV x 0)=Ending.returned (DV x (Ez r)):=fun x=>by rw [wB HRz.out]
 go_upto_region 5 with fail
 refine wpG 7 (fun opIx=>match opIx with
  | 2=>.spec IH default IH.v (fun s w'=>cr w' s (z*e'))
  | 5=>.spec IH default IH.v (fun s w'=>cr w' s (e*z'))
  | 6=>.spec RH default RH.v (fun s w'=>ay w' s (q / r))
  | _=>.quiet) (fun|6=>[2,5]|_=>[]) fun w0 he0 hz0 hc0 hf0=>?_
 refine wps he0.out rfl rfl (fun w1 hW hG=>?_) fun x2=>?_
 ·exact spc [IH.v ⟨an,aa,al,ac⟩,IH.v ⟨bn',ba',bl',bc'⟩] Tryz.func112 (dt _ _ _ _ _ (J1.out.ext hW) (K2.out.ext hW))
 refine qZ ?_;refine wps he0.out rfl rfl (fun w1 hW hG=>?_) fun x5=>?_
 ·exact spc [IH.v ⟨bn,ba,bl,bc⟩,IH.v ⟨an',aa',al',ac'⟩] Tryz.func112 (dt _ _ _ _ _ (J2.out.ext hW) (K1.out.ext hW))
 refine qZ ?_;refine wps he0.out rfl rfl (fun w1 hW hG=>?_) fun x6=>?_
 ·have g2:=(hG 2 (by decide):aD _ _).get fun _ e g=>g.ext e
  have g5:=(hG 5 (by decide):aD _ _).get fun _ e g=>g.ext e
  exact spc [x2.v,x5.v] Tryz.func88 (HV.out ▸ fE x2 x5 _ _ _ (g2.rawk M1.out jH.2.1) (g5.rawk M2.out jH.2.1))
 refine qZ ?_;refine aq ?_;intro w7 hI;have hE:=he0.out.trans hI.ext;have G2:=gT (hI.facts 2);have G5:=gT (hI.facts 5);have G6:=gT (hI.facts 6);clear hI he0 hz0 hc0 hf0;refine mV8 hE ?_ B8 B9 B6 B7 B2 B3 B4 HR;clear B8 B9 B6 B7 B2 B3 B4 HR;intro B8 B9 B6 B7 B2 B3 B4 HR;refine mV6 hE ?_ KR HX J1 K2 J2 K1;clear KR HX J1 K2 J2 K1;intro KR HX J1 K2 J2 K1;have hs_w7:=hE.size;clear hE;replace b_B2:=bX3 B2;replace b_B3:=bX3 B3;replace b_B4:=bX3 B4;replace b_B6:=bX3 B6;replace b_B7:=bX3 B7;replace b_B8:=bX3 B8;replace b_B9:=bX3 B9;simp only [pD];go_wp2;have hF:=(((Fin.start (L:=w.heap.size+2) HX.out (ak B4.out rfl)).set (by omega) (i:=0) (v:=.bool x6.neg) rfl).set (by omega) (i:=1) (v:=.slice x6.a x6.n x6.c) rfl).set (by omega) (i:=2) (v:=.slice x6.b x6.m x6.d) rfl;exact bodyPost_ret (v:=DV x6 0) (by simp [results,Tryz.results48,go_sem,ae B4.out,DV]) rfl ⟨x6,HZe x6,hF.ext,fun _=>G6.out.keep hF.keep⟩
theorem fD(s t:RH)(q r:Rat)(w:World)(h:bp w s q)(k:bp w t r):au 63 [s.v,t.v] w RH.v (fun x w'=>ay w' x (q / r)):=by
 obtain ⟨neg,ao,n,c,bo,m,d⟩:=s;obtain ⟨neg',ao',n',c',bo',m',d'⟩:=t;have HR:=Hi h;have KR:=Hi k;have HX:=Hi (Ext.refl w);clear h k;unfold au;go_enter Tryz.func63,Tryz.ntmps63
 go_wp2_with fail
 refine xI (F:=fun W=>Calls _ _ _ W _) ?_;intro w1 hE B2 B3 B4 hz_w1 hr_w1;refine mV3 hE ?_ HR KR HX;clear HR KR HX;intro HR KR HX;have hs_w1:=hE.size;clear hE;replace b_B2:=bX3 B2;replace b_B3:=bX3 B3;replace b_B4:=bX3 B4
 change Calls _ _ _ _ _
 refine cM (uB ⟨neg,ao,n,c,bo,m,d⟩ ⟨neg',ao',n',c',bo',m',d'⟩ q r _ HR.out KR.out) fun x2 w2 hE G2=>?_
 refine mV6 hE ?_ B2 B3 B4 HR KR HX;clear B2 B3 B4 HR KR HX;intro B2 B3 B4 HR KR HX;have hs_w2:=hE.size;clear hE;replace b_B2:=bX3 B2;replace b_B3:=bX3 B3;replace b_B4:=bX3 B4;simp only [DV];by_cases hr:r=0
 case pos =>
  have HV:Hid (q / r=((0:Int):Rat)):=Hi (by rw [hr,Rat.div_def,Rat.inv_zero];show q*0=0;grind);rw [oT hr];clear hr G2
  go_upto_region 2 with fail
  refine nmA ?_;intro y3 hE B5 hz_y3 hr_y3;refine mV6 hE ?_ B2 B3 B4 HR KR HX;clear B2 B3 B4 HR KR HX;intro B2 B3 B4 HR KR HX;have hs_y3:=hE.size;clear hE;replace b_B2:=bX3 B2;replace b_B3:=bX3 B3;replace b_B4:=bX3 B4;replace b_B5:=bX3 B5
  go_wp2_with fail
  refine cM (aX 0 _ (by decide) (by decide)) fun x4 w4 hE G4=>?_
  refine mV7 hE ?_ B5 B2 B3 B4 HR KR HX;clear B5 B2 B3 B4 HR KR HX;intro B5 B2 B3 B4 HR KR HX;have hs_w4:=hE.size;clear hE;replace b_B2:=bX3 B2;replace b_B3:=bX3 B3;replace b_B4:=bX3 B4;replace b_B5:=bX3 B5;go_wp2;have hF:=((((Fin.start (L:=w.heap.size+2) HX.out (ak B4.out rfl)).set (by omega) (i:=0) (v:=.bool x4.neg) rfl).set (by omega) (i:=1) (v:=.slice x4.a x4.n x4.c) rfl).set (by omega) (i:=2) (v:=.slice x4.b x4.m x4.d) rfl);exact bodyPost_ret (v:=x4.v) (by simp [results,Tryz.results63,go_sem,ae B4.out]) rfl ⟨x4,rfl,hF.ext,(by rw [HV.out];exact G4.out.keep hF.keep)⟩
 rw [wB hr];have GC:=Hi (G2.out hr);clear hr G2;obtain ⟨xn,xa,xl,xc,xb,xm,xd⟩:=x2
 go_upto_region 2 with fail
 refine nmA ?_;intro y3 hE B5 hz_y3 hr_y3;refine mV7 hE ?_ B2 B3 B4 HR KR HX GC;clear B2 B3 B4 HR KR HX GC;intro B2 B3 B4 HR KR HX GC;have hs_y3:=hE.size;clear hE;replace b_B2:=bX3 B2;replace b_B3:=bX3 B3;replace b_B4:=bX3 B4;replace b_B5:=bX3 B5;go_wp2;have hF:=((((Fin.start (L:=w.heap.size+2) HX.out (ak B4.out rfl)).set (by omega) (i:=0) (v:=.bool (⟨xn,xa,xl,xc,xb,xm,xd⟩:RH).neg) rfl).set (by omega) (i:=1) (v:=.slice (⟨xn,xa,xl,xc,xb,xm,xd⟩:RH).a (⟨xn,xa,xl,xc,xb,xm,xd⟩:RH).n (⟨xn,xa,xl,xc,xb,xm,xd⟩:RH).c) rfl).set (by omega) (i:=2) (v:=.slice (⟨xn,xa,xl,xc,xb,xm,xd⟩:RH).b (⟨xn,xa,xl,xc,xb,xm,xd⟩:RH).m (⟨xn,xa,xl,xc,xb,xm,xd⟩:RH).d) rfl);exact bodyPost_ret (v:=(⟨xn,xa,xl,xc,xb,xm,xd⟩:RH).v) (by simp [results,Tryz.results63,go_sem,ae B4.out]) rfl ⟨(⟨xn,xa,xl,xc,xb,xm,xd⟩:RH),rfl,hF.ext,(ay.keep (s:=⟨xn,xa,xl,xc,xb,xm,xd⟩) GC.out hF.keep)⟩
theorem eR(ao:Option Addr)(n cap:Nat)(qs:List Rat)(w:World)(h:bX w ⟨ao,n,cap⟩ qs)(hn:n≤1073741824) :
  au 53 [.slice ao n cap] w (fun _:Unit=>.int .i64 (((tz qs).length:Int)-1)) (fun _ _=>True):=by
 have H:=Hi h;have HX:=Hi (Ext.refl w);clear h;unfold au;go_enter Tryz.func53,Tryz.ntmps53
 go_wp2_with fail
 refine cM (aN ao n cap qs _ H.out hn) fun x1 w1 hE G1=>?_
 replace HX:=hE.tr HX;have hs_w1:=hE.size;clear hE;obtain ⟨pa,P,pc⟩:=x1;simp only [SH.v];have hP:=G1.out.len;simp only at hP;have h1:=G1.out.can.le;have h2:=G1.out.can.max;simp only at h1 h2;have HV:Hid (((tz qs).length:Int)-1=(P:Int)-1):=Hi (by rw [hP]);clear hP;go_wp2
 go_ret
 exact ⟨(),by rw [HV.out];rfl,HX.out,trivial⟩
def aK(ps:List Rat)(c:Rat):List Rat:=tz (ps.map (·*c))
theorem br.blk'{D:Nat→Prop}{w w':World}(h:br D w w'){b:Nat}{o:Obj}(hb:¬ D b)(hv:w.heap[b]?=some o):w'.heap[b]?=some o:=by
 have hl:b<w.heap.size:=(nXa.1 hv).1;rw [h.block b hl hb];exact hv
theorem eB(ao:Option Addr)(n cap:Nat)(ps:List Rat)(t:RH)(c:Rat)(w:World)(h:bX w ⟨ao,n,cap⟩ ps)(ht:bp w t c)(hn:n≤1073741823)(hz:SzL 8388608 ps)(hzc:Sz 8388608 c) :
  au 28 [.slice ao n cap,t.v] w SH.v (fun s w'=>bj w.heap.size w' s (aK ps c)):=by
 obtain ⟨tn,ta,tl,tc,tb,tm,td⟩:=t;have H:=Hi h;have HR:=Hi ht;have HX:=Hi (Ext.refl w);have hle:=h.le;have hmx:=h.max;have Hlen:=Hi h.len;simp only at hle hmx Hlen;have HZ:=Hi hz;have HZc:=Hi hzc;clear h ht hz hzc;unfold au;go_enter Tryz.func28,Tryz.ntmps28
 go_upto_region 1 with fail
 refine nmA ?_;intro w1 hE B3 hz_w1 hr_w1;refine mV2 hE ?_ HR HX;clear HR HX;intro HR HX;have hs_w1:=hE.size;clear hE;replace b_B3:=bX3 B3;obtain ⟨b3,hb3⟩:∃ b3,b3=w.heap.size:=⟨_,rfl⟩;have hb3w:w.heap.size≤b3:=by omega
 have hb31:b3<w1.heap.size:=by omega
 rw [←hb3] at B3 ⊢;clear hb3 b_B3;go_wp2
 go_loopg [5,10] n (fun g v i wr=>∃ (j:Nat) (s:SH),v=s.v∧j+g=n∧i=.int .i64 (j:Nat)∧Ext w wr∧w1.heap.size≤wr.heap.size∧bp wr ⟨tn,ta,tl,tc,tb,tm,td⟩ c∧wr.heap[b3]?=some (.cells #[.bool tn,.slice ta tl tc,.slice tb tm td] 30 (0,0))∧dB wr (w1.heap.size≤·) s.v ((ps.take j).map (·*c)))
 case atStart=>exact ⟨0,⟨none,0,0⟩,rfl,by omega,rfl,HX.out,nXd _,HR.out,B3.out,dB.nil _ _⟩
 case round =>
  obtain ⟨j,⟨sa,sn,sc⟩,rfl,hj,rfl,g1,hsz1,g2,g3,g4⟩:=hrel;clear HX HR B3;have HX:=Hi g1;have HR:=Hi g2;have B3:=Hi g3;have HO:=Hi g4;have hsz:=g1.size;clear g1 g2 g3 g4;simp only [SH.v];replace b_B3:=bX3 B3;have hb3r:=b_B3.2.2;by_cases h0:gk=0
  case pos =>
   subst h0;obtain rfl:j=n:=by omega
   have HE:Hid (ps.take j=ps):=Hi (nXl (by rw [Hlen.out];exact nXd _));rw [HE.out] at HO;have hsn:=dB.len (s:=⟨sa,sn,sc⟩) HO.out;rw [nXk,Hlen.out] at hsn;simp only at hsn;subst hsn;have HSz:Hid (SzL 16777216 (ps.map (·*c))):=Hi (by
    intro q hq;obtain ⟨y,hy,rfl⟩:=nYe.1 hq;exact ((HZ.out y hy).mul HZc.out).mono (by decide))
   go_wp2_with fail
   refine cM (aN sa j sc _ _ ((dB.can (s:=⟨sa,j,sc⟩) HO.out).raw HSz.out (by decide)) (by omega)) fun x20 w20 hE G20=>?_
   refine mV4 hE ?_ HX HR B3 HO;clear HX HR B3 HO;intro HX HR B3 HO;have hs_w20:=hE.size;clear hE;replace b_B3:=bX3 B3;go_wp2
   go_ret
   exact ⟨x20,rfl,HX.out,G20.out.mono hsz⟩
  have hjn:(j:Int)<n:=by omega
  obtain ⟨b,off,r,hao,hbl,⟨hc1,hc2,hc3⟩,hP⟩:=(H.out.ext HX.out).cells' (k:=j) (by omega);obtain ⟨rneg,ra,rn,rc,rb,rm,rd⟩:=r;simp only at hc1 hc2 hc3;subst hao;have RP:=Hi hP;clear hP;have HNx:Hid ((ps.take (j+1)).map (·*c)=(ps.take j).map (·*c)++[ps.getD j 0*c]):=Hi (by rw [←cQ (by rw [Hlen.out];omega),List.map_append];rfl);have HLn:Hid (((ps.take j).map (·*c)).length≤1073741824):=Hi (by rw [nXk,nXj];omega)
  go_upto_region 5 with fail
  refine nmA ?_;intro y1 hE B7 hz_y1 hr_y1;refine mV5 hE ?_ HX HR B3 HO RP;clear HX HR B3 HO RP;intro HX HR B3 HO RP;have hs_y1:=hE.size;clear hE;replace b_B3:=bX3 B3;replace b_B7:=bX3 B7
  go_wp2_with fail
  refine cM (dQ ⟨rneg,ra,rn,rc,rb,rm,rd⟩ ⟨tn,ta,tl,tc,tb,tm,td⟩ _ c _ RP.out HR.out) fun x2 w2 hE G2=>?_
  refine mV6 hE ?_ B7 HX HR B3 HO RP;clear B7 HX HR B3 HO RP;intro B7 HX HR B3 HO RP;have hs_w2:=hE.size;clear hE;replace b_B3:=bX3 B3;replace b_B7:=bX3 B7
  go_wp2_with (at_builtin;refine bG rfl (.tmp 14) (.tmp 18) 41 Tryz.underlying41 rfl (w1.heap.size≤·) _ _ x2 _ rfl HO.out rfl G2.out HLn.out (fun k hk=>by omega) ?_;intro s' y3 q1 q2 q3)
  have HX3:=Hi (Ext.mods HX.out q2 (fun k h=>by omega));have HO3:Hid (dB y3 (w1.heap.size≤·) s'.v ((ps.take (j+1)).map (·*c))):=Hi (by rw [HNx.out];exact q1);have HR3:=Hi (HR.out.keep q3);have B33:=Hi (br.blk' q2 (by omega) B3.out);have hsz3:=q2.size;clear q1 q2 q3;go_wp2
  go_roundg (gk-1)
  case measure=>omega
  case rel=>exact ⟨j+1,s',rfl,by omega,by go_num,HX3.out,by omega,HR3.out,B33.out,HO3.out⟩
def go(ps qs:List Rat):List Rat:=aS ps (aK qs ((-1:Int):Rat))
theorem iT{s t:Nat}{l:List Rat}{c:Rat}(h:SzL s l)(hc:Sz t c):SzL (s+t) (aK l c):=by
 unfold aK;refine SzL.tz ?_;intro q hq;obtain ⟨y,hy,rfl⟩:=nYe.1 hq;exact (h y hy).mul hc
theorem ju(l:List Rat)(c:Rat):(aK l c).length≤l.length:=by
 unfold aK;refine nXe (af _) ?_;simp
theorem iA:Sz 1 ((-1:Int):Rat):=Sz.int (by decide)
theorem mJ(ao bo:Option Addr)(n c m d:Nat)(ps qs:List Rat)(w:World)(h:bX w ⟨ao,n,c⟩ ps)(k:bX w ⟨bo,m,d⟩ qs)(hn:n≤1073741823)(hm:m≤1073741823)(hz:SzL 8388608 ps)(kz:SzL 8388607 qs) :
  au 24 [.slice ao n c,.slice bo m d] w SH.v (fun s w'=>bj w.heap.size w' s (go ps qs)):=by
 have H:=Hi h;have K:=Hi k;have HX:=Hi (Ext.refl w);have Hm:=Hi k.len;simp only at Hm;have HZ:=Hi hz;have KZ:=Hi kz;clear h k hz kz;unfold au;go_enter Tryz.func24,Tryz.ntmps24
 go_wp2_with fail
 refine cM (aX (-1) _ (by decide) (by decide)) fun x1 w1 hE G1=>?_
 replace HX:=hE.tr HX;have hs_w1:=hE.size;clear hE
 go_wp2_with fail
 refine cM (eB bo m d qs x1 ((-1:Int):Rat) _ (K.out.ext HX.out) (G1.out.raw iA (by decide)) hm (KZ.out.mono (by decide)) (iA.mono (by decide))) fun x2 w2 hE G2=>?_
 refine mV2 hE ?_ G1 HX;clear G1 HX;intro G1 HX;have hs_w2:=hE.size;clear hE;obtain ⟨sa,sn,sc⟩:=x2;have hsn:sn≤m:=by
  have h1:=G2.out.len;have h2:=ju qs ((-1:Int):Rat);rw [Hm.out] at h2;simp only at h1;omega
 simp only [SH.v];have hsz:=HX.out.size
 go_wp2_with fail
 refine cM (sD ao sa n c sn sc ps (aK qs ((-1:Int):Rat)) _ (H.out.ext HX.out) (G2.out.can.raw (iT KZ.out iA) (by decide)) hn (by omega) HZ.out ((iT KZ.out iA).mono (by decide))) fun x3 w3 hE G3=>?_
 refine mV3 hE ?_ G2 G1 HX;clear G2 G1 HX;intro G2 G1 HX;have hs_w3:=hE.size;clear hE;go_wp2
 go_ret
 exact ⟨x3,rfl,HX.out,G3.out.mono hsz⟩
end Go.Proofs.YtohahgiidooijaaGreat
