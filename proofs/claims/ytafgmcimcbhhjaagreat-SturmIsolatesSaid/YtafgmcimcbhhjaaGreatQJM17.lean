import Derived.Test.YtafgmcimcbhhjaaGreatQJK1
set_option linter.unusedVariables false
set_option maxRecDepth 8000
set_option maxHeartbeats 4000000
namespace Go.Proofs.YtafgmcimcbhhjaaGreat
open Go.RowKit Go.Front Go.Num
attribute [local go_sem] XW.cell XW.frozen
theorem tQ{w1:World}{b:Nat}{T:TypeId}{c0 c1 c2 v0 v1:Value}{F:World→Prop}(hb:w1.heap[b]?=some (.cells #[c0,c1,c2] T (0,0)))(hn:#[c0,c1,c2].toList.all fj=true)(h:∀ w2,dK w1 b T #[v0,v1,c2] w2→F w2) :
  F ((w1.setCell ⟨b,0,none⟩ v0).setCell ⟨b,1,none⟩ v1) :=
 h _ (dK.of (nXb.1 hb).1 (aj hb hn) ((aV.setCell w1 ⟨b,0,none⟩ v0).trans (aV.setCell _ ⟨b,1,none⟩ v1)) (by simp [World.setCell]) (aH (aH hb 0 v0) 1 v1))
theorem eM.rawn{w:World}{s:IH}{z:Int}(h:eM w s z){w':World}{t:IH}{y:Int}(k:eE w' t y)(hz:z.natAbs≤y.natAbs):eE w s z:=by
 obtain ⟨ds,h1,h2,h3⟩:=k;have h4:=im h1 t.neg;rw [←h2] at h4;exact h.rawk (k:=t.n) (nYk hz h4) h3
theorem ur(s t:IH)(z y:Int)(w:World)(h:eE w s z)(k:eE w t y):au 177 [s.v,t.v] w IH.v (fun s w'=>eM w' s (z-y)):=by
 obtain ⟨neg,ao,n,c⟩:=s;obtain ⟨neg',bo,m,d⟩:=t;have HR:=Hi h;have KR:=Hi k;have HX:=Hi (Ext.refl w);have HV:Hid (z-y=z+-y):=Hi zo;clear h k;unfold au;go_enter Tryz.func177,Tryz.ntmps177
 go_upto_region 1 with fail
 refine rX ?_;intro w1 hE B2 B3 B4 hz_w1 hr_w1;refine mV3 hE ?_ HR KR HX;clear HR KR HX;intro HR KR HX;have hs_w1:=hE.size;replace b_B2:=bX3 B2;replace b_B3:=bX3 B3;replace b_B4:=bX3 B4;refine wpG 4 (fun opIx=>match opIx with
  | 2=>sI (-y)
  | 3=>sI (z+-y)
  | _=>.quiet) (fun|3=>[2]|_=>[]) fun w0 he0 hz0 hc0 hf0=>?_
 refine wps he0 (fun w1 hW hG=>?_) fun x2=>?_
 ·exact spc [IH.v ⟨neg',bo,m,d⟩] Tryz.func150 (lg ⟨neg',bo,m,d⟩ y _ (KR.out.ext hW))
 refine qZ ?_;refine wps he0 (fun w1 hW hG=>?_) fun x3=>?_
 ·have g2:=gS (hG 2 dZ);exact spc [IH.v ⟨neg,ao,n,c⟩,x2.v] Tryz.func111 (og ⟨neg,ao,n,c⟩ x2 z (-y) _ (HR.out.ext hW) (g2.rawn KR.out zo))
 refine qZ ?_;refine aq ?_;intro w2 hI;have hE:=he0.out.trans hI.ext;have G2:=gT (hI.facts 2);have G3:=gT (hI.facts 3);clear hI he0 hz0 hc0 hf0;refine mV6 hE ?_ B2 B3 B4 HX HR KR;clear B2 B3 B4 HX HR KR;intro B2 B3 B4 HX HR KR;have hs_w2:=hE.size;replace b_B2:=bX3 B2;replace b_B3:=bX3 B3;replace b_B4:=bX3 B4;simp only [pD];rw [←HV.out] at G3;go_wp2;have hF:=((Fin.start (L:=w.heap.size+2) HX.out (aj B4.out rfl)).set zo (i:=0) (v:=.bool x3.neg) rfl).set zo (i:=1) (v:=.slice x3.a x3.n x3.c) rfl;exact nXa (v:=x3.v) (by simp [results,Tryz.results177,go_sem,ae B4.out]) rfl ⟨x3,rfl,hF.ext,G3.out.keep hF.keep⟩
theorem xT(z y:Int):bZ (z-y) 0=bZ z y:=by
 unfold bZ;split
 ·rw [if_pos zo]
 ·split
  ·rw [if_neg zo,if_pos zo]
  ·rw [if_neg zo,if_neg zo]
theorem uw(s t:IH)(z y:Int)(k:Nat)(w:World)(h:eE w s z)(g:eE w t y)(hz:z.natAbs<W32 ^ k)(hy:y.natAbs<W32 ^ k)(hk:k≤1073741823)(hk1:1≤k):au 113 [s.v,t.v] w (fun _:Unit=>.int .i64 (bZ z y)) (fun _ _=>True):=by
 obtain ⟨neg,ao,n,c⟩:=s;obtain ⟨neg',bo,m,d⟩:=t;have HR:=Hi h;have KR:=Hi g;have HX:=Hi (Ext.refl w);have HV:=Hi (xT z y);have HL:Hid ((z-y).natAbs<W32 ^ (k+1)):=Hi (by
  have h5:W32 ^ k*2≤W32 ^ (k+1):=by rw [nXt];exact nXg _ dZ
  omega)
 clear h g hz hy;unfold au;go_enter Tryz.func113,Tryz.ntmps113
 go_wp2_with fail
 refine hZ (F:=fun W=>Calls _ _ _ W _) ?_;intro w1 hE B2 B3 hz_w1 hr_w1;refine mV3 hE ?_ HR KR HX;clear HR KR HX;intro HR KR HX;have hs_w1:=hE.size;replace b_B2:=bX3 B2;replace b_B3:=bX3 B3
 change Calls _ _ _ _ _
 refine cM (ur ⟨neg,ao,n,c⟩ ⟨neg',bo,m,d⟩ z y _ HR.out KR.out) fun x2 w2 hE G2=>?_
 refine mV5 hE ?_ B2 B3 HR KR HX;clear B2 B3 HR KR HX;intro B2 B3 HR KR HX;have hs_w2:=hE.size;replace b_B2:=bX3 B2;replace b_B3:=bX3 B3
 go_wp2_with fail
 refine cM (cP x2 (z-y) _ (G2.out.rawk HL.out zo)) fun x3 w3 hE _=>?_
 refine mV6 hE ?_ G2 B2 B3 HR KR HX;clear G2 B2 B3 HR KR HX;intro G2 B2 B3 HR KR HX;have hs_w3:=hE.size;replace b_B2:=bX3 B2;replace b_B3:=bX3 B3;rw [HV.out];go_wp2
 go_ret
 exact ⟨(),rfl,HX.out,trivial⟩
theorem vk{z e z' e':Int}{q r:Rat}(h0:0<e)(k0:0<e')(h:(z:Rat) / (e:Rat)=q)(k:(z':Rat) / (e':Rat)=r):bZ (z*e') (z'*e)=dJ q r:=by
 have f:∀ (a b:Int),0<b→(a:Rat) / (b:Rat)=mkRat a b.natAbs:=fun a b hb=>by
  rw [Rat.mkRat_eq_div]
  congr 1
  rw [←Rat.intCast_natCast,Int.natAbs_of_nonneg zo]
 rw [←h,←k,f z e h0,f z' e' k0,pK zo zo];rw [Int.natAbs_of_nonneg zo,Int.natAbs_of_nonneg zo]
theorem np{a b:Int}(h:Big a)(k:Big b):(a*b).natAbs<W32 ^ (sB+sB):=by
 rw [Int.natAbs_mul];exact eS h k
theorem jN:sB+sB≤1073741823∧sB+sB≤1073741824∧1≤sB+sB:=by unfold sB;omega
theorem nQ(s t:RH)(q r:Rat)(w:World)(h:aS w s q)(k:aS w t r):au 49 [s.v,t.v] w (fun _:Unit=>.int .i64 (dJ q r)) (fun _ _=>True):=by
 obtain ⟨neg,ao,n,c,bo,m,d⟩:=s;obtain ⟨neg',ao',n',c',bo',m',d'⟩:=t;have HR:=Hi h;have KR:=Hi k;have HX:=Hi (Ext.refl w);clear h k;unfold au;go_enter Tryz.func49,Tryz.ntmps49
 go_wp2_with fail
 refine hZ (F:=fun W=>Calls _ _ _ W _) ?_;intro w1 hE B2 B3 hz_w1 hr_w1;refine mV3 hE ?_ HR KR HX;clear HR KR HX;intro HR KR HX;have hs_w1:=hE.size;replace b_B2:=bX3 B2;replace b_B3:=bX3 B3
 change Calls _ _ _ _ _
 refine cM (cx ⟨neg,ao,n,c,bo,m,d⟩ q _ HR.out) fun x2 w2 hE G2=>?_
 refine mV5 hE ?_ B2 B3 HR KR HX;clear B2 B3 HR KR HX;intro B2 B3 HR KR HX;have hs_w2:=hE.size;replace b_B2:=bX3 B2;replace b_B3:=bX3 B3;obtain ⟨⟨an,aa,al,ac⟩,⟨bn,ba,bl,bc⟩⟩:=x2;obtain ⟨z,e,g1,g2,p3,g4,p5,p6⟩:=G2.out.div;have J1:=Hi g1;have J2:=Hi g2;have J4:=Hi g4;have P3:=Hi p3;have P5:=Hi p5;have P6:=Hi p6;clear g1 g2 g4 p3 p5 p6 G2;simp only [PP]
 go_upto_region 2 with fail
 refine hZ ?_;intro y3 hE B5 B6 hz_y3 hr_y3;refine mV7 hE ?_ B2 B3 HR KR HX J1 J2;clear B2 B3 HR KR HX J1 J2;intro B2 B3 HR KR HX J1 J2;have hs_y3:=hE.size;replace b_B2:=bX3 B2;replace b_B3:=bX3 B3;replace b_B5:=bX3 B5;replace b_B6:=bX3 B6
 go_wp2_with fail
 refine cM (cx ⟨neg',ao',n',c',bo',m',d'⟩ r _ KR.out) fun x4 w4 hE G4=>?_
 refine mV8 hE ?_ B5 B6 B2 B3 HR KR HX J1;clear B5 B6 B2 B3 HR KR HX J1;intro B5 B6 B2 B3 HR KR HX J1;replace J2:=mV hE J2;have hs_w4:=hE.size;replace b_B2:=bX3 B2;replace b_B3:=bX3 B3;replace b_B5:=bX3 B5;replace b_B6:=bX3 B6;obtain ⟨⟨an',aa',al',ac'⟩,⟨bn',ba',bl',bc'⟩⟩:=x4;obtain ⟨z',e',g1,g2,p3,g4,p5,p6⟩:=G4.out.div;have K1:=Hi g1;have K2:=Hi g2;have K4:=Hi g4;have Q3:=Hi p3;have Q5:=Hi p5;have Q6:=Hi p6;clear g1 g2 g4 p3 p5 p6 G4;simp only [PP]
 go_upto_region 3 with fail
 refine hZ ?_;intro y5 hE B7 B8 hz_y5 hr_y5;refine mV8 hE ?_ B5 B6 B2 B3 HR KR HX J1;clear B5 B6 B2 B3 HR KR HX J1;intro B5 B6 B2 B3 HR KR HX J1;refine mV3 hE ?_ J2 K1 K2;clear J2 K1 K2;intro J2 K1 K2;have hs_y5:=hE.size;replace b_B2:=bX3 B2;replace b_B3:=bX3 B3;replace b_B5:=bX3 B5;replace b_B6:=bX3 B6;replace b_B7:=bX3 B7;replace b_B8:=bX3 B8;have HV:=Hi (vk P3.out Q3.out J4.out K4.out);have M1:=Hi (np P5.out Q6.out);have M2:=Hi (np Q5.out P6.out);clear J4 K4;refine wpG 7 (fun opIx=>match opIx with
  | 2=>sI (z*e')
  | 5=>sI (z'*e)
  | 6=>sU (.int .i64 (dJ q r))
  | _=>.quiet) (fun|6=>[2,5]|_=>[]) fun w0 he0 hz0 hc0 hf0=>?_
 refine wps he0 (fun w1 hW hG=>?_) fun x2=>?_
 ·exact spc [IH.v ⟨an,aa,al,ac⟩,IH.v ⟨bn',ba',bl',bc'⟩] Tryz.func112 (cV _ _ _ _ _ (J1.out.ext hW) (K2.out.ext hW))
 refine qZ ?_;refine wps he0 (fun w1 hW hG=>?_) fun x5=>?_
 ·exact spc [IH.v ⟨an',aa',al',ac'⟩,IH.v ⟨bn,ba,bl,bc⟩] Tryz.func112 (cV _ _ _ _ _ (K1.out.ext hW) (J2.out.ext hW))
 refine qZ ?_;refine wps he0 (fun w1 hW hG=>?_) fun x6=>?_
 ·have g2:=gS (hG 2 dZ);have g5:=gS (hG 5 dZ);exact spc [x2.v,x5.v] Tryz.func113 (HV.out ▸ uw x2 x5 _ _ (sB+sB) _ (g2.rawk M1.out jN.2.1) (g5.rawk M2.out jN.2.1) M1.out M2.out jN.1 jN.2.2)
 refine qZ ?_;refine aq ?_;intro w6 hI;have hE:=he0.out.trans hI.ext;have G2:=gT (hI.facts 2);have G5:=gT (hI.facts 5);clear hI he0 hz0 hc0 hf0;refine mV8 hE ?_ B7 B8 B5 B6 B2 B3 HR KR;clear B7 B8 B5 B6 B2 B3 HR KR;intro B7 B8 B5 B6 B2 B3 HR KR;refine mV5 hE ?_ HX J1 K2 K1 J2;clear HX J1 K2 K1 J2;intro HX J1 K2 K1 J2;have hs_w6:=hE.size;replace b_B2:=bX3 B2;replace b_B3:=bX3 B3;replace b_B5:=bX3 B5;replace b_B6:=bX3 B6;replace b_B7:=bX3 B7;replace b_B8:=bX3 B8;simp only [pD];go_wp2
 go_ret
 exact ⟨(),rfl,HX.out,trivial⟩
theorem de(s t:RH)(q r:Rat)(w:World)(h:aS w s q)(k:aS w t r):au 34 [s.v,t.v] w (fun _:Unit=>.bool (decide (q<r))) (fun _ _=>True):=by
 obtain ⟨neg,ao,n,c,bo,m,d⟩:=s;obtain ⟨neg',ao',n',c',bo',m',d'⟩:=t;have HR:=Hi h;have KR:=Hi k;have HX:=Hi (Ext.refl w);have HV:Hid (decide (dJ q r<0)=decide (q<r)):=Hi (by
  unfold dJ;by_cases h:q<r
  ·rw [if_pos h,decide_eq_true h];rfl
  ·rw [if_neg h,decide_eq_false h];split <;> rfl)
 clear h k;unfold au;go_enter Tryz.func34,Tryz.ntmps34
 go_wp2_with fail
 refine hZ (F:=fun W=>Calls _ _ _ W _) ?_;intro w1 hE B2 B3 hz_w1 hr_w1;refine mV3 hE ?_ HR KR HX;clear HR KR HX;intro HR KR HX;have hs_w1:=hE.size;replace b_B2:=bX3 B2;replace b_B3:=bX3 B3
 change Calls _ _ _ _ _
 refine cM (nQ ⟨neg,ao,n,c,bo,m,d⟩ ⟨neg',ao',n',c',bo',m',d'⟩ q r _ HR.out KR.out) fun x2 w2 hE _=>?_
 refine mV5 hE ?_ B2 B3 HR KR HX;clear B2 B3 HR KR HX;intro B2 B3 HR KR HX;have hs_w2:=hE.size;replace b_B2:=bX3 B2;replace b_B3:=bX3 B3;obtain ⟨v,hv⟩:∃ v,v=dJ q r:=⟨_,rfl⟩;rw [←hv] at HV ⊢;clear hv;go_wp2
 go_ret
 exact ⟨(),by rw [←HV.out];rfl,HX.out,trivial⟩
theorem ux(s:IH)(z:Int)(w:World)(h:eE w s z):au 207 [s.v] w IH.v (fun s w'=>eM w' s (z.natAbs:Int)):=by
 obtain ⟨neg,ao,n,c⟩:=s;obtain ⟨ds,hU,hz,hn⟩:=h;simp only at hU hz hn;have HU:=Hi hU;have HZ:Hid (((z.natAbs:Nat):Int).natAbs=val ds):=Hi (by rw [hz,bE];simp);have HX:=Hi (Ext.refl w);clear hU hz;unfold au;go_enter Tryz.func207,Tryz.ntmps207
 go_wp2_with fail
 refine hZ (F:=fun W=>Calls _ _ _ W _) ?_;intro w1 hE B1 B2 hz_w1 hr_w1;refine mV2 hE ?_ HU HX;clear HU HX;intro HU HX;have hs_w1:=hE.size;replace b_B1:=bX3 B1;replace b_B2:=bX3 B2
 change Calls _ _ _ _ _
 refine cM (aR ⟨ao,n,c⟩ ds _ HU.out zo) fun x2 w2 hE G2=>?_
 refine mV4 hE ?_ B1 B2 HU HX;clear B1 B2 HU HX;intro B1 B2 HU HX;have hs_w2:=hE.size;replace b_B1:=bX3 B1;replace b_B2:=bX3 B2;go_wp2;have hF:=((Fin.start (L:=w.heap.size+1) HX.out (aj B2.out rfl)).set zo (i:=0) (v:=.bool false) rfl).set zo (i:=1) (v:=.slice x2.a x2.n x2.c) rfl;exact nXa (v:=IH.v ⟨false,x2.a,x2.n,x2.c⟩) (by simp [results,Tryz.results207,go_sem,ae B2.out]) rfl ⟨⟨false,x2.a,x2.n,x2.c⟩,rfl,hF.ext,by simp,by rw [HZ.out];exact hF.keep _ _ _ _ G2.out⟩
theorem aS.bsz{w:World}{s:RH}{q:Rat}(h:aS w s q):Sz 134217728 q:=by
 obtain ⟨ds,es,h1,h2,h3,h4,h5⟩:=h;exact aS.sz (s:=s) ⟨ds,es,h1,h2,h3,h4,h5⟩ dZ h4 h5
theorem aB.numI{w:World}{neg:Bool}{a b:Option Addr}{n c m d:Nat}{q:Rat}(h:aB w ⟨neg,a,n,c,b,m,d⟩ q):eM w ⟨neg,a,n,c⟩ q.num:=⟨h.1,h.2.1⟩
theorem nM(s:RH)(q:Rat)(w:World)(h:aS w s q):au 83 [s.v] w RH.v (fun x w'=>aB w' x (-q)):=by
 have ZQ:=Hi h.bsz;obtain ⟨neg,ao,n,c,bo,m,d⟩:=s;have HR:=Hi h;have HX:=Hi (Ext.refl w);clear h;unfold au;go_enter Tryz.func83,Tryz.ntmps83
 go_wp2_with fail
 refine hZ (F:=fun W=>Calls _ _ _ W _) ?_;intro w1 hE B1 B2 hz_w1 hr_w1;refine mV2 hE ?_ HR HX;clear HR HX;intro HR HX;have hs_w1:=hE.size;replace b_B1:=bX3 B1;replace b_B2:=bX3 B2
 change Calls _ _ _ _ _
 refine cM (cN ⟨neg,ao,n,c,bo,m,d⟩ q _ HR.out) fun x2 w2 hE G2=>?_
 refine mV4 hE ?_ B1 B2 HR HX;clear B1 B2 HR HX;intro B1 B2 HR HX;have hs_w2:=hE.size;replace b_B1:=bX3 B1;replace b_B2:=bX3 B2
 go_upto_region 2 with fail
 refine bi B1.out rfl ?_;intro y3 T;replace HX:=Hi (T.ext HX.out zo);replace HR:=Hi (HR.out.keep T.keep);replace B1:=Hi (T.bx);replace B2:=Hi (T.rest _ _ zo B2.out);replace G2:=Hi (G2.out.keep T.keep);have hs_y3:=nle T.size;have hr_y3:=nle T.size.symm;clear T;replace b_B1:=bX3 B1;replace b_B2:=bX3 B2;obtain ⟨xn,xa,xl,xc,xb,xm,xd⟩:=x2
 go_wp2_with fail
 refine cM (lg ⟨xn,xa,xl,xc⟩ q.num _ (G2.out.numI.rawk ZQ.out.1 dZ)) fun x4 w4 hE G4=>?_
 refine mV5 hE ?_ HX HR B1 B2 G2;clear HX HR B1 B2 G2;intro HX HR B1 B2 G2;have hs_w4:=hE.size;replace b_B1:=bX3 B1;replace b_B2:=bX3 B2;obtain ⟨yn,ya,yl,yc⟩:=x4
 go_upto_region 3 with fail
 refine tQ B1.out rfl ?_;intro y5 T;replace HX:=Hi (T.ext HX.out zo);replace HR:=Hi (HR.out.keep T.keep);replace B1:=Hi (T.bx);replace B2:=Hi (T.rest _ _ zo B2.out);replace G2:=Hi (G2.out.keep T.keep);replace G4:=Hi (G4.out.keep T.keep);have hs_y5:=nle T.size;have hr_y5:=nle T.size.symm;clear T;replace b_B1:=bX3 B1;replace b_B2:=bX3 B2;go_wp2;have hF:=((((Fin.start (L:=w.heap.size+1) HX.out (aj B2.out rfl)).set zo (i:=0) (v:=.bool (⟨yn,ya,yl,yc,xb,xm,xd⟩:RH).neg) rfl).set zo (i:=1) (v:=.slice (⟨yn,ya,yl,yc,xb,xm,xd⟩:RH).a (⟨yn,ya,yl,yc,xb,xm,xd⟩:RH).n (⟨yn,ya,yl,yc,xb,xm,xd⟩:RH).c) rfl).set zo (i:=2) (v:=.slice (⟨yn,ya,yl,yc,xb,xm,xd⟩:RH).b (⟨yn,ya,yl,yc,xb,xm,xd⟩:RH).m (⟨yn,ya,yl,yc,xb,xm,xd⟩:RH).d) rfl);exact nXa (v:=(⟨yn,ya,yl,yc,xb,xm,xd⟩:RH).v) (by simp [results,Tryz.results83,go_sem,ae B2.out]) rfl ⟨(⟨yn,ya,yl,yc,xb,xm,xd⟩:RH),rfl,hF.ext,(aB.keep (s:=⟨yn,ya,yl,yc,xb,xm,xd⟩) ⟨by rw [Rat.neg_num];exact G4.out.1,by rw [Rat.neg_num];exact G4.out.2,by rw [Rat.neg_den];exact G2.out.2.2⟩ hF.keep)⟩
theorem vE(q:Rat):q.abs.num=(q.num.natAbs:Int)∧q.abs.den=q.den:=by
 rcases Rat.le_total (a:=0) (b:=q) with h|h
 ·rw [Rat.abs_of_nonneg h];exact ⟨by have:=Rat.num_nonneg.2 h;omega,rfl⟩
 ·rw [Rat.abs_of_nonpos h,Rat.neg_num,Rat.neg_den];refine ⟨?_,rfl⟩;have:0≤(-q).num:=Rat.num_nonneg.2 (by grind);rw [Rat.neg_num] at this;omega
theorem tD(s:RH)(q:Rat)(w:World)(h:aS w s q):au 188 [s.v] w RH.v (fun x w'=>aB w' x q.abs):=by
 have ZQ:=Hi h.bsz;obtain ⟨neg,ao,n,c,bo,m,d⟩:=s;have HR:=Hi h;have HX:=Hi (Ext.refl w);have HA:=Hi (vE q);clear h;unfold au;go_enter Tryz.func188,Tryz.ntmps188
 go_wp2_with fail
 refine hZ (F:=fun W=>Calls _ _ _ W _) ?_;intro w1 hE B1 B2 hz_w1 hr_w1;refine mV2 hE ?_ HR HX;clear HR HX;intro HR HX;have hs_w1:=hE.size;replace b_B1:=bX3 B1;replace b_B2:=bX3 B2
 change Calls _ _ _ _ _
 refine cM (cN ⟨neg,ao,n,c,bo,m,d⟩ q _ HR.out) fun x2 w2 hE G2=>?_
 refine mV4 hE ?_ B1 B2 HR HX;clear B1 B2 HR HX;intro B1 B2 HR HX;have hs_w2:=hE.size;replace b_B1:=bX3 B1;replace b_B2:=bX3 B2
 go_upto_region 2 with fail
 refine bi B1.out rfl ?_;intro y3 T;replace HX:=Hi (T.ext HX.out zo);replace HR:=Hi (HR.out.keep T.keep);replace B1:=Hi (T.bx);replace B2:=Hi (T.rest _ _ zo B2.out);replace G2:=Hi (G2.out.keep T.keep);have hs_y3:=nle T.size;have hr_y3:=nle T.size.symm;clear T;replace b_B1:=bX3 B1;replace b_B2:=bX3 B2;obtain ⟨xn,xa,xl,xc,xb,xm,xd⟩:=x2
 go_wp2_with fail
 refine cM (ux ⟨xn,xa,xl,xc⟩ q.num _ (G2.out.numI.rawk ZQ.out.1 dZ)) fun x4 w4 hE G4=>?_
 refine mV5 hE ?_ HX HR B1 B2 G2;clear HX HR B1 B2 G2;intro HX HR B1 B2 G2;have hs_w4:=hE.size;replace b_B1:=bX3 B1;replace b_B2:=bX3 B2;obtain ⟨yn,ya,yl,yc⟩:=x4
 go_upto_region 3 with fail
 refine tQ B1.out rfl ?_;intro y5 T;replace HX:=Hi (T.ext HX.out zo);replace HR:=Hi (HR.out.keep T.keep);replace B1:=Hi (T.bx);replace B2:=Hi (T.rest _ _ zo B2.out);replace G2:=Hi (G2.out.keep T.keep);replace G4:=Hi (G4.out.keep T.keep);have hs_y5:=nle T.size;have hr_y5:=nle T.size.symm;clear T;replace b_B1:=bX3 B1;replace b_B2:=bX3 B2;go_wp2;have hF:=((((Fin.start (L:=w.heap.size+1) HX.out (aj B2.out rfl)).set zo (i:=0) (v:=.bool (⟨yn,ya,yl,yc,xb,xm,xd⟩:RH).neg) rfl).set zo (i:=1) (v:=.slice (⟨yn,ya,yl,yc,xb,xm,xd⟩:RH).a (⟨yn,ya,yl,yc,xb,xm,xd⟩:RH).n (⟨yn,ya,yl,yc,xb,xm,xd⟩:RH).c) rfl).set zo (i:=2) (v:=.slice (⟨yn,ya,yl,yc,xb,xm,xd⟩:RH).b (⟨yn,ya,yl,yc,xb,xm,xd⟩:RH).m (⟨yn,ya,yl,yc,xb,xm,xd⟩:RH).d) rfl);exact nXa (v:=(⟨yn,ya,yl,yc,xb,xm,xd⟩:RH).v) (by simp [results,Tryz.results188,go_sem,ae B2.out]) rfl ⟨(⟨yn,ya,yl,yc,xb,xm,xd⟩:RH),rfl,hF.ext,(aB.keep (s:=⟨yn,ya,yl,yc,xb,xm,xd⟩) ⟨by rw [HA.out.1];exact G4.out.1,by rw [HA.out.1];exact G4.out.2,by rw [HA.out.2];exact G2.out.2.2⟩ hF.keep)⟩
theorem nL(s t:RH)(q r:Rat)(w:World)(h:aS w s q)(k:aS w t r):au 94 [s.v,t.v] w RH.v (fun s w'=>aB w' s (q-r)):=by
 have ZR:=Hi k.bsz;obtain ⟨neg,ao,n,c,bo,m,d⟩:=s;obtain ⟨neg',ao',n',c',bo',m',d'⟩:=t;have HR:=Hi h;have KR:=Hi k;have HX:=Hi (Ext.refl w);have HV:Hid (q-r=q+-r):=Hi (Rat.sub_eq_add_neg _ _);clear h k;unfold au;go_enter Tryz.func94,Tryz.ntmps94
 go_upto_region 1 with fail
 refine rX ?_;intro w1 hE B2 B3 B4 hz_w1 hr_w1;refine mV3 hE ?_ HR KR HX;clear HR KR HX;intro HR KR HX;have hs_w1:=hE.size;replace b_B2:=bX3 B2;replace b_B3:=bX3 B3;replace b_B4:=bX3 B4;refine wpG 4 (fun opIx=>match opIx with
  | 2=>sR (-r)
  | 3=>sR (q+-r)
  | _=>.quiet) (fun|3=>[2]|_=>[]) fun w0 he0 hz0 hc0 hf0=>?_
 refine wps he0 (fun w1 hW hG=>?_) fun x2=>?_
 ·exact spc [RH.v ⟨neg',ao',n',c',bo',m',d'⟩] Tryz.func83 (nM ⟨neg',ao',n',c',bo',m',d'⟩ r _ (KR.out.ext hW))
 refine qZ ?_;refine wps he0 (fun w1 hW hG=>?_) fun x3=>?_
 ·have g2:=gS (hG 2 dZ);exact spc [RH.v ⟨neg,ao,n,c,bo,m,d⟩,x2.v] Tryz.func46 (kI ⟨neg,ao,n,c,bo,m,d⟩ x2 q (-r) _ (HR.out.ext hW) (g2.raw ZR.out.neg dZ))
 refine qZ ?_;refine aq ?_;intro w2 hI;have hE:=he0.out.trans hI.ext;have G2:=gT (hI.facts 2);have G3:=gT (hI.facts 3);clear hI he0 hz0 hc0 hf0;refine mV6 hE ?_ B2 B3 B4 HX KR HR;clear B2 B3 B4 HX KR HR;intro B2 B3 B4 HX KR HR;have hs_w2:=hE.size;replace b_B2:=bX3 B2;replace b_B3:=bX3 B3;replace b_B4:=bX3 B4;simp only [pD];rw [←HV.out] at G3;go_wp2;have hF:=((((Fin.start (L:=w.heap.size+2) HX.out (aj B4.out rfl)).set zo (i:=0) (v:=.bool x3.neg) rfl).set zo (i:=1) (v:=.slice x3.a x3.n x3.c) rfl).set zo (i:=2) (v:=.slice x3.b x3.m x3.d) rfl);exact nXa (v:=x3.v) (by simp [results,Tryz.results94,go_sem,ae B4.out]) rfl ⟨x3,rfl,hF.ext,G3.out.keep hF.keep⟩
theorem uR{z e z' e':Int}{q r:Rat}(h:(z:Rat) / (e:Rat)=q)(k:(z':Rat) / (e':Rat)=r):((z*e':Int):Rat) / ((e*z':Int):Rat)=q / r:=by
 subst h k;rw [Rat.intCast_mul,Rat.intCast_mul,Rat.div_def,Rat.div_def,Rat.div_def,Rat.div_def,kc,kc,Rat.inv_inv];grind
theorem wP{z e:Int}{q:Rat}(he:0<e)(h:(z:Rat) / (e:Rat)=q):z=0↔q=0:=by
 subst h;constructor
 ·rintro rfl;rw [Rat.div_def];show (0:Rat)*_=0;grind
 ·intro h;rw [Rat.div_def] at h;rcases nXr.1 h with h1|h1
  ·exact Rat.intCast_eq_zero_iff.1 h1
  ·have a1:(e:Rat)≠0:=by intro h0;have:=Rat.intCast_eq_zero_iff.1 h0;omega
   have:=nYj _ a1;rw [h1] at this;grind
def Cw(r:Rat):Int:=if r=0 then 3 else 0
theorem oE{r:Rat}(h:r=0):Cw r=3:=if_pos h
theorem uW{r:Rat}(h:r≠0):Cw r=0:=if_neg h
def Ea(q r:Rat)(x:RH)(w':World):Prop:=r≠0→aB w' x (q / r)
abbrev DV(s:RH)(e:Int):Value:=.tuple #[s.v,.int .i64 e]
theorem tB(s t:RH)(q r:Rat)(w:World)(h:aS w s q)(k:aS w t r):au 91 [s.v,t.v] w (fun x:RH=>DV x (Cw r)) (Ea q r):=by
 obtain ⟨neg,ao,n,c,bo,m,d⟩:=s;obtain ⟨neg',ao',n',c',bo',m',d'⟩:=t;have HR:=Hi h;have KR:=Hi k;have HX:=Hi (Ext.refl w);clear h k;unfold au;go_enter Tryz.func91,Tryz.ntmps91
 go_wp2_with fail
 refine rX (F:=fun W=>Calls _ _ _ W _) ?_;intro w1 hE B2 B3 B4 hz_w1 hr_w1;refine mV3 hE ?_ HR KR HX;clear HR KR HX;intro HR KR HX;have hs_w1:=hE.size;replace b_B2:=bX3 B2;replace b_B3:=bX3 B3;replace b_B4:=bX3 B4
 change Calls _ _ _ _ _
 refine cM (cx ⟨neg,ao,n,c,bo,m,d⟩ q _ HR.out) fun x2 w2 hE G2=>?_
 refine mV6 hE ?_ B2 B3 B4 HR KR HX;clear B2 B3 B4 HR KR HX;intro B2 B3 B4 HR KR HX;have hs_w2:=hE.size;replace b_B2:=bX3 B2;replace b_B3:=bX3 B3;replace b_B4:=bX3 B4;obtain ⟨⟨an,aa,al,ac⟩,⟨bn,ba,bl,bc⟩⟩:=x2;obtain ⟨z,e,g1,g2,p3,g4,p5,p6⟩:=G2.out.div;have J1:=Hi g1;have J2:=Hi g2;have J4:=Hi g4;have P5:=Hi p5;have P6:=Hi p6;clear g1 g2 g4 p3 p5 p6 G2;simp only [PP]
 go_upto_region 2 with fail
 refine hZ ?_;intro y3 hE B6 B7 hz_y3 hr_y3;refine mV8 hE ?_ B2 B3 B4 HR KR HX J1 J2;clear B2 B3 B4 HR KR HX J1 J2;intro B2 B3 B4 HR KR HX J1 J2;have hs_y3:=hE.size;replace b_B2:=bX3 B2;replace b_B3:=bX3 B3;replace b_B4:=bX3 B4;replace b_B6:=bX3 B6;replace b_B7:=bX3 B7
 go_wp2_with fail
 refine cM (cx ⟨neg',ao',n',c',bo',m',d'⟩ r _ KR.out) fun x4 w4 hE G4=>?_
 refine mV8 hE ?_ B6 B7 B2 B3 B4 HR KR HX;clear B6 B7 B2 B3 B4 HR KR HX;intro B6 B7 B2 B3 B4 HR KR HX;refine mV2 hE ?_ J1 J2;clear J1 J2;intro J1 J2;have hs_w4:=hE.size;replace b_B2:=bX3 B2;replace b_B3:=bX3 B3;replace b_B4:=bX3 B4;replace b_B6:=bX3 B6;replace b_B7:=bX3 B7;obtain ⟨⟨an',aa',al',ac'⟩,⟨bn',ba',bl',bc'⟩⟩:=x4;obtain ⟨z',e',g1,g2,p3,g4,p5,p6⟩:=G4.out.div;have K1:=Hi g1;have K2:=Hi g2;have K4:=Hi g4;have KN:=Hi (wP p3 g4);have Q5:=Hi p5;have Q6:=Hi p6;clear g1 g2 g4 p3 p5 p6 G4;simp only [PP]
 go_upto_region 3 with fail
 refine hZ ?_;intro y5 hE B8 B9 hz_y5 hr_y5;refine mV8 hE ?_ B6 B7 B2 B3 B4 HR KR HX;clear B6 B7 B2 B3 B4 HR KR HX;intro B6 B7 B2 B3 B4 HR KR HX;refine mV4 hE ?_ J1 J2 K1 K2;clear J1 J2 K1 K2;intro J1 J2 K1 K2;have hs_y5:=hE.size;replace b_B2:=bX3 B2;replace b_B3:=bX3 B3;replace b_B4:=bX3 B4;replace b_B6:=bX3 B6;replace b_B7:=bX3 B7;replace b_B8:=bX3 B8;replace b_B9:=bX3 B9;have HV:=Hi (uR J4.out K4.out);have M1:=Hi (np P5.out Q6.out);have M2:=Hi (np P6.out Q5.out);clear J4 K4
 go_wp2_with fail
 refine cM (cP ⟨an',aa',al',ac'⟩ z' _ K1.out) fun x6 w6 hE _=>?_
 refine mV8 hE ?_ B8 B9 B6 B7 B2 B3 B4 HR;clear B8 B9 B6 B7 B2 B3 B4 HR;intro B8 B9 B6 B7 B2 B3 B4 HR;refine mV6 hE ?_ KR HX J1 J2 K1 K2;clear KR HX J1 J2 K1 K2;intro KR HX J1 J2 K1 K2;have hs_w6:=hE.size;replace b_B2:=bX3 B2;replace b_B3:=bX3 B3;replace b_B4:=bX3 B4;replace b_B6:=bX3 B6;replace b_B7:=bX3 B7;replace b_B8:=bX3 B8;replace b_B9:=bX3 B9;by_cases hz:z'=0
 case pos =>
  have hr:r=0:=KN.out.1 hz;subst hz;have HRz:=Hi hr;rw [cK rfl];have HZe:Hid (Ending.returned (DV ⟨false,none,0,0,none,0,0⟩ 3)=Ending.returned (DV ⟨false,none,0,0,none,0,0⟩ (Cw r))):=Hi (by rw [oE HRz.out]);clear hr M1 M2 HV P5 P6 Q5 Q6 KN;go_wp2;have hF:=(((Fin.start (L:=w.heap.size+2) HX.out (aj B4.out rfl)).set zo (i:=0) (v:=.bool false) rfl).set zo (i:=1) (v:=.slice none 0 0) rfl).set zo (i:=2) (v:=.slice none 0 0) rfl;exact nXa (v:=DV ⟨false,none,0,0,none,0,0⟩ 3) (by simp [results,Tryz.results91,go_sem,ae B4.out,DV]) rfl ⟨⟨false,none,0,0,none,0,0⟩,HZe.out,hF.ext,fun h=>(h HRz.out).elim⟩
 have HRz:Hid (r≠0):=Hi (fun h=>hz (KN.out.2 h));have hcz:bZ z' 0=-1∨bZ z' 0=1:=by
  rcases Int.lt_or_gt_of_ne hz with h|h
  ·exact Or.inl (cJ h)
  ·exact Or.inr (cr h)
 obtain ⟨v,hv⟩:∃ v,v=bZ z' 0:=⟨_,rfl⟩;rw [←hv] at hcz ⊢;have hvb:(v == 0)=false:=by rw [nXs];omega
 clear hv hcz hz KN;have HZe:∀ x:RH,Ending.returned (DV x 0)=Ending.returned (DV x (Cw r)):=fun x=>by rw [uW HRz.out]
 go_upto_region 5 with fail
 refine wpG 7 (fun opIx=>match opIx with
  | 2=>sI (z*e')
  | 5=>sI (e*z')
  | 6=>sR (q / r)
  | _=>.quiet) (fun|6=>[2,5]|_=>[]) fun w0 he0 hz0 hc0 hf0=>?_
 refine wps he0 (fun w1 hW hG=>?_) fun x2=>?_
 ·exact spc [IH.v ⟨an,aa,al,ac⟩,IH.v ⟨bn',ba',bl',bc'⟩] Tryz.func112 (cV _ _ _ _ _ (J1.out.ext hW) (K2.out.ext hW))
 refine qZ ?_;refine wps he0 (fun w1 hW hG=>?_) fun x5=>?_
 ·exact spc [IH.v ⟨bn,ba,bl,bc⟩,IH.v ⟨an',aa',al',ac'⟩] Tryz.func112 (cV _ _ _ _ _ (J2.out.ext hW) (K1.out.ext hW))
 refine qZ ?_;refine wps he0 (fun w1 hW hG=>?_) fun x6=>?_
 ·have g2:=gS (hG 2 dZ);have g5:=gS (hG 5 dZ);exact spc [x2.v,x5.v] Tryz.func110 (HV.out ▸ eR x2 x5 _ _ _ (g2.rawk M1.out jN.2.1) (g5.rawk M2.out jN.2.1))
 refine qZ ?_;refine aq ?_;intro w7 hI;have hE:=he0.out.trans hI.ext;have G2:=gT (hI.facts 2);have G5:=gT (hI.facts 5);have G6:=gT (hI.facts 6);clear hI he0 hz0 hc0 hf0;refine mV8 hE ?_ B8 B9 B6 B7 B2 B3 B4 HR;clear B8 B9 B6 B7 B2 B3 B4 HR;intro B8 B9 B6 B7 B2 B3 B4 HR;refine mV6 hE ?_ KR HX J1 K2 J2 K1;clear KR HX J1 K2 J2 K1;intro KR HX J1 K2 J2 K1;have hs_w7:=hE.size;replace b_B2:=bX3 B2;replace b_B3:=bX3 B3;replace b_B4:=bX3 B4;replace b_B6:=bX3 B6;replace b_B7:=bX3 B7;replace b_B8:=bX3 B8;replace b_B9:=bX3 B9;simp only [pD];go_wp2;have hF:=(((Fin.start (L:=w.heap.size+2) HX.out (aj B4.out rfl)).set zo (i:=0) (v:=.bool x6.neg) rfl).set zo (i:=1) (v:=.slice x6.a x6.n x6.c) rfl).set zo (i:=2) (v:=.slice x6.b x6.m x6.d) rfl;exact nXa (v:=DV x6 0) (by simp [results,Tryz.results91,go_sem,ae B4.out,DV]) rfl ⟨x6,HZe x6,hF.ext,fun _=>G6.out.keep hF.keep⟩
theorem eQ(s t:RH)(q r:Rat)(w:World)(h:aS w s q)(k:aS w t r):au 35 [s.v,t.v] w RH.v (fun x w'=>aB w' x (q / r)):=by
 obtain ⟨neg,ao,n,c,bo,m,d⟩:=s;obtain ⟨neg',ao',n',c',bo',m',d'⟩:=t;have HR:=Hi h;have KR:=Hi k;have HX:=Hi (Ext.refl w);clear h k;unfold au;go_enter Tryz.func35,Tryz.ntmps35
 go_wp2_with fail
 refine rX (F:=fun W=>Calls _ _ _ W _) ?_;intro w1 hE B2 B3 B4 hz_w1 hr_w1;refine mV3 hE ?_ HR KR HX;clear HR KR HX;intro HR KR HX;have hs_w1:=hE.size;replace b_B2:=bX3 B2;replace b_B3:=bX3 B3;replace b_B4:=bX3 B4
 change Calls _ _ _ _ _
 refine cM (tB ⟨neg,ao,n,c,bo,m,d⟩ ⟨neg',ao',n',c',bo',m',d'⟩ q r _ HR.out KR.out) fun x2 w2 hE G2=>?_
 refine mV6 hE ?_ B2 B3 B4 HR KR HX;clear B2 B3 B4 HR KR HX;intro B2 B3 B4 HR KR HX;have hs_w2:=hE.size;replace b_B2:=bX3 B2;replace b_B3:=bX3 B3;replace b_B4:=bX3 B4;simp only [DV];by_cases hr:r=0
 case pos =>
  have HV:Hid (q / r=((0:Int):Rat)):=Hi (by rw [hr,Rat.div_def,Rat.inv_zero];show q*0=0;grind);rw [oE hr];clear hr G2
  go_upto_region 2 with fail
  refine nmA ?_;intro y3 hE B5 hz_y3 hr_y3;refine mV6 hE ?_ B2 B3 B4 HR KR HX;clear B2 B3 B4 HR KR HX;intro B2 B3 B4 HR KR HX;have hs_y3:=hE.size;replace b_B2:=bX3 B2;replace b_B3:=bX3 B3;replace b_B4:=bX3 B4;replace b_B5:=bX3 B5
  go_wp2_with fail
  refine cM (aO 0 _ dZ dZ) fun x4 w4 hE G4=>?_
  refine mV7 hE ?_ B5 B2 B3 B4 HR KR HX;clear B5 B2 B3 B4 HR KR HX;intro B5 B2 B3 B4 HR KR HX;have hs_w4:=hE.size;replace b_B2:=bX3 B2;replace b_B3:=bX3 B3;replace b_B4:=bX3 B4;replace b_B5:=bX3 B5;go_wp2;have hF:=((((Fin.start (L:=w.heap.size+2) HX.out (aj B4.out rfl)).set zo (i:=0) (v:=.bool x4.neg) rfl).set zo (i:=1) (v:=.slice x4.a x4.n x4.c) rfl).set zo (i:=2) (v:=.slice x4.b x4.m x4.d) rfl);exact nXa (v:=x4.v) (by simp [results,Tryz.results35,go_sem,ae B4.out]) rfl ⟨x4,rfl,hF.ext,(by rw [HV.out];exact G4.out.keep hF.keep)⟩
 rw [uW hr];have GC:=Hi (G2.out hr);clear hr G2;obtain ⟨xn,xa,xl,xc,xb,xm,xd⟩:=x2
 go_upto_region 2 with fail
 refine nmA ?_;intro y3 hE B5 hz_y3 hr_y3;refine mV7 hE ?_ B2 B3 B4 HR KR HX GC;clear B2 B3 B4 HR KR HX GC;intro B2 B3 B4 HR KR HX GC;have hs_y3:=hE.size;replace b_B2:=bX3 B2;replace b_B3:=bX3 B3;replace b_B4:=bX3 B4;replace b_B5:=bX3 B5;go_wp2;have hF:=((((Fin.start (L:=w.heap.size+2) HX.out (aj B4.out rfl)).set zo (i:=0) (v:=.bool (⟨xn,xa,xl,xc,xb,xm,xd⟩:RH).neg) rfl).set zo (i:=1) (v:=.slice (⟨xn,xa,xl,xc,xb,xm,xd⟩:RH).a (⟨xn,xa,xl,xc,xb,xm,xd⟩:RH).n (⟨xn,xa,xl,xc,xb,xm,xd⟩:RH).c) rfl).set zo (i:=2) (v:=.slice (⟨xn,xa,xl,xc,xb,xm,xd⟩:RH).b (⟨xn,xa,xl,xc,xb,xm,xd⟩:RH).m (⟨xn,xa,xl,xc,xb,xm,xd⟩:RH).d) rfl);exact nXa (v:=(⟨xn,xa,xl,xc,xb,xm,xd⟩:RH).v) (by simp [results,Tryz.results35,go_sem,ae B4.out]) rfl ⟨(⟨xn,xa,xl,xc,xb,xm,xd⟩:RH),rfl,hF.ext,(aB.keep (s:=⟨xn,xa,xl,xc,xb,xm,xd⟩) GC.out hF.keep)⟩
end Go.Proofs.YtafgmcimcbhhjaaGreat
