/- Rfc, Rfd -/
import Derived.Test.YtofhkmcllihgmaaGreatQLM1
import Derived.Test.YtofhkmcllihgmaaGreatQLM7
import Derived.Test.YtofhkmcllihgmaaGreatQLK1
import Derived.Test.YtofhkmcllihgmaaGreatQLM11
import Derived.Test.YtofhkmcllihgmaaGreatQLK4
import Derived.Test.YtofhkmcllihgmaaGreatQLRp7
import Derived.Test.YtofhkmcllihgmaaGreatQLM13
import Derived.Test.YtofhkmcllihgmaaGreatQLK2
set_option linter.unusedVariables false
set_option maxRecDepth 8000
set_option maxHeartbeats 4000000
namespace Go.Proofs.YtofhkmcllihgmaaGreat
open Go.RowKit Go.Front Go.Num
attribute [local go_sem] XW.cell XW.frozen
theorem oo{w1:World}{b:Nat}{T:TypeId}{c0 c1 c2 v0 v1:Value}{F:World→Prop}(hb:w1.heap[b]?=some (.cells #[c0,c1,c2] T (0,0)))(hn:#[c0,c1,c2].toList.all gH=true)(h:∀ w2,gp w1 b T #[v0,v1,c2] w2→F w2) :
  F ((w1.setCell ⟨b,0,none⟩ v0).setCell ⟨b,1,none⟩ v1) :=
 h _ (gp.of (Array.getElem?_eq_some_iff.1 hb).1 (ah hb hn) ((aU.setCell w1 ⟨b,0,none⟩ v0).trans (aU.setCell _ ⟨b,1,none⟩ v1)) (by simp [World.setCell]) (aK (aK hb 0 v0) 1 v1))
theorem bw.rawn{w:World}{s:IH}{z:Int}(h:bw w s z){w':World}{t:IH}{y:Int}(k:dq w' t y)(hz:z.natAbs≤y.natAbs):dq w s z:=by
 obtain ⟨ds,h1,h2,h3⟩:=k;have h4:=eX h1 t.neg;rw [←h2] at h4;exact h.rawk (k:=t.n) (Nat.lt_of_le_of_lt hz h4) h3
theorem oM(s t:IH)(z y:Int)(w:World)(h:dq w s z)(k:dq w t y):aq 232 [s.v,t.v] w IH.v (fun s w'=>bw w' s (z-y)):=by
 obtain ⟨neg,ao,n,c⟩:=s;obtain ⟨neg',bo,m,d⟩:=t;have HR:=Hi h;have KR:=Hi k;have HX:=Hi (Ext.refl w);have HV:Hid (z-y=z+-y):=Hi (by omega);clear h k;unfold aq;go_enter Tryz.func232,Tryz.ntmps232
 go_upto_region 1 with fail
 refine ux ?_;intro w1 hE B2 B3 B4 hz_w1 hr_w1;refine mV3 hE ?_ HR KR HX;clear HR KR HX;intro HR KR HX;have hs_w1:=hE.size;clear hE;replace b_B2:=bX3 B2;replace b_B3:=bX3 B3;replace b_B4:=bX3 B4;refine wpG 4 (fun opIx=>match opIx with
  | 2=>.spec IH default IH.v (fun s w'=>bw w' s (-y))
  | 3=>.spec IH default IH.v (fun s w'=>bw w' s (z+-y))
  | _=>.quiet) (fun|3=>[2]|_=>[]) fun w0 he0 hz0 hc0 hf0=>?_
 refine wps he0.out rfl rfl (fun w1 hW hG=>?_) fun x2=>?_
 ·exact spc [IH.v ⟨neg',bo,m,d⟩] Tryz.func192 (iC ⟨neg',bo,m,d⟩ y _ (KR.out.ext hW))
 refine qZ ?_;refine wps he0.out rfl rfl (fun w1 hW hG=>?_) fun x3=>?_
 ·have g2:=(hG 2 (by decide):ay _ _).get fun _ e g=>g.ext e
  exact spc [IH.v ⟨neg,ao,n,c⟩,x2.v] Tryz.func103 (km ⟨neg,ao,n,c⟩ x2 z (-y) _ (HR.out.ext hW) (g2.rawn KR.out (by omega)))
 refine qZ ?_;refine wpF_nil ?_;intro w2 hI;have hE:=he0.out.trans hI.ext;have G2:=gT (hI.facts 2);have G3:=gT (hI.facts 3);clear hI he0 hz0 hc0 hf0;refine mV6 hE ?_ B2 B3 B4 HX HR KR;clear B2 B3 B4 HX HR KR;intro B2 B3 B4 HX HR KR;have hs_w2:=hE.size;clear hE;replace b_B2:=bX3 B2;replace b_B3:=bX3 B3;replace b_B4:=bX3 B4;simp only [pD];rw [←HV.out] at G3;go_wp2;have hF:=((Fin.start (L:=w.heap.size+2) HX.out (ah B4.out rfl)).set (by omega) (i:=0) (v:=.bool x3.neg) rfl).set (by omega) (i:=1) (v:=.slice x3.a x3.n x3.c) rfl;exact bodyPost_ret (v:=x3.v) (by simp [results,Tryz.results232,go_sem,ae B4.out]) rfl ⟨x3,rfl,hF.ext,G3.out.keep hF.keep⟩
theorem rF(z y:Int):bp (z-y) 0=bp z y:=by
 unfold bp;split
 ·rw [if_pos (by omega)]
 ·split
  ·rw [if_neg (by omega),if_pos (by omega)]
  ·rw [if_neg (by omega),if_neg (by omega)]
theorem oQ(s t:IH)(z y:Int)(k:Nat)(w:World)(h:dq w s z)(g:dq w t y)(hz:z.natAbs<W32 ^ k)(hy:y.natAbs<W32 ^ k)(hk:k≤1073741823)(hk1:1≤k):aq 141 [s.v,t.v] w (fun _:Unit=>.int .i64 (bp z y)) (fun _ _=>True):=by
 obtain ⟨neg,ao,n,c⟩:=s;obtain ⟨neg',bo,m,d⟩:=t;have HR:=Hi h;have KR:=Hi g;have HX:=Hi (Ext.refl w);have HV:=Hi (rF z y);have HL:Hid ((z-y).natAbs<W32 ^ (k+1)):=Hi (by
  have h5:W32 ^ k*2≤W32 ^ (k+1):=by rw [Nat.pow_succ];exact Nat.mul_le_mul_left _ (by decide)
  omega)
 clear h g hz hy;unfold aq;go_enter Tryz.func141,Tryz.ntmps141
 go_wp2_with fail
 refine i8 (F:=fun W=>Calls _ _ _ W _) ?_;intro w1 hE B2 B3 hz_w1 hr_w1;refine mV3 hE ?_ HR KR HX;clear HR KR HX;intro HR KR HX;have hs_w1:=hE.size;clear hE;replace b_B2:=bX3 B2;replace b_B3:=bX3 B3
 change Calls _ _ _ _ _
 refine cM (oM ⟨neg,ao,n,c⟩ ⟨neg',bo,m,d⟩ z y _ HR.out KR.out) fun x2 w2 hE G2=>?_
 refine mV5 hE ?_ B2 B3 HR KR HX;clear B2 B3 HR KR HX;intro B2 B3 HR KR HX;have hs_w2:=hE.size;clear hE;replace b_B2:=bX3 B2;replace b_B3:=bX3 B3
 go_wp2_with fail
 refine cM (bV x2 (z-y) _ (G2.out.rawk HL.out (by omega))) fun x3 w3 hE _=>?_
 refine mV6 hE ?_ G2 B2 B3 HR KR HX;clear G2 B2 B3 HR KR HX;intro G2 B2 B3 HR KR HX;have hs_w3:=hE.size;clear hE;replace b_B2:=bX3 B2;replace b_B3:=bX3 B3;rw [HV.out];go_wp2
 go_ret
 exact ⟨(),rfl,HX.out,trivial⟩
theorem pu{z e z' e':Int}{q r:Rat}(h0:0<e)(k0:0<e')(h:(z:Rat) / (e:Rat)=q)(k:(z':Rat) / (e':Rat)=r):bp (z*e') (z'*e)=fU q r:=by
 have f:∀ (a b:Int),0<b→(a:Rat) / (b:Rat)=mkRat a b.natAbs:=fun a b hb=>by
  rw [Rat.mkRat_eq_div]
  congr 1
  rw [←Rat.intCast_natCast,Int.natAbs_of_nonneg (by omega)]
 rw [←h,←k,f z e h0,f z' e' k0,lx (by omega) (by omega)];rw [Int.natAbs_of_nonneg (by omega),Int.natAbs_of_nonneg (by omega)]
theorem jR{a b:Int}(h:Big a)(k:Big b):(a*b).natAbs<W32 ^ (nw+nw):=by
 rw [Int.natAbs_mul];exact i9 h k
theorem go:nw+nw≤1073741823∧nw+nw≤1073741824∧1≤nw+nw:=by unfold nw;omega
theorem ke(s t:RH)(q r:Rat)(w:World)(h:bi w s q)(k:bi w t r):aq 59 [s.v,t.v] w (fun _:Unit=>.int .i64 (fU q r)) (fun _ _=>True):=by
 obtain ⟨neg,ao,n,c,bo,m,d⟩:=s;obtain ⟨neg',ao',n',c',bo',m',d'⟩:=t;have HR:=Hi h;have KR:=Hi k;have HX:=Hi (Ext.refl w);clear h k;unfold aq;go_enter Tryz.func59,Tryz.ntmps59
 go_wp2_with fail
 refine i8 (F:=fun W=>Calls _ _ _ W _) ?_;intro w1 hE B2 B3 hz_w1 hr_w1;refine mV3 hE ?_ HR KR HX;clear HR KR HX;intro HR KR HX;have hs_w1:=hE.size;clear hE;replace b_B2:=bX3 B2;replace b_B3:=bX3 B3
 change Calls _ _ _ _ _
 refine cM (bM ⟨neg,ao,n,c,bo,m,d⟩ q _ HR.out) fun x2 w2 hE G2=>?_
 refine mV5 hE ?_ B2 B3 HR KR HX;clear B2 B3 HR KR HX;intro B2 B3 HR KR HX;have hs_w2:=hE.size;clear hE;replace b_B2:=bX3 B2;replace b_B3:=bX3 B3;obtain ⟨⟨an,aa,al,ac⟩,⟨bn,ba,bl,bc⟩⟩:=x2;obtain ⟨z,e,g1,g2,p3,g4,p5,p6⟩:=G2.out.div;have J1:=Hi g1;have J2:=Hi g2;have J4:=Hi g4;have P3:=Hi p3;have P5:=Hi p5;have P6:=Hi p6;clear g1 g2 g4 p3 p5 p6 G2;simp only [PP]
 go_upto_region 2 with fail
 refine i8 ?_;intro y3 hE B5 B6 hz_y3 hr_y3;refine mV7 hE ?_ B2 B3 HR KR HX J1 J2;clear B2 B3 HR KR HX J1 J2;intro B2 B3 HR KR HX J1 J2;have hs_y3:=hE.size;clear hE;replace b_B2:=bX3 B2;replace b_B3:=bX3 B3;replace b_B5:=bX3 B5;replace b_B6:=bX3 B6
 go_wp2_with fail
 refine cM (bM ⟨neg',ao',n',c',bo',m',d'⟩ r _ KR.out) fun x4 w4 hE G4=>?_
 refine mV8 hE ?_ B5 B6 B2 B3 HR KR HX J1;clear B5 B6 B2 B3 HR KR HX J1;intro B5 B6 B2 B3 HR KR HX J1;replace J2:=mV hE J2;have hs_w4:=hE.size;clear hE;replace b_B2:=bX3 B2;replace b_B3:=bX3 B3;replace b_B5:=bX3 B5;replace b_B6:=bX3 B6;obtain ⟨⟨an',aa',al',ac'⟩,⟨bn',ba',bl',bc'⟩⟩:=x4;obtain ⟨z',e',g1,g2,p3,g4,p5,p6⟩:=G4.out.div;have K1:=Hi g1;have K2:=Hi g2;have K4:=Hi g4;have Q3:=Hi p3;have Q5:=Hi p5;have Q6:=Hi p6;clear g1 g2 g4 p3 p5 p6 G4;simp only [PP]
 go_upto_region 3 with fail
 refine i8 ?_;intro y5 hE B7 B8 hz_y5 hr_y5;refine mV8 hE ?_ B5 B6 B2 B3 HR KR HX J1;clear B5 B6 B2 B3 HR KR HX J1;intro B5 B6 B2 B3 HR KR HX J1;refine mV3 hE ?_ J2 K1 K2;clear J2 K1 K2;intro J2 K1 K2;have hs_y5:=hE.size;clear hE;replace b_B2:=bX3 B2;replace b_B3:=bX3 B3;replace b_B5:=bX3 B5;replace b_B6:=bX3 B6;replace b_B7:=bX3 B7;replace b_B8:=bX3 B8;have HV:=Hi (pu P3.out Q3.out J4.out K4.out);have M1:=Hi (jR P5.out Q6.out);have M2:=Hi (jR Q5.out P6.out);clear J4 K4;refine wpG 7 (fun opIx=>match opIx with
  | 2=>.spec IH default IH.v (fun s w'=>bw w' s (z*e'))
  | 5=>.spec IH default IH.v (fun s w'=>bw w' s (z'*e))
  | 6=>.spec Unit () (fun _=>.int .i64 (fU q r)) (fun _ _=>True)
  | _=>.quiet) (fun|6=>[2,5]|_=>[]) fun w0 he0 hz0 hc0 hf0=>?_
 refine wps he0.out rfl rfl (fun w1 hW hG=>?_) fun x2=>?_
 ·exact spc [IH.v ⟨an,aa,al,ac⟩,IH.v ⟨bn',ba',bl',bc'⟩] Tryz.func104 (ci _ _ _ _ _ (J1.out.ext hW) (K2.out.ext hW))
 refine qZ ?_;refine wps he0.out rfl rfl (fun w1 hW hG=>?_) fun x5=>?_
 ·exact spc [IH.v ⟨an',aa',al',ac'⟩,IH.v ⟨bn,ba,bl,bc⟩] Tryz.func104 (ci _ _ _ _ _ (K1.out.ext hW) (J2.out.ext hW))
 refine qZ ?_;refine wps he0.out rfl rfl (fun w1 hW hG=>?_) fun x6=>?_
 ·have g2:=(hG 2 (by decide):ay _ _).get fun _ e g=>g.ext e
  have g5:=(hG 5 (by decide):ay _ _).get fun _ e g=>g.ext e
  exact spc [x2.v,x5.v] Tryz.func141 (HV.out ▸ oQ x2 x5 _ _ (nw+nw) _ (g2.rawk M1.out go.2.1) (g5.rawk M2.out go.2.1) M1.out M2.out go.1 go.2.2)
 refine qZ ?_;refine wpF_nil ?_;intro w6 hI;have hE:=he0.out.trans hI.ext;have G2:=gT (hI.facts 2);have G5:=gT (hI.facts 5);clear hI he0 hz0 hc0 hf0;refine mV8 hE ?_ B7 B8 B5 B6 B2 B3 HR KR;clear B7 B8 B5 B6 B2 B3 HR KR;intro B7 B8 B5 B6 B2 B3 HR KR;refine mV5 hE ?_ HX J1 K2 K1 J2;clear HX J1 K2 K1 J2;intro HX J1 K2 K1 J2;have hs_w6:=hE.size;clear hE;replace b_B2:=bX3 B2;replace b_B3:=bX3 B3;replace b_B5:=bX3 B5;replace b_B6:=bX3 B6;replace b_B7:=bX3 B7;replace b_B8:=bX3 B8;simp only [pD];go_wp2
 go_ret
 exact ⟨(),rfl,HX.out,trivial⟩
theorem mX(s t:RH)(q r:Rat)(w:World)(h:bi w s q)(k:bi w t r):aq 29 [s.v,t.v] w (fun _:Unit=>.bool (decide (q<r))) (fun _ _=>True):=by
 obtain ⟨neg,ao,n,c,bo,m,d⟩:=s;obtain ⟨neg',ao',n',c',bo',m',d'⟩:=t;have HR:=Hi h;have KR:=Hi k;have HX:=Hi (Ext.refl w);have HV:Hid (decide (fU q r<0)=decide (q<r)):=Hi (by
  unfold fU;by_cases h:q<r
  ·rw [if_pos h,decide_eq_true h];rfl
  ·rw [if_neg h,decide_eq_false h];split <;> rfl)
 clear h k;unfold aq;go_enter Tryz.func29,Tryz.ntmps29
 go_wp2_with fail
 refine i8 (F:=fun W=>Calls _ _ _ W _) ?_;intro w1 hE B2 B3 hz_w1 hr_w1;refine mV3 hE ?_ HR KR HX;clear HR KR HX;intro HR KR HX;have hs_w1:=hE.size;clear hE;replace b_B2:=bX3 B2;replace b_B3:=bX3 B3
 change Calls _ _ _ _ _
 refine cM (ke ⟨neg,ao,n,c,bo,m,d⟩ ⟨neg',ao',n',c',bo',m',d'⟩ q r _ HR.out KR.out) fun x2 w2 hE _=>?_
 refine mV5 hE ?_ B2 B3 HR KR HX;clear B2 B3 HR KR HX;intro B2 B3 HR KR HX;have hs_w2:=hE.size;clear hE;replace b_B2:=bX3 B2;replace b_B3:=bX3 B3;obtain ⟨v,hv⟩:∃ v,v=fU q r:=⟨_,rfl⟩;rw [←hv] at HV ⊢;clear hv;go_wp2
 go_ret
 exact ⟨(),by rw [←HV.out];rfl,HX.out,trivial⟩
theorem oR(s:IH)(z:Int)(w:World)(h:dq w s z):aq 287 [s.v] w IH.v (fun s w'=>bw w' s (z.natAbs:Int)):=by
 obtain ⟨neg,ao,n,c⟩:=s;obtain ⟨ds,hU,hz,hn⟩:=h;simp only at hU hz hn;have HU:=Hi hU;have HZ:Hid (((z.natAbs:Nat):Int).natAbs=val ds):=Hi (by rw [hz,aL];simp);have HX:=Hi (Ext.refl w);clear hU hz;unfold aq;go_enter Tryz.func287,Tryz.ntmps287
 go_wp2_with fail
 refine i8 (F:=fun W=>Calls _ _ _ W _) ?_;intro w1 hE B1 B2 hz_w1 hr_w1;refine mV2 hE ?_ HU HX;clear HU HX;intro HU HX;have hs_w1:=hE.size;clear hE;replace b_B1:=bX3 B1;replace b_B2:=bX3 B2
 change Calls _ _ _ _ _
 refine cM (aC ⟨ao,n,c⟩ ds _ HU.out (by omega)) fun x2 w2 hE G2=>?_
 refine mV4 hE ?_ B1 B2 HU HX;clear B1 B2 HU HX;intro B1 B2 HU HX;have hs_w2:=hE.size;clear hE;replace b_B1:=bX3 B1;replace b_B2:=bX3 B2;go_wp2;have hF:=((Fin.start (L:=w.heap.size+1) HX.out (ah B2.out rfl)).set (by omega) (i:=0) (v:=.bool false) rfl).set (by omega) (i:=1) (v:=.slice x2.a x2.n x2.c) rfl;exact bodyPost_ret (v:=IH.v ⟨false,x2.a,x2.n,x2.c⟩) (by simp [results,Tryz.results287,go_sem,ae B2.out]) rfl ⟨⟨false,x2.a,x2.n,x2.c⟩,rfl,hF.ext,by simp,by rw [HZ.out];exact hF.keep _ _ _ _ G2.out⟩
theorem bi.bsz{w:World}{s:RH}{q:Rat}(h:bi w s q):Sz 134217728 q:=by
 obtain ⟨ds,es,h1,h2,h3,h4,h5⟩:=h;exact bi.sz (s:=s) ⟨ds,es,h1,h2,h3,h4,h5⟩ (by decide) h4 h5
theorem au.numI{w:World}{neg:Bool}{a b:Option Addr}{n c m d:Nat}{q:Rat}(h:au w ⟨neg,a,n,c,b,m,d⟩ q):bw w ⟨neg,a,n,c⟩ q.num:=⟨h.1,h.2.1⟩
theorem ut(s:RH)(q:Rat)(w:World)(h:bi w s q):aq 130 [s.v] w RH.v (fun x w'=>au w' x (-q)):=by
 have ZQ:=Hi h.bsz;obtain ⟨neg,ao,n,c,bo,m,d⟩:=s;have HR:=Hi h;have HX:=Hi (Ext.refl w);clear h;unfold aq;go_enter Tryz.func130,Tryz.ntmps130
 go_wp2_with fail
 refine i8 (F:=fun W=>Calls _ _ _ W _) ?_;intro w1 hE B1 B2 hz_w1 hr_w1;refine mV2 hE ?_ HR HX;clear HR HX;intro HR HX;have hs_w1:=hE.size;clear hE;replace b_B1:=bX3 B1;replace b_B2:=bX3 B2
 change Calls _ _ _ _ _
 refine cM (ez ⟨neg,ao,n,c,bo,m,d⟩ q _ HR.out) fun x2 w2 hE G2=>?_
 refine mV4 hE ?_ B1 B2 HR HX;clear B1 B2 HR HX;intro B1 B2 HR HX;have hs_w2:=hE.size;clear hE;replace b_B1:=bX3 B1;replace b_B2:=bX3 B2
 go_upto_region 2 with fail
 refine bm B1.out rfl ?_;intro y3 T;replace HX:=Hi (T.ext HX.out (by omega));replace HR:=Hi (HR.out.keep T.keep);replace B1:=Hi (T.bx);replace B2:=Hi (T.rest _ _ (by omega) B2.out);replace G2:=Hi (G2.out.keep T.keep);have hs_y3:=nle T.size;have hr_y3:=nle T.size.symm;clear T;replace b_B1:=bX3 B1;replace b_B2:=bX3 B2;obtain ⟨xn,xa,xl,xc,xb,xm,xd⟩:=x2
 go_wp2_with fail
 refine cM (iC ⟨xn,xa,xl,xc⟩ q.num _ (G2.out.numI.rawk ZQ.out.1 (by decide))) fun x4 w4 hE G4=>?_
 refine mV5 hE ?_ HX HR B1 B2 G2;clear HX HR B1 B2 G2;intro HX HR B1 B2 G2;have hs_w4:=hE.size;clear hE;replace b_B1:=bX3 B1;replace b_B2:=bX3 B2;obtain ⟨yn,ya,yl,yc⟩:=x4
 go_upto_region 3 with fail
 refine oo B1.out rfl ?_;intro y5 T;replace HX:=Hi (T.ext HX.out (by omega));replace HR:=Hi (HR.out.keep T.keep);replace B1:=Hi (T.bx);replace B2:=Hi (T.rest _ _ (by omega) B2.out);replace G2:=Hi (G2.out.keep T.keep);replace G4:=Hi (G4.out.keep T.keep);have hs_y5:=nle T.size;have hr_y5:=nle T.size.symm;clear T;replace b_B1:=bX3 B1;replace b_B2:=bX3 B2;go_wp2;have hF:=((((Fin.start (L:=w.heap.size+1) HX.out (ah B2.out rfl)).set (by omega) (i:=0) (v:=.bool (⟨yn,ya,yl,yc,xb,xm,xd⟩:RH).neg) rfl).set (by omega) (i:=1) (v:=.slice (⟨yn,ya,yl,yc,xb,xm,xd⟩:RH).a (⟨yn,ya,yl,yc,xb,xm,xd⟩:RH).n (⟨yn,ya,yl,yc,xb,xm,xd⟩:RH).c) rfl).set (by omega) (i:=2) (v:=.slice (⟨yn,ya,yl,yc,xb,xm,xd⟩:RH).b (⟨yn,ya,yl,yc,xb,xm,xd⟩:RH).m (⟨yn,ya,yl,yc,xb,xm,xd⟩:RH).d) rfl);exact bodyPost_ret (v:=(⟨yn,ya,yl,yc,xb,xm,xd⟩:RH).v) (by simp [results,Tryz.results130,go_sem,ae B2.out]) rfl ⟨(⟨yn,ya,yl,yc,xb,xm,xd⟩:RH),rfl,hF.ext,(au.keep (s:=⟨yn,ya,yl,yc,xb,xm,xd⟩) ⟨by rw [Rat.neg_num];exact G4.out.1,by rw [Rat.neg_num];exact G4.out.2,by rw [Rat.neg_den];exact G2.out.2.2⟩ hF.keep)⟩
theorem pJ(q:Rat):q.abs.num=(q.num.natAbs:Int)∧q.abs.den=q.den:=by
 rcases Rat.le_total (a:=0) (b:=q) with h|h
 ·rw [Rat.abs_of_nonneg h];exact ⟨by have:=Rat.num_nonneg.2 h;omega,rfl⟩
 ·rw [Rat.abs_of_nonpos h,Rat.neg_num,Rat.neg_den];refine ⟨?_,rfl⟩;have:0≤(-q).num:=Rat.num_nonneg.2 (by grind);rw [Rat.neg_num] at this;omega
theorem nZ(s:RH)(q:Rat)(w:World)(h:bi w s q):aq 268 [s.v] w RH.v (fun x w'=>au w' x q.abs):=by
 have ZQ:=Hi h.bsz;obtain ⟨neg,ao,n,c,bo,m,d⟩:=s;have HR:=Hi h;have HX:=Hi (Ext.refl w);have HA:=Hi (pJ q);clear h;unfold aq;go_enter Tryz.func268,Tryz.ntmps268
 go_wp2_with fail
 refine i8 (F:=fun W=>Calls _ _ _ W _) ?_;intro w1 hE B1 B2 hz_w1 hr_w1;refine mV2 hE ?_ HR HX;clear HR HX;intro HR HX;have hs_w1:=hE.size;clear hE;replace b_B1:=bX3 B1;replace b_B2:=bX3 B2
 change Calls _ _ _ _ _
 refine cM (ez ⟨neg,ao,n,c,bo,m,d⟩ q _ HR.out) fun x2 w2 hE G2=>?_
 refine mV4 hE ?_ B1 B2 HR HX;clear B1 B2 HR HX;intro B1 B2 HR HX;have hs_w2:=hE.size;clear hE;replace b_B1:=bX3 B1;replace b_B2:=bX3 B2
 go_upto_region 2 with fail
 refine bm B1.out rfl ?_;intro y3 T;replace HX:=Hi (T.ext HX.out (by omega));replace HR:=Hi (HR.out.keep T.keep);replace B1:=Hi (T.bx);replace B2:=Hi (T.rest _ _ (by omega) B2.out);replace G2:=Hi (G2.out.keep T.keep);have hs_y3:=nle T.size;have hr_y3:=nle T.size.symm;clear T;replace b_B1:=bX3 B1;replace b_B2:=bX3 B2;obtain ⟨xn,xa,xl,xc,xb,xm,xd⟩:=x2
 go_wp2_with fail
 refine cM (oR ⟨xn,xa,xl,xc⟩ q.num _ (G2.out.numI.rawk ZQ.out.1 (by decide))) fun x4 w4 hE G4=>?_
 refine mV5 hE ?_ HX HR B1 B2 G2;clear HX HR B1 B2 G2;intro HX HR B1 B2 G2;have hs_w4:=hE.size;clear hE;replace b_B1:=bX3 B1;replace b_B2:=bX3 B2;obtain ⟨yn,ya,yl,yc⟩:=x4
 go_upto_region 3 with fail
 refine oo B1.out rfl ?_;intro y5 T;replace HX:=Hi (T.ext HX.out (by omega));replace HR:=Hi (HR.out.keep T.keep);replace B1:=Hi (T.bx);replace B2:=Hi (T.rest _ _ (by omega) B2.out);replace G2:=Hi (G2.out.keep T.keep);replace G4:=Hi (G4.out.keep T.keep);have hs_y5:=nle T.size;have hr_y5:=nle T.size.symm;clear T;replace b_B1:=bX3 B1;replace b_B2:=bX3 B2;go_wp2;have hF:=((((Fin.start (L:=w.heap.size+1) HX.out (ah B2.out rfl)).set (by omega) (i:=0) (v:=.bool (⟨yn,ya,yl,yc,xb,xm,xd⟩:RH).neg) rfl).set (by omega) (i:=1) (v:=.slice (⟨yn,ya,yl,yc,xb,xm,xd⟩:RH).a (⟨yn,ya,yl,yc,xb,xm,xd⟩:RH).n (⟨yn,ya,yl,yc,xb,xm,xd⟩:RH).c) rfl).set (by omega) (i:=2) (v:=.slice (⟨yn,ya,yl,yc,xb,xm,xd⟩:RH).b (⟨yn,ya,yl,yc,xb,xm,xd⟩:RH).m (⟨yn,ya,yl,yc,xb,xm,xd⟩:RH).d) rfl);exact bodyPost_ret (v:=(⟨yn,ya,yl,yc,xb,xm,xd⟩:RH).v) (by simp [results,Tryz.results268,go_sem,ae B2.out]) rfl ⟨(⟨yn,ya,yl,yc,xb,xm,xd⟩:RH),rfl,hF.ext,(au.keep (s:=⟨yn,ya,yl,yc,xb,xm,xd⟩) ⟨by rw [HA.out.1];exact G4.out.1,by rw [HA.out.1];exact G4.out.2,by rw [HA.out.2];exact G2.out.2.2⟩ hF.keep)⟩
theorem ph{z e z' e':Int}{q r:Rat}(h:(z:Rat) / (e:Rat)=q)(k:(z':Rat) / (e':Rat)=r):((z*e':Int):Rat) / ((e*z':Int):Rat)=q / r:=by
 subst h k;rw [Rat.intCast_mul,Rat.intCast_mul,Rat.div_def,Rat.div_def,Rat.div_def,Rat.div_def,gK,gK,Rat.inv_inv];grind
theorem qM{z e:Int}{q:Rat}(he:0<e)(h:(z:Rat) / (e:Rat)=q):z=0↔q=0:=by
 subst h;constructor
 ·rintro rfl;rw [Rat.div_def];show (0:Rat)*_=0;grind
 ·intro h;rw [Rat.div_def] at h;rcases Rat.mul_eq_zero.1 h with h1|h1
  ·exact Rat.intCast_eq_zero_iff.1 h1
  ·have a1:(e:Rat)≠0:=by intro h0;have:=Rat.intCast_eq_zero_iff.1 h0;omega
   have:=Rat.mul_inv_cancel _ a1;rw [h1] at this;grind
def uQ(r:Rat):Int:=if r=0 then 3 else 0
theorem kx{r:Rat}(h:r=0):uQ r=3:=if_pos h
theorem pk{r:Rat}(h:r≠0):uQ r=0:=if_neg h
def wt(q r:Rat)(x:RH)(w':World):Prop:=r≠0→au w' x (q / r)
abbrev DV(s:RH)(e:Int):Value:=.tuple #[s.v,.int .i64 e]
theorem nY(s t:RH)(q r:Rat)(w:World)(h:bi w s q)(k:bi w t r):aq 91 [s.v,t.v] w (fun x:RH=>DV x (uQ r)) (wt q r):=by
 obtain ⟨neg,ao,n,c,bo,m,d⟩:=s;obtain ⟨neg',ao',n',c',bo',m',d'⟩:=t;have HR:=Hi h;have KR:=Hi k;have HX:=Hi (Ext.refl w);clear h k;unfold aq;go_enter Tryz.func91,Tryz.ntmps91
 go_wp2_with fail
 refine ux (F:=fun W=>Calls _ _ _ W _) ?_;intro w1 hE B2 B3 B4 hz_w1 hr_w1;refine mV3 hE ?_ HR KR HX;clear HR KR HX;intro HR KR HX;have hs_w1:=hE.size;clear hE;replace b_B2:=bX3 B2;replace b_B3:=bX3 B3;replace b_B4:=bX3 B4
 change Calls _ _ _ _ _
 refine cM (bM ⟨neg,ao,n,c,bo,m,d⟩ q _ HR.out) fun x2 w2 hE G2=>?_
 refine mV6 hE ?_ B2 B3 B4 HR KR HX;clear B2 B3 B4 HR KR HX;intro B2 B3 B4 HR KR HX;have hs_w2:=hE.size;clear hE;replace b_B2:=bX3 B2;replace b_B3:=bX3 B3;replace b_B4:=bX3 B4;obtain ⟨⟨an,aa,al,ac⟩,⟨bn,ba,bl,bc⟩⟩:=x2;obtain ⟨z,e,g1,g2,p3,g4,p5,p6⟩:=G2.out.div;have J1:=Hi g1;have J2:=Hi g2;have J4:=Hi g4;have P5:=Hi p5;have P6:=Hi p6;clear g1 g2 g4 p3 p5 p6 G2;simp only [PP]
 go_upto_region 2 with fail
 refine i8 ?_;intro y3 hE B6 B7 hz_y3 hr_y3;refine mV8 hE ?_ B2 B3 B4 HR KR HX J1 J2;clear B2 B3 B4 HR KR HX J1 J2;intro B2 B3 B4 HR KR HX J1 J2;have hs_y3:=hE.size;clear hE;replace b_B2:=bX3 B2;replace b_B3:=bX3 B3;replace b_B4:=bX3 B4;replace b_B6:=bX3 B6;replace b_B7:=bX3 B7
 go_wp2_with fail
 refine cM (bM ⟨neg',ao',n',c',bo',m',d'⟩ r _ KR.out) fun x4 w4 hE G4=>?_
 refine mV8 hE ?_ B6 B7 B2 B3 B4 HR KR HX;clear B6 B7 B2 B3 B4 HR KR HX;intro B6 B7 B2 B3 B4 HR KR HX;refine mV2 hE ?_ J1 J2;clear J1 J2;intro J1 J2;have hs_w4:=hE.size;clear hE;replace b_B2:=bX3 B2;replace b_B3:=bX3 B3;replace b_B4:=bX3 B4;replace b_B6:=bX3 B6;replace b_B7:=bX3 B7;obtain ⟨⟨an',aa',al',ac'⟩,⟨bn',ba',bl',bc'⟩⟩:=x4;obtain ⟨z',e',g1,g2,p3,g4,p5,p6⟩:=G4.out.div;have K1:=Hi g1;have K2:=Hi g2;have K4:=Hi g4;have KN:=Hi (qM p3 g4);have Q5:=Hi p5;have Q6:=Hi p6;clear g1 g2 g4 p3 p5 p6 G4;simp only [PP]
 go_upto_region 3 with fail
 refine i8 ?_;intro y5 hE B8 B9 hz_y5 hr_y5;refine mV8 hE ?_ B6 B7 B2 B3 B4 HR KR HX;clear B6 B7 B2 B3 B4 HR KR HX;intro B6 B7 B2 B3 B4 HR KR HX;refine mV4 hE ?_ J1 J2 K1 K2;clear J1 J2 K1 K2;intro J1 J2 K1 K2;have hs_y5:=hE.size;clear hE;replace b_B2:=bX3 B2;replace b_B3:=bX3 B3;replace b_B4:=bX3 B4;replace b_B6:=bX3 B6;replace b_B7:=bX3 B7;replace b_B8:=bX3 B8;replace b_B9:=bX3 B9;have HV:=Hi (ph J4.out K4.out);have M1:=Hi (jR P5.out Q6.out);have M2:=Hi (jR P6.out Q5.out);clear J4 K4
 go_wp2_with fail
 refine cM (bV ⟨an',aa',al',ac'⟩ z' _ K1.out) fun x6 w6 hE _=>?_
 refine mV8 hE ?_ B8 B9 B6 B7 B2 B3 B4 HR;clear B8 B9 B6 B7 B2 B3 B4 HR;intro B8 B9 B6 B7 B2 B3 B4 HR;refine mV6 hE ?_ KR HX J1 J2 K1 K2;clear KR HX J1 J2 K1 K2;intro KR HX J1 J2 K1 K2;have hs_w6:=hE.size;clear hE;replace b_B2:=bX3 B2;replace b_B3:=bX3 B3;replace b_B4:=bX3 B4;replace b_B6:=bX3 B6;replace b_B7:=bX3 B7;replace b_B8:=bX3 B8;replace b_B9:=bX3 B9;by_cases hz:z'=0
 case pos =>
  have hr:r=0:=KN.out.1 hz;subst hz;have HRz:=Hi hr;rw [bR rfl];have HZe:Hid (Ending.returned (DV ⟨false,none,0,0,none,0,0⟩ 3)=Ending.returned (DV ⟨false,none,0,0,none,0,0⟩ (uQ r))):=Hi (by rw [kx HRz.out]);clear hr M1 M2 HV P5 P6 Q5 Q6 KN;go_wp2;have hF:=(((Fin.start (L:=w.heap.size+2) HX.out (ah B4.out rfl)).set (by omega) (i:=0) (v:=.bool false) rfl).set (by omega) (i:=1) (v:=.slice none 0 0) rfl).set (by omega) (i:=2) (v:=.slice none 0 0) rfl;exact bodyPost_ret (v:=DV ⟨false,none,0,0,none,0,0⟩ 3) (by simp [results,Tryz.results91,go_sem,ae B4.out,DV]) rfl ⟨⟨false,none,0,0,none,0,0⟩,HZe.out,hF.ext,fun h=>(h HRz.out).elim⟩
 have HRz:Hid (r≠0):=Hi (fun h=>hz (KN.out.2 h));have hcz:bp z' 0=-1∨bp z' 0=1:=by
  rcases Int.lt_or_gt_of_ne hz with h|h
  ·exact Or.inl (bQ h)
  ·exact Or.inr (bK h)
 obtain ⟨v,hv⟩:∃ v,v=bp z' 0:=⟨_,rfl⟩;rw [←hv] at hcz ⊢;have hvb:(v == 0)=false:=by rw [beq_eq_false_iff_ne];omega
 clear hv hcz hz KN;have HZe:∀ x:RH,Ending.returned (DV x 0)=Ending.returned (DV x (uQ r)):=fun x=>by rw [pk HRz.out]
 go_upto_region 5 with fail
 refine wpG 7 (fun opIx=>match opIx with
  | 2=>.spec IH default IH.v (fun s w'=>bw w' s (z*e'))
  | 5=>.spec IH default IH.v (fun s w'=>bw w' s (e*z'))
  | 6=>.spec RH default RH.v (fun s w'=>au w' s (q / r))
  | _=>.quiet) (fun|6=>[2,5]|_=>[]) fun w0 he0 hz0 hc0 hf0=>?_
 refine wps he0.out rfl rfl (fun w1 hW hG=>?_) fun x2=>?_
 ·exact spc [IH.v ⟨an,aa,al,ac⟩,IH.v ⟨bn',ba',bl',bc'⟩] Tryz.func104 (ci _ _ _ _ _ (J1.out.ext hW) (K2.out.ext hW))
 refine qZ ?_;refine wps he0.out rfl rfl (fun w1 hW hG=>?_) fun x5=>?_
 ·exact spc [IH.v ⟨bn,ba,bl,bc⟩,IH.v ⟨an',aa',al',ac'⟩] Tryz.func104 (ci _ _ _ _ _ (J2.out.ext hW) (K1.out.ext hW))
 refine qZ ?_;refine wps he0.out rfl rfl (fun w1 hW hG=>?_) fun x6=>?_
 ·have g2:=(hG 2 (by decide):ay _ _).get fun _ e g=>g.ext e
  have g5:=(hG 5 (by decide):ay _ _).get fun _ e g=>g.ext e
  exact spc [x2.v,x5.v] Tryz.func102 (HV.out ▸ dE x2 x5 _ _ _ (g2.rawk M1.out go.2.1) (g5.rawk M2.out go.2.1))
 refine qZ ?_;refine wpF_nil ?_;intro w7 hI;have hE:=he0.out.trans hI.ext;have G2:=gT (hI.facts 2);have G5:=gT (hI.facts 5);have G6:=gT (hI.facts 6);clear hI he0 hz0 hc0 hf0;refine mV8 hE ?_ B8 B9 B6 B7 B2 B3 B4 HR;clear B8 B9 B6 B7 B2 B3 B4 HR;intro B8 B9 B6 B7 B2 B3 B4 HR;refine mV6 hE ?_ KR HX J1 K2 J2 K1;clear KR HX J1 K2 J2 K1;intro KR HX J1 K2 J2 K1;have hs_w7:=hE.size;clear hE;replace b_B2:=bX3 B2;replace b_B3:=bX3 B3;replace b_B4:=bX3 B4;replace b_B6:=bX3 B6;replace b_B7:=bX3 B7;replace b_B8:=bX3 B8;replace b_B9:=bX3 B9;simp only [pD];go_wp2;have hF:=(((Fin.start (L:=w.heap.size+2) HX.out (ah B4.out rfl)).set (by omega) (i:=0) (v:=.bool x6.neg) rfl).set (by omega) (i:=1) (v:=.slice x6.a x6.n x6.c) rfl).set (by omega) (i:=2) (v:=.slice x6.b x6.m x6.d) rfl;exact bodyPost_ret (v:=DV x6 0) (by simp [results,Tryz.results91,go_sem,ae B4.out,DV]) rfl ⟨x6,HZe x6,hF.ext,fun _=>G6.out.keep hF.keep⟩
theorem mW(s t:RH)(q r:Rat)(w:World)(h:bi w s q)(k:bi w t r):aq 73 [s.v,t.v] w RH.v (fun x w'=>au w' x (q / r)):=by
 obtain ⟨neg,ao,n,c,bo,m,d⟩:=s;obtain ⟨neg',ao',n',c',bo',m',d'⟩:=t;have HR:=Hi h;have KR:=Hi k;have HX:=Hi (Ext.refl w);clear h k;unfold aq;go_enter Tryz.func73,Tryz.ntmps73
 go_wp2_with fail
 refine ux (F:=fun W=>Calls _ _ _ W _) ?_;intro w1 hE B2 B3 B4 hz_w1 hr_w1;refine mV3 hE ?_ HR KR HX;clear HR KR HX;intro HR KR HX;have hs_w1:=hE.size;clear hE;replace b_B2:=bX3 B2;replace b_B3:=bX3 B3;replace b_B4:=bX3 B4
 change Calls _ _ _ _ _
 refine cM (nY ⟨neg,ao,n,c,bo,m,d⟩ ⟨neg',ao',n',c',bo',m',d'⟩ q r _ HR.out KR.out) fun x2 w2 hE G2=>?_
 refine mV6 hE ?_ B2 B3 B4 HR KR HX;clear B2 B3 B4 HR KR HX;intro B2 B3 B4 HR KR HX;have hs_w2:=hE.size;clear hE;replace b_B2:=bX3 B2;replace b_B3:=bX3 B3;replace b_B4:=bX3 B4;simp only [DV];by_cases hr:r=0
 case pos =>
  have HV:Hid (q / r=((0:Int):Rat)):=Hi (by rw [hr,Rat.div_def,Rat.inv_zero];show q*0=0;grind);rw [kx hr];clear hr G2
  go_upto_region 2 with fail
  refine nmA ?_;intro y3 hE B5 hz_y3 hr_y3;refine mV6 hE ?_ B2 B3 B4 HR KR HX;clear B2 B3 B4 HR KR HX;intro B2 B3 B4 HR KR HX;have hs_y3:=hE.size;clear hE;replace b_B2:=bX3 B2;replace b_B3:=bX3 B3;replace b_B4:=bX3 B4;replace b_B5:=bX3 B5
  go_wp2_with fail
  refine cM (fI 0 _ (by decide) (by decide)) fun x4 w4 hE G4=>?_
  refine mV7 hE ?_ B5 B2 B3 B4 HR KR HX;clear B5 B2 B3 B4 HR KR HX;intro B5 B2 B3 B4 HR KR HX;have hs_w4:=hE.size;clear hE;replace b_B2:=bX3 B2;replace b_B3:=bX3 B3;replace b_B4:=bX3 B4;replace b_B5:=bX3 B5;go_wp2;have hF:=((((Fin.start (L:=w.heap.size+2) HX.out (ah B4.out rfl)).set (by omega) (i:=0) (v:=.bool x4.neg) rfl).set (by omega) (i:=1) (v:=.slice x4.a x4.n x4.c) rfl).set (by omega) (i:=2) (v:=.slice x4.b x4.m x4.d) rfl);exact bodyPost_ret (v:=x4.v) (by simp [results,Tryz.results73,go_sem,ae B4.out]) rfl ⟨x4,rfl,hF.ext,(by rw [HV.out];exact G4.out.keep hF.keep)⟩
 rw [pk hr];have GC:=Hi (G2.out hr);clear hr G2;obtain ⟨xn,xa,xl,xc,xb,xm,xd⟩:=x2
 go_upto_region 2 with fail
 refine nmA ?_;intro y3 hE B5 hz_y3 hr_y3;refine mV7 hE ?_ B2 B3 B4 HR KR HX GC;clear B2 B3 B4 HR KR HX GC;intro B2 B3 B4 HR KR HX GC;have hs_y3:=hE.size;clear hE;replace b_B2:=bX3 B2;replace b_B3:=bX3 B3;replace b_B4:=bX3 B4;replace b_B5:=bX3 B5;go_wp2;have hF:=((((Fin.start (L:=w.heap.size+2) HX.out (ah B4.out rfl)).set (by omega) (i:=0) (v:=.bool (⟨xn,xa,xl,xc,xb,xm,xd⟩:RH).neg) rfl).set (by omega) (i:=1) (v:=.slice (⟨xn,xa,xl,xc,xb,xm,xd⟩:RH).a (⟨xn,xa,xl,xc,xb,xm,xd⟩:RH).n (⟨xn,xa,xl,xc,xb,xm,xd⟩:RH).c) rfl).set (by omega) (i:=2) (v:=.slice (⟨xn,xa,xl,xc,xb,xm,xd⟩:RH).b (⟨xn,xa,xl,xc,xb,xm,xd⟩:RH).m (⟨xn,xa,xl,xc,xb,xm,xd⟩:RH).d) rfl);exact bodyPost_ret (v:=(⟨xn,xa,xl,xc,xb,xm,xd⟩:RH).v) (by simp [results,Tryz.results73,go_sem,ae B4.out]) rfl ⟨(⟨xn,xa,xl,xc,xb,xm,xd⟩:RH),rfl,hF.ext,(au.keep (s:=⟨xn,xa,xl,xc,xb,xm,xd⟩) GC.out hF.keep)⟩
end Go.Proofs.YtofhkmcllihgmaaGreat
/- Degree, Scale, Sub of the reference 05. -/
set_option linter.unusedVariables false
namespace Go.Proofs.YtofhkmcllihgmaaGreat
open Go.RowKit Go.Front Go.Num
attribute [local go_sem] XW.cell XW.frozen
set_option maxRecDepth 4000 in
set_option maxHeartbeats 1000000 in
theorem ls(ao:Option Addr)(n cap:Nat)(qs:List Rat)(w:World)(h:bW w ⟨ao,n,cap⟩ qs)(hn:n≤1073741824) :
  aq 95 [.slice ao n cap] w (fun _:Unit=>.int .i64 (((tz qs).length:Int)-1)) (fun _ _=>True):=by
 have H:=Hi h;have HX:=Hi (Ext.refl w);clear h;unfold aq;go_enter Tryz.func95,Tryz.ntmps95
 go_wp2_with fail
 refine cM (ft ao n cap qs _ H.out hn) fun x1 w1 hE G1=>?_
 replace HX:=hE.tr HX;have hs_w1:=hE.size;clear hE;obtain ⟨pa,P,pc⟩:=x1;simp only [SH.v];have hP:=G1.out.len;simp only at hP;have h1:=G1.out.can.le;have h2:=G1.out.can.max;simp only at h1 h2;have HV:Hid (((tz qs).length:Int)-1=(P:Int)-1):=Hi (by rw [hP]);clear hP;go_wp2
 go_ret
 exact ⟨(),by rw [HV.out];rfl,HX.out,trivial⟩
end Go.Proofs.YtofhkmcllihgmaaGreat
/- awake of chapter 20. -/
set_option linter.unusedVariables false
namespace Go.Proofs.YtofhkmcllihgmaaGreat
open Go.RowKit Go.Front Go.Num
attribute [local go_sem] XW.cell XW.frozen
theorem qh{P:Program}{o:Oper}{a:Act}{w:World}{T:TypeId}(x:RH)(p:Rat)(hx:au w x p)(hT:T=30)
 (hrun:(execOp a.eval o).run P w=.ok (.value (.slice (some ⟨w.heap.size,0,none⟩) 1 1)) (w.alloc (.cells #[.bool x.neg,.slice x.a x.n x.c,.slice x.b x.m x.d] T))) :
  bI P o a w (fun b:Nat=>.slice (some ⟨b,0,none⟩) 1 1) (fun b w'=>aI w' ⟨some ⟨b,0,none⟩,1,1⟩ [p]):=by
 subst hT;unfold bI;rw [hrun];exact ⟨Ext.alloc _ _,w.heap.size,rfl,mG (heap_alloc_new _ _) (hx.ext (Ext.alloc _ _))⟩
theorem qg{P:Program}{o:Oper}{a:Act}{w:World}{T:TypeId}(x y:RH)(p q:Rat)(hx:au w x p)(hy:au w y q)(hT:T=30)
 (hrun:(execOp a.eval o).run P w=.ok (.value (.slice (some ⟨w.heap.size,0,none⟩) 2 2)) (w.alloc (.cells #[.bool x.neg,.slice x.a x.n x.c,.slice x.b x.m x.d,.bool y.neg,.slice y.a y.n y.c,.slice y.b y.m y.d] T))) :
  bI P o a w (fun b:Nat=>.slice (some ⟨b,0,none⟩) 2 2) (fun b w'=>aI w' ⟨some ⟨b,0,none⟩,2,2⟩ [p,q]):=by
 subst hT;unfold bI;rw [hrun];exact ⟨Ext.alloc _ _,w.heap.size,rfl,pC (heap_alloc_new _ _) (hx.ext (Ext.alloc _ _)) (hy.ext (Ext.alloc _ _))⟩
theorem qf{P:Program}{o:Oper}{a:Act}{w:World}{T:TypeId}(x y z:RH)(p q r:Rat)(hx:au w x p)(hy:au w y q)(hz:au w z r)(hT:T=30)
 (hrun:(execOp a.eval o).run P w=.ok (.value (.slice (some ⟨w.heap.size,0,none⟩) 3 3)) (w.alloc (.cells #[.bool x.neg,.slice x.a x.n x.c,.slice x.b x.m x.d,.bool y.neg,.slice y.a y.n y.c,.slice y.b y.m y.d,.bool z.neg,.slice z.a z.n z.c,.slice z.b z.m z.d] T))) :
  bI P o a w (fun b:Nat=>.slice (some ⟨b,0,none⟩) 3 3) (fun b w'=>aI w' ⟨some ⟨b,0,none⟩,3,3⟩ [p,q,r]):=by
 subst hT;unfold bI;rw [hrun];exact ⟨Ext.alloc _ _,w.heap.size,rfl,u3 (heap_alloc_new _ _) (hx.ext (Ext.alloc _ _)) (hy.ext (Ext.alloc _ _)) (hz.ext (Ext.alloc _ _))⟩
set_option maxRecDepth 8000 in
set_option maxHeartbeats 8000000 in
theorem fh(w:World):aq 55 [] w (fun _:Unit=>.bool true) (fun _ _=>True):=by
 have HX:=Hi (Ext.refl w);have Z1:Hid (SzL 1 [iq 1]):=Hi (szB (by decide +kernel));have Z2:Hid (SzL 1 [iq 1,fr (-1) 2]):=Hi (szB (by decide +kernel));have Z3:Hid (SzL 1 [iq 1,iq 1]):=Hi (szB (by decide +kernel));have F1:Hid (FrB 13 [iq 1]):=Hi ((FrB.of (n:=2) Z1.out (by decide)).mono (by decide));have F3:Hid (FrB 13 [iq 1,iq 1]):=Hi ((FrB.of (n:=2) Z3.out (by decide)).mono (by decide));have V1:Hid (oO [iq 1] [iq 1,fr (-1) 2] 3=(0,[iq 1,fr 1 2,fr 1 4])):=Hi (by decide +kernel);have V2:Hid (pW [iq 1,iq 1] [iq 1]=(0,[iq 1],[iq 2])):=Hi (by decide +kernel);have V3:Hid (decide (VF [iq 1] [iq 1,fr (-1) 2])=true):=Hi (by decide +kernel);have V4:Hid (([iq 1]:List Rat).getD 0 0 / ([iq 2]:List Rat).getD 0 0=fr 1 2):=Hi (by decide +kernel);have V5:Hid (((tz [iq 1]).length:Int)-1=0):=Hi (by decide +kernel);have SA:Hid (Sz 1 (iq 1)):=Hi (Sz.int (by decide));have SB:Hid (Sz 1 (iq 2)):=Hi (Sz.int (by decide));unfold aq;go_enter Tryz.func55,Tryz.ntmps55
 go_wp2_with fail
 refine cM (fI 1 _ (by decide) (by decide)) fun x1 w1 hE G1=>?_
 replace HX:=hE.tr HX;have hs_w1:=hE.size;clear hE
 go_upto_region 2 with fail
 refine nmA ?_;intro w2 hE B1 hz_w2 hr_w2;refine mV2 hE ?_ G1 HX;clear G1 HX;intro G1 HX;have hs_w2:=hE.size;clear hE;replace b_B1:=bX3 B1;refine wpG 7 (fun opIx=>match opIx with
  | 1=>.spec (Nat) (0) (fun b=>.slice (some ⟨b,0,none⟩) 1 1) (fun b w'=>aI w' ⟨some ⟨b,0,none⟩,1,1⟩ [iq 1])
  | 3=>.spec RH default RH.v (fun s w'=>au w' s (fr (-1) 2))
  | 4=>.spec (Nat) (0) (fun b=>.slice (some ⟨b,0,none⟩) 2 2) (fun b w'=>aI w' ⟨some ⟨b,0,none⟩,2,2⟩ [iq 1,fr (-1) 2])
  | 6=>.alloc 79 #[.slice none 0 0,.slice none 0 0]
  | _=>.quiet) (fun|4=>[3]|_=>[]) fun w0 he0 hz0 hc0 hf0=>?_
 refine wps he0.out rfl rfl (fun w1 hW hG=>?_) fun x21=>?_
 ·exact qh x1 _ (G1.out.ext hW) rfl (by simp [execOp,go_sem])
 refine qZ ?_;refine wps he0.out rfl rfl (fun w1 hW hG=>?_) fun x22=>?_
 ·exact spc [.int .i64 (-1),.int .i64 2] Tryz.func32 (ct (-1) 2 _ (by decide) (by decide) (by decide) (by decide))
 refine qZ ?_;refine wps he0.out rfl rfl (fun w1 hW hG=>?_) fun x23=>?_
 ·have g22:=(hG 3 (by decide):ay _ _).get fun _ e g=>g.ext e
  exact qg x1 x22 _ _ (G1.out.ext hW) g22 rfl (by simp [execOp,go_sem])
 refine qZ ?_;refine aG rfl rfl (fun w=>by simp [execOp,go_sem,ptr]) (fun b24 hb24 hl24=>?_);refine qZ ?_;refine wpF_nil ?_;intro w3 hI;have hE:=he0.out.trans hI.ext;have G21:=gT (hI.facts 1);have G22:=gT (hI.facts 3);have G23:=gT (hI.facts 4);have A24:Hid (w3.heap[b24]?=some (.cells #[.slice none 0 0,.slice none 0 0] 79 (0,0))):=hI.facts 6;rw [hz0] at hl24;clear hI he0 hz0 hc0 hf0;refine mV3 hE ?_ B1 G1 HX;clear B1 G1 HX;intro B1 G1 HX;have hs_w3:=hE.size;clear hE;replace b_B1:=bX3 B1;replace b_A24:=bX3 A24;simp only [pD,ptr]
 go_upto_region 3 with fail
 refine eZ A24.out rfl ?_;intro w4 T;replace G21:=Hi (aI.put2 G21.out A24.out T);replace G23:=Hi (aI.put2 G23.out A24.out T);replace HX:=Hi (T.ext HX.out (by omega));replace G1:=Hi (G1.out.keep T.keep);replace B1:=Hi (T.rest _ _ (by omega) B1.out);replace G22:=Hi (G22.out.keep T.keep);replace A24:=Hi (T.bx);have hs_w4:=nle T.size;have hr_w4:=nle T.size.symm;clear T;replace b_B1:=bX3 B1;replace b_A24:=bX3 A24
 go_wp2_with fail
 refine cM (jF ⟨⟨some ⟨x21,0,none⟩,1,1⟩,⟨some ⟨x23,0,none⟩,2,2⟩⟩ [iq 1] [iq 1,fr (-1) 2] 3 1 1 _ ⟨G21.out.raw Z1.out (by decide),G23.out.raw Z2.out (by decide)⟩ (by show 1≤1000;decide) (by show 2≤1000;decide) (by decide) (by decide) Z1.out Z2.out (by decide) (by decide) (by decide) (by decide) (fun _ _=>by decide +kernel)) fun x5 w5 hE G5=>?_
 refine mV7 hE ?_ G21 G23 HX G1 B1 G22 A24;clear G21 G23 HX G1 B1 G22 A24;intro G21 G23 HX G1 B1 G22 A24;have hs_w5:=hE.size;clear hE;replace b_B1:=bX3 B1;replace b_A24:=bX3 A24;obtain ⟨⟨a5,n5,c5⟩,e5⟩:=x5;obtain ⟨he,hl⟩:=G5.out;rw [V1.out] at he hl;simp only at he hl;subst he;have L5:=Hi hl;clear hl G5;simp only [RF,SH.v]
 go_wp2_with fail
 refine i8 (F:=fun W=>Calls _ _ _ W _) ?_;intro w6 hE B22 B24 hz_w6 hr_w6;refine mV8 hE ?_ G21 G23 HX G1 B1 G22 A24 L5;clear G21 G23 HX G1 B1 G22 A24 L5;intro G21 G23 HX G1 B1 G22 A24 L5;have hs_w6:=hE.size;clear hE;replace b_B1:=bX3 B1;replace b_A24:=bX3 A24;replace b_B22:=bX3 B22;replace b_B24:=bX3 B24
 change Calls _ _ _ _ _
 have L22:=Hi (pC B22.out G1.out G1.out);have L24:=Hi (mG B24.out G1.out)
 (try clear b_B22);clear B22
 (try clear b_B24);clear B24
 refine cM (lp ⟨⟨some ⟨w5.heap.size,0,none⟩,2,2⟩,⟨some ⟨w5.heap.size+1,0,none⟩,1,1⟩⟩ [iq 1,iq 1] [iq 1] 13 _ ⟨L22.out.raw Z3.out (by decide),L24.out.raw Z1.out (by decide)⟩ ⟨by show 2≤5;decide,by show 1≤5;decide⟩ F3.out F1.out (by decide)) fun x7 w7 hE G7=>?_
 refine mV8 hE ?_ G21 G23 HX G1 B1 G22 A24 L5;clear G21 G23 HX G1 B1 G22 A24 L5;intro G21 G23 HX G1 B1 G22 A24 L5;refine mV2 hE ?_ L22 L24;clear L22 L24;intro L22 L24;have hs_w7:=hE.size;clear hE;replace b_B1:=bX3 B1;replace b_A24:=bX3 A24;obtain ⟨⟨⟨na,nn,nc⟩,⟨da,dn,dc⟩⟩,e7⟩:=x7;obtain ⟨he,h1,h2⟩:=G7.out;rw [V2.out] at he h1 h2;simp only at he h1 h2;subst he;have LN:=Hi h1;have LD:=Hi h2;have hnn:nn=1:=h1.len.symm;have hdn:dn=1:=h2.len.symm;subst hnn hdn;clear h1 h2 G7;clear L22;clear L24;simp only [FE,FH.v,SH.v]
 go_upto_region 5 with fail
 refine nmA ?_;intro w8 hE B5 hz_w8 hr_w8;refine mV8 hE ?_ G21 G23 HX G1 B1 G22 A24 L5;clear G21 G23 HX G1 B1 G22 A24 L5;intro G21 G23 HX G1 B1 G22 A24 L5;refine mV2 hE ?_ LN LD;clear LN LD;intro LN LD;have hs_w8:=hE.size;clear hE;replace b_B1:=bX3 B1;replace b_A24:=bX3 A24;replace b_B5:=bX3 B5;obtain ⟨nb,no,r,hao,hbl,⟨hc1,hc2,hc3⟩,hP⟩:=LN.out.celx (k:=0) (by decide);obtain ⟨db,do',r2,hao2,hbl2,⟨hd1,hd2,hd3⟩,hP2⟩:=LD.out.celx (k:=0) (by decide);obtain ⟨rneg,ra,rn,rc,rb,rm,rd⟩:=r;obtain ⟨sneg,sa,sn,sc,sb,sm,sd⟩:=r2;simp only [Nat.zero_mul,Nat.add_zero] at hao hao2 hc1 hc2 hc3 hd1 hd2 hd3;have RN:=Hi hP;have RD:=Hi hP2;clear hP hP2;subst hao hao2;refine wpG 36 (fun opIx=>match opIx with
  | 9=>.spec RH default RH.v (fun s w'=>au w' s (fr 1 2))
  | 10=>.spec RH default RH.v (fun s w'=>au w' s (fr 1 4))
  | 11=>.spec (Nat) (0) (fun b=>.slice (some ⟨b,0,none⟩) 3 3) (fun b w'=>aI w' ⟨some ⟨b,0,none⟩,3,3⟩ [iq 1,fr 1 2,fr 1 4])
  | 12=>.spec Unit () (fun _=>.bool true) (fun _ _=>True)
  | 17=>.spec Unit () (fun _=>.int .i64 0) (fun _ _=>True)
  | 29=>.spec RH default RH.v (fun s w'=>au w' s (fr 1 2))
  | 30=>.spec RH default RH.v (fun s w'=>au w' s (fr 1 2))
  | 31=>.spec Unit () (fun _=>.bool true) (fun _ _=>True)
  | 35=>.spec Unit () (fun _=>.bool true) (fun _ _=>True)
  | _=>.quiet) (fun|11=>[9,10]|12=>[11]|31=>[29,30]|_=>[]) fun w0 he0 hz0 hc0 hf0=>?_
 refine wps he0.out rfl rfl (fun w1 hW hG=>?_) fun x30=>?_
 ·exact spc [.int .i64 1,.int .i64 2] Tryz.func32 (ct 1 2 _ (by decide) (by decide) (by decide) (by decide))
 refine qZ ?_;refine wps he0.out rfl rfl (fun w1 hW hG=>?_) fun x31=>?_
 ·exact spc [.int .i64 1,.int .i64 4] Tryz.func32 (ct 1 4 _ (by decide) (by decide) (by decide) (by decide))
 refine qZ ?_;refine wps he0.out rfl rfl (fun w1 hW hG=>?_) fun x32=>?_
 ·have g30:=(hG 9 (by decide):ay _ _).get fun _ e g=>g.ext e
  have g31:=(hG 10 (by decide):ay _ _).get fun _ e g=>g.ext e
  exact qf x1 x30 x31 _ _ _ (G1.out.ext hW) g30 g31 rfl (by simp [execOp,go_sem])
 refine qZ ?_;refine wps he0.out rfl rfl (fun w1 hW hG=>?_) fun x33=>?_
 ·have g32:=(hG 11 (by decide):ay _ _).get fun _ e g=>g.ext e
  exact spc [.slice a5 n5 c5,.slice (some ⟨x32,0,none⟩) 3 3] Tryz.func60 ((by have h:=gw ⟨a5,n5,c5⟩ ⟨some ⟨x32,0,none⟩,3,3⟩ _ _ _ (L5.out.ext hW) g32;rw [decide_eq_true rfl] at h;exact h))
 refine qZ ?_;refine wps he0.out rfl rfl (fun w1 hW hG=>?_) fun x34=>?_
 ·exact spc [.slice (some ⟨nb,no,none⟩) 1 nc] Tryz.func95 ((by have h:=ls (some ⟨nb,no,none⟩) 1 nc [iq 1] _ ((LN.out.ext hW).raw Z1.out (by decide)) (by decide);rw [V5.out] at h;exact h))
 refine qZ ?_;refine wps he0.out rfl rfl (fun w1 hW hG=>?_) fun x35=>?_
 ·exact spc [RH.v ⟨rneg,ra,rn,rc,rb,rm,rd⟩,RH.v ⟨sneg,sa,sn,sc,sb,sm,sd⟩] Tryz.func73 ((by have h:=mW ⟨rneg,ra,rn,rc,rb,rm,rd⟩ ⟨sneg,sa,sn,sc,sb,sm,sd⟩ _ _ _ ((RN.out.ext hW).raw SA.out (by decide)) ((RD.out.ext hW).raw SB.out (by decide));rw [V4.out] at h;exact h))
 refine qZ ?_;refine wps he0.out rfl rfl (fun w1 hW hG=>?_) fun x36=>?_
 ·exact spc [.int .i64 1,.int .i64 2] Tryz.func32 (ct 1 2 _ (by decide) (by decide) (by decide) (by decide))
 refine qZ ?_;refine wps he0.out rfl rfl (fun w1 hW hG=>?_) fun x37=>?_
 ·have g35:=(hG 29 (by decide):ay _ _).get fun _ e g=>g.ext e
  have g36:=(hG 30 (by decide):ay _ _).get fun _ e g=>g.ext e
  exact spc [x35.v,x36.v] Tryz.func132 ((by have h:=i4 x35 x36 _ _ _ g35 g36;rw [decide_eq_true rfl] at h;exact h))
 refine qZ ?_;refine wps he0.out rfl rfl (fun w1 hW hG=>?_) fun x38=>?_
 ·exact spc [FH.v ⟨⟨some ⟨x21,0,none⟩,1,1⟩,⟨some ⟨x23,0,none⟩,2,2⟩⟩] Tryz.func133 ((by have h:=dK ⟨⟨some ⟨x21,0,none⟩,1,1⟩,⟨some ⟨x23,0,none⟩,2,2⟩⟩ [iq 1] [iq 1,fr (-1) 2] _ ⟨(G21.out.ext hW).raw Z1.out (by decide),(G23.out.ext hW).raw Z2.out (by decide)⟩;rw [V3.out] at h;exact h))
 refine qZ ?_;refine wpF_nil ?_;intro w9 hI;have hE:=he0.out.trans hI.ext;have G30:=gT (hI.facts 9);have G31:=gT (hI.facts 10);have G32:=gT (hI.facts 11);have G35:=gT (hI.facts 29);have G36:=gT (hI.facts 30);clear hI he0 hz0 hc0 hf0;refine mV8 hE ?_ B5 G21 G23 HX G1 B1 G22 A24;clear B5 G21 G23 HX G1 B1 G22 A24;intro B5 G21 G23 HX G1 B1 G22 A24;refine mV3 hE ?_ L5 LN LD;clear L5 LN LD;intro L5 LN LD;have hs_w9:=hE.size;clear hE;replace b_B1:=bX3 B1;replace b_A24:=bX3 A24;replace b_B5:=bX3 B5;simp only [pD];go_wp2
 go_ret
 exact ⟨(),rfl,HX.out,trivial⟩
end Go.Proofs.YtofhkmcllihgmaaGreat
/- The filters of make: their numbers. Plain facts. -/
set_option linter.unusedVariables false
namespace Go.Proofs.YtofhkmcllihgmaaGreat
open Go.RowKit Go.Front Go.Num
def o5(xs:List Int):List Rat:=qC xs 3
def keL(xs:List Int):List Rat:=(xs.take 3).map eM
def pV(xs:List Int):List Rat:=tz (Stab.ups (keL xs))
theorem s7:∀ m:Nat,m<15→(-1<(((m:Int)-7:Int):Rat) / ((8:Int):Rat)∧(((m:Int)-7:Int):Rat) / ((8:Int):Rat)<1)∧((((m:Int)-7:Int):Rat) / ((8:Int):Rat)).num.natAbs<W32∧((((m:Int)-7:Int):Rat) / ((8:Int):Rat)).den<W32 ∧
  ((((m:Int)-7:Int):Rat) / ((8:Int):Rat)*((8:Nat):Rat)).den=1∧((((m:Int)-7:Int):Rat) / ((8:Int):Rat)*((8:Nat):Rat)).num.natAbs<W32:=by decide +kernel
theorem oL(n:Int):(-1<eM n∧eM n<1)∧Sz 1 (eM n)∧Fr 1 8 (eM n):=by
 have h1:=Int.emod_nonneg n (show (15:Int)≠0 by decide);have h2:=Int.emod_lt_of_pos n (show (0:Int)<15 by decide);have h:=s7 (n % 15).toNat (by omega);rw [show (((n % 15).toNat:Nat):Int)=n % 15 by omega] at h;exact ⟨h.1,⟨by rw [Nat.pow_one];exact h.2.1,by rw [Nat.pow_one];exact h.2.2.1⟩,h.2.2.2.1,by rw [Nat.pow_one];exact h.2.2.2.2⟩
theorem jD(xs:List Int):(keL xs).length≤3:=by unfold keL;rw [List.length_map,List.length_take];omega
theorem uB(xs:List Int):∀ r ∈ keL xs,-1<r∧r<1:=fun r hr=>by obtain ⟨n,-,rfl⟩:=List.mem_map.1 hr;exact (oL n).1
theorem uA(xs:List Int):SzL 1 (keL xs):=fun r hr=>by obtain ⟨n,-,rfl⟩:=List.mem_map.1 hr;exact (oL n).2.1
theorem uC(xs:List Int):FrL 1 8 (keL xs):=fun r hr=>by obtain ⟨n,-,rfl⟩:=List.mem_map.1 hr;exact (oL n).2.2
theorem t6(k:List Rat)(h:FrL 1 8 k):FrL (2*k.length+1) (8 ^ k.length) (Stab.ups k):=by
 induction k using Stab.snoc_ind with
 | h0 =>
  intro q hq;obtain rfl:q=1:=by simpa [Stab.ups] using hq
  exact Fr.int (z:=1) (by decide) (by decide +kernel)
 | h1 l r ih =>
  have ih':=ih (fun x hx=>h x (by simp [hx]));rw [Stab.ups_snoc,List.length_append,List.length_singleton];intro q hq;obtain ⟨i,hi,rfl⟩:=List.mem_iff_getElem.1 hq;rw [Stab.up_length,Stab.ups_length] at hi;have e:=Stab.up_at (c:=Stab.ups l) (k:=r) (i:=i) (Stab.ups_length l) (by omega);rw [List.getD_eq_getElem?_getD,List.getElem?_eq_getElem (by rw [Stab.up_length,Stab.ups_length];omega)] at e;simp only [Option.getD_some] at e;rw [e];have h8:8<W32 ^ 1:=by decide
  have h1:=(ih'.at i).den h8;have h2:=(h r (by simp)).mul (ih'.at (l.length+1-i));rw [Nat.mul_comm 8] at h2;rw [show 2*(l.length+1)+1=2*l.length+1+1+1 by omega,Nat.pow_succ];exact h1.add (h2.mono (by omega))
theorem rt(xs:List Int):FrB 7 (pV xs):=by
 have hl:=jD xs;have h:=t6 _ (uC xs);have hp:8 ^ (keL xs).length≤8 ^ 3:=Nat.pow_le_pow_right (by decide) hl;exact FrB.tz ⟨by decide,_,Nat.pow_pos (by decide),Nat.lt_of_le_of_lt hp (by decide),h.mono (by omega)⟩
theorem my(xs:List Int):(o5 xs).length≤4:=by
 unfold o5 qC;refine Nat.le_trans (ak _) ?_;rw [List.length_map,List.length_take];omega
theorem tt(xs:List Int):SzL 1 (o5 xs):=SzL.tz (kZ _)
theorem ri(xs:List Int):FrB 7 (o5 xs):=(FrB.of (tt xs) (my xs)).mono (by decide)
theorem rj(xs:List Int):(pV xs).length≤4:=by
 have h:=ak (Stab.ups (keL xs));rw [Stab.ups_length] at h;have:=jD xs;show (tz (Stab.ups (keL xs))).length≤4;omega
theorem tq(xs:List Int):tz (o5 xs)=o5 xs:=aV _
theorem tv(xs:List Int):tz (pV xs)=pV xs:=aV _
theorem lJ(k:List Rat):(Stab.ups k).getD 0 0=1:=by
 induction k using Stab.snoc_ind with
 | h0=>rfl
 | h1 l r ih =>
  rw [Stab.ups_snoc,Stab.up_at (m:=l.length) (Stab.ups_length l) (by omega),ih,bu (by rw [Stab.ups_length];omega)];grind
theorem o6(xs:List Int):(pV xs).getD 0 0=1:=by
 show (tz (Stab.ups (keL xs))).getD 0 0=1;rw [aD,lJ]
theorem tu(xs:List Int):upV (keL xs)=(0,pV xs):=t8 (uB xs) (by have:=jD xs;omega)
end Go.Proofs.YtofhkmcllihgmaaGreat
