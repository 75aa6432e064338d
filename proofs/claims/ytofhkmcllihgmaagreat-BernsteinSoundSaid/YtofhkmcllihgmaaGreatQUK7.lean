/- Rfc, Rfd -/
import Derived.Test.YtofhkmcllihgmaaGreatQUM1
import Derived.Test.YtofhkmcllihgmaaGreatQUM7
import Derived.Test.YtofhkmcllihgmaaGreatQUK1
import Derived.Test.YtofhkmcllihgmaaGreatQUK4
import Derived.Test.YtofhkmcllihgmaaGreatQUM11
import Derived.Test.YtofhkmcllihgmaaGreatQUK2
set_option linter.unusedVariables false
set_option maxRecDepth 8000
set_option maxHeartbeats 4000000
namespace Go.Proofs.YtofhkmcllihgmaaGreat
open Go.RowKit Go.Front Go.Num
attribute [local go_sem] XW.cell XW.frozen
theorem s6{w1:World}{b:Nat}{T:TypeId}{c0 c1 c2 v0 v1:Value}{F:World→Prop}(hb:w1.heap[b]?=some (.cells #[c0,c1,c2] T (0,0)))(hn:#[c0,c1,c2].toList.all eX=true)(h:∀ w2,dN w1 b T #[v0,v1,c2] w2→F w2) :
  F ((w1.setCell ⟨b,0,none⟩ v0).setCell ⟨b,1,none⟩ v1) :=
 h _ (dN.of (Array.getElem?_eq_some_iff.1 hb).1 (ai hb hn) ((aJ.setCell w1 ⟨b,0,none⟩ v0).trans (aJ.setCell _ ⟨b,1,none⟩ v1)) (by simp [World.setCell]) (aG (aG hb 0 v0) 1 v1))
theorem bT.rawn{w:World}{s:IH}{z:Int}(h:bT w s z){w':World}{t:IH}{y:Int}(k:eG w' t y)(hz:z.natAbs≤y.natAbs):eG w s z:=by
 obtain ⟨ds,h1,h2,h3⟩:=k;have h4:=gF h1 t.neg;rw [←h2] at h4;exact h.rawk (k:=t.n) (Nat.lt_of_le_of_lt hz h4) h3
theorem tH(s t:IH)(z y:Int)(w:World)(h:eG w s z)(k:eG w t y):au 232 [s.v,t.v] w IH.v (fun s w'=>bT w' s (z-y)):=by
 obtain ⟨neg,ao,n,c⟩:=s;obtain ⟨neg',bo,m,d⟩:=t;have HR:=Hi h;have KR:=Hi k;have HX:=Hi (Ext.refl w);have HV:Hid (z-y=z+-y):=Hi (by omega);clear h k;unfold au;go_enter Tryz.func232,Tryz.ntmps232
 go_upto_region 1 with fail
 refine vz ?_;intro w1 hE B2 B3 B4 hz_w1 hr_w1
 refine mV3 hE ?_ HR KR HX;clear HR KR HX;intro HR KR HX
 have hs_w1:=hE.size;clear hE;replace b_B2:=b3 B2;replace b_B3:=b3 B3;replace b_B4:=b3 B4;refine wpG 4 (fun opIx=>match opIx with
  | 2=>.spec IH default IH.v (fun s w'=>bT w' s (-y))
  | 3=>.spec IH default IH.v (fun s w'=>bT w' s (z+-y))
  | _=>.quiet) (fun|3=>[2]|_=>[]) fun w0 he0 hz0 hc0 hf0=>?_
 refine wps he0.out rfl rfl (fun w1 hW hG=>?_) fun x2=>?_
 ·exact spc [IH.v ⟨neg',bo,m,d⟩] Tryz.func192 (j9 ⟨neg',bo,m,d⟩ y _ (KR.out.ext hW))
 refine qZ ?_;refine wps he0.out rfl rfl (fun w1 hW hG=>?_) fun x3=>?_
 ·have g2:=(hG 2 (by decide):ay _ _).get fun _ e g=>g.ext e
  exact spc [IH.v ⟨neg,ao,n,c⟩,x2.v] Tryz.func103 (m7 ⟨neg,ao,n,c⟩ x2 z (-y) _ (HR.out.ext hW) (g2.rawn KR.out (by omega)))
 refine qZ ?_;refine wpF_nil ?_;intro w2 hI;have hE:=he0.out.trans hI.ext;have G2:=gT (hI.facts 2);have G3:=gT (hI.facts 3);clear hI he0 hz0 hc0 hf0
 refine mV6 hE ?_ B2 B3 B4 HX HR KR;clear B2 B3 B4 HX HR KR;intro B2 B3 B4 HX HR KR
 have hs_w2:=hE.size;clear hE;replace b_B2:=b3 B2;replace b_B3:=b3 B3;replace b_B4:=b3 B4;simp only [pD];rw [←HV.out] at G3;go_wp2;have hF:=((Fin.start (L:=w.heap.size+2) HX.out (ai B4.out rfl)).set (by omega) (i:=0) (v:=.bool x3.neg) rfl).set (by omega) (i:=1) (v:=.slice x3.a x3.n x3.c) rfl;exact bodyPost_ret (v:=x3.v) (by simp [results,Tryz.results232,go_sem,ae B4.out]) rfl ⟨x3,rfl,hF.ext,G3.out.keep hF.keep⟩
theorem xL(z y:Int):bP (z-y) 0=bP z y:=by
 unfold bP;split
 ·rw [if_pos (by omega)]
 ·split
  ·rw [if_neg (by omega),if_pos (by omega)]
  ·rw [if_neg (by omega),if_neg (by omega)]
theorem tK(s t:IH)(z y:Int)(k:Nat)(w:World)(h:eG w s z)(g:eG w t y)(hz:z.natAbs<W32 ^ k)(hy:y.natAbs<W32 ^ k)(hk:k≤1073741823)(hk1:1≤k):au 141 [s.v,t.v] w (fun _:Unit=>.int .i64 (bP z y)) (fun _ _=>True):=by
 obtain ⟨neg,ao,n,c⟩:=s;obtain ⟨neg',bo,m,d⟩:=t;have HR:=Hi h;have KR:=Hi g;have HX:=Hi (Ext.refl w);have HV:=Hi (xL z y);have HL:Hid ((z-y).natAbs<W32 ^ (k+1)):=Hi (by
  have h5:W32 ^ k*2≤W32 ^ (k+1):=by rw [Nat.pow_succ];exact Nat.mul_le_mul_left _ (by decide)
  omega)
 clear h g hz hy;unfold au;go_enter Tryz.func141,Tryz.ntmps141
 go_wp2_with fail
 refine iK (F:=fun W=>Calls _ _ _ W _) ?_;intro w1 hE B2 B3 hz_w1 hr_w1
 refine mV3 hE ?_ HR KR HX;clear HR KR HX;intro HR KR HX
 have hs_w1:=hE.size;clear hE;replace b_B2:=b3 B2;replace b_B3:=b3 B3
 change Calls _ _ _ _ _
 refine cM (tH ⟨neg,ao,n,c⟩ ⟨neg',bo,m,d⟩ z y _ HR.out KR.out) fun x2 w2 hE G2=>?_
 refine mV5 hE ?_ B2 B3 HR KR HX;clear B2 B3 HR KR HX;intro B2 B3 HR KR HX
 have hs_w2:=hE.size;clear hE;replace b_B2:=b3 B2;replace b_B3:=b3 B3
 go_wp2_with fail
 refine cM (cP x2 (z-y) _ (G2.out.rawk HL.out (by omega))) fun x3 w3 hE _=>?_
 refine mV6 hE ?_ G2 B2 B3 HR KR HX;clear G2 B2 B3 HR KR HX;intro G2 B2 B3 HR KR HX
 have hs_w3:=hE.size;clear hE;replace b_B2:=b3 B2;replace b_B3:=b3 B3;rw [HV.out];go_wp2
 go_ret
 exact ⟨(),rfl,HX.out,trivial⟩
theorem uM{z e z' e':Int}{q r:Rat}(h0:0<e)(k0:0<e')(h:(z:Rat) / (e:Rat)=q)(k:(z':Rat) / (e':Rat)=r):bP (z*e') (z'*e)=dM q r:=by
 have f:∀ (a b:Int),0<b→(a:Rat) / (b:Rat)=mkRat a b.natAbs:=fun a b hb=>by
  rw [Rat.mkRat_eq_div]
  congr 1
  rw [←Rat.intCast_natCast,Int.natAbs_of_nonneg (by omega)]
 rw [←h,←k,f z e h0,f z' e' k0,oL (by omega) (by omega)];rw [Int.natAbs_of_nonneg (by omega),Int.natAbs_of_nonneg (by omega)]
theorem mq{a b:Int}(h:Big a)(k:Big b):(a*b).natAbs<W32 ^ (r7+r7):=by
 rw [Int.natAbs_mul];exact io h k
theorem iU:r7+r7≤1073741823∧r7+r7≤1073741824∧1≤r7+r7:=by unfold r7;omega
theorem il(s t:RH)(q r:Rat)(w:World)(h:aO w s q)(k:aO w t r):au 59 [s.v,t.v] w (fun _:Unit=>.int .i64 (dM q r)) (fun _ _=>True):=by
 obtain ⟨neg,ao,n,c,bo,m,d⟩:=s;obtain ⟨neg',ao',n',c',bo',m',d'⟩:=t;have HR:=Hi h;have KR:=Hi k;have HX:=Hi (Ext.refl w);clear h k;unfold au;go_enter Tryz.func59,Tryz.ntmps59
 go_wp2_with fail
 refine iK (F:=fun W=>Calls _ _ _ W _) ?_;intro w1 hE B2 B3 hz_w1 hr_w1
 refine mV3 hE ?_ HR KR HX;clear HR KR HX;intro HR KR HX
 have hs_w1:=hE.size;clear hE;replace b_B2:=b3 B2;replace b_B3:=b3 B3
 change Calls _ _ _ _ _
 refine cM (cE ⟨neg,ao,n,c,bo,m,d⟩ q _ HR.out) fun x2 w2 hE G2=>?_
 refine mV5 hE ?_ B2 B3 HR KR HX;clear B2 B3 HR KR HX;intro B2 B3 HR KR HX
 have hs_w2:=hE.size;clear hE;replace b_B2:=b3 B2;replace b_B3:=b3 B3;obtain ⟨⟨an,aa,al,ac⟩,⟨bn,ba,bl,bc⟩⟩:=x2;obtain ⟨z,e,g1,g2,p3,g4,p5,p6⟩:=G2.out.div;have J1:=Hi g1;have J2:=Hi g2;have J4:=Hi g4;have P3:=Hi p3;have P5:=Hi p5;have P6:=Hi p6;clear g1 g2 g4 p3 p5 p6 G2;simp only [PP]
 go_upto_region 2 with fail
 refine iK ?_;intro y3 hE B5 B6 hz_y3 hr_y3;refine mV7 hE ?_ B2 B3 HR KR HX J1 J2;clear B2 B3 HR KR HX J1 J2;intro B2 B3 HR KR HX J1 J2;have hs_y3:=hE.size;clear hE;replace b_B2:=b3 B2;replace b_B3:=b3 B3;replace b_B5:=b3 B5;replace b_B6:=b3 B6
 go_wp2_with fail
 refine cM (cE ⟨neg',ao',n',c',bo',m',d'⟩ r _ KR.out) fun x4 w4 hE G4=>?_
 refine mV8 hE ?_ B5 B6 B2 B3 HR KR HX J1;clear B5 B6 B2 B3 HR KR HX J1;intro B5 B6 B2 B3 HR KR HX J1
 replace J2:=mV hE J2;have hs_w4:=hE.size;clear hE;replace b_B2:=b3 B2;replace b_B3:=b3 B3;replace b_B5:=b3 B5;replace b_B6:=b3 B6;obtain ⟨⟨an',aa',al',ac'⟩,⟨bn',ba',bl',bc'⟩⟩:=x4;obtain ⟨z',e',g1,g2,p3,g4,p5,p6⟩:=G4.out.div;have K1:=Hi g1;have K2:=Hi g2;have K4:=Hi g4;have Q3:=Hi p3;have Q5:=Hi p5;have Q6:=Hi p6;clear g1 g2 g4 p3 p5 p6 G4;simp only [PP]
 go_upto_region 3 with fail
 refine iK ?_;intro y5 hE B7 B8 hz_y5 hr_y5;refine mV8 hE ?_ B5 B6 B2 B3 HR KR HX J1;clear B5 B6 B2 B3 HR KR HX J1;intro B5 B6 B2 B3 HR KR HX J1;refine mV3 hE ?_ J2 K1 K2;clear J2 K1 K2;intro J2 K1 K2;have hs_y5:=hE.size;clear hE;replace b_B2:=b3 B2;replace b_B3:=b3 B3;replace b_B5:=b3 B5;replace b_B6:=b3 B6;replace b_B7:=b3 B7;replace b_B8:=b3 B8;have HV:=Hi (uM P3.out Q3.out J4.out K4.out);have M1:=Hi (mq P5.out Q6.out);have M2:=Hi (mq Q5.out P6.out);clear J4 K4;refine wpG 7 (fun opIx=>match opIx with
  | 2=>.spec IH default IH.v (fun s w'=>bT w' s (z*e'))
  | 5=>.spec IH default IH.v (fun s w'=>bT w' s (z'*e))
  | 6=>.spec Unit () (fun _=>.int .i64 (dM q r)) (fun _ _=>True)
  | _=>.quiet) (fun|6=>[2,5]|_=>[]) fun w0 he0 hz0 hc0 hf0=>?_
 refine wps he0.out rfl rfl (fun w1 hW hG=>?_) fun x2=>?_
 ·exact spc [IH.v ⟨an,aa,al,ac⟩,IH.v ⟨bn',ba',bl',bc'⟩] Tryz.func104 (cV _ _ _ _ _ (J1.out.ext hW) (K2.out.ext hW))
 refine qZ ?_;refine wps he0.out rfl rfl (fun w1 hW hG=>?_) fun x5=>?_
 ·exact spc [IH.v ⟨an',aa',al',ac'⟩,IH.v ⟨bn,ba,bl,bc⟩] Tryz.func104 (cV _ _ _ _ _ (K1.out.ext hW) (J2.out.ext hW))
 refine qZ ?_;refine wps he0.out rfl rfl (fun w1 hW hG=>?_) fun x6=>?_
 ·have g2:=(hG 2 (by decide):ay _ _).get fun _ e g=>g.ext e
  have g5:=(hG 5 (by decide):ay _ _).get fun _ e g=>g.ext e
  exact spc [x2.v,x5.v] Tryz.func141 (HV.out ▸ tK x2 x5 _ _ (r7+r7) _ (g2.rawk M1.out iU.2.1) (g5.rawk M2.out iU.2.1) M1.out M2.out iU.1 iU.2.2)
 refine qZ ?_;refine wpF_nil ?_;intro w6 hI;have hE:=he0.out.trans hI.ext;have G2:=gT (hI.facts 2);have G5:=gT (hI.facts 5);clear hI he0 hz0 hc0 hf0
 refine mV8 hE ?_ B7 B8 B5 B6 B2 B3 HR KR;clear B7 B8 B5 B6 B2 B3 HR KR;intro B7 B8 B5 B6 B2 B3 HR KR
 refine mV5 hE ?_ HX J1 K2 K1 J2;clear HX J1 K2 K1 J2;intro HX J1 K2 K1 J2
 have hs_w6:=hE.size;clear hE;replace b_B2:=b3 B2;replace b_B3:=b3 B3;replace b_B5:=b3 B5;replace b_B6:=b3 B6;replace b_B7:=b3 B7;replace b_B8:=b3 B8;simp only [pD];go_wp2
 go_ret
 exact ⟨(),rfl,HX.out,trivial⟩
theorem iJ(s t:RH)(q r:Rat)(w:World)(h:aO w s q)(k:aO w t r):au 29 [s.v,t.v] w (fun _:Unit=>.bool (decide (q<r))) (fun _ _=>True):=by
 obtain ⟨neg,ao,n,c,bo,m,d⟩:=s;obtain ⟨neg',ao',n',c',bo',m',d'⟩:=t;have HR:=Hi h;have KR:=Hi k;have HX:=Hi (Ext.refl w);have HV:Hid (decide (dM q r<0)=decide (q<r)):=Hi (by
  unfold dM;by_cases h:q<r
  ·rw [if_pos h,decide_eq_true h];rfl
  ·rw [if_neg h,decide_eq_false h];split <;> rfl)
 clear h k;unfold au;go_enter Tryz.func29,Tryz.ntmps29
 go_wp2_with fail
 refine iK (F:=fun W=>Calls _ _ _ W _) ?_;intro w1 hE B2 B3 hz_w1 hr_w1
 refine mV3 hE ?_ HR KR HX;clear HR KR HX;intro HR KR HX
 have hs_w1:=hE.size;clear hE;replace b_B2:=b3 B2;replace b_B3:=b3 B3
 change Calls _ _ _ _ _
 refine cM (il ⟨neg,ao,n,c,bo,m,d⟩ ⟨neg',ao',n',c',bo',m',d'⟩ q r _ HR.out KR.out) fun x2 w2 hE _=>?_
 refine mV5 hE ?_ B2 B3 HR KR HX;clear B2 B3 HR KR HX;intro B2 B3 HR KR HX
 have hs_w2:=hE.size;clear hE;replace b_B2:=b3 B2;replace b_B3:=b3 B3;obtain ⟨v,hv⟩:∃ v,v=dM q r:=⟨_,rfl⟩;rw [←hv] at HV ⊢;clear hv;go_wp2
 go_ret
 exact ⟨(),by rw [←HV.out];rfl,HX.out,trivial⟩
theorem tL(s:IH)(z:Int)(w:World)(h:eG w s z):au 287 [s.v] w IH.v (fun s w'=>bT w' s (z.natAbs:Int)):=by
 obtain ⟨neg,ao,n,c⟩:=s;obtain ⟨ds,hU,hz,hn⟩:=h;simp only at hU hz hn;have HU:=Hi hU;have HZ:Hid (((z.natAbs:Nat):Int).natAbs=val ds):=Hi (by rw [hz,bh];simp);have HX:=Hi (Ext.refl w);clear hU hz;unfold au;go_enter Tryz.func287,Tryz.ntmps287
 go_wp2_with fail
 refine iK (F:=fun W=>Calls _ _ _ W _) ?_;intro w1 hE B1 B2 hz_w1 hr_w1
 refine mV2 hE ?_ HU HX;clear HU HX;intro HU HX
 have hs_w1:=hE.size;clear hE;replace b_B1:=b3 B1;replace b_B2:=b3 B2
 change Calls _ _ _ _ _
 refine cM (aN ⟨ao,n,c⟩ ds _ HU.out (by omega)) fun x2 w2 hE G2=>?_
 refine mV4 hE ?_ B1 B2 HU HX;clear B1 B2 HU HX;intro B1 B2 HU HX
 have hs_w2:=hE.size;clear hE;replace b_B1:=b3 B1;replace b_B2:=b3 B2;go_wp2;have hF:=((Fin.start (L:=w.heap.size+1) HX.out (ai B2.out rfl)).set (by omega) (i:=0) (v:=.bool false) rfl).set (by omega) (i:=1) (v:=.slice x2.a x2.n x2.c) rfl;exact bodyPost_ret (v:=IH.v ⟨false,x2.a,x2.n,x2.c⟩) (by simp [results,Tryz.results287,go_sem,ae B2.out]) rfl ⟨⟨false,x2.a,x2.n,x2.c⟩,rfl,hF.ext,by simp,by rw [HZ.out];exact hF.keep _ _ _ _ G2.out⟩
theorem aO.bsz{w:World}{s:RH}{q:Rat}(h:aO w s q):Sz 134217728 q:=by
 obtain ⟨ds,es,h1,h2,h3,h4,h5⟩:=h;exact aO.sz (s:=s) ⟨ds,es,h1,h2,h3,h4,h5⟩ (by decide) h4 h5
theorem aw.numI{w:World}{neg:Bool}{a b:Option Addr}{n c m d:Nat}{q:Rat}(h:aw w ⟨neg,a,n,c,b,m,d⟩ q):bT w ⟨neg,a,n,c⟩ q.num:=⟨h.1,h.2.1⟩
theorem sK(s:RH)(q:Rat)(w:World)(h:aO w s q):au 130 [s.v] w RH.v (fun x w'=>aw w' x (-q)):=by
 have ZQ:=Hi h.bsz;obtain ⟨neg,ao,n,c,bo,m,d⟩:=s;have HR:=Hi h;have HX:=Hi (Ext.refl w);clear h;unfold au;go_enter Tryz.func130,Tryz.ntmps130
 go_wp2_with fail
 refine iK (F:=fun W=>Calls _ _ _ W _) ?_;intro w1 hE B1 B2 hz_w1 hr_w1
 refine mV2 hE ?_ HR HX;clear HR HX;intro HR HX
 have hs_w1:=hE.size;clear hE;replace b_B1:=b3 B1;replace b_B2:=b3 B2
 change Calls _ _ _ _ _
 refine cM (cK ⟨neg,ao,n,c,bo,m,d⟩ q _ HR.out) fun x2 w2 hE G2=>?_
 refine mV4 hE ?_ B1 B2 HR HX;clear B1 B2 HR HX;intro B1 B2 HR HX
 have hs_w2:=hE.size;clear hE;replace b_B1:=b3 B1;replace b_B2:=b3 B2
 go_upto_region 2 with fail
 refine aI B1.out rfl ?_;intro y3 T;replace HX:=Hi (T.ext HX.out (by omega));replace HR:=Hi (HR.out.keep T.keep);replace B1:=Hi (T.bx);replace B2:=Hi (T.rest _ _ (by omega) B2.out);replace G2:=Hi (G2.out.keep T.keep);have hs_y3:=nle T.size;have hr_y3:=nle T.size.symm;clear T;replace b_B1:=b3 B1;replace b_B2:=b3 B2;obtain ⟨xn,xa,xl,xc,xb,xm,xd⟩:=x2
 go_wp2_with fail
 refine cM (j9 ⟨xn,xa,xl,xc⟩ q.num _ (G2.out.numI.rawk ZQ.out.1 (by decide))) fun x4 w4 hE G4=>?_
 refine mV5 hE ?_ HX HR B1 B2 G2;clear HX HR B1 B2 G2;intro HX HR B1 B2 G2;have hs_w4:=hE.size;clear hE;replace b_B1:=b3 B1;replace b_B2:=b3 B2;obtain ⟨yn,ya,yl,yc⟩:=x4
 go_upto_region 3 with fail
 refine s6 B1.out rfl ?_;intro y5 T;replace HX:=Hi (T.ext HX.out (by omega));replace HR:=Hi (HR.out.keep T.keep);replace B1:=Hi (T.bx);replace B2:=Hi (T.rest _ _ (by omega) B2.out);replace G2:=Hi (G2.out.keep T.keep);replace G4:=Hi (G4.out.keep T.keep);have hs_y5:=nle T.size;have hr_y5:=nle T.size.symm;clear T;replace b_B1:=b3 B1;replace b_B2:=b3 B2;go_wp2;have hF:=((((Fin.start (L:=w.heap.size+1) HX.out (ai B2.out rfl)).set (by omega) (i:=0) (v:=.bool (⟨yn,ya,yl,yc,xb,xm,xd⟩:RH).neg) rfl).set (by omega) (i:=1) (v:=.slice (⟨yn,ya,yl,yc,xb,xm,xd⟩:RH).a (⟨yn,ya,yl,yc,xb,xm,xd⟩:RH).n (⟨yn,ya,yl,yc,xb,xm,xd⟩:RH).c) rfl).set (by omega) (i:=2) (v:=.slice (⟨yn,ya,yl,yc,xb,xm,xd⟩:RH).b (⟨yn,ya,yl,yc,xb,xm,xd⟩:RH).m (⟨yn,ya,yl,yc,xb,xm,xd⟩:RH).d) rfl);exact bodyPost_ret (v:=(⟨yn,ya,yl,yc,xb,xm,xd⟩:RH).v) (by simp [results,Tryz.results130,go_sem,ae B2.out]) rfl ⟨(⟨yn,ya,yl,yc,xb,xm,xd⟩:RH),rfl,hF.ext,(aw.keep (s:=⟨yn,ya,yl,yc,xb,xm,xd⟩) ⟨by rw [Rat.neg_num];exact G4.out.1,by rw [Rat.neg_num];exact G4.out.2,by rw [Rat.neg_den];exact G2.out.2.2⟩ hF.keep)⟩
theorem vf(q:Rat):q.abs.num=(q.num.natAbs:Int)∧q.abs.den=q.den:=by
 rcases Rat.le_total (a:=0) (b:=q) with h|h
 ·rw [Rat.abs_of_nonneg h];exact ⟨by have:=Rat.num_nonneg.2 h;omega,rfl⟩
 ·rw [Rat.abs_of_nonpos h,Rat.neg_num,Rat.neg_den];refine ⟨?_,rfl⟩;have:0≤(-q).num:=Rat.num_nonneg.2 (by grind);rw [Rat.neg_num] at this;omega
theorem sQ(s:RH)(q:Rat)(w:World)(h:aO w s q):au 268 [s.v] w RH.v (fun x w'=>aw w' x q.abs):=by
 have ZQ:=Hi h.bsz;obtain ⟨neg,ao,n,c,bo,m,d⟩:=s;have HR:=Hi h;have HX:=Hi (Ext.refl w);have HA:=Hi (vf q);clear h;unfold au;go_enter Tryz.func268,Tryz.ntmps268
 go_wp2_with fail
 refine iK (F:=fun W=>Calls _ _ _ W _) ?_;intro w1 hE B1 B2 hz_w1 hr_w1
 refine mV2 hE ?_ HR HX;clear HR HX;intro HR HX
 have hs_w1:=hE.size;clear hE;replace b_B1:=b3 B1;replace b_B2:=b3 B2
 change Calls _ _ _ _ _
 refine cM (cK ⟨neg,ao,n,c,bo,m,d⟩ q _ HR.out) fun x2 w2 hE G2=>?_
 refine mV4 hE ?_ B1 B2 HR HX;clear B1 B2 HR HX;intro B1 B2 HR HX
 have hs_w2:=hE.size;clear hE;replace b_B1:=b3 B1;replace b_B2:=b3 B2
 go_upto_region 2 with fail
 refine aI B1.out rfl ?_;intro y3 T;replace HX:=Hi (T.ext HX.out (by omega));replace HR:=Hi (HR.out.keep T.keep);replace B1:=Hi (T.bx);replace B2:=Hi (T.rest _ _ (by omega) B2.out);replace G2:=Hi (G2.out.keep T.keep);have hs_y3:=nle T.size;have hr_y3:=nle T.size.symm;clear T;replace b_B1:=b3 B1;replace b_B2:=b3 B2;obtain ⟨xn,xa,xl,xc,xb,xm,xd⟩:=x2
 go_wp2_with fail
 refine cM (tL ⟨xn,xa,xl,xc⟩ q.num _ (G2.out.numI.rawk ZQ.out.1 (by decide))) fun x4 w4 hE G4=>?_
 refine mV5 hE ?_ HX HR B1 B2 G2;clear HX HR B1 B2 G2;intro HX HR B1 B2 G2;have hs_w4:=hE.size;clear hE;replace b_B1:=b3 B1;replace b_B2:=b3 B2;obtain ⟨yn,ya,yl,yc⟩:=x4
 go_upto_region 3 with fail
 refine s6 B1.out rfl ?_;intro y5 T;replace HX:=Hi (T.ext HX.out (by omega));replace HR:=Hi (HR.out.keep T.keep);replace B1:=Hi (T.bx);replace B2:=Hi (T.rest _ _ (by omega) B2.out);replace G2:=Hi (G2.out.keep T.keep);replace G4:=Hi (G4.out.keep T.keep);have hs_y5:=nle T.size;have hr_y5:=nle T.size.symm;clear T;replace b_B1:=b3 B1;replace b_B2:=b3 B2;go_wp2;have hF:=((((Fin.start (L:=w.heap.size+1) HX.out (ai B2.out rfl)).set (by omega) (i:=0) (v:=.bool (⟨yn,ya,yl,yc,xb,xm,xd⟩:RH).neg) rfl).set (by omega) (i:=1) (v:=.slice (⟨yn,ya,yl,yc,xb,xm,xd⟩:RH).a (⟨yn,ya,yl,yc,xb,xm,xd⟩:RH).n (⟨yn,ya,yl,yc,xb,xm,xd⟩:RH).c) rfl).set (by omega) (i:=2) (v:=.slice (⟨yn,ya,yl,yc,xb,xm,xd⟩:RH).b (⟨yn,ya,yl,yc,xb,xm,xd⟩:RH).m (⟨yn,ya,yl,yc,xb,xm,xd⟩:RH).d) rfl);exact bodyPost_ret (v:=(⟨yn,ya,yl,yc,xb,xm,xd⟩:RH).v) (by simp [results,Tryz.results268,go_sem,ae B2.out]) rfl ⟨(⟨yn,ya,yl,yc,xb,xm,xd⟩:RH),rfl,hF.ext,(aw.keep (s:=⟨yn,ya,yl,yc,xb,xm,xd⟩) ⟨by rw [HA.out.1];exact G4.out.1,by rw [HA.out.1];exact G4.out.2,by rw [HA.out.2];exact G2.out.2.2⟩ hF.keep)⟩
theorem mI(s t:RH)(q r:Rat)(w:World)(h:aO w s q)(k:aO w t r):au 115 [s.v,t.v] w RH.v (fun s w'=>aw w' s (q-r)):=by
 have ZR:=Hi k.bsz;obtain ⟨neg,ao,n,c,bo,m,d⟩:=s;obtain ⟨neg',ao',n',c',bo',m',d'⟩:=t;have HR:=Hi h;have KR:=Hi k;have HX:=Hi (Ext.refl w);have HV:Hid (q-r=q+-r):=Hi (Rat.sub_eq_add_neg _ _);clear h k;unfold au;go_enter Tryz.func115,Tryz.ntmps115
 go_upto_region 1 with fail
 refine vz ?_;intro w1 hE B2 B3 B4 hz_w1 hr_w1
 refine mV3 hE ?_ HR KR HX;clear HR KR HX;intro HR KR HX
 have hs_w1:=hE.size;clear hE;replace b_B2:=b3 B2;replace b_B3:=b3 B3;replace b_B4:=b3 B4;refine wpG 4 (fun opIx=>match opIx with
  | 2=>.spec RH default RH.v (fun s w'=>aw w' s (-r))
  | 3=>.spec RH default RH.v (fun s w'=>aw w' s (q+-r))
  | _=>.quiet) (fun|3=>[2]|_=>[]) fun w0 he0 hz0 hc0 hf0=>?_
 refine wps he0.out rfl rfl (fun w1 hW hG=>?_) fun x2=>?_
 ·exact spc [RH.v ⟨neg',ao',n',c',bo',m',d'⟩] Tryz.func130 (sK ⟨neg',ao',n',c',bo',m',d'⟩ r _ (KR.out.ext hW))
 refine qZ ?_;refine wps he0.out rfl rfl (fun w1 hW hG=>?_) fun x3=>?_
 ·have g2:=(hG 2 (by decide):ay _ _).get fun _ e g=>g.ext e
  exact spc [RH.v ⟨neg,ao,n,c,bo,m,d⟩,x2.v] Tryz.func31 (bX ⟨neg,ao,n,c,bo,m,d⟩ x2 q (-r) _ (HR.out.ext hW) (g2.raw ZR.out.neg (by decide)))
 refine qZ ?_;refine wpF_nil ?_;intro w2 hI;have hE:=he0.out.trans hI.ext;have G2:=gT (hI.facts 2);have G3:=gT (hI.facts 3);clear hI he0 hz0 hc0 hf0
 refine mV6 hE ?_ B2 B3 B4 HX KR HR;clear B2 B3 B4 HX KR HR;intro B2 B3 B4 HX KR HR
 have hs_w2:=hE.size;clear hE;replace b_B2:=b3 B2;replace b_B3:=b3 B3;replace b_B4:=b3 B4;simp only [pD];rw [←HV.out] at G3;go_wp2;have hF:=((((Fin.start (L:=w.heap.size+2) HX.out (ai B4.out rfl)).set (by omega) (i:=0) (v:=.bool x3.neg) rfl).set (by omega) (i:=1) (v:=.slice x3.a x3.n x3.c) rfl).set (by omega) (i:=2) (v:=.slice x3.b x3.m x3.d) rfl);exact bodyPost_ret (v:=x3.v) (by simp [results,Tryz.results115,go_sem,ae B4.out]) rfl ⟨x3,rfl,hF.ext,G3.out.keep hF.keep⟩
theorem uu{z e z' e':Int}{q r:Rat}(h:(z:Rat) / (e:Rat)=q)(k:(z':Rat) / (e':Rat)=r):((z*e':Int):Rat) / ((e*z':Int):Rat)=q / r:=by
 subst h k;rw [Rat.intCast_mul,Rat.intCast_mul,Rat.div_def,Rat.div_def,Rat.div_def,Rat.div_def,jo,jo,Rat.inv_inv];grind
theorem wv{z e:Int}{q:Rat}(he:0<e)(h:(z:Rat) / (e:Rat)=q):z=0↔q=0:=by
 subst h;constructor
 ·rintro rfl;rw [Rat.div_def];show (0:Rat)*_=0;grind
 ·intro h;rw [Rat.div_def] at h;rcases Rat.mul_eq_zero.1 h with h1|h1
  ·exact Rat.intCast_eq_zero_iff.1 h1
  ·have a1:(e:Rat)≠0:=by intro h0;have:=Rat.intCast_eq_zero_iff.1 h0;omega
   have:=Rat.mul_inv_cancel _ a1;rw [h1] at this;grind
def Cd(r:Rat):Int:=if r=0 then 3 else 0
theorem np{r:Rat}(h:r=0):Cd r=3:=if_pos h
theorem uy{r:Rat}(h:r≠0):Cd r=0:=if_neg h
def D9(q r:Rat)(x:RH)(w':World):Prop:=r≠0→aw w' x (q / r)
abbrev DV(s:RH)(e:Int):Value:=.tuple #[s.v,.int .i64 e]
theorem sO(s t:RH)(q r:Rat)(w:World)(h:aO w s q)(k:aO w t r):au 91 [s.v,t.v] w (fun x:RH=>DV x (Cd r)) (D9 q r):=by
 obtain ⟨neg,ao,n,c,bo,m,d⟩:=s;obtain ⟨neg',ao',n',c',bo',m',d'⟩:=t;have HR:=Hi h;have KR:=Hi k;have HX:=Hi (Ext.refl w);clear h k;unfold au;go_enter Tryz.func91,Tryz.ntmps91
 go_wp2_with fail
 refine vz (F:=fun W=>Calls _ _ _ W _) ?_;intro w1 hE B2 B3 B4 hz_w1 hr_w1
 refine mV3 hE ?_ HR KR HX;clear HR KR HX;intro HR KR HX
 have hs_w1:=hE.size;clear hE;replace b_B2:=b3 B2;replace b_B3:=b3 B3;replace b_B4:=b3 B4
 change Calls _ _ _ _ _
 refine cM (cE ⟨neg,ao,n,c,bo,m,d⟩ q _ HR.out) fun x2 w2 hE G2=>?_
 refine mV6 hE ?_ B2 B3 B4 HR KR HX;clear B2 B3 B4 HR KR HX;intro B2 B3 B4 HR KR HX
 have hs_w2:=hE.size;clear hE;replace b_B2:=b3 B2;replace b_B3:=b3 B3;replace b_B4:=b3 B4;obtain ⟨⟨an,aa,al,ac⟩,⟨bn,ba,bl,bc⟩⟩:=x2;obtain ⟨z,e,g1,g2,p3,g4,p5,p6⟩:=G2.out.div;have J1:=Hi g1;have J2:=Hi g2;have J4:=Hi g4;have P5:=Hi p5;have P6:=Hi p6;clear g1 g2 g4 p3 p5 p6 G2;simp only [PP]
 go_upto_region 2 with fail
 refine iK ?_;intro y3 hE B6 B7 hz_y3 hr_y3;refine mV8 hE ?_ B2 B3 B4 HR KR HX J1 J2;clear B2 B3 B4 HR KR HX J1 J2;intro B2 B3 B4 HR KR HX J1 J2;have hs_y3:=hE.size;clear hE;replace b_B2:=b3 B2;replace b_B3:=b3 B3;replace b_B4:=b3 B4;replace b_B6:=b3 B6;replace b_B7:=b3 B7
 go_wp2_with fail
 refine cM (cE ⟨neg',ao',n',c',bo',m',d'⟩ r _ KR.out) fun x4 w4 hE G4=>?_
 refine mV8 hE ?_ B6 B7 B2 B3 B4 HR KR HX;clear B6 B7 B2 B3 B4 HR KR HX;intro B6 B7 B2 B3 B4 HR KR HX
 refine mV2 hE ?_ J1 J2;clear J1 J2;intro J1 J2
 have hs_w4:=hE.size;clear hE;replace b_B2:=b3 B2;replace b_B3:=b3 B3;replace b_B4:=b3 B4;replace b_B6:=b3 B6;replace b_B7:=b3 B7;obtain ⟨⟨an',aa',al',ac'⟩,⟨bn',ba',bl',bc'⟩⟩:=x4;obtain ⟨z',e',g1,g2,p3,g4,p5,p6⟩:=G4.out.div;have K1:=Hi g1;have K2:=Hi g2;have K4:=Hi g4;have KN:=Hi (wv p3 g4);have Q5:=Hi p5;have Q6:=Hi p6;clear g1 g2 g4 p3 p5 p6 G4;simp only [PP]
 go_upto_region 3 with fail
 refine iK ?_;intro y5 hE B8 B9 hz_y5 hr_y5;refine mV8 hE ?_ B6 B7 B2 B3 B4 HR KR HX;clear B6 B7 B2 B3 B4 HR KR HX;intro B6 B7 B2 B3 B4 HR KR HX;refine mV4 hE ?_ J1 J2 K1 K2;clear J1 J2 K1 K2;intro J1 J2 K1 K2;have hs_y5:=hE.size;clear hE;replace b_B2:=b3 B2;replace b_B3:=b3 B3;replace b_B4:=b3 B4;replace b_B6:=b3 B6;replace b_B7:=b3 B7;replace b_B8:=b3 B8;replace b_B9:=b3 B9;have HV:=Hi (uu J4.out K4.out);have M1:=Hi (mq P5.out Q6.out);have M2:=Hi (mq P6.out Q5.out);clear J4 K4
 go_wp2_with fail
 refine cM (cP ⟨an',aa',al',ac'⟩ z' _ K1.out) fun x6 w6 hE _=>?_
 refine mV8 hE ?_ B8 B9 B6 B7 B2 B3 B4 HR;clear B8 B9 B6 B7 B2 B3 B4 HR;intro B8 B9 B6 B7 B2 B3 B4 HR
 refine mV6 hE ?_ KR HX J1 J2 K1 K2;clear KR HX J1 J2 K1 K2;intro KR HX J1 J2 K1 K2
 have hs_w6:=hE.size;clear hE;replace b_B2:=b3 B2;replace b_B3:=b3 B3;replace b_B4:=b3 B4;replace b_B6:=b3 B6;replace b_B7:=b3 B7;replace b_B8:=b3 B8;replace b_B9:=b3 B9;by_cases hz:z'=0
 case pos =>
  have hr:r=0:=KN.out.1 hz;subst hz;have HRz:=Hi hr;rw [cX rfl];have HZe:Hid (Ending.returned (DV ⟨false,none,0,0,none,0,0⟩ 3)=Ending.returned (DV ⟨false,none,0,0,none,0,0⟩ (Cd r))):=Hi (by rw [np HRz.out]);clear hr M1 M2 HV P5 P6 Q5 Q6 KN;go_wp2;have hF:=(((Fin.start (L:=w.heap.size+2) HX.out (ai B4.out rfl)).set (by omega) (i:=0) (v:=.bool false) rfl).set (by omega) (i:=1) (v:=.slice none 0 0) rfl).set (by omega) (i:=2) (v:=.slice none 0 0) rfl;exact bodyPost_ret (v:=DV ⟨false,none,0,0,none,0,0⟩ 3) (by simp [results,Tryz.results91,go_sem,ae B4.out,DV]) rfl ⟨⟨false,none,0,0,none,0,0⟩,HZe.out,hF.ext,fun h=>(h HRz.out).elim⟩
 have HRz:Hid (r≠0):=Hi (fun h=>hz (KN.out.2 h));have hcz:bP z' 0=-1∨bP z' 0=1:=by
  rcases Int.lt_or_gt_of_ne hz with h|h
  ·exact Or.inl (cI h)
  ·exact Or.inr (cx h)
 obtain ⟨v,hv⟩:∃ v,v=bP z' 0:=⟨_,rfl⟩;rw [←hv] at hcz ⊢;have hvb:(v == 0)=false:=by rw [beq_eq_false_iff_ne];omega
 clear hv hcz hz KN;have HZe:∀ x:RH,Ending.returned (DV x 0)=Ending.returned (DV x (Cd r)):=fun x=>by rw [uy HRz.out]
 go_upto_region 5 with fail
 refine wpG 7 (fun opIx=>match opIx with
  | 2=>.spec IH default IH.v (fun s w'=>bT w' s (z*e'))
  | 5=>.spec IH default IH.v (fun s w'=>bT w' s (e*z'))
  | 6=>.spec RH default RH.v (fun s w'=>aw w' s (q / r))
  | _=>.quiet) (fun|6=>[2,5]|_=>[]) fun w0 he0 hz0 hc0 hf0=>?_
 refine wps he0.out rfl rfl (fun w1 hW hG=>?_) fun x2=>?_
 ·exact spc [IH.v ⟨an,aa,al,ac⟩,IH.v ⟨bn',ba',bl',bc'⟩] Tryz.func104 (cV _ _ _ _ _ (J1.out.ext hW) (K2.out.ext hW))
 refine qZ ?_;refine wps he0.out rfl rfl (fun w1 hW hG=>?_) fun x5=>?_
 ·exact spc [IH.v ⟨bn,ba,bl,bc⟩,IH.v ⟨an',aa',al',ac'⟩] Tryz.func104 (cV _ _ _ _ _ (J2.out.ext hW) (K1.out.ext hW))
 refine qZ ?_;refine wps he0.out rfl rfl (fun w1 hW hG=>?_) fun x6=>?_
 ·have g2:=(hG 2 (by decide):ay _ _).get fun _ e g=>g.ext e
  have g5:=(hG 5 (by decide):ay _ _).get fun _ e g=>g.ext e
  exact spc [x2.v,x5.v] Tryz.func102 (HV.out ▸ eP x2 x5 _ _ _ (g2.rawk M1.out iU.2.1) (g5.rawk M2.out iU.2.1))
 refine qZ ?_;refine wpF_nil ?_;intro w7 hI;have hE:=he0.out.trans hI.ext;have G2:=gT (hI.facts 2);have G5:=gT (hI.facts 5);have G6:=gT (hI.facts 6);clear hI he0 hz0 hc0 hf0;refine mV8 hE ?_ B8 B9 B6 B7 B2 B3 B4 HR;clear B8 B9 B6 B7 B2 B3 B4 HR;intro B8 B9 B6 B7 B2 B3 B4 HR;refine mV6 hE ?_ KR HX J1 K2 J2 K1;clear KR HX J1 K2 J2 K1;intro KR HX J1 K2 J2 K1;have hs_w7:=hE.size;clear hE;replace b_B2:=b3 B2;replace b_B3:=b3 B3;replace b_B4:=b3 B4;replace b_B6:=b3 B6;replace b_B7:=b3 B7;replace b_B8:=b3 B8;replace b_B9:=b3 B9;simp only [pD];go_wp2;have hF:=(((Fin.start (L:=w.heap.size+2) HX.out (ai B4.out rfl)).set (by omega) (i:=0) (v:=.bool x6.neg) rfl).set (by omega) (i:=1) (v:=.slice x6.a x6.n x6.c) rfl).set (by omega) (i:=2) (v:=.slice x6.b x6.m x6.d) rfl;exact bodyPost_ret (v:=DV x6 0) (by simp [results,Tryz.results91,go_sem,ae B4.out,DV]) rfl ⟨x6,HZe x6,hF.ext,fun _=>G6.out.keep hF.keep⟩
theorem eO(s t:RH)(q r:Rat)(w:World)(h:aO w s q)(k:aO w t r):au 73 [s.v,t.v] w RH.v (fun x w'=>aw w' x (q / r)):=by
 obtain ⟨neg,ao,n,c,bo,m,d⟩:=s;obtain ⟨neg',ao',n',c',bo',m',d'⟩:=t;have HR:=Hi h;have KR:=Hi k;have HX:=Hi (Ext.refl w);clear h k;unfold au;go_enter Tryz.func73,Tryz.ntmps73
 go_wp2_with fail
 refine vz (F:=fun W=>Calls _ _ _ W _) ?_;intro w1 hE B2 B3 B4 hz_w1 hr_w1
 refine mV3 hE ?_ HR KR HX;clear HR KR HX;intro HR KR HX
 have hs_w1:=hE.size;clear hE;replace b_B2:=b3 B2;replace b_B3:=b3 B3;replace b_B4:=b3 B4
 change Calls _ _ _ _ _
 refine cM (sO ⟨neg,ao,n,c,bo,m,d⟩ ⟨neg',ao',n',c',bo',m',d'⟩ q r _ HR.out KR.out) fun x2 w2 hE G2=>?_
 refine mV6 hE ?_ B2 B3 B4 HR KR HX;clear B2 B3 B4 HR KR HX;intro B2 B3 B4 HR KR HX
 have hs_w2:=hE.size;clear hE;replace b_B2:=b3 B2;replace b_B3:=b3 B3;replace b_B4:=b3 B4;simp only [DV];by_cases hr:r=0
 case pos =>
  have HV:Hid (q / r=((0:Int):Rat)):=Hi (by rw [hr,Rat.div_def,Rat.inv_zero];show q*0=0;grind);rw [np hr];clear hr G2
  go_upto_region 2 with fail
  refine nmA ?_;intro y3 hE B5 hz_y3 hr_y3
  refine mV6 hE ?_ B2 B3 B4 HR KR HX;clear B2 B3 B4 HR KR HX;intro B2 B3 B4 HR KR HX
  have hs_y3:=hE.size;clear hE;replace b_B2:=b3 B2;replace b_B3:=b3 B3;replace b_B4:=b3 B4;replace b_B5:=b3 B5
  go_wp2_with fail
  refine cM (aK 0 _ (by decide) (by decide)) fun x4 w4 hE G4=>?_
  refine mV7 hE ?_ B5 B2 B3 B4 HR KR HX;clear B5 B2 B3 B4 HR KR HX;intro B5 B2 B3 B4 HR KR HX
  have hs_w4:=hE.size;clear hE;replace b_B2:=b3 B2;replace b_B3:=b3 B3;replace b_B4:=b3 B4;replace b_B5:=b3 B5;go_wp2;have hF:=((((Fin.start (L:=w.heap.size+2) HX.out (ai B4.out rfl)).set (by omega) (i:=0) (v:=.bool x4.neg) rfl).set (by omega) (i:=1) (v:=.slice x4.a x4.n x4.c) rfl).set (by omega) (i:=2) (v:=.slice x4.b x4.m x4.d) rfl);exact bodyPost_ret (v:=x4.v) (by simp [results,Tryz.results73,go_sem,ae B4.out]) rfl ⟨x4,rfl,hF.ext,(by rw [HV.out];exact G4.out.keep hF.keep)⟩
 rw [uy hr];have GC:=Hi (G2.out hr);clear hr G2;obtain ⟨xn,xa,xl,xc,xb,xm,xd⟩:=x2
 go_upto_region 2 with fail
 refine nmA ?_;intro y3 hE B5 hz_y3 hr_y3;refine mV7 hE ?_ B2 B3 B4 HR KR HX GC;clear B2 B3 B4 HR KR HX GC;intro B2 B3 B4 HR KR HX GC;have hs_y3:=hE.size;clear hE;replace b_B2:=b3 B2;replace b_B3:=b3 B3;replace b_B4:=b3 B4;replace b_B5:=b3 B5;go_wp2;have hF:=((((Fin.start (L:=w.heap.size+2) HX.out (ai B4.out rfl)).set (by omega) (i:=0) (v:=.bool (⟨xn,xa,xl,xc,xb,xm,xd⟩:RH).neg) rfl).set (by omega) (i:=1) (v:=.slice (⟨xn,xa,xl,xc,xb,xm,xd⟩:RH).a (⟨xn,xa,xl,xc,xb,xm,xd⟩:RH).n (⟨xn,xa,xl,xc,xb,xm,xd⟩:RH).c) rfl).set (by omega) (i:=2) (v:=.slice (⟨xn,xa,xl,xc,xb,xm,xd⟩:RH).b (⟨xn,xa,xl,xc,xb,xm,xd⟩:RH).m (⟨xn,xa,xl,xc,xb,xm,xd⟩:RH).d) rfl);exact bodyPost_ret (v:=(⟨xn,xa,xl,xc,xb,xm,xd⟩:RH).v) (by simp [results,Tryz.results73,go_sem,ae B4.out]) rfl ⟨(⟨xn,xa,xl,xc,xb,xm,xd⟩:RH),rfl,hF.ext,(aw.keep (s:=⟨xn,xa,xl,xc,xb,xm,xd⟩) GC.out hF.keep)⟩
end Go.Proofs.YtofhkmcllihgmaaGreat
/- Intervals of the reference; Cos, On of make; Eval of the reference. -/
set_option linter.unusedVariables false
set_option maxRecDepth 8000
set_option maxHeartbeats 2000000
namespace Go.Proofs.YtofhkmcllihgmaaGreat
open Go.RowKit Go.Front Go.Num Stab
attribute [local go_sem] XW.cell XW.frozen
theorem zZ(a b:Rat):(if a<b then b else a)=hiV a b:=by
 unfold hiV;by_cases h:a<b
 ·rw [if_pos h,if_neg (by grind)]
 ·rw [if_neg h];by_cases h2:b<a
  ·rw [if_pos h2]
  ·rw [if_neg h2];grind
theorem jO(s t:RH)(a b:Rat)(w:World)(hs:aO w s a)(ht:aO w t b):au 30 [s.v,t.v] w RH.v (fun x w'=>aw w' x (loV a b)):=by
 have HX:=Hi (Ext.refl w);have HS:=Hi hs;have HT:=Hi ht;clear hs ht;unfold au;go_enter Tryz.func30,Tryz.ntmps30;obtain ⟨sn,sa,sl,sc,sb,sm,sd⟩:=s;obtain ⟨tn,ta,tl,tc,tb,tm,td⟩:=t
 go_upto_region 1 with fail
 refine vz ?_;intro w1 hE B2 B3 B4 hz_w1 hr_w1;refine mV3 hE ?_ HX HS HT;clear HX HS HT;intro HX HS HT;have hs_w1:=hE.size;clear hE;replace b_B2:=b3 B2;replace b_B3:=b3 B3;replace b_B4:=b3 B4
 go_wp2_with fail
 refine cM (iJ ⟨tn,ta,tl,tc,tb,tm,td⟩ ⟨sn,sa,sl,sc,sb,sm,sd⟩ b a _ HT.out HS.out) fun x7 w7 hE _=>?_
 refine mV6 hE ?_ B2 B3 B4 HX HS HT;clear B2 B3 B4 HX HS HT;intro B2 B3 B4 HX HS HT
 have hs_w7:=hE.size;clear hE;replace b_B2:=b3 B2;replace b_B3:=b3 B3;replace b_B4:=b3 B4;by_cases h:b<a
 case pos =>
  have HV:Hid (loV a b=b):=Hi (if_pos h);rw [decide_eq_true h];clear h
  go_wp2_with fail
  refine cM (cK ⟨tn,ta,tl,tc,tb,tm,td⟩ b _ HT.out) fun x9 w9 hE G9=>?_
  refine mV6 hE ?_ B2 B3 B4 HX HS HT;clear B2 B3 B4 HX HS HT;intro B2 B3 B4 HX HS HT
  have hs_w9:=hE.size;clear hE;replace b_B2:=b3 B2;replace b_B3:=b3 B3;replace b_B4:=b3 B4;go_wp2;refine aI (F:=fun W=>bodyPost _ _ _ _ _ W) B4.out rfl ?_;intro w10 T;replace HX:=Hi (T.ext HX.out (by omega));replace HS:=Hi (HS.out.keep T.keep);replace HT:=Hi (HT.out.keep T.keep);replace B2:=Hi (T.rest _ _ (by omega) B2.out);replace B3:=Hi (T.rest _ _ (by omega) B3.out);replace B4:=Hi (T.bx);replace G9:=Hi (G9.out.keep T.keep);have hs_w10:=nle T.size;have hr_w10:=nle T.size.symm;clear T;replace b_B2:=b3 B2;replace b_B3:=b3 B3;replace b_B4:=b3 B4;exact bodyPost_ret (v:=RH.v x9) (by simp [results,Tryz.results30,go_sem,b_B4.1]) rfl ⟨x9,rfl,HX.out,by rw [HV.out];exact G9.out⟩
 have HV:Hid (loV a b=a):=Hi (if_neg h);rw [decide_eq_false h];clear h
 go_wp2_with fail
 refine cM (cK ⟨sn,sa,sl,sc,sb,sm,sd⟩ a _ HS.out) fun x11 w11 hE G11=>?_
 refine mV6 hE ?_ HX HS HT B2 B3 B4;clear HX HS HT B2 B3 B4;intro HX HS HT B2 B3 B4
 have hs_w11:=hE.size;clear hE;replace b_B2:=b3 B2;replace b_B3:=b3 B3;replace b_B4:=b3 B4;go_wp2;refine aI (F:=fun W=>bodyPost _ _ _ _ _ W) B4.out rfl ?_;intro w12 T;replace HX:=Hi (T.ext HX.out (by omega));replace HS:=Hi (HS.out.keep T.keep);replace HT:=Hi (HT.out.keep T.keep);replace B2:=Hi (T.rest _ _ (by omega) B2.out);replace B3:=Hi (T.rest _ _ (by omega) B3.out);replace B4:=Hi (T.bx);replace G11:=Hi (G11.out.keep T.keep);have hs_w12:=nle T.size;have hr_w12:=nle T.size.symm;clear T;replace b_B2:=b3 B2;replace b_B3:=b3 B3;replace b_B4:=b3 B4;exact bodyPost_ret (v:=RH.v x11) (by simp [results,Tryz.results30,go_sem,b_B4.1]) rfl ⟨x11,rfl,HX.out,by rw [HV.out];exact G11.out⟩
theorem mK(s t:RH)(a b:Rat)(w:World)(hs:aO w s a)(ht:aO w t b):au 161 [s.v,t.v] w RH.v (fun x w'=>aw w' x (hiV a b)):=by
 have HX:=Hi (Ext.refl w);have HS:=Hi hs;have HT:=Hi ht;clear hs ht;unfold au;go_enter Tryz.func161,Tryz.ntmps161;obtain ⟨sn,sa,sl,sc,sb,sm,sd⟩:=s;obtain ⟨tn,ta,tl,tc,tb,tm,td⟩:=t
 go_upto_region 1 with fail
 refine vz ?_;intro w1 hE B2 B3 B4 hz_w1 hr_w1;refine mV3 hE ?_ HX HS HT;clear HX HS HT;intro HX HS HT;have hs_w1:=hE.size;clear hE;replace b_B2:=b3 B2;replace b_B3:=b3 B3;replace b_B4:=b3 B4
 go_wp2_with fail
 refine cM (iJ ⟨sn,sa,sl,sc,sb,sm,sd⟩ ⟨tn,ta,tl,tc,tb,tm,td⟩ a b _ HS.out HT.out) fun x7 w7 hE _=>?_
 refine mV6 hE ?_ B2 B3 B4 HX HS HT;clear B2 B3 B4 HX HS HT;intro B2 B3 B4 HX HS HT
 have hs_w7:=hE.size;clear hE;replace b_B2:=b3 B2;replace b_B3:=b3 B3;replace b_B4:=b3 B4;by_cases h:a<b
 case pos =>
  have HV:Hid (hiV a b=b):=Hi (by rw [←zZ,if_pos h]);rw [decide_eq_true h];clear h
  go_wp2_with fail
  refine cM (cK ⟨tn,ta,tl,tc,tb,tm,td⟩ b _ HT.out) fun x9 w9 hE G9=>?_
  refine mV6 hE ?_ B2 B3 B4 HX HS HT;clear B2 B3 B4 HX HS HT;intro B2 B3 B4 HX HS HT
  have hs_w9:=hE.size;clear hE;replace b_B2:=b3 B2;replace b_B3:=b3 B3;replace b_B4:=b3 B4;go_wp2;refine aI (F:=fun W=>bodyPost _ _ _ _ _ W) B4.out rfl ?_;intro w10 T;replace HX:=Hi (T.ext HX.out (by omega));replace HS:=Hi (HS.out.keep T.keep);replace HT:=Hi (HT.out.keep T.keep);replace B2:=Hi (T.rest _ _ (by omega) B2.out);replace B3:=Hi (T.rest _ _ (by omega) B3.out);replace B4:=Hi (T.bx);replace G9:=Hi (G9.out.keep T.keep);have hs_w10:=nle T.size;have hr_w10:=nle T.size.symm;clear T;replace b_B2:=b3 B2;replace b_B3:=b3 B3;replace b_B4:=b3 B4;exact bodyPost_ret (v:=RH.v x9) (by simp [results,Tryz.results161,go_sem,b_B4.1]) rfl ⟨x9,rfl,HX.out,by rw [HV.out];exact G9.out⟩
 have HV:Hid (hiV a b=a):=Hi (by rw [←zZ,if_neg h]);rw [decide_eq_false h];clear h
 go_wp2_with fail
 refine cM (cK ⟨sn,sa,sl,sc,sb,sm,sd⟩ a _ HS.out) fun x11 w11 hE G11=>?_
 refine mV6 hE ?_ HX HS HT B2 B3 B4;clear HX HS HT B2 B3 B4;intro HX HS HT B2 B3 B4
 have hs_w11:=hE.size;clear hE;replace b_B2:=b3 B2;replace b_B3:=b3 B3;replace b_B4:=b3 B4;go_wp2;refine aI (F:=fun W=>bodyPost _ _ _ _ _ W) B4.out rfl ?_;intro w12 T;replace HX:=Hi (T.ext HX.out (by omega));replace HS:=Hi (HS.out.keep T.keep);replace HT:=Hi (HT.out.keep T.keep);replace B2:=Hi (T.rest _ _ (by omega) B2.out);replace B3:=Hi (T.rest _ _ (by omega) B3.out);replace B4:=Hi (T.bx);replace G11:=Hi (G11.out.keep T.keep);have hs_w12:=nle T.size;have hr_w12:=nle T.size.symm;clear T;replace b_B2:=b3 B2;replace b_B3:=b3 B3;replace b_B4:=b3 B4;exact bodyPost_ret (v:=RH.v x11) (by simp [results,Tryz.results161,go_sem,b_B4.1]) rfl ⟨x11,rfl,HX.out,by rw [HV.out];exact G11.out⟩
theorem bG(s t:RH)(a b:Rat)(w:World)(hs:aO w s a)(ht:aO w t b):au 75 [IvV (s,t)] w IvV (fun x w'=>aw w' x.1 (loV a b)∧aw w' x.2 (hiV a b)):=by
 have HX:=Hi (Ext.refl w);have HS:=Hi hs;have HT:=Hi ht;clear hs ht;unfold au;go_enter Tryz.func75,Tryz.ntmps75;obtain ⟨sn,sa,sl,sc,sb,sm,sd⟩:=s;obtain ⟨tn,ta,tl,tc,tb,tm,td⟩:=t
 go_upto_region 1 with fail
 refine iK ?_;intro w1 hE B1 B2 hz_w1 hr_w1;refine mV3 hE ?_ HX HS HT;clear HX HS HT;intro HX HS HT;have hs_w1:=hE.size;clear hE;replace b_B1:=b3 B1;replace b_B2:=b3 B2;refine wpG 11 (fun opIx=>match opIx with
  | 4=>.spec RH default RH.v (fun s w'=>aw w' s (loV a b))
  | 9=>.spec RH default RH.v (fun s w'=>aw w' s (hiV a b))
  | _=>.quiet) (fun _=>[]) fun w0 he0 hz0 hc0 hf0=>?_
 refine wps he0.out rfl rfl (fun w1 hW hG=>?_) fun x20=>?_
 ·exact spc [RH.v ⟨sn,sa,sl,sc,sb,sm,sd⟩,RH.v ⟨tn,ta,tl,tc,tb,tm,td⟩] Tryz.func30 (jO _ _ _ _ _ (HS.out.ext hW) (HT.out.ext hW))
 refine qZ ?_;refine wps he0.out rfl rfl (fun w1 hW hG=>?_) fun x21=>?_
 ·exact spc [RH.v ⟨sn,sa,sl,sc,sb,sm,sd⟩,RH.v ⟨tn,ta,tl,tc,tb,tm,td⟩] Tryz.func161 (mK _ _ _ _ _ (HS.out.ext hW) (HT.out.ext hW))
 refine qZ ?_;refine wpF_nil ?_;intro w2 hI;have hE:=he0.out.trans hI.ext;have G20:=gT (hI.facts 4);have G21:=gT (hI.facts 9);clear hI he0 hz0 hc0 hf0
 refine mV5 hE ?_ B1 B2 HX HS HT;clear B1 B2 HX HS HT;intro B1 B2 HX HS HT
 have hs_w2:=hE.size;clear hE;replace b_B1:=b3 B1;replace b_B2:=b3 B2;simp only [pD];go_wp2;refine bK (F:=fun W=>bodyPost _ _ _ _ _ W) B2.out rfl ?_;intro w10 T;replace HX:=Hi (T.ext HX.out (by omega));replace HS:=Hi (HS.out.keep T.keep);replace HT:=Hi (HT.out.keep T.keep);replace B1:=Hi (T.rest _ _ (by omega) B1.out);replace B2:=Hi (T.bx);replace G20:=Hi (G20.out.keep T.keep);replace G21:=Hi (G21.out.keep T.keep);have hs_w10:=nle T.size;have hr_w10:=nle T.size.symm;clear T;replace b_B1:=b3 B1;replace b_B2:=b3 B2;exact bodyPost_ret (v:=IvV (x20,x21)) (by simp [results,Tryz.results75,go_sem,b_B2.1]) rfl ⟨(x20,x21),rfl,HX.out,G20.out,G21.out⟩
theorem et(s t:RH)(a b:Rat)(w:World)(hs:aO w s a)(ht:aO w t b):au 66 [s.v,t.v] w IvV (fun x w'=>aw w' x.1 (loV a b)∧aw w' x.2 (hiV a b)):=by
 have HX:=Hi (Ext.refl w);have HS:=Hi hs;have HT:=Hi ht;clear hs ht;unfold au;go_enter Tryz.func66,Tryz.ntmps66;obtain ⟨sn,sa,sl,sc,sb,sm,sd⟩:=s;obtain ⟨tn,ta,tl,tc,tb,tm,td⟩:=t
 go_upto_region 1 with fail
 refine vz ?_;intro w1 hE B2 B3 B4 hz_w1 hr_w1;refine mV3 hE ?_ HX HS HT;clear HX HS HT;intro HX HS HT;have hs_w1:=hE.size;clear hE;replace b_B2:=b3 B2;replace b_B3:=b3 B3;replace b_B4:=b3 B4
 go_wp2_with fail
 refine cM (bG ⟨sn,sa,sl,sc,sb,sm,sd⟩ ⟨tn,ta,tl,tc,tb,tm,td⟩ a b _ HS.out HT.out) fun x8 w8 hE G8=>?_
 refine mV6 hE ?_ B2 B3 B4 HX HS HT;clear B2 B3 B4 HX HS HT;intro B2 B3 B4 HX HS HT
 have hs_w8:=hE.size;clear hE;replace b_B2:=b3 B2;replace b_B3:=b3 B3;replace b_B4:=b3 B4;have HL:=Hi G8.out.1;have HH:=Hi G8.out.2;clear G8;go_wp2;refine bK (F:=fun W=>bodyPost _ _ _ _ _ W) B4.out rfl ?_;intro w10 T;replace HX:=Hi (T.ext HX.out (by omega));replace HS:=Hi (HS.out.keep T.keep);replace HT:=Hi (HT.out.keep T.keep);replace B2:=Hi (T.rest _ _ (by omega) B2.out);replace B3:=Hi (T.rest _ _ (by omega) B3.out);replace B4:=Hi (T.bx);replace HL:=Hi (HL.out.keep T.keep);replace HH:=Hi (HH.out.keep T.keep);have hs_w10:=nle T.size;have hr_w10:=nle T.size.symm;clear T;replace b_B2:=b3 B2;replace b_B3:=b3 B3;replace b_B4:=b3 B4;exact bodyPost_ret (v:=IvV x8) (by simp [results,Tryz.results66,go_sem,b_B4.1]) rfl ⟨x8,rfl,HX.out,HL.out,HH.out⟩
def k8(n:Int):Rat:=((n % 25-12:Int):Rat) / ((12:Int):Rat)
theorem uI(n:Int)(w:World)(h1:-9223372036854775808≤n)(h2:n≤9223372036854775807):au 54 [.int .i64 n] w RH.v (fun x w'=>aw w' x (k8 n)):=by
 have HX:=Hi (Ext.refl w);unfold au;go_enter Tryz.func54,Tryz.ntmps54
 go_upto_region 1 with fail
 refine nmA ?_;intro w1 hE B2 hz_w1 hr_w1;replace HX:=hE.tr HX;have hs_w1:=hE.size;clear hE;replace b_B2:=b3 B2
 go_wp2_with fail
 refine cM (fk n 25 _ h1 h2 (by decide) (by decide)) fun x4 w4 hE _=>?_
 refine mV2 hE ?_ B2 HX;clear B2 HX;intro B2 HX
 have hs_w4:=hE.size;clear hE;replace b_B2:=b3 B2;have e1:=Int.emod_nonneg n (show (25:Int)≠0 by decide);have e2:=Int.emod_lt_of_pos n (show (0:Int)<25 by decide);obtain ⟨m,hm⟩:∃ m,m=n % 25:=⟨_,rfl⟩;have HC:Hid (k8 n=((m-12:Int):Rat) / ((12:Int):Rat)):=Hi (by rw [hm];rfl);rw [←hm] at e1 e2 ⊢;clear hm
 go_wp2_with fail
 refine cM (cN (m-12) 12 _ (by omega) (by omega) (by decide) (by decide)) fun x6 w6 hE G6=>?_
 refine mV2 hE ?_ B2 HX;clear B2 HX;intro B2 HX
 have hs_w6:=hE.size;clear hE;replace b_B2:=b3 B2;go_wp2;refine aI (F:=fun W=>bodyPost _ _ _ _ _ W) B2.out rfl ?_;intro w10 T;replace HX:=Hi (T.ext HX.out (by omega));replace B2:=Hi (T.bx);replace G6:=Hi (G6.out.keep T.keep);have hs_w10:=nle T.size;have hr_w10:=nle T.size.symm;clear T;replace b_B2:=b3 B2;exact bodyPost_ret (v:=RH.v x6) (by simp [results,Tryz.results54,go_sem,b_B2.1]) rfl ⟨x6,rfl,HX.out,by rw [HC.out];exact G6.out⟩
theorem nw:∀ m:Nat,m<25→((((m:Int)-12:Int):Rat) / ((12:Int):Rat)).num.natAbs<W32∧((((m:Int)-12:Int):Rat) / ((12:Int):Rat)).den<W32∧-1≤(((m:Int)-12:Int):Rat) / ((12:Int):Rat)∧(((m:Int)-12:Int):Rat) / ((12:Int):Rat)≤1∧(((m:Int)-12:Int):Rat) / ((12:Int):Rat)*12=(((m:Int)-12:Int):Rat):=by decide +kernel
theorem qy(n:Int):∃ m:Nat,m<25∧k8 n=(((m:Int)-12:Int):Rat) / ((12:Int):Rat):=by
 have e1:=Int.emod_nonneg n (show (25:Int)≠0 by decide);have e2:=Int.emod_lt_of_pos n (show (0:Int)<25 by decide);refine ⟨(n % 25).toNat,by omega,?_⟩;unfold k8;rw [show (((n % 25).toNat:Nat):Int)=n % 25 by omega]
theorem uJ(n:Int):Sz 1 (k8 n):=by
 obtain ⟨m,hm,e⟩:=qy n;rw [e];have h:=nw m hm;exact ⟨by rw [Nat.pow_one];exact h.1,by rw [Nat.pow_one];exact h.2.1⟩
theorem mf(n:Int):∃ z:Int,k8 n*12=(z:Rat)∧z.natAbs≤12:=by
 obtain ⟨m,hm,e⟩:=qy n;rw [e];exact ⟨(m:Int)-12,(nw m hm).2.2.2.2,by omega⟩
theorem By(m n:Int)(w:World)(h1:-9223372036854775808≤m)(h2:m≤9223372036854775807)(k1:-9223372036854775808≤n)(k2:n≤9223372036854775807):au 27 [.int .i64 m,.int .i64 n] w IvV (fun x w'=>aw w' x.1 (loV (k8 m) (k8 n))∧aw w' x.2 (hiV (k8 m) (k8 n))):=by
 have HX:=Hi (Ext.refl w);have Z1:=Hi (uJ m);have Z2:=Hi (uJ n);unfold au;go_enter Tryz.func27,Tryz.ntmps27
 go_upto_region 1 with fail
 refine nmA ?_;intro w1 hE B4 hz_w1 hr_w1;replace HX:=hE.tr HX;have hs_w1:=hE.size;clear hE;replace b_B4:=b3 B4
 go_wp2_with fail
 refine cM (uI m _ h1 h2) fun x6 w6 hE G6=>?_
 refine mV2 hE ?_ B4 HX;clear B4 HX;intro B4 HX
 have hs_w6:=hE.size;clear hE;replace b_B4:=b3 B4
 go_wp2_with fail
 refine cM (uI n _ k1 k2) fun x8 w8 hE G8=>?_
 refine mV3 hE ?_ G6 B4 HX;clear G6 B4 HX;intro G6 B4 HX
 have hs_w8:=hE.size;clear hE;replace b_B4:=b3 B4
 go_wp2_with fail
 refine cM (et x6 x8 _ _ _ (G6.out.raw Z1.out (by decide)) (G8.out.raw Z2.out (by decide))) fun x9 w9 hE G9=>?_
 refine mV4 hE ?_ G8 G6 B4 HX;clear G8 G6 B4 HX;intro G8 G6 B4 HX
 have hs_w9:=hE.size;clear hE;replace b_B4:=b3 B4;have HL:=Hi G9.out.1;have HH:=Hi G9.out.2;clear G9;go_wp2;refine bK (F:=fun W=>bodyPost _ _ _ _ _ W) B4.out rfl ?_;intro w10 T;replace HX:=Hi (T.ext HX.out (by omega));replace B4:=Hi (T.bx);replace G6:=Hi (G6.out.keep T.keep);replace G8:=Hi (G8.out.keep T.keep);replace HL:=Hi (HL.out.keep T.keep);replace HH:=Hi (HH.out.keep T.keep);have hs_w10:=nle T.size;have hr_w10:=nle T.size.symm;clear T;replace b_B4:=b3 B4;exact bodyPost_ret (v:=IvV x9) (by simp [results,Tryz.results27,go_sem,b_B4.1]) rfl ⟨x9,rfl,HX.out,HL.out,HH.out⟩
end Go.Proofs.YtofhkmcllihgmaaGreat
