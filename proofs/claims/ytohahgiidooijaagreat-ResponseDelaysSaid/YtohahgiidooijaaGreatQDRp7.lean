/- Delay of package response. -/
import Derived.Test.YtohahgiidooijaaGreatQDK10
set_option linter.unusedVariables false
namespace Go.Proofs.YtohahgiidooijaaGreat
open Go.RowKit Go.Front Go.Num Stab
attribute [local go_sem] XW.cell XW.frozen
theorem zZ(q:Rat):je q 0<0↔q<0:=by
 unfold je;by_cases h:q<0
 ·rw [if_pos h];exact ⟨fun _=>h,fun _=>by decide⟩
 ·rw [if_neg h];split
  ·exact ⟨fun h1=>absurd h1 (by decide),fun h1=>absurd h1 h⟩
  ·exact ⟨fun h1=>absurd h1 (by decide),fun h1=>absurd h1 h⟩
def GNe(n d:List Rat):Prop:=∀ u,u=bv n d→tz u≠[]
set_option maxRecDepth 8000 in
set_option maxHeartbeats 16000000 in
theorem fV(f:FH)(b a:List Rat)(S:Nat)(w:World)(h:pe w f b a)(hf:f.b.n≤14∧f.a.n≤5)(zb:FrB S b)(za:FrB S a)(hS:S≤40) :
  au 21 [f.v] w FE (FEP (cD b a)):=by
 obtain ⟨⟨ba,bn,bc⟩,⟨aa,an,ac⟩⟩:=f;have H:=Hi h;have HX:=Hi (Ext.refl w);have ZB:=Hi zb.tz;have ZA:=Hi za.tz;have hbl:(tz b).length≤14:=by have:=h.1.len;have h4:=af b;have:=hf.1;simp only at *;omega
 have hal:(tz a).length≤5:=by have:=h.2.len;have h4:=af a;have:=hf.2;simp only at *;omega
 have hs0:=zb.1;simp only at hf;clear h zb za;unfold au;simp only [FH.v,SH.v];go_enter Tryz.func21,Tryz.ntmps21
 go_upto_region 1 with fail
 refine jV ?_;intro w1 hE B1 B2 hz_w1 hr_w1;replace HX:=hE.tr HX;have hs_w1:=hE.size;clear hE;replace b_B1:=bX3 B1;replace b_B2:=bX3 B2
 go_wp2_with fail
 refine cM (dE ⟨⟨ba,bn,bc⟩,⟨aa,an,ac⟩⟩ b a _ (H.out.ext HX.out)) fun x2 w2 hE _=>?_
 refine mV3 hE ?_ B1 B2 HX;clear B1 B2 HX;intro B1 B2 HX;have hs_w2:=hE.size;clear hE;replace b_B1:=bX3 B1;replace b_B2:=bX3 B2;by_cases hv:VF b a
 case neg =>
  have hv1:decide (VF b a)=false:=decide_eq_false hv;have HV:Hid (cD b a=(2,[],[])):=Hi (by unfold cD;rw [if_neg hv]);rw [hv1];go_wp2;refine dH (F:=fun W=>bodyPost _ _ _ _ _ W) B2.out rfl ?_;intro w3 T;replace HX:=Hi (T.ext HX.out (by omega));replace B1:=Hi (T.rest _ _ (by omega) B1.out);replace B2:=Hi (T.bx);have hs_w3:=nle T.size;have hr_w3:=nle T.size.symm;clear T;replace b_B1:=bX3 B1;replace b_B2:=bX3 B2;exact bodyPost_ret (v:=FE (⟨⟨none,0,0⟩,⟨none,0,0⟩⟩,2)) (by simp [results,Tryz.results21,go_sem,b_B2.1,FE]) rfl ⟨(⟨⟨none,0,0⟩,⟨none,0,0⟩⟩,2),rfl,HX.out,by rw [HV.out];exact ⟨rfl,kk _⟩⟩
 have hv1:decide (VF b a)=true:=decide_eq_true hv;have HA0:Hid (tz a≠[]):=Hi (fun h=>by
  have h1:=hv.2.2;rw [←ax a,h] at h1;exact absurd h1 (by decide))
 rw [hv1]
 go_wp2_with fail
 refine cM (rG ⟨⟨ba,bn,bc⟩,⟨aa,an,ac⟩⟩ b a _ (H.out.ext HX.out) (by simp only;omega) (by simp only;omega)) fun x3 w3 hE G3=>?_
 refine mV3 hE ?_ HX B1 B2;clear HX B1 B2;intro HX B1 B2;have hs_w3:=hE.size;clear hE;replace b_B1:=bX3 B1;replace b_B2:=bX3 B2;obtain ⟨⟨pa,P,pc⟩,⟨qa,Q,qc⟩⟩:=x3;have LP:=Hi G3.out.1;have LQ:=Hi G3.out.2;clear G3;simp only at LP LQ;have HPl:=Hi LP.out.len;have HQl:=Hi LQ.out.len;simp only at HPl HQl;rw [HPl.out] at hbl;rw [HQl.out] at hal;have HV0:Hid (cD b a=if tz b=[] then (3,[],[]) else if 50<(tz b).length+(tz a).length then (12,[],[]) else if evV (aP (dlD (tz b) (tz a)) (bv (dlN (tz b) (tz a)) (dlD (tz b) (tz a)))) ((1:Int):Rat)<0 then (0,ngV (aP (dlN (tz b) (tz a)) (bv (dlN (tz b) (tz a)) (dlD (tz b) (tz a)))),ngV (aP (dlD (tz b) (tz a)) (bv (dlN (tz b) (tz a)) (dlD (tz b) (tz a))))) else (0,aP (dlN (tz b) (tz a)) (bv (dlN (tz b) (tz a)) (dlD (tz b) (tz a))),aP (dlD (tz b) (tz a)) (bv (dlN (tz b) (tz a)) (dlD (tz b) (tz a))))):=Hi (by unfold cD;rw [if_pos hv]);simp only [qdV,SH.v]
 go_upto_region 4 with fail
 refine nmA ?_;intro w4 hE B4 hz_w4 hr_w4;refine mV5 hE ?_ HX B1 B2 LP LQ;clear HX B1 B2 LP LQ;intro HX B1 B2 LP LQ;have hs_w4:=hE.size;clear hE;replace b_B1:=bX3 B1;replace b_B2:=bX3 B2;replace b_B4:=bX3 B4;by_cases hP0:P=0
 case pos =>
  subst hP0;have HV:Hid (cD b a=(3,[],[])):=Hi (by rw [HV0.out,if_pos (nXi.1 HPl.out)]);go_wp2;clear LP;clear LQ;refine dH (F:=fun W=>bodyPost _ _ _ _ _ W) B2.out rfl ?_;intro w5 T;replace HX:=Hi (T.ext HX.out (by omega));replace B1:=Hi (T.rest _ _ (by omega) B1.out);replace B2:=Hi (T.bx);replace B4:=Hi (T.rest _ _ (by omega) B4.out);have hs_w5:=nle T.size;have hr_w5:=nle T.size.symm;clear T;replace b_B1:=bX3 B1;replace b_B2:=bX3 B2;replace b_B4:=bX3 B4;exact bodyPost_ret (v:=FE (⟨⟨none,0,0⟩,⟨none,0,0⟩⟩,3)) (by simp [results,Tryz.results21,go_sem,b_B2.1,FE]) rfl ⟨(⟨⟨none,0,0⟩,⟨none,0,0⟩⟩,3),rfl,HX.out,by rw [HV.out];exact ⟨rfl,kk _⟩⟩
 have hPb:((P:Int) == 0)=false:=by rw [nXr];omega
 have HB0:Hid (tz b≠[]):=Hi (fun h=>by have:=HPl.out;rw [h] at this;simp at this;omega)
 go_wp2_with fail
 refine cM (nR ⟨⟨ba,bn,bc⟩,⟨aa,an,ac⟩⟩ b a _ (H.out.ext HX.out) (by simp only;omega) (by simp only;omega)) fun x5 w5 hE _=>?_
 refine mV6 hE ?_ LP LQ HX B1 B2 B4;clear LP LQ HX B1 B2 B4;intro LP LQ HX B1 B2 B4;have hs_w5:=hE.size;clear hE;replace b_B1:=bX3 B1;replace b_B2:=bX3 B2;replace b_B4:=bX3 B4;rw [HPl.out,HQl.out];obtain ⟨dg,hdg⟩:∃ dg,dg=(P:Int)-1+((Q:Int)-1):=⟨_,rfl⟩;have hdeg:¬ (48:Int)<dg:=by omega
 rw [←hdg];clear hdg;obtain ⟨p,hp⟩:∃ p,p=tz b:=⟨_,rfl⟩;obtain ⟨q,hq⟩:∃ q,q=tz a:=⟨_,rfl⟩;have HTp:Hid (tz p≠[]):=Hi (by rw [hp,av];exact HB0.out);have HTq:Hid (tz q≠[]):=Hi (by rw [hq,av];exact HA0.out);have HV1:Hid (cD b a=if evV (aP (dlD p q) (bv (dlN p q) (dlD p q))) ((1:Int):Rat)<0 then (0,ngV (aP (dlN p q) (bv (dlN p q) (dlD p q))),ngV (aP (dlD p q) (bv (dlN p q) (dlD p q)))) else (0,aP (dlN p q) (bv (dlN p q) (dlD p q)),aP (dlD p q) (bv (dlN p q) (dlD p q)))):=Hi (by rw [HV0.out,if_neg HB0.out,if_neg (by rw [HPl.out,HQl.out];omega),hp,hq]);rw [←hp] at LP ZB HPl;rw [←hq] at LQ ZA HQl;clear hp hq HV0 HB0 HA0;have HGN:Hid (GNe (dlN p q) (dlD p q)):=Hi (fun u hu=>by rw [hu];exact Ew HTp.out HTq.out);have HFR:=Hi (qe ZB.out ZA.out (by rw [HPl.out];omega) (by rw [HQl.out];omega) hS);have HLN:=Hi (p9 (p:=p) (q:=q) (by rw [HPl.out];omega) (by rw [HQl.out];omega));have ZTB:Hid (SzL 40 p):=Hi (ZB.out.sz.mono hS);have ZTA:Hid (SzL 40 q):=Hi (ZA.out.sz.mono hS)
 go_upto_region 8 with fail
 refine wpG 6 (fun opIx=>match opIx with
  | 2=>.spec (SH) (default) (SH.v) (fun x w'=>aJ w' x (ah p p))
  | 5=>.spec (SH) (default) (SH.v) (fun x w'=>aJ w' x (ah q q))
  | _=>.quiet) (fun _=>[]) fun w0 he0 hz0 hc0 hf0=>?_
 refine wps he0.out rfl rfl (fun w1 hW hG=>?_) fun x20=>?_
 ·exact spc [sdV ⟨pa,P,pc⟩] Tryz.func69 (mh ⟨pa,P,pc⟩ p 40 _ ((LP.out.ext hW).raw ZTB.out (by decide)) (by simp only;omega) ZTB.out (by decide) (by decide))
 refine qZ ?_;refine wps he0.out rfl rfl (fun w1 hW hG=>?_) fun x21=>?_
 ·exact spc [sdV ⟨qa,Q,qc⟩] Tryz.func69 (mh ⟨qa,Q,qc⟩ q 40 _ ((LQ.out.ext hW).raw ZTA.out (by decide)) (by simp only;omega) ZTA.out (by decide) (by decide))
 refine qZ ?_;refine aq ?_;intro w6 hI;have hE:=he0.out.trans hI.ext;have G20:=gT (hI.facts 2);have G21:=gT (hI.facts 5);clear hI he0 hz0 hc0 hf0;refine mV6 hE ?_ HX B1 B2 B4 LP LQ;clear HX B1 B2 B4 LP LQ;intro HX B1 B2 B4 LP LQ;have hs_w6:=hE.size;clear hE;replace b_B1:=bX3 B1;replace b_B2:=bX3 B2;replace b_B4:=bX3 B4;simp only [pD]
 go_upto_region 9 with fail
 refine wpG 11 (fun opIx=>match opIx with
  | 2=>.spec (SH) (default) (SH.v) (fun x w'=>aJ w' x (ah (bF p) p))
  | 4=>.spec (SH) (default) (SH.v) (fun x w'=>aJ w' x (ag (ah (bF p) p) (ah q q)))
  | 7=>.spec (SH) (default) (SH.v) (fun x w'=>aJ w' x (ah (bF q) q))
  | 9=>.spec (SH) (default) (SH.v) (fun x w'=>aJ w' x (ag (ah (bF q) q) (ah p p)))
  | 10=>.spec (SH) (default) (SH.v) (fun x w'=>aJ w' x (dlN p q))
  | _=>.quiet) (fun|4=>[2]|9=>[7]|10=>[4,9]|_=>[]) fun w0 he0 hz0 hc0 hf0=>?_
 refine wps he0.out rfl rfl (fun w1 hW hG=>?_) fun x22=>?_
 ·exact spc [sdV ⟨pa,P,pc⟩] Tryz.func71 (qK pa P pc p 40 _ (LP.out.ext hW) (by omega) ZTB.out (by decide) (by decide))
 refine qZ ?_;refine wps he0.out rfl rfl (fun w1 hW hG=>?_) fun x23=>?_
 ·have g22:=(hG 2 (by decide):aD _ _).get fun _ e g=>g.ext e
  exact spc [x22.v,x21.v] Tryz.func66 ((pJ x22 x21 _ _ 85 84 _ g22 (G21.out.ext hW) HFR.out.2.2.1 HFR.out.2.1 (aM (by rw [co,HPl.out];omega) (by rw [HPl.out];omega)) (aM (by rw [HQl.out];omega) (by rw [HQl.out];omega)) (by decide)).weak (fun _ _ _ h=>h.can))
 refine qZ ?_;refine wps he0.out rfl rfl (fun w1 hW hG=>?_) fun x24=>?_
 ·exact spc [sdV ⟨qa,Q,qc⟩] Tryz.func71 (qK qa Q qc q 40 _ (LQ.out.ext hW) (by omega) ZTA.out (by decide) (by decide))
 refine qZ ?_;refine wps he0.out rfl rfl (fun w1 hW hG=>?_) fun x25=>?_
 ·have g24:=(hG 7 (by decide):aD _ _).get fun _ e g=>g.ext e
  exact spc [x24.v,x20.v] Tryz.func66 ((pJ x24 x20 _ _ 85 84 _ g24 (G20.out.ext hW) HFR.out.2.2.2.1 HFR.out.1 (aM (by rw [co,HQl.out];omega) (by rw [HQl.out];omega)) (aM (by rw [HPl.out];omega) (by rw [HPl.out];omega)) (by decide)).weak (fun _ _ _ h=>h.can))
 refine qZ ?_;refine wps he0.out rfl rfl (fun w1 hW hG=>?_) fun x26=>?_
 ·have g23:=(hG 4 (by decide):aD _ _).get fun _ e g=>g.ext e
  have g25:=(hG 9 (by decide):aD _ _).get fun _ e g=>g.ext e
  exact spc [x23.v,x25.v] Tryz.func70 ((Bu x23 x25 _ _ 170 _ g23 g25 HFR.out.2.2.2.2.1.sz HFR.out.2.2.2.2.2.1.sz (nXe (bI (n:=14) (m:=5) (aM (by rw [co,HPl.out];omega) (by rw [HPl.out];omega)) (aM (by rw [HQl.out];omega) (by rw [HQl.out];omega))) (by decide)) (nXe (bI (n:=5) (m:=14) (aM (by rw [co,HQl.out];omega) (by rw [HQl.out];omega)) (aM (by rw [HPl.out];omega) (by rw [HPl.out];omega))) (by decide)) (by decide)).weak (fun _ _ _ h=>h.can))
 refine qZ ?_;refine aq ?_;intro w7 hI;have hE:=he0.out.trans hI.ext;have G22:=gT (hI.facts 2);have G23:=gT (hI.facts 4);have G24:=gT (hI.facts 7);have G25:=gT (hI.facts 9);have G26:=gT (hI.facts 10);clear hI he0 hz0 hc0 hf0;refine mV8 hE ?_ HX B1 B2 B4 LP G21 LQ G20;clear HX B1 B2 B4 LP G21 LQ G20;intro HX B1 B2 B4 LP G21 LQ G20;have hs_w7:=hE.size;clear hE;replace b_B1:=bX3 B1;replace b_B2:=bX3 B2;replace b_B4:=bX3 B4;simp only [pD];clear G22 G23 G24 G25;clear LP;clear LQ
 go_wp2_with fail
 refine cM ((pJ x20 x21 _ _ 84 84 _ G20.out G21.out HFR.out.1 HFR.out.2.1 (aM (by rw [HPl.out];omega) (by rw [HPl.out];omega)) (aM (by rw [HQl.out];omega) (by rw [HQl.out];omega)) (by decide)).weak (ψ:=fun x w'=>aJ w' x (dlD p q)) (fun _ _ _ h=>h.can)) fun x8 w8 hE G8=>?_
 refine mV7 hE ?_ G26 HX B1 B2 B4 G21 G20;clear G26 HX B1 B2 B4 G21 G20;intro G26 HX B1 B2 B4 G21 G20;have hs_w8:=hE.size;clear hE;replace b_B1:=bX3 B1;replace b_B2:=bX3 B2;replace b_B4:=bX3 B4;clear G20;clear G21;obtain ⟨nn,hnn⟩:∃ nn,nn=dlN p q:=⟨_,rfl⟩;obtain ⟨dd,hdd⟩:∃ dd,dd=dlD p q:=⟨_,rfl⟩;have FN:Hid (FrB 341 nn):=Hi (by rw [hnn];exact HFR.out.2.2.2.2.2.2.1);have FD:Hid (FrB 169 dd):=Hi (by rw [hdd];exact HFR.out.2.2.2.2.2.2.2);have LNn:Hid (nn.length≤18∧dd.length≤18):=Hi (by rw [hnn,hdd];exact HLN.out);rw [←hnn,←hdd] at HV1 HGN;rw [←hnn] at G26;rw [←hdd] at G8;clear hnn hdd HFR HLN;obtain ⟨na,nl,nc⟩:=x26;obtain ⟨da,dl,dc⟩:=x8;have hnl:=G26.out.len;have hdl:=G8.out.len;simp only at hnl hdl;have hnl9:nl≤18:=by rw [←hnl];exact LNn.out.1
 have hdl9:dl≤18:=by rw [←hdl];exact LNn.out.2
 obtain ⟨hN1,DN,hN2,hN3,hN4⟩:=FN.out;obtain ⟨hD1,DD,hD2,hD3,hD4⟩:=(FD.out.mono (show 169≤341 by decide));have HK:Hid (GZ 1500000 341 nn dd):=Hi (AA hN2 hD2 hN4 hD4 LNn.out.1 LNn.out.2 (by decide) (by decide));simp only [SH.v]
 go_wp2_with fail
 refine cM (yI na da nl nc dl dc nn dd 341 DN DD _ G26.out G8.out (by omega) (by omega) (by decide) hN2 hN3 hD2 hD3 hN4 hD4 1500000 HK.out (by decide)) fun x9 w9 hE G9=>?_
 refine mV6 hE ?_ G8 G26 HX B1 B2 B4;clear G8 G26 HX B1 B2 B4;intro G8 G26 HX B1 B2 B4;have hs_w9:=hE.size;clear hE;replace b_B1:=bX3 B1;replace b_B2:=bX3 B2;replace b_B4:=bX3 B4;obtain ⟨ga,gl,gc⟩:=x9;have LG:=Hi G9.out.1;have hg14:(bv nn dd).length≤18:=nXe (zw LNn.out.1 LNn.out.2) (by decide);obtain ⟨X,DG,hX1,hX2,hX3,hX4,hX5⟩:=s5 G9.out.2;clear G9;simp only [SH.v] at *
 obtain ⟨g,hg⟩:∃ g,g=bv nn dd:=⟨_,rfl⟩;have HGN2:Hid (tz g≠[]):=Hi (HGN.out g hg);clear HGN;have HGN:=HGN2;clear HGN2;rw [←hg] at LG HV1 hX1 hg14;have hgl:=LG.out.len;simp only at hgl;have hgl14:gl≤18:=by rw [←hgl];exact hg14
 have Hgl:=Hi hgl;have Hnl:=Hi hnl;have Hdl:=Hi hdl;clear hg hgl hnl hdl hg14;have hb9:∀ m,m≤18→m*(X+1)≤18*500000:=fun m hm=>nXw hm (by omega)
 have hbn:=hb9 nl hnl9;have hbd:=hb9 dl hdl9;clear hb9;have FQN:Hid (FrB 9000400 (aP nn g)):=Hi ((ry hN4 hX1 HGN.out (by decide) hN2 hN3 hX3 hX4 (nle Hnl.out)).mono (by omega));have FQD:Hid (FrB 9000400 (aP dd g)):=Hi ((ry hD4 hX1 HGN.out (by decide) hD2 hD3 hX3 hX4 (nle Hdl.out)).mono (by omega))
 go_wp2_with fail
 refine cM (kN na ga nl nc gl gc nn g 341 X DN DG _ G26.out LG.out (by omega) (by omega) (by decide) hX2 hN2 hN3 hX3 hX4 hN4 hX1 HGN.out (by omega) (by omega)) fun x10 w10 hE G10=>?_
 refine mV7 hE ?_ G8 G26 HX B1 B2 B4 LG;clear G8 G26 HX B1 B2 B4 LG;intro G8 G26 HX B1 B2 B4 LG;have hs_w10:=hE.size;clear hE;replace b_B1:=bX3 B1;replace b_B2:=bX3 B2;replace b_B4:=bX3 B4;obtain ⟨⟨ea,el,ec⟩,⟨fa',fl,fc⟩⟩:=x10;have LE:=Hi G10.out.1;clear G10;simp only [QT] at *
 go_wp2_with fail
 refine cM (kN da ga dl dc gl gc dd g 341 X DD DG _ G8.out LG.out (by omega) (by omega) (by decide) hX2 hD2 hD3 hX3 hX4 hD4 hX1 HGN.out (by omega) (by omega)) fun x11 w11 hE G11=>?_
 refine mV8 hE ?_ G8 G26 HX B1 B2 B4 LG LE;clear G8 G26 HX B1 B2 B4 LG LE;intro G8 G26 HX B1 B2 B4 LG LE;have hs_w11:=hE.size;clear hE;replace b_B1:=bX3 B1;replace b_B2:=bX3 B2;replace b_B4:=bX3 B4;obtain ⟨⟨ia,il,ic⟩,⟨ja,jl,jc⟩⟩:=x11;have LI:=Hi G11.out.1;clear G11;simp only [QT] at *
 clear G26;clear G8;clear LG;obtain ⟨qn,hqn⟩:∃ qn,qn=aP nn g:=⟨_,rfl⟩;obtain ⟨qd,hqd⟩:∃ qd,qd=aP dd g:=⟨_,rfl⟩;rw [←hqn] at LE FQN HV1;rw [←hqd] at LI FQD HV1;have hel:el≤1000:=by have h1:=LE.out.len;have h2:=rx nn g;rw [←hqn] at h2;have h3:=LNn.out.1;simp only at h1;omega
 have hil:il≤1000:=by have h1:=LI.out.len;have h2:=rx dd g;rw [←hqd] at h2;have h3:=LNn.out.2;simp only at h1;omega
 have hqdl:qd.length≤1000:=by have h1:=LI.out.len;simp only at h1;omega
 clear hqn hqd hN4 hD4 hX1 HGN
 go_wp2_with fail
 refine cM (bM 1 _ (by decide) (by decide)) fun x12 w12 hE G12=>?_
 refine mV6 hE ?_ HX B1 B2 B4 LE LI;clear HX B1 B2 B4 LE LI;intro HX B1 B2 B4 LE LI;have hs_w12:=hE.size;clear hE;replace b_B1:=bX3 B1;replace b_B2:=bX3 B2;replace b_B4:=bX3 B4;have Z1:Hid (Sz 1 ((1:Int):Rat)):=Hi (Sz.int (by decide));have ZE:Hid (Sz 60000000 (evV qd ((1:Int):Rat))):=Hi ((oO FQD.out Z1.out (by decide) hqdl (by decide) (by decide)).mono (by decide))
 go_wp2_with fail
 refine cM (uK ia il ic qd x12 ((1:Int):Rat) 9000400 1 _ (LI.out.raw FQD.out.sz (by decide)) (G12.out.raw Z1.out (by decide)) hil FQD.out Z1.out (by decide) (by decide) (by decide)) fun x13 w13 hE G13=>?_
 refine mV7 hE ?_ G12 HX B1 B2 B4 LE LI;clear G12 HX B1 B2 B4 LE LI;intro G12 HX B1 B2 B4 LE LI;have hs_w13:=hE.size;clear hE;replace b_B1:=bX3 B1;replace b_B2:=bX3 B2;replace b_B4:=bX3 B4
 go_wp2_with fail
 refine cM (iU x13 (evV qd ((1:Int):Rat)) _ (G13.out.raw ZE.out (by decide))) fun x14 w14 hE _=>?_
 refine mV8 hE ?_ G13 G12 HX B1 B2 B4 LE LI;clear G13 G12 HX B1 B2 B4 LE LI;intro G13 G12 HX B1 B2 B4 LE LI;have hs_w14:=hE.size;clear hE;replace b_B1:=bX3 B1;replace b_B2:=bX3 B2;replace b_B4:=bX3 B4;clear G12;clear G13;have HC:=Hi (zZ (evV qd ((1:Int):Rat)));obtain ⟨cc,hcc⟩:∃ cc,cc=je (evV qd ((1:Int):Rat)) 0:=⟨_,rfl⟩;rw [←hcc] at HC ⊢;clear hcc;have hb2w:w.heap.size≤w.heap.size+1:=by omega
 by_cases hlt:cc<0
 case pos =>
  have HV:Hid (cD b a=(0,ngV qn,ngV qd)):=Hi (by rw [HV1.out,if_pos (HC.out.1 hlt)]);have Zm:Hid (Sz 1 ((-1:Int):Rat)):=Hi (Sz.int (by decide))
  go_wp2_with fail
  refine cM (bM (-1) _ (by decide) (by decide)) fun x15 w15 hE G15=>?_
  refine mV6 hE ?_ HX B1 B2 B4 LE LI;clear HX B1 B2 B4 LE LI;intro HX B1 B2 B4 LE LI;have hs_w15:=hE.size;clear hE;replace b_B1:=bX3 B1;replace b_B2:=bX3 B2;replace b_B4:=bX3 B4
  go_wp2_with fail
  refine cM ((c9 ea el ec qn x15 ((-1:Int):Rat) _ (LE.out.raw FQN.out.sz (by decide)) (G15.out.raw Zm.out (by decide)) (by omega) (FQN.out.sz.mono (by decide)) (Zm.out.mono (by decide))).weak (ψ:=fun x w'=>aJ w' x (ngV qn)) (fun _ _ _ h=>h.can)) fun x16 w16 hE G16=>?_
  refine mV7 hE ?_ G15 HX B1 B2 B4 LE LI;clear G15 HX B1 B2 B4 LE LI;intro G15 HX B1 B2 B4 LE LI;have hs_w16:=hE.size;clear hE;replace b_B1:=bX3 B1;replace b_B2:=bX3 B2;replace b_B4:=bX3 B4
  go_wp2_with fail
  refine cM (bM (-1) _ (by decide) (by decide)) fun x17 w17 hE G17=>?_
  refine mV8 hE ?_ G16 G15 HX B1 B2 B4 LE LI;clear G16 G15 HX B1 B2 B4 LE LI;intro G16 G15 HX B1 B2 B4 LE LI;have hs_w17:=hE.size;clear hE;replace b_B1:=bX3 B1;replace b_B2:=bX3 B2;replace b_B4:=bX3 B4
  go_wp2_with fail
  refine cM ((c9 ia il ic qd x17 ((-1:Int):Rat) _ (LI.out.raw FQD.out.sz (by decide)) (G17.out.raw Zm.out (by decide)) (by omega) (FQD.out.sz.mono (by decide)) (Zm.out.mono (by decide))).weak (ψ:=fun x w'=>aJ w' x (ngV qd)) (fun _ _ _ h=>h.can)) fun x18 w18 hE G18=>?_
  refine mV8 hE ?_ G17 G16 G15 HX B1 B2 B4 LE;clear G17 G16 G15 HX B1 B2 B4 LE;intro G17 G16 G15 HX B1 B2 B4 LE;replace LI:=mV hE LI;have hs_w18:=hE.size;clear hE;replace b_B1:=bX3 B1;replace b_B2:=bX3 B2;replace b_B4:=bX3 B4;go_wp2;clear LE;clear LI;clear G15;clear G17;refine dH (F:=fun W=>bodyPost _ _ _ _ _ W) B2.out rfl ?_;intro w19 T;have L1:=Hi (G16.out.put2 B2.out T);have L2:=Hi (G18.out.put2 B2.out T);clear G16;clear G18;replace HX:=Hi (T.ext HX.out (by omega));replace B1:=Hi (T.rest _ _ (by omega) B1.out);replace B2:=Hi (T.bx);replace B4:=Hi (T.rest _ _ (by omega) B4.out);have hs_w19:=nle T.size;have hr_w19:=nle T.size.symm;clear T;replace b_B1:=bX3 B1;replace b_B2:=bX3 B2;replace b_B4:=bX3 B4;exact bodyPost_ret (v:=FE (⟨x16,x18⟩,0)) (by simp [results,Tryz.results21,go_sem,b_B2.1,FE]) rfl ⟨(⟨x16,x18⟩,0),rfl,HX.out,by rw [HV.out];exact ⟨rfl,L1.out,L2.out⟩⟩
 have HV:Hid (cD b a=(0,qn,qd)):=Hi (by rw [HV1.out,if_neg (fun h=>hlt (HC.out.2 h))]);go_wp2;refine dH (F:=fun W=>bodyPost _ _ _ _ _ W) B2.out rfl ?_;intro w19 T;have L1:=Hi (LE.out.put2 B2.out T);have L2:=Hi (LI.out.put2 B2.out T);clear LE;clear LI;replace HX:=Hi (T.ext HX.out (by omega));replace B1:=Hi (T.rest _ _ (by omega) B1.out);replace B2:=Hi (T.bx);replace B4:=Hi (T.rest _ _ (by omega) B4.out);have hs_w19:=nle T.size;have hr_w19:=nle T.size.symm;clear T;replace b_B1:=bX3 B1;replace b_B2:=bX3 B2;replace b_B4:=bX3 B4;exact bodyPost_ret (v:=FE (⟨⟨ea,el,ec⟩,⟨ia,il,ic⟩⟩,0)) (by simp [results,Tryz.results21,go_sem,b_B2.1,FE]) rfl ⟨(⟨⟨ea,el,ec⟩,⟨ia,il,ic⟩⟩,0),rfl,HX.out,by rw [HV.out];exact ⟨rfl,L1.out,L2.out⟩⟩
end Go.Proofs.YtohahgiidooijaaGreat
