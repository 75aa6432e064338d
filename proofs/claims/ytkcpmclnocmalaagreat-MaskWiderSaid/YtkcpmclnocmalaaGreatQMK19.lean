import Derived.Test.YtkcpmclnocmalaaGreatQMK18
import Derived.Handy
set_option linter.unusedVariables false
set_option maxHeartbeats 16000000
set_option maxRecDepth 16000
namespace Go.Proofs.YtkcpmclnocmalaaGreat
open Go.RowKit Go.Front Go.Num Stab
attribute [local go_sem] XW.cell XW.frozen
attribute [local irreducible] Go.Front.wpF
theorem kO(na da ba:Option Addr)(nn nc dn dc bc:Nat)(nu de qs:List Rat)(S:Nat)(a b d:Rat)(dq:List Rat)(w:World)(hn:bg w ⟨na,nn,nc⟩ nu)(hd:bg w ⟨da,dn,dc⟩ de)(h:fq w ⟨ba,1,bc⟩ qs)(ho:jo S 1 nu de qs)(hq:qs=[a,b,0,d])(hdq:prV de a b=some dq) :
  ar 9 [QV (⟨na,nn,nc⟩,⟨da,dn,dc⟩),.slice ba 1 bc,.bool true] w MpT (fun x w'=>MpQ w' x a b dq (prV (beV nu de d) a b)):=by
 have HX:=Hi (Ext.refl w);have LN:=Hi hn;have LD:=Hi hd;have LB:=Hi h;have HO:=Hi ho;have HQ:=Hi hq;have HDQ:=Hi hdq;have hS1:=ho.s1;have hS:=ho.s6;have hnn:nn≤7:=by have:=hn.len;have h2:=ho.zn.ln;simp only at this;omega
 have hdn:dn≤7:=by have:=hd.len;have h2:=ho.zd.ln;simp only at this;omega
 have hbd:=ho.bd 0 zo;rw [hq] at hbd;have HBD:Hid (tB S a b 0 d):=Hi hbd;have ZBE:=Hi (ho.zn.be ho.zd hbd.1.2.2.2 hS1);clear hn hd h ho hbd hq hdq;unfold ar;simp only [QV,SH.v];go_enter Tryz.func9,Tryz.ntmps9
 go_upto_region 1 with fail
 refine eX ?_;intro w1 hE B3 B6 hz_w1 hr_w1;refine mV4 hE ?_ HX LN LD LB;clear HX LN LD LB;intro HX LN LD LB;have hs_w1:=hE.size;replace b_B3:=bX3 B3;replace b_B6:=bX3 B6
 go_wp2_with fail
 refine cM (gw na da ba nn nc dn dc 1 bc nu de qs S _ LN.out LD.out LB.out HO.out.bd dZ dZ hS1 zo HO.out.zn.fb.sz HO.out.zd.fb.sz hnn hdn HO.out.td HO.out.d0) fun x19 w19 hE _=>?_
 refine mV6 hE ?_ B3 B6 HX LN LD LB;clear B3 B6 HX LN LD LB;intro B3 B6 HX LN LD LB;have hs_w19:=hE.size;replace b_B3:=bX3 B3;replace b_B6:=bX3 B6
 go_wp2_with fail
 refine cM (lp na da ba nn nc dn dc bc nu de qs S a b d _ LN.out LD.out LB.out HO.out HQ.out) fun x27 w27 hE G27=>?_
 refine mV6 hE ?_ B3 B6 HX LN LD LB;clear B3 B6 HX LN LD LB;intro B3 B6 HX LN LD LB;have hs_w27:=hE.size;replace b_B3:=bX3 B3;replace b_B6:=bX3 B6;obtain ⟨⟨⟨pa,pn,pc⟩,⟨sn,sa,sl,sc,sb,sm,sd⟩,⟨tn,ta,tl,tc,tb,tm,td⟩⟩,⟨⟨ua,un,uc⟩,⟨gn,ga,gl,gc,gb,gm,gd⟩,⟨fn,fa,fl,fc,fb,fm,fd⟩⟩,L1,c1,L2,c2⟩:=x27;have LDp:=Hi G27.out.dp.lin;have LUp:=Hi G27.out.up.lin;have HD1:=Hi G27.out.di.1;have HD2:=Hi G27.out.di.2;have HU1:=Hi G27.out.ui.1;have HU2:=Hi G27.out.ui.2;have HP1:=Hi G27.out.b1;have HP2:=Hi G27.out.b2;have hL1:=G27.out.b1.lt;have hL2:=G27.out.b2.lt;have hc1:=G27.out.h1;have hc2:=G27.out.h2;clear G27;simp only at LDp LUp HD1 HD2 HU1 HU2 HP1 HP2 hL1 hL2 hc1 hc2;clear LN;clear LD;clear LB
 go_upto_region 6 with fail
 refine eX ?_;intro w28 hE B9 B10 hz_w28 hr_w28;refine mV8 hE ?_ B3 B6 HX LDp LUp HD1 HD2 HU1;clear B3 B6 HX LDp LUp HD1 HD2 HU1;intro B3 B6 HX LDp LUp HD1 HD2 HU1;refine mV3 hE ?_ HU2 HP1 HP2;clear HU2 HP1 HP2;intro HU2 HP1 HP2;have hs_w28:=hE.size;replace b_B3:=bX3 B3;replace b_B6:=bX3 B6;replace b_B9:=bX3 B9;replace b_B10:=bX3 B10
 go_wp2_with fail
 refine cM (lW (⟨pa,pn,pc⟩,(⟨sn,sa,sl,sc,sb,sm,sd⟩,⟨tn,ta,tl,tc,tb,tm,td⟩)) de a b S S _ LDp.out.can ⟨HD1.out,HD2.out⟩ HO.out.td HO.out.zd.ln HO.out.zd.fb.sz HBD.out.1.1 HBD.out.1.2.1 zo zo HBD.out.2.2.1) fun x31 w31 hE G31=>?_
 refine mV8 hE ?_ B9 B10 B3 B6 HX LDp LUp HD1;clear B9 B10 B3 B6 HX LDp LUp HD1;intro B9 B10 B3 B6 HX LDp LUp HD1;refine mV5 hE ?_ HD2 HU1 HU2 HP1 HP2;clear HD2 HU1 HU2 HP1 HP2;intro HD2 HU1 HU2 HP1 HP2;have hs_w31:=hE.size;replace b_B3:=bX3 B3;replace b_B6:=bX3 B6;replace b_B9:=bX3 B9;replace b_B10:=bX3 B10;rw [HDQ.out] at G31;obtain ⟨⟨⟨⟨ln,la,ll,lc,lb,lm,ld⟩,⟨hn,ha,hl,hc,hb,hm,hd⟩⟩,⟨xa,xn,xc⟩⟩,e⟩:=x31;have g:e=true∧IvC w31 (⟨ln,la,ll,lc,lb,lm,ld⟩,⟨hn,ha,hl,hc,hb,hm,hd⟩) a b∧iP w31 (w28.heap.size≤·) (SH.v ⟨xa,xn,xc⟩) xn dq:=G31.out;obtain ⟨rfl,gI,gO⟩:=g;have HE1:=Hi gI.1;have HE2:=Hi gI.2;have HEO:=Hi gO;clear gI gO G31
 go_upto_region 7 with fail
 refine nmA ?_;intro w32 hE B11 hz_w32 hr_w32;refine mV8 hE ?_ B9 B10 B3 B6 HX LDp LUp HD1;clear B9 B10 B3 B6 HX LDp LUp HD1;intro B9 B10 B3 B6 HX LDp LUp HD1;refine mV8 hE ?_ HD2 HU1 HU2 HP1 HP2 HE1 HE2 HEO;clear HD2 HU1 HU2 HP1 HP2 HE1 HE2 HEO;intro HD2 HU1 HU2 HP1 HP2 HE1 HE2 HEO;have hs_w32:=hE.size;replace b_B3:=bX3 B3;replace b_B6:=bX3 B6;replace b_B9:=bX3 B9;replace b_B10:=bX3 B10;replace b_B11:=bX3 B11
 go_upto_region 10 with fail
 refine yu B10.out rfl ?_;intro w33 T;replace HX:=Hi (T.ext HX.out zo);replace B3:=Hi (T.rest _ _ zo B3.out);replace B6:=Hi (T.rest _ _ zo B6.out);replace LDp:=Hi (LDp.out.put T zo);replace LUp:=Hi (LUp.out.put T zo);replace HP1:=Hi (HP1.out.put T zo);replace HP2:=Hi (HP2.out.put T zo);replace HD1:=Hi (HD1.out.keep T.keep);replace HD2:=Hi (HD2.out.keep T.keep);replace HU1:=Hi (HU1.out.keep T.keep);replace HU2:=Hi (HU2.out.keep T.keep);replace B9:=Hi (T.rest _ _ zo B9.out);replace B10:=Hi (T.bx);replace HE1:=Hi (HE1.out.keep T.keep);replace HE2:=Hi (HE2.out.keep T.keep);replace HEO:=Hi (HEO.out.put T (by intro h;(try dsimp only at h);omega));replace B11:=Hi (T.rest _ _ zo B11.out);have hs_w33:=nle T.size;have hr_w33:=nle T.size.symm;clear T;replace b_B3:=bX3 B3;replace b_B6:=bX3 B6;replace b_B9:=bX3 B9;replace b_B10:=bX3 B10;replace b_B11:=bX3 B11;go_wp2;refine wp_loop_rounds 2 ?_;rw [rounds_succ];have cK1:=HP1.out.cell;have cK2:=HP2.out.cell;have lK1:=HP1.out.lt;have lK2:=HP2.out.lt
 go_wp2_with fail
 refine cM (sX _) fun x50 w50 hE G50=>?_
 refine mV8 hE ?_ HX B3 B6 LDp LUp HP1 HP2 HD1;clear HX B3 B6 LDp LUp HP1 HP2 HD1;intro HX B3 B6 LDp LUp HP1 HP2 HD1;refine mV8 hE ?_ HD2 HU1 HU2 B9 B10 HE1 HE2 HEO;clear HD2 HU1 HU2 B9 B10 HE1 HE2 HEO;intro HD2 HU1 HU2 B9 B10 HE1 HE2 HEO;replace B11:=mV hE B11;have hs_w50:=hE.size;replace b_B3:=bX3 B3;replace b_B6:=bX3 B6;replace b_B9:=bX3 B9;replace b_B10:=bX3 B10;replace b_B11:=bX3 B11;have gk:=G50.out;subst gk;clear G50 cK1 cK2 lK1 lK2
 go_upto_region 14 with fail
 refine nmA ?_;intro w51 hE B14 hz_w51 hr_w51;refine mV8 hE ?_ HX B3 B6 LDp LUp HP1 HP2 HD1;clear HX B3 B6 LDp LUp HP1 HP2 HD1;intro HX B3 B6 LDp LUp HP1 HP2 HD1;refine mV8 hE ?_ HD2 HU1 HU2 B9 B10 HE1 HE2 HEO;clear HD2 HU1 HU2 B9 B10 HE1 HE2 HEO;intro HD2 HU1 HU2 B9 B10 HE1 HE2 HEO;replace B11:=mV hE B11;have hs_w51:=hE.size;replace b_B3:=bX3 B3;replace b_B6:=bX3 B6;replace b_B9:=bX3 B9;replace b_B10:=bX3 B10;replace b_B11:=bX3 B11;replace b_B14:=bX3 B14;have cK2:=HP2.out.cell;have lK2:=HP2.out.lt
 go_wp2_with fail
 refine cM (lW (⟨ua,un,uc⟩,(⟨gn,ga,gl,gc,gb,gm,gd⟩,⟨fn,fa,fl,fc,fb,fm,fd⟩)) (beV nu de d) a b (S+S+S+1) S _ LUp.out.can ⟨HU1.out,HU2.out⟩ (wV _ _ _) ZBE.out.ln ZBE.out.fb.sz HBD.out.1.1 HBD.out.1.2.1 zo zo HBD.out.2.2.1) fun x62 w62 hE G62=>?_
 refine mV8 hE ?_ B14 HX B3 B6 LDp LUp HP1 HP2;clear B14 HX B3 B6 LDp LUp HP1 HP2;intro B14 HX B3 B6 LDp LUp HP1 HP2;refine mV8 hE ?_ HD1 HD2 HU1 HU2 B9 B10 HE1 HE2;clear HD1 HD2 HU1 HU2 B9 B10 HE1 HE2;intro HD1 HD2 HU1 HU2 B9 B10 HE1 HE2;refine mV2 hE ?_ HEO B11;clear HEO B11;intro HEO B11;have hs_w62:=hE.size;replace b_B3:=bX3 B3;replace b_B6:=bX3 B6;replace b_B9:=bX3 B9;replace b_B10:=bX3 B10;replace b_B11:=bX3 B11;replace b_B14:=bX3 B14;clear cK2 lK2;clear LDp;clear LUp;clear HP1;clear HP2;clear HD1;clear HD2;clear HU1;clear HU2;obtain ⟨r,hr⟩:∃ r,r=prV (beV nu de d) a b:=⟨_,rfl⟩;rw [←hr] at G62;have HV:=Hi hr;clear hr;obtain ⟨⟨⟨⟨pn',pa',pl',pc',pb',pm',pd'⟩,⟨qn',qa',ql',qc',qb',qm',qd'⟩⟩,⟨ya,yn,yc⟩⟩,e⟩:=x62;cases r with
 | none =>
  have g:e=false:=G62.out;subst g;clear G62
  go_upto_region 17 with fail
  refine nmA ?_;intro w63 hE B16 hz_w63 hr_w63;refine mV8 hE ?_ B14 HX B3 B6 B9 B10 HE1 HE2;clear B14 HX B3 B6 B9 B10 HE1 HE2;intro B14 HX B3 B6 B9 B10 HE1 HE2;refine mV2 hE ?_ HEO B11;clear HEO B11;intro HEO B11;have hs_w63:=hE.size;replace b_B3:=bX3 B3;replace b_B6:=bX3 B6;replace b_B9:=bX3 B9;replace b_B10:=bX3 B10;replace b_B11:=bX3 B11;replace b_B14:=bX3 B14;replace b_B16:=bX3 B16;go_wp2;refine uJ B6.out (by rfl) ?_;intro w64 T;replace HX:=Hi (T.ext HX.out zo);replace B3:=Hi (T.rest _ _ zo B3.out);replace B6:=Hi (T.bx);replace B9:=Hi (T.rest _ _ zo B9.out);replace B10:=Hi (T.rest _ _ zo B10.out);replace HE1:=Hi (HE1.out.keep T.keep);replace HE2:=Hi (HE2.out.keep T.keep);replace HEO:=Hi (HEO.out.put T (by intro h;(try dsimp only at h);omega));replace B11:=Hi (T.rest _ _ zo B11.out);replace B14:=Hi (T.rest _ _ zo B14.out);replace B16:=Hi (T.rest _ _ zo B16.out);have hs_w64:=nle T.size;have hr_w64:=nle T.size.symm;clear T;replace b_B3:=bX3 B3;replace b_B6:=bX3 B6;replace b_B9:=bX3 B9;replace b_B10:=bX3 B10;replace b_B11:=bX3 B11;replace b_B14:=bX3 B14;replace b_B16:=bX3 B16;exact nXa (v:=MpT (MpZ,22)) (by simp [results,Tryz.results9,go_sem,b_B6.1]) rfl ⟨(MpZ,22),rfl,HX.out,by rw [←HV.out];rfl⟩
 | some uq =>
  have g:e=true∧IvC w62 (⟨pn',pa',pl',pc',pb',pm',pd'⟩,⟨qn',qa',ql',qc',qb',qm',qd'⟩) a b∧iP w62 (w51.heap.size≤·) (SH.v ⟨ya,yn,yc⟩) yn uq:=G62.out;obtain ⟨rfl,gI,gO⟩:=g;have HF1:=Hi gI.1;have HF2:=Hi gI.2;have HFO:=Hi gO;clear gI gO G62
  go_upto_region 17 with fail
  refine nmA ?_;intro w63 hE B16 hz_w63 hr_w63;refine mV8 hE ?_ HX B3 B6 B9 B10 HE1 HE2 HEO;clear HX B3 B6 B9 B10 HE1 HE2 HEO;intro HX B3 B6 B9 B10 HE1 HE2 HEO;refine mV5 hE ?_ B11 B14 HF1 HF2 HFO;clear B11 B14 HF1 HF2 HFO;intro B11 B14 HF1 HF2 HFO;have hs_w63:=hE.size;replace b_B3:=bX3 B3;replace b_B6:=bX3 B6;replace b_B9:=bX3 B9;replace b_B10:=bX3 B10;replace b_B11:=bX3 B11;replace b_B14:=bX3 B14;replace b_B16:=bX3 B16
  go_upto_region 20 with (at_builtin;refine eD Al rfl (.tmp 69) (.tmp 71) 43 Tryz.underlying43 rfl (w63.heap.size≤·) (.slice none 0 0) [] ((zR,zR),⟨none,0,0⟩) #[.bool false,.slice none 0 0,.slice none 0 0,.bool false,.slice none 0 0,.slice none 0 0,.slice none 0 0] w63.heap.size rfl (lB.nil _ _) (heap_alloc_new _ _) rfl rfl dZ (fun k hk=>by rw [nXc] at hk;show w63.heap.size≤k;omega) ?_;intro s' y3 q0 q1 q2 q3;have hE:Ext w63 y3:=Ext.mods (Ext.alloc _ _) q2 (fun k h=>h);have b7:=hE.block B10.out;have c7:=ae b7;have f7:=af b7;have l7:=(nXb.1 b7).1)
  obtain ⟨M1,d1,rfl,hM1,hS1',hd1,hd1'⟩:=Ak q1;have hM1:w63.heap.size≤M1:=hM1;have HSA:=Hi hS1';have hM1b:=hS1'.lt;clear q0 q1 q2 q3 b7 c7 f7 l7 hS1';refine mV8 hE ?_ B16 HX B3 B6 B9 B10 HE1 HE2;clear B16 HX B3 B6 B9 B10 HE1 HE2;intro B16 HX B3 B6 B9 B10 HE1 HE2;refine mV6 hE ?_ HEO B11 B14 HF1 HF2 HFO;clear HEO B11 B14 HF1 HF2 HFO;intro HEO B11 B14 HF1 HF2 HFO;have hs_y3:=hE.size;replace b_B3:=bX3 B3;replace b_B6:=bX3 B6;replace b_B9:=bX3 B9;replace b_B10:=bX3 B10;replace b_B11:=bX3 B11;replace b_B14:=bX3 B14;replace b_B16:=bX3 B16;refine Dq B10.out (by rfl) ?_;intro w70 T;simp only [List.setIfInBounds_toArray,List.set_cons_zero,List.set_cons_succ] at T;replace HX:=Hi (T.ext HX.out zo);replace B3:=Hi (T.rest _ _ zo B3.out);replace B6:=Hi (T.rest _ _ zo B6.out);replace B9:=Hi (T.rest _ _ zo B9.out);replace B10:=Hi (T.bx);replace HE1:=Hi (HE1.out.keep T.keep);replace HE2:=Hi (HE2.out.keep T.keep);replace HEO:=Hi (HEO.out.put T (by intro h;(try dsimp only at h);omega));replace B11:=Hi (T.rest _ _ zo B11.out);replace B14:=Hi (T.rest _ _ zo B14.out);replace HF1:=Hi (HF1.out.keep T.keep);replace HF2:=Hi (HF2.out.keep T.keep);replace HFO:=Hi (HFO.out.put T (by intro h;(try dsimp only at h);omega));replace B16:=Hi (T.rest _ _ zo B16.out);replace HSA:=Hi (HSA.out.put T zo);have hs_w70:=nle T.size;have hr_w70:=nle T.size.symm;clear T;replace b_B3:=bX3 B3;replace b_B6:=bX3 B6;replace b_B9:=bX3 B9;replace b_B10:=bX3 B10;replace b_B11:=bX3 B11;replace b_B14:=bX3 B14;replace b_B16:=bX3 B16
  go_upto_region 21 with (at_builtin;refine eD Al rfl (.tmp 75) (.tmp 77) 43 Tryz.underlying43 rfl (w70.heap.size≤·) (.slice none 0 0) [] ((⟨pn',pa',pl',pc',pb',pm',pd'⟩,⟨qn',qa',ql',qc',qb',qm',qd'⟩),⟨ya,yn,yc⟩) #[.bool pn',.slice pa' pl' pc',.slice pb' pm' pd',.bool qn',.slice qa' ql' qc',.slice qb' qm' qd',.slice ya yn yc] w70.heap.size rfl (lB.nil _ _) (heap_alloc_new _ _) rfl rfl dZ (fun k hk=>by rw [nXc] at hk;show w70.heap.size≤k;omega) ?_;intro s' y3 q0 q1 q2 q3;have hE:Ext w70 y3:=Ext.mods (Ext.alloc _ _) q2 (fun k h=>h);have b7:=hE.block B10.out;have c7:=ae b7;have f7:=af b7;have l7:=(nXb.1 b7).1)
  obtain ⟨M2,d2,rfl,hM2,hS2',hd2,hd2'⟩:=Ak q1;have hM2:w70.heap.size≤M2:=hM2;have HSB:=Hi hS2';have hM2b:=hS2'.lt;clear q0 q1 q2 q3 b7 c7 f7 l7 hS2';refine mV8 hE ?_ HX B3 B6 B9 B10 HE1 HE2 HEO;clear HX B3 B6 B9 B10 HE1 HE2 HEO;intro HX B3 B6 B9 B10 HE1 HE2 HEO;refine mV7 hE ?_ B11 B14 HF1 HF2 HFO B16 HSA;clear B11 B14 HF1 HF2 HFO B16 HSA;intro B11 B14 HF1 HF2 HFO B16 HSA;have hs_y3:=hE.size;replace b_B3:=bX3 B3;replace b_B6:=bX3 B6;replace b_B9:=bX3 B9;replace b_B10:=bX3 B10;replace b_B11:=bX3 B11;replace b_B14:=bX3 B14;replace b_B16:=bX3 B16;refine Dq B10.out (by rfl) ?_;intro w71 T;simp only [List.setIfInBounds_toArray,List.set_cons_zero,List.set_cons_succ] at T;replace HX:=Hi (T.ext HX.out zo);replace B3:=Hi (T.rest _ _ zo B3.out);replace B6:=Hi (T.rest _ _ zo B6.out);replace B9:=Hi (T.rest _ _ zo B9.out);replace B10:=Hi (T.bx);replace HE1:=Hi (HE1.out.keep T.keep);replace HE2:=Hi (HE2.out.keep T.keep);replace HEO:=Hi (HEO.out.put T (by intro h;(try dsimp only at h);omega));replace B11:=Hi (T.rest _ _ zo B11.out);replace B14:=Hi (T.rest _ _ zo B14.out);replace HF1:=Hi (HF1.out.keep T.keep);replace HF2:=Hi (HF2.out.keep T.keep);replace HFO:=Hi (HFO.out.put T (by intro h;(try dsimp only at h);omega));replace B16:=Hi (T.rest _ _ zo B16.out);replace HSA:=Hi (HSA.out.put T zo);replace HSB:=Hi (HSB.out.put T zo);have hs_w71:=nle T.size;have hr_w71:=nle T.size.symm;clear T;replace b_B3:=bX3 B3;replace b_B6:=bX3 B6;replace b_B9:=bX3 B9;replace b_B10:=bX3 B10;replace b_B11:=bX3 B11;replace b_B14:=bX3 B14;replace b_B16:=bX3 B16;go_wp2;rw [rounds_succ];go_wp2;refine uJ B6.out (by rfl) ?_;intro w72 T;replace HX:=Hi (T.ext HX.out zo);replace B3:=Hi (T.rest _ _ zo B3.out);replace B6:=Hi (T.bx);replace B9:=Hi (T.rest _ _ zo B9.out);replace B10:=Hi (T.rest _ _ zo B10.out);replace HE1:=Hi (HE1.out.keep T.keep);replace HE2:=Hi (HE2.out.keep T.keep);replace HEO:=Hi (HEO.out.put T (by intro h;(try dsimp only at h);omega));replace B11:=Hi (T.rest _ _ zo B11.out);replace B14:=Hi (T.rest _ _ zo B14.out);replace HF1:=Hi (HF1.out.keep T.keep);replace HF2:=Hi (HF2.out.keep T.keep);replace HFO:=Hi (HFO.out.put T (by intro h;(try dsimp only at h);omega));replace B16:=Hi (T.rest _ _ zo B16.out);replace HSA:=Hi (HSA.out.put T zo);replace HSB:=Hi (HSB.out.put T zo);have hs_w72:=nle T.size;have hr_w72:=nle T.size.symm;clear T;replace b_B3:=bX3 B3;replace b_B6:=bX3 B6;replace b_B9:=bX3 B9;replace b_B10:=bX3 B10;replace b_B11:=bX3 B11;replace b_B14:=bX3 B14;replace b_B16:=bX3 B16;have HM:Hid (MpP w72 ⟨((⟨ln,la,ll,lc,lb,lm,ld⟩,⟨hn,ha,hl,hc,hb,hm,hd⟩),⟨xa,xn,xc⟩),M1,d1,M2,d2,((⟨pn',pa',pl',pc',pb',pm',pd'⟩,⟨qn',qa',ql',qc',qb',qm',qd'⟩),⟨ya,yn,yc⟩)⟩ a b dq uq):=Hi ⟨⟨HE1.out,HE2.out⟩,(iP.can HEO.out).2,⟨HF1.out,HF2.out⟩,(iP.can HFO.out).2,HSA.out,HSB.out,⟨hd1,hd1'⟩,⟨hd2,hd2'⟩⟩;exact nXa (v:=MpT (MpV ⟨((⟨ln,la,ll,lc,lb,lm,ld⟩,⟨hn,ha,hl,hc,hb,hm,hd⟩),⟨xa,xn,xc⟩),M1,d1,M2,d2,((⟨pn',pa',pl',pc',pb',pm',pd'⟩,⟨qn',qa',ql',qc',qb',qm',qd'⟩),⟨ya,yn,yc⟩)⟩,0)) (by simp [results,Tryz.results9,go_sem,b_B6.1]) rfl ⟨(MpV ⟨((⟨ln,la,ll,lc,lb,lm,ld⟩,⟨hn,ha,hl,hc,hb,hm,hd⟩),⟨xa,xn,xc⟩),M1,d1,M2,d2,((⟨pn',pa',pl',pc',pb',pm',pd'⟩,⟨qn',qa',ql',qc',qb',qm',qd'⟩),⟨ya,yn,yc⟩)⟩,0),rfl,HX.out,by rw [←HV.out];exact ⟨rfl,_,rfl,HM.out⟩⟩
def sr(b n:Nat)(ao:Option Addr)(c:Nat)(N:Int)(w:World)(e:Ending)(w':World):Prop :=
 ∃ (v at':Int) (w1:World),e=.returned (.int .i64 v)∧0≤v∧v<N∧0≤at'∧at'≤n∧cT w b 79 #[.slice ao n c,.int .i64 at'] w1∧Ext w1 w'
theorem cT.same{w w':World}{b:Nat}{T:TypeId}{cs:Array Value}(h:w.heap[b]?=some (.cells cs T (0,0))):cT w b T cs w :=
 ⟨dJ.refl w,h,fun _ _ _ h=>h,rfl,Below.refl _ _⟩
theorem cT.drewN{w w2:World}{b n:Nat}{T:TypeId}{cs:Array Value}(h:cT (w.drewN n) b T cs w2)(hb:b≤w.heap.size):cT w b T cs w2 :=
 ⟨dJ.trans (br (Ext.drewN w n)) h.keep,h.bx,h.rest,h.size,Below.trans (Below.mono (Ext.drewN w n) hb) h.below⟩
theorem BA{w1:World}{b:Nat}{T:TypeId}{c0 c1 v1:Value}{F:World→Prop}(hb:w1.heap[b]?=some (.cells #[c0,c1] T (0,0)))(hn:#[c0,c1].toList.all dL=true)(h:∀ w2,cT w1 b T #[c0,v1] w2→F w2):F (w1.setCell ⟨b,1,none⟩ v1) :=
 h _ (cT.of (nXb.1 hb).1 (ai hb hn) (aL.setCell w1 ⟨b,1,none⟩ v1) (by simp [World.setCell]) (ax hb 1 v1))
theorem yv(b n c:Nat)(ao:Option Addr)(xs:List Int)(at' N:Int)(w:World)(hB:w.heap[b]?=some (.cells #[.slice ao n c,.int .i64 at'] 79 (0,0)))(h:bW w ao xs)(hr:InR xs)(hl:xs.length=n)(hm:n≤9223372036854775807)(hc:n≤c)(hcm:c≤9223372036854775807)
 (hsep:xs≠[]→∀ p,ao=some p→p.block≠b)(h0:0≤at')(h1:at'≤n)(hN:0<N)(hN2:N≤9223372036854775807) :
  Calls Tryz.prog 34 #[ptr b,.int .i64 N] w (sr b n ao c N w):=by
 obtain ⟨k,rfl⟩:∃ k:Nat,at'=(k:Nat):=⟨at'.toNat,zo⟩;have HX:=Hi (Ext.refl w);have BT:=Hi hB;have H:=Hi h;have hbl:b<w.heap.size:=(nXb.1 hB).1;clear hB h;simp only [ptr];go_enter Tryz.func34,Tryz.ntmps34;replace b_BT:=bX3 BT;by_cases hk:k=n
 ·subst hk
  go_upto_region 1 with fail
  go_quiet (fail)
  go_wp2
  go_ret
  exact ⟨0,(k:Int),w,rfl,zo,hN,zo,zo,cT.same (w':=w) BT.out,Ext.drewN w _⟩
 ·have hkn:(k:Int)<n:=zo;have hne:xs≠[]:=by intro h;rw [h] at hl;simp at hl;omega
  obtain ⟨bx,off,hao,hcell⟩:=H.out.at (k:=k) zo;have hbx:bx≠b:=hsep hne _ hao;obtain ⟨x,hx⟩:∃ x,x=xs.getD k 0:=⟨_,rfl⟩;have hxr:-9223372036854775808≤x∧x≤9223372036854775807:=by
   refine hr x ?_;rw [hx,show xs.getD k 0=xs[k]'zo by simp [show k<xs.length by omega]];exact List.getElem_mem _
  obtain ⟨hx1,hx2⟩:=hxr;rw [←hx] at hcell;subst hao;have hble:b≤w.heap.size:=zo;clear hx hsep hr H hne
  go_upto_region 1 with fail
  go_quiet (fail)
  go_upto_region 4 with fail
  refine BA BT.out rfl ?_;intro w2 T;have T0:=Hi T;replace hcell:=T.cell hbx hcell;have hbl2:bx<w2.heap.size:=nXq _ _ hcell;clear b_BT hbl;replace BT:=Hi T.bx;clear T;have E2:=Hi (Ext.refl w2);replace b_BT:=bX3 BT;refine ah 13 (fun opIx=>match opIx with
   | 12=>sU (.int .i64 (x % N))
   | _=>.quiet) (fun _=>[]) kZ kZ (fun w0 he0 hz0 hc0 hf0=>?_)
  replace he0:=Hi he0;simp only [pT]
  repeat (first|(refine wpq fun K h=>?_;go_big_quiet_op;refine h _ ?_;clear h K)|(refine jH rfl rfl rfl rfl ?_;simp only [pS]))
  refine wps he0 (fun w1 hW hG=>?_) fun x12=>?_
  ·exact spc [.int .i64 x,.int .i64 N] Tryz.func16 (mZ x N _ hx1 hx2 hN hN2)
  simp only [pS]
  repeat (first|(refine wpq fun K h=>?_;go_big_quiet_op;refine h _ ?_;clear h K)|(refine jH rfl rfl rfl rfl ?_;simp only [pS]))
  refine aq ?_;intro w3 hI;have hE:=he0.out.trans hI.ext;clear hI he0 hz0 hc0 hf0;refine mV2 hE ?_ BT E2;clear BT E2;intro BT E2;have hs_w3:=hE.size;replace b_BT:=bX3 BT;simp only [pD];have hm1:=Int.emod_nonneg x (show N≠0 by omega);have hm2:=Int.emod_lt_of_pos x hN;go_wp2
  go_ret
  exact ⟨x % N,(k:Int)+1,w2,rfl,hm1,hm2,zo,zo,T0.out.drewN hble,E2.out⟩
theorem Et{w:World}{x:BdH}{a b c d:Rat}(h:fS w x a b c d) :
  (∀ k,k<1*4→RAt (w.alloc (.cells #[.bool x.lo.neg,.slice x.lo.a x.lo.n x.lo.c,.slice x.lo.b x.lo.m x.lo.d,.bool x.hi.neg,.slice x.hi.a x.hi.n x.hi.c,.slice x.hi.b x.hi.m x.hi.d,.bool x.mn.neg,.slice x.mn.a x.mn.n x.mn.c,.slice x.mn.b x.mn.m x.mn.d,.bool x.mx.neg,.slice x.mx.a x.mx.n x.mx.c,.slice x.mx.b x.mx.m x.mx.d] 51)) w.heap.size (0+k*3) (x.l.getD k default)) ∧
   dk aA (w.alloc (.cells #[.bool x.lo.neg,.slice x.lo.a x.lo.n x.lo.c,.slice x.lo.b x.lo.m x.lo.d,.bool x.hi.neg,.slice x.hi.a x.hi.n x.hi.c,.slice x.hi.b x.hi.m x.hi.d,.bool x.mn.neg,.slice x.mn.a x.mn.n x.mn.c,.slice x.mn.b x.mn.m x.mn.d,.bool x.mx.neg,.slice x.mx.a x.mx.n x.mx.c,.slice x.mx.b x.mx.m x.mx.d] 51)) x.l [a,b,c,d]:=by
 obtain ⟨w',hw'⟩:∃ w',w'=w.alloc (.cells #[.bool x.lo.neg,.slice x.lo.a x.lo.n x.lo.c,.slice x.lo.b x.lo.m x.lo.d,.bool x.hi.neg,.slice x.hi.a x.hi.n x.hi.c,.slice x.hi.b x.hi.m x.hi.d,.bool x.mn.neg,.slice x.mn.a x.mn.n x.mn.c,.slice x.mn.b x.mn.m x.mn.d,.bool x.mx.neg,.slice x.mx.a x.mx.n x.mx.c,.slice x.mx.b x.mx.m x.mx.d] 51):=⟨_,rfl⟩;have he:Ext w w':=by rw [hw'];exact Ext.alloc _ _
 have hb:BBk w' w.heap.size x.l #[]:=by
  unfold BBk;rw [hw',heap_alloc_new];rfl
 rw [←hw'];exact ⟨fun k hk=>by rw [Nat.zero_add];exact hb.at hk,(h.ext he).vals⟩
def MkB(a b c d:Rat):Prop:=(∃ i j:Int,a=loV (gE i) (gE j)∧b=hiV (gE i) (gE j))∧∃ l m:Nat,l<9∧m<40∧c=((l:Int):Rat) / ((4:Int):Rat)∧d=(((l:Int)+(m:Int):Int):Rat) / ((4:Int):Rat)
def tx(n:Nat)(qs:List Rat):Prop:=∀ k,k<n→MkB (qs.getD (4*k) 0) (qs.getD (4*k+1) 0) (qs.getD (4*k+2) 0) (qs.getD (4*k+3) 0)
theorem nF{qs ps:List Rat}{k:Nat}(h:k<qs.length):(qs++ps).getD k 0=qs.getD k 0:=by
 rw [nXd,List.getElem?_append_left h,←nXd]
theorem nE{qs ps:List Rat}{k:Nat}(h:qs.length≤k):(qs++ps).getD k 0=ps.getD (k-qs.length) 0:=by
 rw [nXd,List.getElem?_append_right h,←nXd]
theorem tx.snoc{n:Nat}{qs:List Rat}{a b c d:Rat}(h:tx n qs)(hl:qs.length=n*4)(hb:MkB a b c d):tx (n+1) (qs++[a,b,c,d]):=by
 intro k hk;by_cases hlt:k<n
 ·rw [nF zo,nF zo,nF zo,nF zo];exact h k hlt
 ·obtain rfl:k=n:=by omega
  rw [nE zo,nE zo,nE zo,nE zo,hl,show 4*k-k*4=0 by omega,show 4*k+1-k*4=1 by omega,show 4*k+2-k*4=2 by omega,show 4*k+3-k*4=3 by omega];exact hb
def FO(w:World)(B:Nat)(x:SH)(qs:List Rat):Prop:=iQ w (B≤·) x.v x.n qs∧1≤x.n∧x.n≤3∧tx x.n qs
theorem wW(ao:Option Addr)(cap:Nat)(xs:List Int)(w:World)(h:bW w ao xs)(hr:InR xs)(hl:xs.length≤9223372036854775807)(hc:xs.length≤cap)(hcm:cap≤9223372036854775807) :
  ar 7 [.slice ao xs.length cap] w (fun x:SH×List Rat=>x.1.v) (fun x w'=>FO w' w.heap.size x.1 x.2):=by
 have HX:=Hi (Ext.refl w);obtain ⟨n,hn⟩:∃ n,n=xs.length:=⟨_,rfl⟩;have HI:Hid (∀ b w1 (at' N:Int),w.heap.size≤b→Ext w w1→w1.heap[b]?=some (.cells #[.slice ao n cap,.int .i64 at'] 79 (0,0))→0≤at'→at'≤n→0<N→N≤9223372036854775807 →
   Calls Tryz.prog 34 #[ptr b,.int .i64 N] w1 (sr b n ao cap N w1)):=Hi (fun b w1 at' N hb he hB h0 h1 hN hN2=>yv b n cap ao xs at' N w1 hB (h.ext he) hr hn.symm zo zo hcm (fun hne p hp=>by have:=h.lt hne p hp;omega) h0 h1 hN hN2)
 rw [←hn] at hl hc ⊢;clear hn h hr;unfold ar;go_enter Tryz.func7,Tryz.ntmps7
 go_upto_region 2 with fail
 refine nmA ?_;intro w1 hE BT hz_w1 hr_w1;replace HX:=hE.tr HX;have hs_w1:=hE.size;replace b_BT:=bX3 BT;obtain ⟨bt,hbt⟩:∃ bt,bt=w.heap.size:=⟨_,rfl⟩;have hbtw:w.heap.size≤bt:=zo;have hbt1:bt<w1.heap.size:=zo;rw [←hbt] at BT ⊢;have hbtw2:bt≤w.heap.size:=zo;clear hbt b_BT
 go_wp2_with fail
 refine Calls.mono (HI.out bt w1 0 3 hbtw HX.out BT.out zo zo dZ dZ) ?_;rintro e w11 ⟨v11,at11,w110,rfl,hv1,hv2,ha1,ha2,T,hE⟩;replace HX:=Hi (T.ext HX.out zo);replace BT:=Hi (T.bx);have hs_w110:=nle T.size;have hr_w110:=nle T.size.symm;clear T;replace b_BT:=bX3 BT;refine mV2 hE ?_ HX BT;clear HX BT;intro HX BT;have hs_w11:=hE.size;replace b_BT:=bX3 BT;obtain ⟨c0,rfl⟩:∃ m:Nat,v11=(m:Nat):=⟨v11.toNat,zo⟩;go_wp2
 go_loopg [4,5] (c0+1) (fun g u z wr=>∃ (x:SH) (qs:List Rat) (at' v:Int),u=x.v∧z=.int .i64 v∧v=(g:Int)∧wr.heap[bt]?=some (.cells #[.slice ao n cap,.int .i64 at'] 79 (0,0))∧0≤at'∧at'≤n∧Ext w wr∧iQ wr (bt < ·) x.v x.n qs∧x.n+g=c0+1∧tx x.n qs)
 case atStart=>exact ⟨⟨none,0,0⟩,[],at11,1+(c0:Int),rfl,rfl,zo,BT.out,ha1,ha2,HX.out,iQ.nil _ _,Nat.zero_add _,fun k hk=>absurd hk (Nat.not_lt_zero _)⟩
 case round =>
  obtain ⟨⟨xa,xn,xc⟩,qs,at',v,rfl,rfl,hvg,g1,g2,g3,g4,g5,g6,g7⟩:=hrel;clear HX BT;have HX:=Hi g4;have BT:=Hi g1;have HO:=Hi g5;have HM:=Hi g7;clear g1 g4 g5 g7 b_BT;simp only [SH.v] at HO ⊢;simp only at g6;replace b_BT:=bX3 BT;have hszw:=HX.out.size;by_cases hg0:gk=0
  case pos =>
   subst hg0;have hvz:¬ (0:Int)<v:=zo;go_wp2;exact nXa (v:=SH.v ⟨xa,xn,xc⟩) (by simp [results,Tryz.results7,go_sem]) rfl ⟨(⟨xa,xn,xc⟩,qs),rfl,HX.out,HO.out.mono (fun k _ h=>by omega),by simp only;omega,by simp only;omega,HM.out⟩
  have hvp:(0:Int)<v:=zo
  go_wp2_with fail
  refine Calls.mono (HI.out bt wr at' 9 hbtw HX.out BT.out g2 g3 dZ dZ) ?_;rintro e w18 ⟨v18,at18,w180,rfl,hv3,hv4,ha3,ha4,T,hE⟩;replace HX:=Hi (T.ext HX.out zo);replace BT:=Hi (T.bx);replace HO:=Hi (HO.out.put T (by intro h;(try dsimp only at h);omega));have hs_w180:=nle T.size;have hr_w180:=nle T.size.symm;clear T;replace b_BT:=bX3 BT;refine mV3 hE ?_ HX BT HO;clear HX BT HO;intro HX BT HO;have hs_w18:=hE.size;replace b_BT:=bX3 BT;obtain ⟨l,rfl⟩:∃ m:Nat,v18=(m:Nat):=⟨v18.toNat,zo⟩
  go_wp2_with fail
  refine Calls.mono (HI.out bt w18 at18 25 hbtw HX.out BT.out ha3 ha4 dZ dZ) ?_;rintro e w21 ⟨v21,at21,w210,rfl,hv5,hv6,ha5,ha6,T,hE⟩;replace HX:=Hi (T.ext HX.out zo);replace BT:=Hi (T.bx);replace HO:=Hi (HO.out.put T (by intro h;(try dsimp only at h);omega));have hs_w210:=nle T.size;have hr_w210:=nle T.size.symm;clear T;replace b_BT:=bX3 BT;refine mV3 hE ?_ HX BT HO;clear HX BT HO;intro HX BT HO;have hs_w21:=hE.size;replace b_BT:=bX3 BT
  go_wp2_with fail
  refine Calls.mono (HI.out bt w21 at21 25 hbtw HX.out BT.out ha5 ha6 dZ dZ) ?_;rintro e w23 ⟨v23,at23,w230,rfl,hv7,hv8,ha7,ha8,T,hE⟩;replace HX:=Hi (T.ext HX.out zo);replace BT:=Hi (T.bx);replace HO:=Hi (HO.out.put T (by intro h;(try dsimp only at h);omega));have hs_w230:=nle T.size;have hr_w230:=nle T.size.symm;clear T;replace b_BT:=bX3 BT;refine mV3 hE ?_ HX BT HO;clear HX BT HO;intro HX BT HO;have hs_w23:=hE.size;replace b_BT:=bX3 BT
  go_wp2_with fail
  refine cM (Dl v21 v23 _ zo zo zo zo) fun x24 w24 hE G24=>?_
  refine mV3 hE ?_ HX BT HO;clear HX BT HO;intro HX BT HO;have hs_w24:=hE.size;replace b_BT:=bX3 BT;obtain ⟨⟨sn,sa,sl,sc,sb,sm,sd⟩,⟨tn,ta,tl,tc,tb,tm,td⟩⟩:=x24;have HS:=Hi G24.out.1;have HT:=Hi G24.out.2;clear G24;simp only at HS HT
  go_wp2_with fail
  refine cM (cZ (l:Int) 4 _ zo zo dZ dZ) fun x26 w26 hE G26=>?_
  refine mV5 hE ?_ HX BT HO HS HT;clear HX BT HO HS HT;intro HX BT HO HS HT;have hs_w26:=hE.size;replace b_BT:=bX3 BT;obtain ⟨un,ua,ul,uc,ub,um,ud⟩:=x26
  go_wp2_with fail
  refine Calls.mono (HI.out bt w26 at23 40 hbtw HX.out BT.out ha7 ha8 dZ dZ) ?_;rintro e w29 ⟨v29,at29,w290,rfl,hv9,hv10,ha9,ha10,T,hE⟩;replace HX:=Hi (T.ext HX.out zo);replace BT:=Hi (T.bx);replace HO:=Hi (HO.out.put T (by intro h;(try dsimp only at h);omega));replace HS:=Hi (HS.out.keep T.keep);replace HT:=Hi (HT.out.keep T.keep);replace G26:=Hi (G26.out.keep T.keep);have hs_w290:=nle T.size;have hr_w290:=nle T.size.symm;clear T;replace b_BT:=bX3 BT;refine mV6 hE ?_ HX BT HO HS HT G26;clear HX BT HO HS HT G26;intro HX BT HO HS HT G26;have hs_w29:=hE.size;replace b_BT:=bX3 BT;obtain ⟨m,rfl⟩:∃ m:Nat,v29=(m:Nat):=⟨v29.toNat,zo⟩
  go_wp2_with fail
  refine cM (cZ ((l:Int)+(m:Int)) 4 _ zo zo dZ dZ) fun x31 w31 hE G31=>?_
  refine mV6 hE ?_ HX BT HO HS HT G26;clear HX BT HO HS HT G26;intro HX BT HO HS HT G26;have hs_w31:=hE.size;replace b_BT:=bX3 BT;obtain ⟨vn,va,vl,vc,vb,vm,vd⟩:=x31;have HB:Hid (MkB (loV (gE v21) (gE v23)) (hiV (gE v21) (gE v23)) (((l:Int):Rat) / ((4:Int):Rat)) ((((l:Int)+(m:Int):Int):Rat) / ((4:Int):Rat))):=Hi ⟨⟨v21,v23,rfl,rfl⟩,l,m,zo,zo,rfl,rfl⟩;have HN:=Hi (Et (w:=w31) (x:=⟨⟨sn,sa,sl,sc,sb,sm,sd⟩,⟨tn,ta,tl,tc,tb,tm,td⟩,⟨un,ua,ul,uc,ub,um,ud⟩,⟨vn,va,vl,vc,vb,vm,vd⟩⟩) ⟨HS.out,HT.out,G26.out,G31.out⟩);have hql:=HO.out.len
  go_wp2_with (at_builtin;(refine fT rfl (.tmp 19) (.tmp 33) 28 Tryz.underlying28 rfl (bt < ·) _ xn qs w31.heap.size 0 1 1 _ _ rfl (HO.out.ext (Ext.alloc _ _)) rfl rfl dZ HN.out.1 HN.out.2 zo dZ (fun k hk=>by show bt<k;rw [nXc] at hk;omega) ?_);intro s' y3 q1 q2 q3)
  have HX3:Hid (Ext w y3):=Hi (Ext.mods (HX.out.trans (Ext.alloc _ _)) q2 (fun k h=>by show w.heap.size≤k;have h:bt<k:=h;omega));have HO3:=Hi q1;have BT3:=Hi (q2.blk (fun h=>Nat.lt_irrefl _ h) ((Ext.alloc _ _).block BT.out));clear q1 q2 q3;go_wp2
  go_roundg (gk-1)
  case measure=>omega
  case rel =>
   have hn':s'.n=xn+1:=HO3.out.can.1;exact ⟨s',_,at29,v-1,rfl,by go_num,zo,BT3.out,ha9,ha10,HX3.out,by rw [hn'];exact HO3.out,zo,by rw [hn'];exact HM.out.snoc hql HB.out⟩
theorem tL(w:World):ar 42 [] w IvV (fun x w'=>aA w' x.1 ((-1:Int):Rat)∧aA w' x.2 ((1:Int):Rat)):=by
 have HX:=Hi (Ext.refl w);unfold ar;go_enter Tryz.func42,Tryz.ntmps42
 go_upto_region 1 with fail
 refine nmA ?_;intro w0 hE B0 hz_w0 hr_w0;replace HX:=hE.tr HX;have hs_w0:=hE.size;replace b_B0:=bX3 B0
 go_wp2_with fail
 refine cM (dR (-1) _ dZ dZ) fun x1 w1 hE G1=>?_
 refine mV2 hE ?_ B0 HX;clear B0 HX;intro B0 HX;have hs_w1:=hE.size;replace b_B0:=bX3 B0
 go_wp2_with fail
 refine cM (dR 1 _ dZ dZ) fun x2 w2 hE G2=>?_
 refine mV3 hE ?_ G1 B0 HX;clear G1 B0 HX;intro G1 B0 HX;have hs_w2:=hE.size;replace b_B0:=bX3 B0
 go_wp2_with fail
 refine cM (kT x1 x2 _ _ _ (G1.out.raw (Sz.int dZ) dZ) (G2.out.raw (Sz.int dZ) dZ)) fun x3 w3 hE G3=>?_
 refine mV4 hE ?_ G2 G1 B0 HX;clear G2 G1 B0 HX;intro G2 G1 B0 HX;have hs_w3:=hE.size;replace b_B0:=bX3 B0;have e1:loV ((-1:Int):Rat) ((1:Int):Rat)=((-1:Int):Rat):=by decide +kernel
 have e2:hiV ((-1:Int):Rat) ((1:Int):Rat)=((1:Int):Rat):=by decide +kernel
 rw [e1,e2] at G3;obtain ⟨⟨ln,la,ll,lc,lb,lm,ld⟩,⟨hn,ha,hl,hc,hb,hm,hd⟩⟩:=x3;have HL:=Hi G3.out.1;have HH:=Hi G3.out.2;clear G3 e1 e2;go_wp2;refine dC (F:=fun W=>bodyPost Tryz.prog Tryz.f42 (A1 IvV (fun x w'=>aA w' x.fst ((-1:Int):Rat)∧aA w' x.snd ((1:Int):Rat)) w) Exit.ret _ W) B0.out rfl ?_;intro w10 T;replace HX:=Hi (T.ext HX.out zo);replace B0:=Hi (T.bx);replace G1:=Hi (G1.out.keep T.keep);replace G2:=Hi (G2.out.keep T.keep);replace HL:=Hi (HL.out.keep T.keep);replace HH:=Hi (HH.out.keep T.keep);have hs_w10:=nle T.size;have hr_w10:=nle T.size.symm;clear T;replace b_B0:=bX3 B0;exact nXa (v:=IvV (⟨ln,la,ll,lc,lb,lm,ld⟩,⟨hn,ha,hl,hc,hb,hm,hd⟩)) (by simp [results,Tryz.results42,go_sem,b_B0.1]) rfl ⟨(⟨ln,la,ll,lc,lb,lm,ld⟩,⟨hn,ha,hl,hc,hb,hm,hd⟩),rfl,HX.out,HL.out,HH.out⟩
def amN:List Rat:=[((0:Int):Rat),((0:Int):Rat),((1:Int):Rat)]
def amD:List Rat:=[((1:Int):Rat)]
def amB(m:Int):List Rat:=[((-1:Int):Rat),((1:Int):Rat),((0:Int):Rat),(m:Rat)]
theorem Ey{l:List Rat}(h:l.all (fun q=>decide (q.num.natAbs<W32) && decide (q.den<W32))=true)(hl:l.length≤3):MkZ 5 l:=⟨(FrB.of (k:=1) (n:=3) (szB h) hl).mono dZ,zo⟩
theorem zY(m:Int)(h:m=1∨m=2):jo 5 1 amN amD (amB m) where
 zn:=Ey (by decide +kernel) dZ
 zd:=Ey (by decide +kernel) dZ
 td:=by decide +kernel
 d0:=by decide
 bd:=by
  intro k hk;obtain rfl:k=0:=by omega
  have z:∀ n:Int,n.natAbs<W32→Sz 5 (n:Rat):=fun n h=>(Sz.int h).mono dZ
  rcases h with rfl|rfl
  ·exact ⟨⟨z (-1) dZ,z 1 dZ,z 0 dZ,z 1 dZ⟩,by decide +kernel,by decide +kernel,by decide +kernel,by decide +kernel,by decide +kernel⟩
  ·exact ⟨⟨z (-1) dZ,z 1 dZ,z 0 dZ,z 2 dZ⟩,by decide +kernel,by decide +kernel,by decide +kernel,by decide +kernel,by decide +kernel⟩
 n1:=by decide
 n8:=by decide
 s1:=by decide
 s6:=by decide
theorem zZ:ng amN amD (amB 1) 1=true:=by decide +kernel
theorem FN:prV amD ((-1:Int):Rat) ((1:Int):Rat)=some [((-1:Int):Rat),((1:Int):Rat)]:=by decide +kernel
theorem FB:prV (beV amN amD ((1:Int):Rat)) ((-1:Int):Rat) ((1:Int):Rat)=none:=by decide +kernel
theorem FA:∃ uq,prV (beV amN amD ((2:Int):Rat)) ((-1:Int):Rat) ((1:Int):Rat)=some uq∧SzL 5 uq∧ckE (beV amN amD ((2:Int):Rat)) ((-1:Int):Rat) ((1:Int):Rat) (tps uq)=0∧uq.length≤100000:=by
 cases h:prV (beV amN amD ((2:Int):Rat)) ((-1:Int):Rat) ((1:Int):Rat) with
 | none=>exact absurd h (by decide +kernel)
 | some uq =>
  have h1:((prV (beV amN amD ((2:Int):Rat)) ((-1:Int):Rat) ((1:Int):Rat)).map (fun l=>l.all (fun q=>decide (q.num.natAbs<W32) && decide (q.den<W32))))=some true:=by decide +kernel
  have h2:((prV (beV amN amD ((2:Int):Rat)) ((-1:Int):Rat) ((1:Int):Rat)).map (fun l=>decide (ckE (beV amN amD ((2:Int):Rat)) ((-1:Int):Rat) ((1:Int):Rat) (tps l)=0∧l.length≤100000)))=some true:=by decide +kernel
  rw [h] at h1 h2;simp only [Option.map_some,Option.some.injEq,decide_eq_true_eq] at h1 h2;exact ⟨uq,rfl,(szB h1).mono dZ,h2.1,h2.2⟩
theorem FC:ckE amD ((-1:Int):Rat) ((1:Int):Rat) (tps [((-1:Int):Rat),((1:Int):Rat)])=0:=by decide +kernel
theorem wQ{w:World}{N:Nat}{x:BdH}{a b c d:Rat}(h:w.heap[N]?=some (.cells #[.bool x.lo.neg,.slice x.lo.a x.lo.n x.lo.c,.slice x.lo.b x.lo.m x.lo.d,.bool x.hi.neg,.slice x.hi.a x.hi.n x.hi.c,.slice x.hi.b x.hi.m x.hi.d,.bool x.mn.neg,.slice x.mn.a x.mn.n x.mn.c,.slice x.mn.b x.mn.m x.mn.d,.bool x.mx.neg,.slice x.mx.a x.mx.n x.mx.c,.slice x.mx.b x.mx.m x.mx.d] 51 (0,0)))(hb:fS w x a b c d):fq w ⟨some ⟨N,0,none⟩,1,1⟩ [a,b,c,d]:=by
 have hk:BBk w N x.l #[]:=by unfold BBk;rw [h];rfl
 exact ⟨x.l,⟨rfl,nXe _,show 1≤9223372036854775807 by decide,Or.inr ⟨N,0,rfl,fun k hk'=>by rw [Nat.zero_add];exact hk.at hk'⟩⟩,hb.vals⟩
theorem Dp{w1:World}{b:Nat}{T:TypeId}{c0 c1 c2 c3 c4 c5 c6 c7 c8 c9 c10 c11 v0 v1 v2:Value}{F:World→Prop}(hb:w1.heap[b]?=some (.cells #[c0,c1,c2,c3,c4,c5,c6,c7,c8,c9,c10,c11] T (0,0)))(hn:#[c0,c1,c2,c3,c4,c5,c6,c7,c8,c9,c10,c11].toList.all dL=true)(h:∀ w2,cT w1 b T #[c0,c1,c2,c3,c4,c5,c6,c7,c8,v0,v1,v2] w2→F w2) :
  F (((w1.setCell ⟨b,9,none⟩ v0).setCell ⟨b,10,none⟩ v1).setCell ⟨b,11,none⟩ v2):=by
 have e0:=ax hb 9 v0;simp only [List.setIfInBounds_toArray,List.set_cons_zero,List.set_cons_succ] at e0;have e1:=ax e0 10 v1;simp only [List.setIfInBounds_toArray,List.set_cons_zero,List.set_cons_succ] at e1;have e2:=ax e1 11 v2;simp only [List.setIfInBounds_toArray,List.set_cons_zero,List.set_cons_succ] at e2;exact h _ (cT.of (nXb.1 hb).1 (ai hb hn) (((aL.setCell w1 ⟨b,9,none⟩ v0).trans (aL.setCell _ ⟨b,10,none⟩ v1)).trans (aL.setCell _ ⟨b,11,none⟩ v2)) (by simp [World.setCell]) e2)
theorem qe(w:World):ar 11 [] w (fun _:Unit=>.bool true) (fun _ _=>True):=by
 have HX:=Hi (Ext.refl w);unfold ar;go_enter Tryz.func11,Tryz.ntmps11
 go_wp2_with fail
 refine cM (dR 0 _ dZ dZ) fun x9 w9 hE G9=>?_
 replace HX:=hE.tr HX;have hs_w9:=hE.size
 go_wp2_with fail
 refine cM (dR 0 _ dZ dZ) fun x10 w10 hE G10=>?_
 refine mV2 hE ?_ G9 HX;clear G9 HX;intro G9 HX;have hs_w10:=hE.size
 go_wp2_with fail
 refine cM (dR 1 _ dZ dZ) fun x11 w11 hE G11=>?_
 refine mV3 hE ?_ G10 G9 HX;clear G10 G9 HX;intro G10 G9 HX;have hs_w11:=hE.size;obtain ⟨an,aa,al,ac,ab,am,ad⟩:=x9;obtain ⟨bn,ba,bl,bc,bb,bm,bd⟩:=x10;obtain ⟨cn,ca,cl,cc,cb,cm,cd⟩:=x11
 go_wp2_with fail
 refine nmA (F:=fun W=>Calls _ _ _ W _) ?_;intro w12 hE BS hz_w12 hr_w12;refine mV4 hE ?_ G11 G10 G9 HX;clear G11 G10 G9 HX;intro G11 G10 G9 HX;have hs_w12:=hE.size;replace b_BS:=bX3 BS
 change Calls _ _ _ _ _
 have LN:=Hi (Eq BS.out G9.out G10.out G11.out).lin;refine cM (dR 1 _ dZ dZ) fun x13 w13 hE G13=>?_
 refine mV6 hE ?_ BS G11 G10 G9 HX LN;clear BS G11 G10 G9 HX LN;intro BS G11 G10 G9 HX LN;have hs_w13:=hE.size;replace b_BS:=bX3 BS;obtain ⟨dn,da,dl,dc,db,dm,dd⟩:=x13
 go_upto_region 2 with fail
 refine eX ?_;intro w14 hE BD B1 hz_w14 hr_w14;refine mV7 hE ?_ G13 BS G11 G10 G9 HX LN;clear G13 BS G11 G10 G9 HX LN;intro G13 BS G11 G10 G9 HX LN;have hs_w14:=hE.size;replace b_BS:=bX3 BS;replace b_BD:=bX3 BD;replace b_B1:=bX3 B1;have LD:=Hi (AT BD.out G13.out).lin;clear G9;clear G10;clear G11;clear G13
 go_wp2_with fail
 refine cM (tL _) fun x16 w16 hE G16=>?_
 refine mV6 hE ?_ BD B1 BS HX LN LD;clear BD B1 BS HX LN LD;intro BD B1 BS HX LN LD;have hs_w16:=hE.size;replace b_BS:=bX3 BS;replace b_BD:=bX3 BD;replace b_B1:=bX3 B1;obtain ⟨⟨sn,sa,sl,sc,sb,sm,sd⟩,⟨tn,ta,tl,tc,tb,tm,td⟩⟩:=x16;have HS:=Hi G16.out.1;have HT:=Hi G16.out.2;clear G16;simp only at HS HT
 go_wp2_with fail
 refine cM (dR 0 _ dZ dZ) fun x17 w17 hE G17=>?_
 refine mV8 hE ?_ BD B1 BS HX LN LD HS HT;clear BD B1 BS HX LN LD HS HT;intro BD B1 BS HX LN LD HS HT;have hs_w17:=hE.size;replace b_BS:=bX3 BS;replace b_BD:=bX3 BD;replace b_B1:=bX3 B1
 go_wp2_with fail
 refine cM (dR 1 _ dZ dZ) fun x18 w18 hE G18=>?_
 refine mV8 hE ?_ G17 BD B1 BS HX LN LD HS;clear G17 BD B1 BS HX LN LD HS;intro G17 BD B1 BS HX LN LD HS;replace HT:=mV hE HT;have hs_w18:=hE.size;replace b_BS:=bX3 BS;replace b_BD:=bX3 BD;replace b_B1:=bX3 B1;obtain ⟨un,ua,ul,uc,ub,um,ud⟩:=x17;obtain ⟨vn,va,vl,vc,vb,vm,vd⟩:=x18
 go_upto_region 3 with fail
 refine nmA ?_;intro w19 hE B2 hz_w19 hr_w19;refine mV8 hE ?_ G18 G17 BD B1 BS HX LN LD;clear G18 G17 BD B1 BS HX LN LD;intro G18 G17 BD B1 BS HX LN LD;refine mV2 hE ?_ HS HT;clear HS HT;intro HS HT;have hs_w19:=hE.size;replace b_BS:=bX3 BS;replace b_BD:=bX3 BD;replace b_B1:=bX3 B1;replace b_B2:=bX3 B2;have LB:Hid (fq w19 ⟨some ⟨w18.heap.size,0,none⟩,1,1⟩ (amB 1)):=Hi (wQ (x:=⟨⟨sn,sa,sl,sc,sb,sm,sd⟩,⟨tn,ta,tl,tc,tb,tm,td⟩,⟨un,ua,ul,uc,ub,um,ud⟩,⟨vn,va,vl,vc,vb,vm,vd⟩⟩) B2.out ⟨HS.out,HT.out,G17.out,G18.out⟩)
 go_wp2_with fail
 refine cM ((by have k:=jC (some ⟨w11.heap.size,0,none⟩) (some ⟨w13.heap.size,0,none⟩) (some ⟨w18.heap.size,0,none⟩) 3 3 1 1 1 1 amN amD (amB 1) 5 _ LN.out.can LD.out.can LB.out (zY 1 (Or.inl rfl));rw [zZ] at k;exact k)) fun x24 w24 hE _=>?_
 refine mV8 hE ?_ B2 G18 G17 BD B1 BS HX LN;clear B2 G18 G17 BD B1 BS HX LN;intro B2 G18 G17 BD B1 BS HX LN;refine mV4 hE ?_ LD HS HT LB;clear LD HS HT LB;intro LD HS HT LB;have hs_w24:=hE.size;replace b_BS:=bX3 BS;replace b_BD:=bX3 BD;replace b_B1:=bX3 B1;replace b_B2:=bX3 B2
 go_wp2_with fail
 refine cM (kO (some ⟨w11.heap.size,0,none⟩) (some ⟨w13.heap.size,0,none⟩) (some ⟨w18.heap.size,0,none⟩) 3 3 1 1 1 amN amD (amB 1) 5 ((-1:Int):Rat) ((1:Int):Rat) ((1:Int):Rat) _ _ LN.out.can LD.out.can LB.out (zY 1 (Or.inl rfl)) rfl FN) fun x30 w30 hE G30=>?_
 refine mV8 hE ?_ B2 G18 G17 BD B1 BS HX LN;clear B2 G18 G17 BD B1 BS HX LN;intro B2 G18 G17 BD B1 BS HX LN;refine mV4 hE ?_ LD HS HT LB;clear LD HS HT LB;intro LD HS HT LB;have hs_w30:=hE.size;replace b_BS:=bX3 BS;replace b_BD:=bX3 BD;replace b_B1:=bX3 B1;replace b_B2:=bX3 B2;rw [FB] at G30;obtain rfl:x30=(MpZ,22):=G30.out;clear G30;clear LB;clear G18
 go_upto_region 5 with fail
 refine nmA ?_;intro w31 hE B5 hz_w31 hr_w31;refine mV8 hE ?_ B2 G17 BD B1 BS HX LN LD;clear B2 G17 BD B1 BS HX LN LD;intro B2 G17 BD B1 BS HX LN LD;refine mV2 hE ?_ HS HT;clear HS HT;intro HS HT;have hs_w31:=hE.size;replace b_BS:=bX3 BS;replace b_BD:=bX3 BD;replace b_B1:=bX3 B1;replace b_B2:=bX3 B2;replace b_B5:=bX3 B5
 go_wp2_with fail
 refine cM (dR 2 _ dZ dZ) fun x34 w34 hE G34=>?_
 refine mV8 hE ?_ B5 B2 G17 BD B1 BS HX LN;clear B5 B2 G17 BD B1 BS HX LN;intro B5 B2 G17 BD B1 BS HX LN;refine mV3 hE ?_ LD HS HT;clear LD HS HT;intro LD HS HT;have hs_w34:=hE.size;replace b_BS:=bX3 BS;replace b_BD:=bX3 BD;replace b_B1:=bX3 B1;replace b_B2:=bX3 B2;replace b_B5:=bX3 B5;obtain ⟨qn,qa,ql,qc,qb,qm,qd⟩:=x34
 go_upto_region 6 with fail
 refine Dp B2.out (by rfl) ?_;intro w35 T;replace HX:=Hi (T.ext HX.out zo);replace BS:=Hi (T.rest _ _ zo BS.out);replace LN:=Hi (LN.out.put T zo);replace BD:=Hi (T.rest _ _ zo BD.out);replace B1:=Hi (T.rest _ _ zo B1.out);replace LD:=Hi (LD.out.put T zo);replace HS:=Hi (HS.out.keep T.keep);replace HT:=Hi (HT.out.keep T.keep);replace G17:=Hi (G17.out.keep T.keep);replace B2:=Hi (T.bx);replace B5:=Hi (T.rest _ _ zo B5.out);replace G34:=Hi (G34.out.keep T.keep);have hs_w35:=nle T.size;have hr_w35:=nle T.size.symm;clear T;replace b_BS:=bX3 BS;replace b_BD:=bX3 BD;replace b_B1:=bX3 B1;replace b_B2:=bX3 B2;replace b_B5:=bX3 B5;have LB:Hid (fq w35 ⟨some ⟨w18.heap.size,0,none⟩,1,1⟩ (amB 2)):=Hi (wQ (x:=⟨⟨sn,sa,sl,sc,sb,sm,sd⟩,⟨tn,ta,tl,tc,tb,tm,td⟩,⟨un,ua,ul,uc,ub,um,ud⟩,⟨qn,qa,ql,qc,qb,qm,qd⟩⟩) B2.out ⟨HS.out,HT.out,G17.out,G34.out⟩);obtain ⟨uq,hu1,hu2,hu3,hu4⟩:=FA;have HU:Hid (SzL 5 uq∧ckE (beV amN amD ((2:Int):Rat)) ((-1:Int):Rat) ((1:Int):Rat) (tps uq)=0∧uq.length≤100000):=Hi ⟨hu2,hu3,hu4⟩
 go_wp2_with fail
 refine cM (kO (some ⟨w11.heap.size,0,none⟩) (some ⟨w13.heap.size,0,none⟩) (some ⟨w18.heap.size,0,none⟩) 3 3 1 1 1 amN amD (amB 2) 5 ((-1:Int):Rat) ((1:Int):Rat) ((2:Int):Rat) _ _ LN.out.can LD.out.can LB.out (zY 2 (Or.inr rfl)) rfl FN) fun x40 w40 hE G40=>?_
 refine mV8 hE ?_ HX BS LN BD B1 LD HS HT;clear HX BS LN BD B1 LD HS HT;intro HX BS LN BD B1 LD HS HT;refine mV5 hE ?_ G17 B2 B5 G34 LB;clear G17 B2 B5 G34 LB;intro G17 B2 B5 G34 LB;have hs_w40:=hE.size;replace b_BS:=bX3 BS;replace b_BD:=bX3 BD;replace b_B1:=bX3 B1;replace b_B2:=bX3 B2;replace b_B5:=bX3 B5;rw [hu1] at G40;clear hu1 hu2 hu3 hu4;obtain ⟨x40,e40⟩:=x40;have g:e40=0∧∃ p:MpH,x40=MpV p∧MpP w40 p ((-1:Int):Rat) ((1:Int):Rat) [((-1:Int):Rat),((1:Int):Rat)] uq:=G40.out;obtain ⟨rfl,⟨⟨⟨⟨ln,la,ll,lc,lb,lm,ld'⟩,⟨hn',ha,hl,hc,hb,hm,hd'⟩⟩,⟨xa,xn,xc⟩⟩,M1,d1,M2,d2,p2⟩,rfl,gP⟩:=g;have HP:=Hi gP;clear G40 gP;simp only [MpV]
 go_upto_region 7 with fail
 refine nmA ?_;intro w42 hE B7 hz_w42 hr_w42;refine mV8 hE ?_ HX BS LN BD B1 LD HS HT;clear HX BS LN BD B1 LD HS HT;intro HX BS LN BD B1 LD HS HT;refine mV6 hE ?_ G17 B2 B5 G34 LB HP;clear G17 B2 B5 G34 LB HP;intro G17 B2 B5 G34 LB HP;have hs_w42:=hE.size;replace b_BS:=bX3 BS;replace b_BD:=bX3 BD;replace b_B1:=bX3 B1;replace b_B2:=bX3 B2;replace b_B5:=bX3 B5;replace b_B7:=bX3 B7
 go_wp2_with fail
 refine cM (pG (some ⟨w11.heap.size,0,none⟩) (some ⟨w13.heap.size,0,none⟩) (some ⟨w18.heap.size,0,none⟩) 3 3 1 1 1 amN amD (amB 2) 5 5 ((-1:Int):Rat) ((1:Int):Rat) ((2:Int):Rat) [((-1:Int):Rat),((1:Int):Rat)] uq ⟨((⟨ln,la,ll,lc,lb,lm,ld'⟩,⟨hn',ha,hl,hc,hb,hm,hd'⟩),⟨xa,xn,xc⟩),M1,d1,M2,d2,p2⟩ _ LN.out.can LD.out.can LB.out (zY 2 (Or.inr rfl)) rfl HP.out ((szB (by decide +kernel)).mono dZ) HU.out.1 dZ dZ FC HU.out.2.1 dZ HU.out.2.2) fun x60 w60 hE _=>?_
 refine mV8 hE ?_ B7 HX BS LN BD B1 LD HS;clear B7 HX BS LN BD B1 LD HS;intro B7 HX BS LN BD B1 LD HS;refine mV7 hE ?_ HT G17 B2 B5 G34 LB HP;clear HT G17 B2 B5 G34 LB HP;intro HT G17 B2 B5 G34 LB HP;have hs_w60:=hE.size;replace b_BS:=bX3 BS;replace b_BD:=bX3 BD;replace b_B1:=bX3 B1;replace b_B2:=bX3 B2;replace b_B5:=bX3 B5;replace b_B7:=bX3 B7;go_wp2
 go_ret
 exact ⟨(),rfl,HX.out,trivial⟩
end Go.Proofs.YtkcpmclnocmalaaGreat
