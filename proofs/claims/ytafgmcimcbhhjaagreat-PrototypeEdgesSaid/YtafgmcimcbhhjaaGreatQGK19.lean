/- PrototypeEdges returns true. -/
import Derived.Test.YtafgmcimcbhhjaaGreatQGK18
import Derived.Test.YtafgmcimcbhhjaaGreatQGK17
import Derived.Test.YtafgmcimcbhhjaaGreatRows
import Derived.Test.YtafgmcimcbhhjaaGreatQGK1
import Derived.ProofKit
import Derived.OpenShut
import Derived.ShutString
import Derived.ChangeOld
import Derived.Lib.SmallJoins
set_option linter.unusedVariables false
namespace Go.Proofs.YtafgmcimcbhhjaaGreat
open Go.RowKit Go.Front Go.Num Stab Sg
attribute [local go_sem] XW.cell XW.frozen
set_option maxRecDepth 8000 in
set_option maxHeartbeats 16000000 in
theorem oF(z0 z1 z2 z3 z4:Int)(w:World)(h0:-9223372036854775808≤z0)(k0:z0≤9223372036854775807)(h1:-9223372036854775808≤z1)(k1:z1≤9223372036854775807)(h2:-9223372036854775808≤z2)(k2:z2≤9223372036854775807)(h3:-9223372036854775808≤z3)(k3:z3≤9223372036854775807)(h4:-9223372036854775808≤z4)(k4:z4≤9223372036854775807) :
  aq 7 [.int .i64 z0,.int .i64 z1,.int .i64 z2,.int .i64 z3,.int .i64 z4] w (fun _:Unit=>.bool true) (fun _ _=>True):=by
 have HX:=Hi (Ext.refl w);obtain ⟨k,hk⟩:∃ k,k=(z0 % 4).toNat:=⟨_,rfl⟩;obtain ⟨n,hn⟩:∃ n,n=vJ z1:=⟨_,rfl⟩;obtain ⟨e,he⟩:∃ e,e=edQ z2:=⟨_,rfl⟩;obtain ⟨r,hr⟩:∃ r,r=riQ z3:=⟨_,rfl⟩;obtain ⟨q,hq⟩:∃ q,q=seQ z4:=⟨_,rfl⟩;have hk4:k<4:=by rw [hk];omega
 obtain ⟨n1,n5,-⟩:=sF z1;rw [←hn] at n1 n5;have EF:Hid (EdF e):=Hi (by rw [he];exact Bz _);have HR:Hid (0<r∧Sz 1 r):=Hi (by rw [hr];exact AS _);have HQ:Hid (0<q∧q<1∧Sz 1 q):=Hi (by rw [hq];exact AO _);have HAL:Hid (∀ w',aq 40 [.int .i64 z0,.int .i64 z1,.int .i64 z2,.int .i64 z3,.int .i64 z4] w' AlV (AlP k n e r q)):=Hi (fun w'=>by rw [hk,hn,he,hr,hq];exact uw z0 z1 z2 z3 z4 w' h0 k0 h1 k1 h2 k2 h3 k3 h4 k4);have PR:=Hi (BV hk4 n1 n5 EF.out HR.out.1 HQ.out.1 HQ.out.2.1);have PZ:=Hi (Du hk4 n1 n5 EF.out HR.out.2 HQ.out.2.2);obtain ⟨g,hg⟩:∃ g,g=alG k n e r:=⟨_,rfl⟩;obtain ⟨E,hE⟩:∃ E,E=alE k n e q:=⟨_,rfl⟩;obtain ⟨P,hP⟩:∃ P,P=alP k n:=⟨_,rfl⟩;obtain ⟨D,hD⟩:∃ D,D=alD k n e r q:=⟨_,rfl⟩;rw [←hg,←hE,←hP,←hD] at PR PZ;have HGE:Hid (alG k n e r=g∧alE k n e q=E∧alP k n=P∧alD k n e r q=D):=Hi ⟨hg.symm,hE.symm,hP.symm,hD.symm⟩;have HDK:Hid (DnK 3500000 D.length D):=Hi (Da PZ.out.fd PZ.out.ld (by decide) (by unfold KN;decide) (by decide) (nXe (nXg _ (show D.length+1≤7 by have:=PZ.out.ld;omega)) (by decide)));have HRT:Hid (yu g E P D=(0,nuP g E P,tz D)):=Hi (by unfold yu nuP;rw [if_pos PR.out.val]);have NZ:=Hi (Cr PZ.out);have DZ:Hid (FrB 450 (tz D)∧(tz D).length≤6):=Hi ⟨PZ.out.fd.tz,nXe (ah D) PZ.out.ld⟩;obtain ⟨N,hN⟩:∃ N,N=nuP g E P:=⟨_,rfl⟩;obtain ⟨Q,hQ⟩:∃ Q,Q=tz D:=⟨_,rfl⟩;rw [←hN,←hQ] at HRT;rw [←hN] at NZ;rw [←hQ] at DZ;have HNQ:Hid (N=nuP g E P∧Q=tz D):=Hi ⟨hN,hQ⟩;have ZL:Hid (Sz 1 (-1:Rat)):=Hi (by exact (Sz.int (z:=-1) (by decide)));have ZH:Hid (Sz 1 (1:Rat)):=Hi (by exact (Sz.int (z:=1) (by decide)));have ZE:=Hi EF.out.z;have ZR:=Hi HR.out.2;have Z1:Hid (Sz 1 ((1:Int):Rat)):=Hi (Sz.int (by decide));have Zm:Hid (Sz 1 ((-1:Int):Rat)):=Hi (Sz.int (by decide));have one:((1:Int):Rat)=1:=rfl;have hQe:0<evV Q e:=by
  obtain ⟨c,hc,h⟩:=PR.out.low;have h2:=h e (Rat.le_of_lt EF.out.lo) (Rat.le_of_lt EF.out.hi);rw [hQ,np];grind
 have hr0:=HR.out.1;have hed:=PR.out.edge;rw [←CA,←hN,←np D,←hQ] at hed;have x1:=aE (a:=evV N e) (b:=evV Q e) (by grind);have x2:=aE (a:=((1:Int):Rat)) (b:=((1:Int):Rat)+r) (by rw [one];grind);have HC1:Hid (k≠2→dp (evV N e / evV Q e) (((1:Int):Rat) / (((1:Int):Rat)+r))=0):=Hi (fun h0=>ug.2 (by
  rw [show alI k=false from decide_eq_false h0,if_neg (by decide)] at hed;rw [one] at x2 ⊢;generalize evV N e / evV Q e=X at *
  generalize 1 / (1+r)=Y at *
  have h1:(X-Y)*((1+r)*evV Q e)=0:=by
   have a1:X*((1+r)*evV Q e)=(1+r)*(X*evV Q e):=by grind
   have a2:Y*((1+r)*evV Q e)=Y*(1+r)*evV Q e:=by grind
   have a3:(X-Y)*((1+r)*evV Q e)=X*((1+r)*evV Q e)-Y*((1+r)*evV Q e):=by grind
   rw [a3,a1,a2,x1,x2,hed];grind
  have h2:=Rat.mul_pos (show 0<1+r by grind) hQe;rcases nXq.1 h1 with h3|h3
  ·grind
  ·rw [h3] at h2;exact absurd h2 Rat.lt_irrefl))
 have HC2:Hid (k=2→dp (evV N e / evV Q e) (((1:Int):Rat) / (((1:Int):Rat)+r)*r)=0):=Hi (fun h0=>ug.2 (by
  rw [show alI k=true from decide_eq_true h0,if_pos rfl] at hed;rw [one] at x2 ⊢;generalize evV N e / evV Q e=X at *
  generalize 1 / (1+r)=Y at *
  have h1:(X-Y*r)*((1+r)*evV Q e)=0:=by
   have a1:X*((1+r)*evV Q e)=(1+r)*(X*evV Q e):=by grind
   have a2:Y*r*((1+r)*evV Q e)=Y*(1+r)*r*evV Q e:=by grind
   have a3:(X-Y*r)*((1+r)*evV Q e)=X*((1+r)*evV Q e)-Y*r*((1+r)*evV Q e):=by grind
   rw [a3,a1,a2,x1,x2,hed];grind
  have h2:=Rat.mul_pos (show 0<1+r by grind) hQe;rcases nXq.1 h1 with h3|h3
  ·grind
  ·rw [h3] at h2;exact absurd h2 Rat.lt_irrefl))
 obtain ⟨D1,hD1⟩:=xU (T:=1) NZ.out.1 NZ.out.2 (by decide) (by decide) (by decide);obtain ⟨D2,hD2⟩:=xU (T:=1) DZ.out.1 DZ.out.2 (by decide) (by decide) (by decide);have HAN:=Hi hD1;have HAQ:=Hi hD2;have ZEN:Hid (Sz 40000000 (evV N e)):=Hi (hD1.ev ZE.out 0 (Nat.zero_le _));have ZEQ:Hid (Sz 40000000 (evV Q e)):=Hi (hD2.ev ZE.out 0 (Nat.zero_le _));have ZQU:Hid (Sz 80000000 (evV N e / evV Q e)):=Hi ((ZEN.out.div ZEQ.out).mono (by decide));have ZW1:Hid (Sz 5 (((1:Int):Rat) / (((1:Int):Rat)+r))):=Hi ((Z1.out.div (Z1.out.add ZR.out)).mono (by decide));have ZW2:Hid (Sz 6 (((1:Int):Rat) / (((1:Int):Rat)+r)*r)):=Hi ((ZW1.out.mul ZR.out).mono (by decide));have HK2:Hid (z0 % 4=(k:Nat)):=Hi (by rw [hk];omega);have HMD:=Hi (ja z0 4 · h0 k0 (by decide) (by decide));rw [HK2.out] at HMD;clear one hQe hr0 hed x1 x2 hD1 hD2;clear hk hn he hr hq hg hE hP hD hN hQ;unfold aq;go_enter Tryz.func7,Tryz.ntmps7
 go_wp2_with fail
 refine cM (HAL.out _) fun x29 w29 hE G29=>?_
 replace HX:=hE.tr HX;have hs_w29:=hE.size;clear hE;obtain ⟨⟨⟨gn,ga,gl,gc,gb,gm,gd⟩,⟨ea,en,ec⟩,gp,⟨da,dn,dc⟩⟩,⟨sn,sa,sl,sc,sb,sm,sd⟩,⟨tn,ta,tl,tc,tb,tm,td⟩⟩:=x29;obtain ⟨⟨pg,pe,pp,pd⟩,ge,gr⟩:=G29.out;simp only at pg pe pp pd ge gr;obtain ⟨y1,y2,y3,y4⟩:=HGE.out;rw [y1] at pg;rw [y2] at pe;rw [y3] at pp;rw [y4] at pd;have PG:=Hi pg;have PE':=Hi pe;have PP:=Hi pp;have PD:=Hi pd;have HS:=Hi ge;have HT:=Hi gr;have hdn:D.length=dn:=pd.len;have hen:E.length=en:=pe.len;have hd6:dn≤6:=by have:=PZ.out.ld;omega
 have he3:en≤3:=by have:=PZ.out.le;omega
 have HDK2:Hid (DnK 3500000 dn D):=Hi (by have h:=HDK.out;rw [hdn] at h;exact h);clear pg pe pp pd ge gr y1 y2 y3 y4 G29 hdn hen;simp only [AlV]
 go_upto_region 2 with fail
 refine pC ?_;intro w30 hE B11 B12 B13 hz_w30 hr_w30;refine mV6 hE ?_ PE' HX PG PD HS HT;clear PE' HX PG PD HS HT;intro PE' HX PG PD HS HT;have hs_w30:=hE.size;clear hE;replace b_B11:=bX3 B11;replace b_B12:=bX3 B12;replace b_B13:=bX3 B13;have HRP:Hid (kE w30 ⟨⟨gn,ga,gl,gc,gb,gm,gd⟩,⟨ea,en,ec⟩,gp,⟨da,dn,dc⟩⟩ g E D):=Hi ⟨PG.out.raw PZ.out.zg (by decide),PE'.out.raw PZ.out.fe.sz (by decide),PD.out.raw PZ.out.fd.sz (by decide)⟩
 go_wp2_with fail
 refine cM (qP ⟨⟨gn,ga,gl,gc,gb,gm,gd⟩,⟨ea,en,ec⟩,gp,⟨da,dn,dc⟩⟩ g E D 3500000 115 3 _ HRP.out (show dn≤49 by omega) HDK2.out (show en≤25 by omega) PZ.out.fe (by decide) PZ.out.zg (by decide)) fun x36 w36 hE G36=>?_
 refine mV8 hE ?_ B11 B12 B13 PE' HX PG PD HS;clear B11 B12 B13 PE' HX PG PD HS;intro B11 B12 B13 PE' HX PG PD HS;refine mV2 hE ?_ HT HRP;clear HT HRP;intro HT HRP;have hs_w36:=hE.size;clear hE;replace b_B11:=bX3 B11;replace b_B12:=bX3 B12;replace b_B13:=bX3 B13;obtain ⟨⟨⟨na,nn,nc⟩,⟨qa,qn,qc⟩⟩,er⟩:=x36;obtain ⟨hee,hf⟩:=G36.out;rw [PP.out,HRT.out] at hee hf;simp only at hee hf;subst hee;have LN:=Hi hf.1;have LQ:=Hi hf.2;have hnn:nn≤6:=by have h:=hf.1.len;have h2:=NZ.out.2;simp only at h;omega
 have hqn:qn≤6:=by have h:=hf.2.len;have h2:=DZ.out.2;simp only at h;omega
 clear hf G36;clear PE';clear PD;simp only [FE]
 go_upto_region 3 with fail
 refine nmA ?_;intro w37 hE B15 hz_w37 hr_w37;refine mV8 hE ?_ B11 B12 B13 HX PG HS HT HRP;clear B11 B12 B13 HX PG HS HT HRP;intro B11 B12 B13 HX PG HS HT HRP;refine mV2 hE ?_ LN LQ;clear LN LQ;intro LN LQ;have hs_w37:=hE.size;clear hE;replace b_B11:=bX3 B11;replace b_B12:=bX3 B12;replace b_B13:=bX3 B13;replace b_B15:=bX3 B15
 go_upto_region 5 with fail
 refine wpG 6 (fun opIx=>match opIx with
  | 0=>.spec RH default RH.v (fun s w'=>aw w' s (((1:Int):Rat)))
  | 1=>.spec RH default RH.v (fun s w'=>aw w' s (((1:Int):Rat)))
  | 3=>.spec RH default RH.v (fun s w'=>aw w' s (((1:Int):Rat)+r))
  | 4=>.spec RH default RH.v (fun s w'=>aw w' s (((1:Int):Rat) / (((1:Int):Rat)+r)))
  | 5=>.alloc 34 #[.bool false,.slice none 0 0,.slice none 0 0]
  | _=>.quiet) (fun|3=>[1]|4=>[0,3]|_=>[]) fun w0 he0 hz0 hc0 hf0=>?_
 refine wps he0.out rfl rfl (fun w1 hW hG=>?_) fun x40=>?_
 ·exact spc [.int .i64 1] Tryz.func36 (eV 1 _ (by decide) (by decide))
 refine qZ ?_;refine wps he0.out rfl rfl (fun w1 hW hG=>?_) fun x41=>?_
 ·exact spc [.int .i64 1] Tryz.func36 (eV 1 _ (by decide) (by decide))
 refine qZ ?_;refine wps he0.out rfl rfl (fun w1 hW hG=>?_) fun x43=>?_
 ·have g41:=(hG 1 (by decide):av _ _).get fun _ e g=>g.ext e
  exact spc [x41.v,RH.v ⟨tn,ta,tl,tc,tb,tm,td⟩] Tryz.func46 (mS x41 ⟨tn,ta,tl,tc,tb,tm,td⟩ ((1:Int):Rat) r _ (g41.raw Z1.out (by decide)) ((HT.out.ext hW).raw ZR.out (by decide)))
 refine qZ ?_;refine wps he0.out rfl rfl (fun w1 hW hG=>?_) fun x44=>?_
 ·have g40:=(hG 0 (by decide):av _ _).get fun _ e g=>g.ext e
  have g43:=(hG 3 (by decide):av _ _).get fun _ e g=>g.ext e
  exact spc [x40.v,x43.v] Tryz.func35 (i4 x40 x43 ((1:Int):Rat) (((1:Int):Rat)+r) _ (g40.raw Z1.out (by decide)) (g43.raw (Z1.out.add ZR.out) (by decide)))
 refine qZ ?_;refine aL rfl rfl (fun w=>by simp [execOp,go_sem,ptr]) (fun b45 hb45 hl45=>?_);refine qZ ?_;refine ak ?_;intro w40 hI;have hE:=he0.out.trans hI.ext;have G40:=gT (hI.facts 0);have G41:=gT (hI.facts 1);have G43:=gT (hI.facts 3);have G44:=gT (hI.facts 4);have A45:Hid (w40.heap[b45]?=some (.cells #[.bool false,.slice none 0 0,.slice none 0 0] 34 (0,0))):=hI.facts 5;rw [hz0] at hl45;clear hI he0 hz0 hc0 hf0;refine mV8 hE ?_ B15 B11 B12 B13 HX PG HS HT;clear B15 B11 B12 B13 HX PG HS HT;intro B15 B11 B12 B13 HX PG HS HT;refine mV3 hE ?_ HRP LN LQ;clear HRP LN LQ;intro HRP LN LQ;have hs_w40:=hE.size;clear hE;replace b_B11:=bX3 B11;replace b_B12:=bX3 B12;replace b_B13:=bX3 B13;replace b_B15:=bX3 B15;replace b_A45:=bX3 A45;simp only [pD,ptr];obtain ⟨vn,va,vl,vc,vb,vm,vd⟩:=x44;have GV:Hid (aw w40 ⟨vn,va,vl,vc,vb,vm,vd⟩ (((1:Int):Rat) / (((1:Int):Rat)+r))):=G44;have A1:=Hi (LN.out.apz3 A45.out);have A2:=Hi (LQ.out.apz3 A45.out);clear G40;clear G41;clear G43;clear G44;clear HRP
 go_upto_region 6 with fail
 refine aV A45.out rfl ?_;intro w45 T;have LN1:=Hi (LN.out.puta A1.out T);have LQ1:=Hi (LQ.out.puta A2.out T);clear LN;clear LQ;replace HX:=Hi (T.ext HX.out (by omega));replace PG:=Hi (PG.out.keep T.keep);replace HS:=Hi (HS.out.keep T.keep);replace HT:=Hi (HT.out.keep T.keep);replace B11:=Hi (T.rest _ _ (by omega) B11.out);replace B12:=Hi (T.rest _ _ (by omega) B12.out);replace B13:=Hi (T.rest _ _ (by omega) B13.out);replace B15:=Hi (T.rest _ _ (by omega) B15.out);replace A45:=Hi (T.bx);replace GV:=Hi (GV.out.keep T.keep);have hs_w45:=nle T.size;have hr_w45:=nle T.size.symm;clear T;replace b_B11:=bX3 B11;replace b_B12:=bX3 B12;replace b_B13:=bX3 B13;replace b_B15:=bX3 B15;replace b_A45:=bX3 A45;have LN:=LN1;have LQ:=LQ1;clear LN1 LQ1
 go_wp2_with fail
 refine cM (HMD.out _) fun x58 w58 hE _=>?_
 refine mV8 hE ?_ HX PG HS HT B11 B12 B13 B15;clear HX PG HS HT B11 B12 B13 B15;intro HX PG HS HT B11 B12 B13 B15;refine mV4 hE ?_ A45 GV LN LQ;clear A45 GV LN LQ;intro A45 GV LN LQ;have hs_w58:=hE.size;clear hE;replace b_B11:=bX3 B11;replace b_B12:=bX3 B12;replace b_B13:=bX3 B13;replace b_B15:=bX3 B15;replace b_A45:=bX3 A45;by_cases h2:k=2
 case neg =>
  have h2b:((k:Int) == 2)=false:=by rw [nXr];omega
  have HCC:=Hi (HC1.out h2);have ZWA:=ZW1
  go_upto_region 8 with fail
  refine wpG 15 (fun opIx=>match opIx with
   | 0=>.spec Unit () (fun _=>.bool true) (fun _ _=>True)
   | 5=>.spec RH default RH.v (fun s w'=>aw w' s (evV N e))
   | 9=>.spec RH default RH.v (fun s w'=>aw w' s (evV Q e))
   | 10=>.spec RH default RH.v (fun s w'=>aw w' s (evV N e / evV Q e))
   | 12=>.spec Unit () (fun _=>.int .i64 0) (fun _ _=>True)
   | _=>.quiet) (fun|10=>[5,9]|12=>[10]|_=>[]) fun w0 he0 hz0 hc0 hf0=>?_
  refine wps he0.out rfl rfl (fun w1 hW hG=>?_) fun x60=>?_
  ·exact spc [] Tryz.func45 (ku _)
  refine qZ ?_;refine wps he0.out rfl rfl (fun w1 hW hG=>?_) fun x61=>?_
  ·exact spc [.slice na nn nc,RH.v ⟨sn,sa,sl,sc,sb,sm,sd⟩] Tryz.func50 (iK na nn nc N ⟨sn,sa,sl,sc,sb,sm,sd⟩ e _ (LN.out.ext hW) (HS.out.ext hW) (by omega) (NZ.out.1.sz.mono (by decide)) (ZE.out.mono (by decide)) (HAN.out.ev ZE.out))
  refine qZ ?_;refine wps he0.out rfl rfl (fun w1 hW hG=>?_) fun x62=>?_
  ·exact spc [.slice qa qn qc,RH.v ⟨sn,sa,sl,sc,sb,sm,sd⟩] Tryz.func50 (iK qa qn qc Q ⟨sn,sa,sl,sc,sb,sm,sd⟩ e _ (LQ.out.ext hW) (HS.out.ext hW) (by omega) (DZ.out.1.sz.mono (by decide)) (ZE.out.mono (by decide)) (HAQ.out.ev ZE.out))
  refine qZ ?_;refine wps he0.out rfl rfl (fun w1 hW hG=>?_) fun x63=>?_
  ·have g61:=(hG 5 (by decide):av _ _).get fun _ e g=>g.ext e
   have g62:=(hG 9 (by decide):av _ _).get fun _ e g=>g.ext e
   exact spc [x61.v,x62.v] Tryz.func35 (i4 x61 x62 (evV N e) (evV Q e) _ (g61.raw ZEN.out (by decide)) (g62.raw ZEQ.out (by decide)))
  refine qZ ?_;refine wps he0.out rfl rfl (fun w1 hW hG=>?_) fun x64=>?_
  ·have g63:=(hG 10 (by decide):av _ _).get fun _ e g=>g.ext e
   exact spc [x63.v,RH.v ⟨vn,va,vl,vc,vb,vm,vd⟩] Tryz.func49 ((by have h:=mR x63 ⟨vn,va,vl,vc,vb,vm,vd⟩ (evV N e / evV Q e) (((1:Int):Rat) / (((1:Int):Rat)+r)) _ (g63.raw ZQU.out (by decide)) ((GV.out.ext hW).raw ZWA.out (by decide));rw [HCC.out] at h;exact h))
  refine qZ ?_;refine ak ?_;intro w70 hI;have hE:=he0.out.trans hI.ext;have G61:=gT (hI.facts 5);have G62:=gT (hI.facts 9);have G63:=gT (hI.facts 10);clear hI he0 hz0 hc0 hf0;refine mV8 hE ?_ HX PG HT B11 B12 B13 B15 A45;clear HX PG HT B11 B12 B13 B15 A45;intro HX PG HT B11 B12 B13 B15 A45;refine mV4 hE ?_ GV LN LQ HS;clear GV LN LQ HS;intro GV LN LQ HS;have hs_w70:=hE.size;clear hE;replace b_B11:=bX3 B11;replace b_B12:=bX3 B12;replace b_B13:=bX3 B13;replace b_B15:=bX3 B15;replace b_A45:=bX3 A45;simp only [pD];go_wp2
  go_ret
  exact ⟨(),rfl,HX.out,trivial⟩
 case pos =>
  have HCC:=Hi (HC2.out h2);have ZWA:=ZW2;subst h2
  go_wp2_with fail
  refine cM (mN ⟨vn,va,vl,vc,vb,vm,vd⟩ ⟨tn,ta,tl,tc,tb,tm,td⟩ (((1:Int):Rat) / (((1:Int):Rat)+r)) r _ (GV.out.raw ZW1.out (by decide)) (HT.out.raw ZR.out (by decide))) fun x50 w50 hE G50=>?_
  refine mV8 hE ?_ HX PG HT B11 B12 B13 B15 A45;clear HX PG HT B11 B12 B13 B15 A45;intro HX PG HT B11 B12 B13 B15 A45;refine mV4 hE ?_ GV LN LQ HS;clear GV LN LQ HS;intro GV LN LQ HS;have hs_w50:=hE.size;clear hE;replace b_B11:=bX3 B11;replace b_B12:=bX3 B12;replace b_B13:=bX3 B13;replace b_B15:=bX3 B15;replace b_A45:=bX3 A45;obtain ⟨xn,xa,xl,xc,xb,xm,xd⟩:=x50;have GX:=Hi G50.out;clear G50;clear GV
  go_upto_region 8 with fail
  refine aV A45.out rfl ?_;intro w51 T;have LN1:=Hi (LN.out.puta A1.out T);have LQ1:=Hi (LQ.out.puta A2.out T);clear LN;clear LQ;replace HX:=Hi (T.ext HX.out (by omega));replace PG:=Hi (PG.out.keep T.keep);replace HS:=Hi (HS.out.keep T.keep);replace HT:=Hi (HT.out.keep T.keep);replace B11:=Hi (T.rest _ _ (by omega) B11.out);replace B12:=Hi (T.rest _ _ (by omega) B12.out);replace B13:=Hi (T.rest _ _ (by omega) B13.out);replace B15:=Hi (T.rest _ _ (by omega) B15.out);replace A45:=Hi (T.bx);replace GX:=Hi (GX.out.keep T.keep);have hs_w51:=nle T.size;have hr_w51:=nle T.size.symm;clear T;replace b_B11:=bX3 B11;replace b_B12:=bX3 B12;replace b_B13:=bX3 B13;replace b_B15:=bX3 B15;replace b_A45:=bX3 A45;have LN:=LN1;have LQ:=LQ1;have GV:=GX;clear LN1 LQ1;clear GX;refine wpG 15 (fun opIx=>match opIx with
   | 0=>.spec Unit () (fun _=>.bool true) (fun _ _=>True)
   | 5=>.spec RH default RH.v (fun s w'=>aw w' s (evV N e))
   | 9=>.spec RH default RH.v (fun s w'=>aw w' s (evV Q e))
   | 10=>.spec RH default RH.v (fun s w'=>aw w' s (evV N e / evV Q e))
   | 12=>.spec Unit () (fun _=>.int .i64 0) (fun _ _=>True)
   | _=>.quiet) (fun|10=>[5,9]|12=>[10]|_=>[]) fun w0 he0 hz0 hc0 hf0=>?_
  refine wps he0.out rfl rfl (fun w1 hW hG=>?_) fun x60=>?_
  ·exact spc [] Tryz.func45 (ku _)
  refine qZ ?_;refine wps he0.out rfl rfl (fun w1 hW hG=>?_) fun x61=>?_
  ·exact spc [.slice na nn nc,RH.v ⟨sn,sa,sl,sc,sb,sm,sd⟩] Tryz.func50 (iK na nn nc N ⟨sn,sa,sl,sc,sb,sm,sd⟩ e _ (LN.out.ext hW) (HS.out.ext hW) (by omega) (NZ.out.1.sz.mono (by decide)) (ZE.out.mono (by decide)) (HAN.out.ev ZE.out))
  refine qZ ?_;refine wps he0.out rfl rfl (fun w1 hW hG=>?_) fun x62=>?_
  ·exact spc [.slice qa qn qc,RH.v ⟨sn,sa,sl,sc,sb,sm,sd⟩] Tryz.func50 (iK qa qn qc Q ⟨sn,sa,sl,sc,sb,sm,sd⟩ e _ (LQ.out.ext hW) (HS.out.ext hW) (by omega) (DZ.out.1.sz.mono (by decide)) (ZE.out.mono (by decide)) (HAQ.out.ev ZE.out))
  refine qZ ?_;refine wps he0.out rfl rfl (fun w1 hW hG=>?_) fun x63=>?_
  ·have g61:=(hG 5 (by decide):av _ _).get fun _ e g=>g.ext e
   have g62:=(hG 9 (by decide):av _ _).get fun _ e g=>g.ext e
   exact spc [x61.v,x62.v] Tryz.func35 (i4 x61 x62 (evV N e) (evV Q e) _ (g61.raw ZEN.out (by decide)) (g62.raw ZEQ.out (by decide)))
  refine qZ ?_;refine wps he0.out rfl rfl (fun w1 hW hG=>?_) fun x64=>?_
  ·have g63:=(hG 10 (by decide):av _ _).get fun _ e g=>g.ext e
   exact spc [x63.v,RH.v ⟨xn,xa,xl,xc,xb,xm,xd⟩] Tryz.func49 ((by have h:=mR x63 ⟨xn,xa,xl,xc,xb,xm,xd⟩ (evV N e / evV Q e) (((1:Int):Rat) / (((1:Int):Rat)+r)*r) _ (g63.raw ZQU.out (by decide)) ((GV.out.ext hW).raw ZWA.out (by decide));rw [HCC.out] at h;exact h))
  refine qZ ?_;refine ak ?_;intro w70 hI;have hE:=he0.out.trans hI.ext;have G61:=gT (hI.facts 5);have G62:=gT (hI.facts 9);have G63:=gT (hI.facts 10);clear hI he0 hz0 hc0 hf0;refine mV8 hE ?_ HX PG HT B11 B12 B13 B15 A45;clear HX PG HT B11 B12 B13 B15 A45;intro HX PG HT B11 B12 B13 B15 A45;refine mV4 hE ?_ GV LN LQ HS;clear GV LN LQ HS;intro GV LN LQ HS;have hs_w70:=hE.size;clear hE;replace b_B11:=bX3 B11;replace b_B12:=bX3 B12;replace b_B13:=bX3 B13;replace b_B15:=bX3 B15;replace b_A45:=bX3 A45;simp only [pD];go_wp2
  go_ret
  exact ⟨(),rfl,HX.out,trivial⟩
end Go.Proofs.YtafgmcimcbhhjaaGreat
/- What all joins of this seat share. -/
namespace Go.Proofs.YtafgmcimcbhhjaaGreat
open Go.ChangeShapes Go.WideShapes Go.ChangeAt Go.RowKit Go.Front Go.Joins
theorem own:ownKnob Tryz.prog.godebug=none:=by kernel_rfl
theorem kk:laidOutB Tryz.prog=true:=by kernel_rfl
theorem gZ{n:Int}(h:(Lit.int .i64 n).wf=true):-9223372036854775808≤n∧n≤9223372036854775807:=by
 simp [Lit.wf] at h;exact ⟨h.1,h.2⟩
end Go.Proofs.YtafgmcimcbhhjaaGreat
