import Derived.Test.YtafgmcimcbhhjaaGreatQBK22
import Derived.ProofKit
import Derived.OpenShut
import Derived.ShutString
import Derived.ChangeOld
import Derived.Lib.SmallJoins
set_option linter.unusedVariables false
namespace Go.Proofs.YtafgmcimcbhhjaaGreat
open Go.RowKit Go.Front Go.Num Stab Sg
attribute [local go_sem] XW.cell XW.frozen
set_option maxRecDepth 8000 in
set_option maxHeartbeats 16000000 in
theorem qD(z0 z1 z2 z3 z4:Int)(w:World)(h0:-9223372036854775808≤z0)(k0:z0≤9223372036854775807)(h1:-9223372036854775808≤z1)(k1:z1≤9223372036854775807)(h2:-9223372036854775808≤z2)(k2:z2≤9223372036854775807)(h3:-9223372036854775808≤z3)(k3:z3≤9223372036854775807)(h4:-9223372036854775808≤z4)(k4:z4≤9223372036854775807) :
  ak 6 [.int .i64 z0,.int .i64 z1,.int .i64 z2,.int .i64 z3,.int .i64 z4] w (fun _:Unit=>.bool true) (fun _ _=>True):=by
 have HX:=Hi (Ext.refl w);obtain ⟨k,hk⟩:∃ k,k=(z0 % 4).toNat:=⟨_,rfl⟩;obtain ⟨n,hn⟩:∃ n,n=zP z1:=⟨_,rfl⟩;obtain ⟨e,he⟩:∃ e,e=edQ z2:=⟨_,rfl⟩;obtain ⟨r,hr⟩:∃ r,r=riQ z3:=⟨_,rfl⟩;obtain ⟨q,hq⟩:∃ q,q=seQ z4:=⟨_,rfl⟩;have hk4:k<4:=by rw [hk];omega
 obtain ⟨n1,n5,-⟩:=vW z1;rw [←hn] at n1 n5;have EF:Hid (EdF e):=Hi (by rw [he];exact Ft _);have HR:Hid (0<r∧Sz 1 r):=Hi (by rw [hr];exact EJ _);have HQ:Hid (0<q∧q<1∧Sz 1 q):=Hi (by rw [hq];exact ED _);have HAL:Hid (∀ w',ak 40 [.int .i64 z0,.int .i64 z1,.int .i64 z2,.int .i64 z3,.int .i64 z4] w' AlV (AlP k n e r q)):=Hi (fun w'=>by rw [hk,hn,he,hr,hq];exact yx z0 z1 z2 z3 z4 w' h0 k0 h1 k1 h2 k2 h3 k3 h4 k4);have PR:=Hi (FU hk4 n1 n5 EF.out HR.out.1 HQ.out.1 HQ.out.2.1);have PZ:=Hi (Ix hk4 n1 n5 EF.out HR.out.2 HQ.out.2.2);have FZ:=Hi (Gz hk4 n1 n5 EF.out HR.out.2 HQ.out.2.2);have hdf:=Fx hk4 n1 n5 EF.out (k:=k) (n:=n) (e:=e) (r:=r) (q:=q);obtain ⟨L,hL⟩:∃ L,L=F9 k n e r q:=⟨_,rfl⟩;rw [←hL] at FZ hdf;obtain ⟨g,hg⟩:∃ g,g=alG k n e r:=⟨_,rfl⟩;obtain ⟨E,hE⟩:∃ E,E=alE k n e q:=⟨_,rfl⟩;obtain ⟨P,hP⟩:∃ P,P=alP k n:=⟨_,rfl⟩;obtain ⟨D,hD⟩:∃ D,D=alD k n e r q:=⟨_,rfl⟩;rw [←hg,←hE,←hP,←hD] at PR PZ;have HGE:Hid (alG k n e r=g∧alE k n e q=E∧alP k n=P∧alD k n e r q=D):=Hi ⟨hg.symm,hE.symm,hP.symm,hD.symm⟩;have HDK:Hid (DnK 3500000 D.length D):=Hi (Ia PZ.out.fd PZ.out.ld dZ (by unfold KN;decide) dZ (nXf (nXh _ (show D.length+1≤7 by have:=PZ.out.ld;omega)) dZ));have HRT:Hid (Cm g E P D=(0,nuP g E P,tz D)):=Hi (by unfold Cm nuP;rw [if_pos PR.out.val]);have NZ:=Hi (Gm PZ.out);have DZ:Hid (FrB 450 (tz D)∧(tz D).length≤6):=Hi ⟨PZ.out.fd.tz,nXf (ae D) PZ.out.ld⟩;obtain ⟨N,hN⟩:∃ N,N=nuP g E P:=⟨_,rfl⟩;obtain ⟨Q,hQ⟩:∃ Q,Q=tz D:=⟨_,rfl⟩;rw [←hN,←hQ] at HRT;rw [←hN] at NZ;rw [←hQ] at DZ;have ZL:Hid (Sz 1 (-1:Rat)):=Hi (by exact (Sz.int (z:=-1) dZ));have ZH:Hid (Sz 1 (1:Rat)):=Hi (by exact (Sz.int (z:=1) dZ));rw [←hg,←hE,←hP,←hD,←hN,←hQ] at hdf;have HDF:=Hi hdf;have HN0:Hid (∀ x,-1≤x→x≤1→0≤evV N x):=Hi (fun x h1 h2=>by rw [hN,xu];exact PR.out.nn x h1 h2);have HL0:Hid (∀ x,-1≤x→x≤1→0≤evV L x):=Hi (fun x h1 h2=>by
  rw [←hdf,p9,hN,hQ,dN,xu];have:=PR.out.le x h1 h2;grind)
 have HPQ:Hid (mK Q (-1) 1=true):=Hi (by
  obtain ⟨c,hc,h⟩:=PR.out.low;rw [hQ];exact vP hc (fun x h1 h2=>by rw [dN];exact h x h1 h2))
 have hQ0:tz Q≠[]:=fun h=>by
  obtain ⟨c,hc,h2⟩:=PR.out.low;have h3:=h2 1 dZ dZ;rw [←dN,←hQ,ev_tznil.1 h 1] at h3;grind
 have HFQ:=Hi (uV DZ.out.1 DZ.out.2 dZ hQ0 (K:=3500000) (by unfold KN;decide));obtain ⟨DQ,hDQ⟩:=BN (T:=1) DZ.out.1 DZ.out.2 dZ dZ dZ;have HAQ:=Hi hDQ;have HVV:=Hi PR.out.val;clear hdf hL hQ0 hDQ;clear hk hn he hr hq hg hE hP hD hN hQ;unfold ak;go_enter Tryz.func6,Tryz.ntmps6
 go_wp2_with fail
 refine cM (HAL.out _) fun x29 w29 hE G29=>?_
 replace HX:=hE.tr HX;obtain ⟨⟨⟨gn,ga,gl,gc,gb,gm,gd⟩,⟨ea,en,ec⟩,gp,⟨da,dn,dc⟩⟩,⟨sn,sa,sl,sc,sb,sm,sd⟩,⟨tn,ta,tl,tc,tb,tm,td⟩⟩:=x29;obtain ⟨⟨pg,pe,pp,pd⟩,ge,gr⟩:=G29.out;simp only at pg pe pp pd ge gr;obtain ⟨y1,y2,y3,y4⟩:=HGE.out;rw [y1] at pg;rw [y2] at pe;rw [y3] at pp;rw [y4] at pd;have PG:=Hi pg;have PE':=Hi pe;have PP:=Hi pp;have PD:=Hi pd;have HS:=Hi ge;have HT:=Hi gr;have hdn:D.length=dn:=pd.len;have hen:E.length=en:=pe.len;have hd6:dn≤6:=by have:=PZ.out.ld;omega
 have he3:en≤3:=by have:=PZ.out.le;omega
 have HDK2:Hid (DnK 3500000 dn D):=Hi (by have h:=HDK.out;rw [hdn] at h;exact h);clear pg pe pp pd ge gr y1 y2 y3 y4 G29 hdn hen;simp only [AlV]
 go_upto_region 2 with fail
 refine jT ?_;intro w30 hE hB0 hB1 hB2 hz;have hz_w30:=nle hz;have hr_w30:=nle hz.symm;clear hz;refine mV4 hE ?_ PE' HX PG PD;clear PE' HX PG PD;intro PE' HX PG PD;have B11:=Hi hB0;clear hB0;replace b_B11:=bX3 B11;clear hB1;clear hB2;have HRP:Hid (mP w30 ⟨⟨gn,ga,gl,gc,gb,gm,gd⟩,⟨ea,en,ec⟩,gp,⟨da,dn,dc⟩⟩ g E D):=Hi ⟨PG.out.raw PZ.out.zg dZ,PE'.out.raw PZ.out.fe.sz dZ,PD.out.raw PZ.out.fd.sz dZ⟩
 go_wp2_with fail
 refine cM (uf ⟨⟨gn,ga,gl,gc,gb,gm,gd⟩,⟨ea,en,ec⟩,gp,⟨da,dn,dc⟩⟩ g E D 3500000 115 3 _ HRP.out (show dn≤49 by omega) HDK2.out (show en≤25 by omega) PZ.out.fe dZ PZ.out.zg dZ) fun x36 w36 hE G36=>?_
 refine mV3 hE ?_ HX B11 HRP;clear HX B11 HRP;intro HX B11 HRP;obtain ⟨⟨⟨na,nn,nc⟩,⟨qa,qn,qc⟩⟩,er⟩:=x36;obtain ⟨hee,hf⟩:=G36.out;rw [PP.out,HRT.out] at hee hf;simp only at hee hf;subst hee;have LN:=Hi hf.1;have LQ:=Hi hf.2;have hnn:nn≤6:=by have h:=hf.1.len;have h2:=NZ.out.2;simp only at h;omega
 have hqn:qn≤6:=by have h:=hf.2.len;have h2:=DZ.out.2;simp only at h;omega
 clear hf G36;clear PE';clear PD;simp only [FE]
 go_upto_region 3 with fail
 refine nmA ?_;intro w37 hE B15 hz_w37 hr_w37;refine mV5 hE ?_ HX B11 HRP LN LQ;clear HX B11 HRP LN LQ;intro HX B11 HRP LN LQ;replace b_B11:=bX3 B11;have HV2:Hid (cV g E (⟨⟨gn,ga,gl,gc,gb,gm,gd⟩,⟨ea,en,ec⟩,gp,⟨da,dn,dc⟩⟩:PH).p D=true):=Hi (by show cV g E gp D=true;rw [PP.out];exact HVV.out)
 go_wp2_with fail
 refine cM ((by have h:=kp ⟨⟨gn,ga,gl,gc,gb,gm,gd⟩,⟨ea,en,ec⟩,gp,⟨da,dn,dc⟩⟩ g E D 3500000 _ HRP.out (show dn≤49 by omega) HDK2.out;rw [HV2.out] at h;exact h)) fun x47 w47 hE _=>?_
 refine mV4 hE ?_ B15 HX LN LQ;clear B15 HX LN LQ;intro B15 HX LN LQ;replace b_B15:=bX3 B15
 go_upto_region 5 with fail
 refine aF [(7,6)] _ (by simp only [gI,kH,List.push_toArray,List.cons_append,List.nil_append];exact rfl) (by intro c a d v w h;cases d <;> exact h) 7 (fun opIx=>match opIx with
  | 2=>.spec (RH×RH) (default) (IvV) (fun x w'=>IvE w' x (-1) 1)
  | 3=>sU (.tuple #[.bool true,.int .i64 0])
  | _=>.quiet) (fun|3=>[2]|_=>[]) kZ kZ kZ (fun w0 he0 hz0 hc0 hf0=>?_)
 replace he0:=Hi he0;simp only [pT];refine qQ ?_;refine wps he0 (fun w1 hW hG=>?_) fun x50=>?_
 ·exact spc [] Tryz.func43 (lz _)
 refine qZ ?_;refine wps he0 (fun w1 hW hG=>?_) fun x51=>?_
 ·have g50:=gS (hG 2 dZ);exact spc [.slice na nn nc,IvV x50] Tryz.func14 (mg na nn nc (N) 450 6 1 3500000 x50.1 x50.2 (-1) (1) _ ((LN.out.ext hW).raw NZ.out.1.sz dZ) (g50.1.raw ZL.out dZ) (g50.2.raw ZH.out dZ) (NZ.out.1.mono dZ) NZ.out.2 dZ ZL.out ZH.out dZ dZ (by unfold KN;decide) dZ dZ dZ dZ HN0.out)
 refine qZ ?_;refine aj ?_;intro w52 hI;have hE:=he0.out.trans hI.ext;clear hI he0 hz0 hc0 hf0;refine mV4 hE ?_ B15 HX LQ LN;clear B15 HX LQ LN;intro B15 HX LQ LN;replace b_B15:=bX3 B15;simp only [pD]
 go_upto_region 6 with fail
 go_wp2_with fail
 refine cM (yV qa na qn qc nn nc Q N _ (LQ.out.raw DZ.out.1.sz dZ) (LN.out.raw NZ.out.1.sz dZ) zo zo (DZ.out.1.sz.mono dZ) (NZ.out.1.sz.mono dZ)) fun x62 w62 hE G62=>?_
 refine mV3 hE ?_ B15 HX LQ;clear B15 HX LQ;intro B15 HX LQ;rw [HDF.out] at G62;obtain ⟨fa,fn,fc⟩:=x62;have LF:=Hi G62.out.can;clear G62;simp only [SH.v]
 go_wp2_with fail
 refine cM (lz _) fun x63 w63 hE G63=>?_
 refine mV4 hE ?_ B15 HX LQ LF;clear B15 HX LQ LF;intro B15 HX LQ LF;obtain ⟨⟨ln,la,ll,lc,lb,lm,ld⟩,⟨hn',ha,hl,hc,hb,hm,hd⟩⟩:=x63
 go_wp2_with fail
 refine cM (mg fa fn fc (L) 450 6 1 3500000 ⟨ln,la,ll,lc,lb,lm,ld⟩ ⟨hn',ha,hl,hc,hb,hm,hd⟩ (-1) (1) _ (LF.out.raw FZ.out.1.sz dZ) (G63.out.1.raw ZL.out dZ) (G63.out.2.raw ZH.out dZ) FZ.out.1 FZ.out.2 dZ ZL.out ZH.out dZ dZ (by unfold KN;decide) dZ dZ dZ dZ HL0.out) fun x64 w64 hE _=>?_
 refine mV3 hE ?_ B15 HX LQ;clear B15 HX LQ;intro B15 HX LQ;replace b_B15:=bX3 B15
 go_upto_region 7 with fail
 refine aF [(7,6)] _ (by simp only [gI,kH,List.push_toArray,List.cons_append,List.nil_append];exact rfl) (by intro c a d v w h;cases d <;> exact h) 7 (fun opIx=>match opIx with
  | 2=>.spec (RH×RH) (default) (IvV) (fun x w'=>IvE w' x (-1) 1)
  | 3=>sU (.tuple #[.bool true,.int .i64 0])
  | _=>.quiet) (fun|3=>[2]|_=>[]) kZ kZ kZ (fun w0 he0 hz0 hc0 hf0=>?_)
 replace he0:=Hi he0;simp only [pT];refine qQ ?_;refine wps he0 (fun w1 hW hG=>?_) fun x70=>?_
 ·exact spc [] Tryz.func43 (lz _)
 refine qZ ?_;refine wps he0 (fun w1 hW hG=>?_) fun x71=>?_
 ·have g70:=gS (hG 2 dZ);exact spc [.slice qa qn qc,IvV x70] Tryz.func28 ((by have h:=n7 qa qn qc Q 3500000 x70.1 x70.2 (-1) 1 1 _ ((LQ.out.ext hW).raw DZ.out.1.sz dZ) zo HFQ.out.1 dZ (nXf (nXh _ (show qn+1≤7 by omega)) dZ) HFQ.out.2 (g70.1.raw ZL.out dZ) (g70.2.raw ZH.out dZ) ZL.out ZH.out dZ (DZ.out.1.sz.mono dZ) (HAQ.out.ev ZL.out);rw [HPQ.out] at h;exact h))
 refine qZ ?_;refine aj ?_;intro w73 hI;have hE:=he0.out.trans hI.ext;clear hI he0 hz0 hc0 hf0;replace HX:=hE.tr HX;simp only [pD]
 go_wp2_with fail
 refine cM (rS _) fun x90 w90 hE _=>?_
 replace HX:=hE.tr HX;go_wp2
 go_ret
 exact ⟨(),rfl,HX.out,trivial⟩
end Go.Proofs.YtafgmcimcbhhjaaGreat
/- What all joins of this seat share. -/
namespace Go.Proofs.YtafgmcimcbhhjaaGreat
open Go.ChangeShapes Go.WideShapes Go.ChangeAt Go.RowKit Go.Front Go.Joins
theorem own:ownKnob Tryz.prog.godebug=none:=by kernel_rfl
theorem mr:laidOutB Tryz.prog=true:=by kernel_rfl
theorem jw{n:Int}(h:(Lit.int .i64 n).wf=true):-9223372036854775808≤n∧n≤9223372036854775807:=by
 simp [Lit.wf] at h;exact ⟨h.1,h.2⟩
end Go.Proofs.YtafgmcimcbhhjaaGreat
