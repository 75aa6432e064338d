/- PrototypeRatios returns true. -/
import Derived.Test.YtohahgiidooijaaGreatQRK19
import Derived.Test.YtohahgiidooijaaGreatQRJnR
set_option linter.unusedVariables false
namespace Go.Proofs.YtohahgiidooijaaGreat
open Go.RowKit Go.Front Go.Num Stab
attribute [local go_sem] XW.cell XW.frozen
theorem yC{n m:Nat}(h:sm4 n m=true):n≤4∧m≤4:=of_decide_eq_true h
theorem tD(z m:Int)(hm:0<m):∃ n:Nat,z % m=(n:Int)∧(n:Int)<m:=by
 have h1:=Int.emod_nonneg z (show m≠0 by omega);have h2:=Int.emod_lt_of_pos z hm;exact ⟨(z % m).toNat,by omega,by omega⟩
structure PrS (g:Rat) (e d:List Rat):Prop where
 zg:Sz 4 g
 fe:FrB 19 e
 le:e.length≤8
 dk:DnK 400000 d.length d
 dr:DnR 400000 d.length d
 ld:d.length≤8
theorem Cq{g:Rat}{e d:List Rat}(zg:Sz 4 g)(ze:SzL 2 e)(zd:SzL 2 d)(le:e.length≤8)(ld:d.length≤8):PrS g e d:=by
 have fe:FrB 19 e:=FrB.of (n:=8) ze le;have fd:FrB 19 d:=FrB.of (n:=8) zd ld;have hk:(d.length+1)*(400000 / 3)≤25000000:=nXe (nXg _ (show d.length+1≤9 by omega)) (by decide);exact ⟨zg,fe,le,Cr fd ld (by decide) (by unfold KN;decide) (by decide) hk,CA fd ld (by decide) (by unfold KN;decide) (by decide) hk (by decide),ld⟩
set_option maxRecDepth 8000 in
set_option maxHeartbeats 16000000 in
theorem np(x:PH)(lo mo:Option Addr)(lc mc:Nat)(re rd:List RH)(ls ms:List Int)(z:Int)(w:World)
 (hg:iN w x.g)(h1:RS w x.e re)(i1:∀ r ∈ re,iN w r)(h2:RS w x.d rd)(i2:∀ r ∈ rd,iN w r)(hp1:-9223372036854775808≤x.p)(hp2:x.p≤9223372036854775807)
 (l0:dQ w lo ls)(l1:InR ls)(l2:ls.length≤9223372036854775807)(l3:ls.length≤lc)(l4:lc≤9223372036854775807)
 (m0:dQ w mo ms)(m1:InR ms)(m2:ms.length≤9223372036854775807)(m3:ms.length≤mc)(m4:mc≤9223372036854775807)
 (hz1:-9223372036854775808≤z)(hz2:z≤9223372036854775807) :
  am 5 [x.v,.slice lo ls.length lc,.slice mo ms.length mc,.int .i64 z] w (fun _:Unit=>.bool true) (fun _ _=>True):=by
 obtain ⟨⟨gn,ga,gl,gc,gb,gm,gd⟩,⟨ea,en,ec⟩,p,⟨da,dn,dc⟩⟩:=x;have HX:=Hi (Ext.refl w);have HC1:Hid (∀ w1,Ext w w1→am 15 [.slice lo ls.length lc,.int .i64 ((2:Nat):Int)] w1 SH.v (fun s w'=>aF w' s (l6 ls 2))):=Hi (fun w1 hE=>(pO lo lc 2 ls w1 (l0.ext hE) l1 l2 (by decide) l3 l4).weak (fun _ _ _ h=>h.can));have HC2:Hid (∀ w1,Ext w w1→am 15 [.slice mo ms.length mc,.int .i64 ((3:Nat):Int)] w1 SH.v (fun s w'=>aF w' s (l6 ms 3))):=Hi (fun w1 hE=>(pO mo mc 3 ms w1 (m0.ext hE) m1 m2 (by decide) m3 m4).weak (fun _ _ _ h=>h.can));obtain ⟨k5,e5,hk5⟩:=tD z 5 (by decide);obtain ⟨k4,e4,hk4⟩:=tD z 4 (by decide);have HM5:Hid (∀ w1,am 33 [.int .i64 z,.int .i64 5] w1 (fun _:Unit=>.int .i64 (k5:Nat)) (fun _ _=>True)):=Hi (fun w1=>by rw [←e5];exact mr z 5 w1 hz1 hz2 (by decide) (by decide));have HM4:Hid (∀ w1,am 33 [.int .i64 z,.int .i64 4] w1 (fun _:Unit=>.int .i64 (k4:Nat)) (fun _ _=>True)):=Hi (fun w1=>by rw [←e4];exact mr z 4 w1 hz1 hz2 (by decide) (by decide));have ZQ1:=Hi (AL ls 2);have ZQ2:=Hi (AL ms 3);have LQ1:=Hi (xG ls 2);have LQ2:=Hi (xG ms 3);obtain ⟨N0,e0⟩:∃ n,n=ls.length:=⟨_,rfl⟩;obtain ⟨N1,e1⟩:∃ n,n=ms.length:=⟨_,rfl⟩;obtain ⟨qe,ee⟩:∃ b,b=l6 ls 2:=⟨_,rfl⟩;obtain ⟨qd,ed⟩:∃ b,b=l6 ms 3:=⟨_,rfl⟩;rw [←e0,←ee] at HC1;rw [←e1,←ed] at HC2;rw [←ee] at ZQ1 LQ1;rw [←ed] at ZQ2 LQ2;rw [←e0,←e1];have IG:=Hi hg;have H1:=Hi h1;have H2:=Hi h2;have I1:=Hi i1;have I2:=Hi i2;simp only at IG H1 H2 hp1 hp2;clear e0 e1 ee ed hg h1 h2 i1 i2 l0 l1 l2 l3 l4 m0 m1 m2 m3 m4 e4 e5 hz1 hz2;unfold am;go_enter Tryz.func5,Tryz.ntmps5
 go_upto_region 1 with fail
 refine nmA ?_;intro w1 hE B4 hz_w1 hr_w1;replace HX:=hE.tr HX;have hs_w1:=hE.size;clear hE;replace b_B4:=bX3 B4
 go_wp2_with fail
 refine cM (m7 ⟨gn,ga,gl,gc,gb,gm,gd⟩ _) fun x2 w2 hE _=>?_
 refine mV2 hE ?_ B4 HX;clear B4 HX;intro B4 HX;have hs_w2:=hE.size;clear hE;replace b_B4:=bX3 B4;obtain ⟨s4,hs4⟩:∃ s4,s4=sm4 gl gm:=⟨_,rfl⟩;rw [show sm4 (RH.n ⟨gn,ga,gl,gc,gb,gm,gd⟩) (RH.m ⟨gn,ga,gl,gc,gb,gm,gd⟩)=s4 from hs4.symm];have Hs4:=Hi hs4;clear hs4;cases s4
 case false =>
  go_wp2_with fail
  refine cM (eA _) fun x20 w20 hE _=>?_
  refine mV2 hE ?_ B4 HX;clear B4 HX;intro B4 HX;have hs_w20:=hE.size;clear hE;replace b_B4:=bX3 B4;go_wp2
  go_ret
  exact ⟨(),rfl,HX.out,trivial⟩
 go_wp2_with fail
 refine cM (iq ea en ec re _ (H1.out.ext HX.out)) fun x3 w3 hE G3=>?_
 refine mV2 hE ?_ B4 HX;clear B4 HX;intro B4 HX;have hs_w3:=hE.size;clear hE;replace b_B4:=bX3 B4;cases x3
 case false =>
  go_wp2_with fail
  refine cM (eA _) fun x20 w20 hE _=>?_
  refine mV2 hE ?_ B4 HX;clear B4 HX;intro B4 HX;have hs_w20:=hE.size;clear hE;replace b_B4:=bX3 B4;go_wp2
  go_ret
  exact ⟨(),rfl,HX.out,trivial⟩
 go_wp2_with fail
 refine cM (iq da dn dc rd _ (H2.out.ext HX.out)) fun x4 w4 hE G4=>?_
 refine mV2 hE ?_ B4 HX;clear B4 HX;intro B4 HX;have hs_w4:=hE.size;clear hE;replace b_B4:=bX3 B4;cases x4
 case false =>
  go_wp2_with fail
  refine cM (eA _) fun x20 w20 hE _=>?_
  refine mV2 hE ?_ B4 HX;clear B4 HX;intro B4 HX;have hs_w20:=hE.size;clear hE;replace b_B4:=bX3 B4;go_wp2
  go_ret
  exact ⟨(),rfl,HX.out,trivial⟩
 by_cases hp60:60<p
 case pos =>
  go_wp2_with fail
  refine cM (eA _) fun x20 w20 hE _=>?_
  refine mV2 hE ?_ B4 HX;clear B4 HX;intro B4 HX;have hs_w20:=hE.size;clear hE;replace b_B4:=bX3 B4;go_wp2
  go_ret
  exact ⟨(),rfl,HX.out,trivial⟩
 obtain ⟨he8,se⟩:=G3.out.1 rfl;obtain ⟨hd8,sd⟩:=G4.out.1 rfl;obtain ⟨hg4,hg4'⟩:=yC Hs4.out.symm;obtain ⟨e,he,ze⟩:=pJ H1.out I1.out se (by decide) (by decide);obtain ⟨d,hd,zd⟩:=pJ H2.out I2.out sd (by decide) (by decide);obtain ⟨g,hg⟩:=iN.raw IG.out (by simp only;omega) (by simp only;omega);have zg:Sz 4 g:=hg.sz (by decide) (by simp only;omega) (by simp only;omega);have le:=he.len;have ld:=hd.len;simp only at le ld;have PS:=Hi (Cq zg ze zd (by omega) (by omega));have HRP:Hid (je w ⟨⟨gn,ga,gl,gc,gb,gm,gd⟩,⟨ea,en,ec⟩,p,⟨da,dn,dc⟩⟩ g e d):=Hi ⟨hg,he,hd⟩;have LE:=Hi le;have LD:=Hi ld;clear se sd he hd hg zg ze zd le ld G3 G4 Hs4 H1 H2 I1 I2 IG;have hk5b:((1:Int)+k5)=((1+k5:Nat):Int):=by omega
 have ZG:Hid (Sz 4 ((((1+k5:Nat):Int):Rat) / ((3:Int):Rat))):=Hi (((Sz.int (z:=((1+k5:Nat):Int)) (by rw [nYg];unfold W32;omega)).div (Sz.int (z:=3) (by decide))).mono (by decide));obtain ⟨kk,hkk⟩:∃ k,k=1+k5:=⟨_,rfl⟩;rw [←hkk] at hk5b ZG;have hkk8:kk≤8:=by omega
 clear hkk
 go_wp2_with fail
 refine cM (HM5.out _) fun x21 w21 hE _=>?_
 refine mV2 hE ?_ B4 HX;clear B4 HX;intro B4 HX;have hs_w21:=hE.size;clear hE;replace b_B4:=bX3 B4
 go_wp2_with fail
 refine cM (iW (kk:Nat) 3 _ (by omega) (by omega) (by decide) (by decide)) fun x22 w22 hE G22=>?_
 refine mV2 hE ?_ B4 HX;clear B4 HX;intro B4 HX;have hs_w22:=hE.size;clear hE;replace b_B4:=bX3 B4
 go_wp2_with fail
 refine cM (HC1.out _ HX.out) fun x23 w23 hE G23=>?_
 refine mV3 hE ?_ G22 B4 HX;clear G22 B4 HX;intro G22 B4 HX;have hs_w23:=hE.size;clear hE;replace b_B4:=bX3 B4
 go_wp2_with fail
 refine cM (HM4.out _) fun x24 w24 hE _=>?_
 refine mV4 hE ?_ G23 G22 B4 HX;clear G23 G22 B4 HX;intro G23 G22 B4 HX;have hs_w24:=hE.size;clear hE;replace b_B4:=bX3 B4
 go_wp2_with fail
 refine cM (HC2.out _ HX.out) fun x25 w25 hE G25=>?_
 refine mV4 hE ?_ G23 G22 B4 HX;clear G23 G22 B4 HX;intro G23 G22 B4 HX;have hs_w25:=hE.size;clear hE;replace b_B4:=bX3 B4;obtain ⟨qn,qa,ql,qc,qb,qm,qd'⟩:=x22;obtain ⟨ua,un,uc⟩:=x23;obtain ⟨va,vn,vc⟩:=x25;simp only [SH.v];have hun:=G23.out.len;have hvn:=G25.out.len;simp only at hun hvn;have PQ:=Hi (Cq ZG.out (ZQ1.out.mono (by decide)) (ZQ2.out.mono (by decide)) (show qe.length≤8 by have:=LQ1.out;omega) (show qd.length≤8 by have:=LQ2.out;omega));have HUn:=Hi hun;have HVn:=Hi hvn;clear hun hvn;obtain ⟨gq,hgq⟩:∃ q:Rat,q=(((kk:Nat):Int):Rat) / ((3:Int):Rat):=⟨_,rfl⟩;rw [←hgq] at G22 PQ ZG;clear hgq;have HRQ0:Hid (je w25 ⟨⟨qn,qa,ql,qc,qb,qm,qd'⟩,⟨ua,un,uc⟩,(k4:Nat),⟨va,vn,vc⟩⟩ gq qe qd):=Hi ⟨G22.out.raw PQ.out.zg (by decide),G23.out.raw PQ.out.fe.sz (by decide),G25.out.raw (ZQ2.out.mono (show 1≤2 by decide)) (by decide)⟩;clear G22;clear G23;clear G25
 go_upto_region 4 with fail
 refine nmA ?_;intro w26 hE B9 hz_w26 hr_w26;refine mV3 hE ?_ B4 HX HRQ0;clear B4 HX HRQ0;intro B4 HX HRQ0;have hs_w26:=hE.size;clear hE;replace b_B4:=bX3 B4;replace b_B9:=bX3 B9;have hdn49:dn≤49:=by omega
 have hen25:en≤25:=by omega
 have hvn49:vn≤49:=by have:=HVn.out;have:=PQ.out.ld;omega
 have hun25:un≤25:=by have:=HUn.out;have:=PQ.out.le;omega
 have DK1:Hid (DnK 400000 dn d):=Hi (by have h:=PS.out.dk;rw [LD.out] at h;exact h);have DR1:Hid (DnR 400000 dn d):=Hi (by have h:=PS.out.dr;rw [LD.out] at h;exact h);have DK2:Hid (DnK 400000 vn qd):=Hi (by have h:=PQ.out.dk;rw [HVn.out] at h;exact h);have DR2:Hid (DnR 400000 vn qd):=Hi (by have h:=PQ.out.dr;rw [HVn.out] at h;exact h);obtain ⟨r1,f1,g1,hr1⟩:∃ r1 f1 g1,rW g e p d=(r1,f1,g1):=⟨_,_,_,rfl⟩;obtain ⟨r2,f2,g2,hr2⟩:∃ r2 f2 g2,rW gq qe ((k4:Nat):Int) qd=(r2,f2,g2):=⟨_,_,_,rfl⟩;obtain ⟨v1,hv1⟩:∃ v,v=bN g e p d:=⟨_,rfl⟩;obtain ⟨v2,hv2⟩:∃ v,v=bN gq qe ((k4:Nat):Int) qd:=⟨_,rfl⟩;have HR1:=Hi hr1;have HR2:=Hi hr2;have HV1:=Hi hv1;have HV2:=Hi hv2;clear hr1 hr2 hv1 hv2
 go_wp2_with fail
 refine cM (k8 ⟨⟨gn,ga,gl,gc,gb,gm,gd⟩,⟨ea,en,ec⟩,p,⟨da,dn,dc⟩⟩ g e d 400000 19 4 _ (HRP.out.ext HX.out) hdn49 DK1.out hen25 PS.out.fe (by decide) PS.out.zg (by decide)) fun x31 w31 hE G31=>?_
 refine mV4 hE ?_ B9 B4 HX HRQ0;clear B9 B4 HX HRQ0;intro B9 B4 HX HRQ0;have hs_w31:=hE.size;clear hE;replace b_B4:=bX3 B4;replace b_B9:=bX3 B9;obtain ⟨⟨⟨a1,a2,a3⟩,⟨a4,a5,a6⟩⟩,ea'⟩:=x31;obtain ⟨he,hu⟩:=G31.out;simp only at he hu;rw [HR1.out] at he hu;simp only at he hu;subst he;have FA:=Hi hu;clear hu G31;simp only [FE,FH.v,SH.v]
 go_upto_region 5 with fail
 refine nmA ?_;intro w32 hE B10 hz_w32 hr_w32;refine mV5 hE ?_ B9 B4 HX HRQ0 FA;clear B9 B4 HX HRQ0 FA;intro B9 B4 HX HRQ0 FA;have hs_w32:=hE.size;clear hE;replace b_B4:=bX3 B4;replace b_B9:=bX3 B9;replace b_B10:=bX3 B10
 go_wp2_with fail
 refine cM (ji ⟨⟨gn,ga,gl,gc,gb,gm,gd⟩,⟨ea,en,ec⟩,p,⟨da,dn,dc⟩⟩ g e d 400000 19 4 _ (HRP.out.ext HX.out) hdn49 DR1.out hen25 PS.out.fe (by decide) PS.out.zg (by decide)) fun x33 w33 hE G33=>?_
 refine mV6 hE ?_ B10 B9 B4 HX HRQ0 FA;clear B10 B9 B4 HX HRQ0 FA;intro B10 B9 B4 HX HRQ0 FA;have hs_w33:=hE.size;clear hE;replace b_B4:=bX3 B4;replace b_B9:=bX3 B9;replace b_B10:=bX3 B10;obtain ⟨⟨⟨b1,b2,b3⟩,⟨b4,b5,b6⟩⟩,eb'⟩:=x33;obtain ⟨he,hu⟩:=G33.out;simp only at he hu;rw [HR1.out] at he hu;simp only at he hu;subst he;have FB:=Hi hu;clear hu G33;simp only [FE,FH.v,SH.v]
 go_upto_region 6 with fail
 refine nmA ?_;intro w34 hE B12 hz_w34 hr_w34;refine mV7 hE ?_ B10 B9 B4 HX HRQ0 FA FB;clear B10 B9 B4 HX HRQ0 FA FB;intro B10 B9 B4 HX HRQ0 FA FB;have hs_w34:=hE.size;clear hE;replace b_B4:=bX3 B4;replace b_B9:=bX3 B9;replace b_B10:=bX3 B10;replace b_B12:=bX3 B12
 go_wp2_with fail
 refine cM (k8 ⟨⟨qn,qa,ql,qc,qb,qm,qd'⟩,⟨ua,un,uc⟩,(k4:Nat),⟨va,vn,vc⟩⟩ gq qe qd 400000 19 4 _ HRQ0.out hvn49 DK2.out hun25 PQ.out.fe (by decide) PQ.out.zg (by decide)) fun x35 w35 hE G35=>?_
 refine mV8 hE ?_ B12 B10 B9 B4 HX HRQ0 FA FB;clear B12 B10 B9 B4 HX HRQ0 FA FB;intro B12 B10 B9 B4 HX HRQ0 FA FB;have hs_w35:=hE.size;clear hE;replace b_B4:=bX3 B4;replace b_B9:=bX3 B9;replace b_B10:=bX3 B10;replace b_B12:=bX3 B12;obtain ⟨⟨⟨c1,c2,c3⟩,⟨c4,c5,c6⟩⟩,ec'⟩:=x35;obtain ⟨he,hu⟩:=G35.out;simp only at he hu;rw [HR2.out] at he hu;simp only at he hu;subst he;have FC:=Hi hu;clear hu G35;simp only [FE,FH.v,SH.v]
 go_upto_region 7 with fail
 refine nmA ?_;intro w36 hE B14 hz_w36 hr_w36;refine mV8 hE ?_ B12 B10 B9 B4 HX HRQ0 FA FB;clear B12 B10 B9 B4 HX HRQ0 FA FB;intro B12 B10 B9 B4 HX HRQ0 FA FB;replace FC:=mV hE FC;have hs_w36:=hE.size;clear hE;replace b_B4:=bX3 B4;replace b_B9:=bX3 B9;replace b_B10:=bX3 B10;replace b_B12:=bX3 B12;replace b_B14:=bX3 B14
 go_wp2_with fail
 refine cM (ji ⟨⟨qn,qa,ql,qc,qb,qm,qd'⟩,⟨ua,un,uc⟩,(k4:Nat),⟨va,vn,vc⟩⟩ gq qe qd 400000 19 4 _ HRQ0.out hvn49 DR2.out hun25 PQ.out.fe (by decide) PQ.out.zg (by decide)) fun x37 w37 hE G37=>?_
 refine mV8 hE ?_ B14 B12 B10 B9 B4 HX HRQ0 FA;clear B14 B12 B10 B9 B4 HX HRQ0 FA;intro B14 B12 B10 B9 B4 HX HRQ0 FA;refine mV2 hE ?_ FB FC;clear FB FC;intro FB FC;have hs_w37:=hE.size;clear hE;replace b_B4:=bX3 B4;replace b_B9:=bX3 B9;replace b_B10:=bX3 B10;replace b_B12:=bX3 B12;replace b_B14:=bX3 B14;obtain ⟨⟨⟨d1,d2,d3⟩,⟨d4,d5,d6⟩⟩,ed'⟩:=x37;obtain ⟨he,hu⟩:=G37.out;simp only at he hu;rw [HR2.out] at he hu;simp only at he hu;subst he;have FD:=Hi hu;clear hu G37;simp only [FE,FH.v,SH.v]
 go_upto_region 8 with fail
 refine nmA ?_;intro w38 hE B16 hz_w38 hr_w38;refine mV8 hE ?_ B14 B12 B10 B9 B4 HX HRQ0 FA;clear B14 B12 B10 B9 B4 HX HRQ0 FA;intro B14 B12 B10 B9 B4 HX HRQ0 FA;refine mV3 hE ?_ FB FC FD;clear FB FC FD;intro FB FC FD;have hs_w38:=hE.size;clear hE;replace b_B4:=bX3 B4;replace b_B9:=bX3 B9;replace b_B10:=bX3 B10;replace b_B12:=bX3 B12;replace b_B14:=bX3 B14;replace b_B16:=bX3 B16;refine wpG 35 (fun opIx=>match opIx with
  | 0=>.spec Unit () (fun _=>.bool true) (fun _ _=>True)
  | 14=>.spec Unit () (fun _=>.bool true) (fun _ _=>True)
  | 19=>.spec Unit () (fun _=>.bool true) (fun _ _=>True)
  | 23=>.spec Unit () (fun _=>.bool v1) (fun _ _=>True)
  | 25=>.spec Unit () (fun _=>.bool v1) (fun _ _=>True)
  | 30=>.spec Unit () (fun _=>.bool v2) (fun _ _=>True)
  | 32=>.spec Unit () (fun _=>.bool v2) (fun _ _=>True)
  | _=>.quiet) (fun _=>[]) fun w0 he0 hz0 hc0 hf0=>?_
 refine wps he0.out rfl rfl (fun w1 hW hG=>?_) fun x50=>?_
 ·exact spc [] Tryz.func31 (eA _)
 refine qZ ?_;refine wps he0.out rfl rfl (fun w1 hW hG=>?_) fun x51=>?_
 ·exact spc [FH.v ⟨⟨a1,a2,a3⟩,⟨a4,a5,a6⟩⟩,FH.v ⟨⟨b1,b2,b3⟩,⟨b4,b5,b6⟩⟩] Tryz.func36 (jh ⟨⟨a1,a2,a3⟩,⟨a4,a5,a6⟩⟩ ⟨⟨b1,b2,b3⟩,⟨b4,b5,b6⟩⟩ f1 g1 _ (FA.out.ext hW) (FB.out.ext hW))
 refine qZ ?_;refine wps he0.out rfl rfl (fun w1 hW hG=>?_) fun x52=>?_
 ·exact spc [FH.v ⟨⟨c1,c2,c3⟩,⟨c4,c5,c6⟩⟩,FH.v ⟨⟨d1,d2,d3⟩,⟨d4,d5,d6⟩⟩] Tryz.func36 (jh ⟨⟨c1,c2,c3⟩,⟨c4,c5,c6⟩⟩ ⟨⟨d1,d2,d3⟩,⟨d4,d5,d6⟩⟩ f2 g2 _ (FC.out.ext hW) (FD.out.ext hW))
 refine qZ ?_;refine wps he0.out rfl rfl (fun w1 hW hG=>?_) fun x53=>?_
 ·exact spc [PH.v ⟨⟨gn,ga,gl,gc,gb,gm,gd⟩,⟨ea,en,ec⟩,p,⟨da,dn,dc⟩⟩] Tryz.func37 ((by rw [HV1.out];exact gt ⟨⟨gn,ga,gl,gc,gb,gm,gd⟩,⟨ea,en,ec⟩,p,⟨da,dn,dc⟩⟩ g e d 400000 _ (HRP.out.ext (HX.out.trans hW)) hdn49 DK1.out))
 refine qZ ?_;refine wps he0.out rfl rfl (fun w1 hW hG=>?_) fun x54=>?_
 ·exact spc [PH.v ⟨⟨gn,ga,gl,gc,gb,gm,gd⟩,⟨ea,en,ec⟩,p,⟨da,dn,dc⟩⟩] Tryz.func38 ((by rw [HV1.out];exact fU ⟨⟨gn,ga,gl,gc,gb,gm,gd⟩,⟨ea,en,ec⟩,p,⟨da,dn,dc⟩⟩ g e d 400000 _ (HRP.out.ext (HX.out.trans hW)) hdn49 (nXe hen25 (by decide)) DR1.out))
 refine qZ ?_;refine wps he0.out rfl rfl (fun w1 hW hG=>?_) fun x55=>?_
 ·exact spc [PH.v ⟨⟨qn,qa,ql,qc,qb,qm,qd'⟩,⟨ua,un,uc⟩,(k4:Nat),⟨va,vn,vc⟩⟩] Tryz.func37 ((by rw [HV2.out];exact gt ⟨⟨qn,qa,ql,qc,qb,qm,qd'⟩,⟨ua,un,uc⟩,(k4:Nat),⟨va,vn,vc⟩⟩ gq qe qd 400000 _ (HRQ0.out.ext hW) hvn49 DK2.out))
 refine qZ ?_;refine wps he0.out rfl rfl (fun w1 hW hG=>?_) fun x56=>?_
 ·exact spc [PH.v ⟨⟨qn,qa,ql,qc,qb,qm,qd'⟩,⟨ua,un,uc⟩,(k4:Nat),⟨va,vn,vc⟩⟩] Tryz.func38 ((by rw [HV2.out];exact fU ⟨⟨qn,qa,ql,qc,qb,qm,qd'⟩,⟨ua,un,uc⟩,(k4:Nat),⟨va,vn,vc⟩⟩ gq qe qd 400000 _ (HRQ0.out.ext hW) hvn49 (nXe hun25 (by decide)) DR2.out))
 refine qZ ?_;refine aj ?_;intro w39 hI;have hE:=he0.out.trans hI.ext;clear hI he0 hz0 hc0 hf0;refine mV8 hE ?_ B16 B14 B12 B10 B9 B4 HRQ0 FA;clear B16 B14 B12 B10 B9 B4 HRQ0 FA;intro B16 B14 B12 B10 B9 B4 HRQ0 FA;refine mV4 hE ?_ FB FC FD HX;clear FB FC FD HX;intro FB FC FD HX;have hs_w39:=hE.size;clear hE;replace b_B4:=bX3 B4;replace b_B9:=bX3 B9;replace b_B10:=bX3 B10;replace b_B12:=bX3 B12;replace b_B14:=bX3 B14;replace b_B16:=bX3 B16;simp only [pD];go_wp2
 go_ret
 exact ⟨(),rfl,HX.out,trivial⟩
end Go.Proofs.YtohahgiidooijaaGreat
