import Derived.Test.YtafgmcimcbhhjaaGreatQCK22
import Derived.ProofKit
import Derived.OpenShut
import Derived.ShutString
import Derived.ChangeOld
import Derived.Lib.SmallJoins
set_option linter.unusedVariables false
namespace Go.Proofs.YtafgmcimcbhhjaaGreat
open Go.RowKit Go.Front Go.Num Stab Sg
attribute [local go_sem] XW.cell XW.frozen
theorem aD.apz6{w:World}{s:SH}{qs:List Rat}{B:Nat}{T:TypeId}(h:aD w s qs)(hB:w.heap[B]?=some (.cells #[.bool false,.slice none 0 0,.slice none 0 0,.bool false,.slice none 0 0,.slice none 0 0] T (0,0))):ApB s B:=by
 rcases Nat.eq_zero_or_pos s.n with h0|h0
 ·exact Or.inl h0
 right
 intro o ho;obtain ⟨sa,sn,sc⟩:=s;simp only at ho h0;obtain ⟨b,off,r,e,⟨c1,c2,c3⟩,hc⟩:=h.at (k:=0) h0;rw [ho] at e;simp only [Option.some.injEq,Addr.mk.injEq] at e;obtain ⟨rfl,rfl,-⟩:=e;rw [Nat.zero_mul,Nat.add_zero,ab hB] at c1 c3;rcases o with _|_|_|_|_|_|o <;> simp at c1 c3
 all_goals
  obtain ⟨rneg,ra,rn,rc,rb,rm,rd⟩:=r;simp only at c3;have h1:=hc.2.2.len;simp only at h1;rw [←c3.2.1] at h1;exact absurd (bL.1 (nXj.1 h1)) (Rat.den_nz _)
set_option maxRecDepth 8000 in
set_option maxHeartbeats 16000000 in
theorem sf(z0 z1 z2 z3 z4:Int)(w:World)(h0:-9223372036854775808≤z0)(k0:z0≤9223372036854775807)(h1:-9223372036854775808≤z1)(k1:z1≤9223372036854775807)(h2:-9223372036854775808≤z2)(k2:z2≤9223372036854775807)(h3:-9223372036854775808≤z3)(k3:z3≤9223372036854775807)(h4:-9223372036854775808≤z4)(k4:z4≤9223372036854775807) :
  ak 8 [.int .i64 z0,.int .i64 z1,.int .i64 z2,.int .i64 z3,.int .i64 z4] w (fun _:Unit=>.bool true) (fun _ _=>True):=by
 have HX:=Hi (Ext.refl w);obtain ⟨k,hk⟩:∃ k,k=(z0 % 4).toNat:=⟨_,rfl⟩;obtain ⟨n,hn⟩:∃ n,n=zV z1:=⟨_,rfl⟩;obtain ⟨e,he⟩:∃ e,e=edQ z2:=⟨_,rfl⟩;obtain ⟨r,hr⟩:∃ r,r=riQ z3:=⟨_,rfl⟩;obtain ⟨q,hq⟩:∃ q,q=seQ z4:=⟨_,rfl⟩;have hk4:k<4:=by rw [hk];omega
 obtain ⟨n1,n5,-⟩:=wt z1;rw [←hn] at n1 n5;have EF:Hid (EdF e):=Hi (by rw [he];exact Fv _);have HR:Hid (0<r∧Sz 1 r):=Hi (by rw [hr];exact ER _);have HQ:Hid (0<q∧q<1∧Sz 1 q):=Hi (by rw [hq];exact EM _);have HAL:Hid (∀ w',ak 40 [.int .i64 z0,.int .i64 z1,.int .i64 z2,.int .i64 z3,.int .i64 z4] w' AlV (AlP k n e r q)):=Hi (fun w'=>by rw [hk,hn,he,hr,hq];exact yD z0 z1 z2 z3 z4 w' h0 k0 h1 k1 h2 k2 h3 k3 h4 k4);have PR:=Hi (FX hk4 n1 n5 EF.out HR.out.1 HQ.out.1 HQ.out.2.1);have PZ:=Hi (IE hk4 n1 n5 EF.out HR.out.2 HQ.out.2.2);have BZ:=Hi (GK hk4 n1 n5 EF.out HR.out.2 HQ.out.2.2);have hbl:FU k n e r q=if k=2 then fL (aC (tz (alD k n e r q)) r) (aC (nuP (alG k n e r) (alE k n e q) (alP k n)) (((1:Int):Rat)+r)) else fL (aC (nuP (alG k n e r) (alE k n e q) (alP k n)) (((1:Int):Rat)+r)) (tz (alD k n e r q)):=rfl
 obtain ⟨L,hL⟩:∃ L,L=FU k n e r q:=⟨_,rfl⟩;rw [←hL] at BZ hbl;obtain ⟨g,hg⟩:∃ g,g=alG k n e r:=⟨_,rfl⟩;obtain ⟨E,hE⟩:∃ E,E=alE k n e q:=⟨_,rfl⟩;obtain ⟨P,hP⟩:∃ P,P=alP k n:=⟨_,rfl⟩;obtain ⟨D,hD⟩:∃ D,D=alD k n e r q:=⟨_,rfl⟩;rw [←hg,←hE,←hP,←hD] at PR PZ;have HGE:Hid (alG k n e r=g∧alE k n e q=E∧alP k n=P∧alD k n e r q=D):=Hi ⟨hg.symm,hE.symm,hP.symm,hD.symm⟩;have HDK:Hid (DnK 3500000 D.length D):=Hi (Ie PZ.out.fd PZ.out.ld dZ (by unfold KN;decide) dZ (nXf (nXh _ (show D.length+1≤7 by have:=PZ.out.ld;omega)) dZ));have HRT:Hid (Cx g E P D=(0,nuP g E P,tz D)):=Hi (by unfold Cx nuP;rw [if_pos PR.out.val]);have NZ:=Hi (Gr PZ.out);have DZ:Hid (FrB 450 (tz D)∧(tz D).length≤6):=Hi ⟨PZ.out.fd.tz,nXf (ae D) PZ.out.ld⟩;obtain ⟨N,hN⟩:∃ N,N=nuP g E P:=⟨_,rfl⟩;obtain ⟨Q,hQ⟩:∃ Q,Q=tz D:=⟨_,rfl⟩;rw [←hN,←hQ] at HRT;rw [←hN] at NZ;rw [←hQ] at DZ;have ZL:Hid (Sz 1 (-1:Rat)):=Hi (by exact (Sz.int (z:=-1) dZ));have ZH:Hid (Sz 1 (1:Rat)):=Hi (by exact (Sz.int (z:=1) dZ));have ZE:=Hi EF.out.z;have ZR:=Hi HR.out.2;have Z1:Hid (Sz 1 ((1:Int):Rat)):=Hi (Sz.int dZ);have Zm:Hid (Sz 1 ((-1:Int):Rat)):=Hi (Sz.int dZ);rw [←hg,←hE,←hP,←hD,←hN,←hQ] at hbl;have HBL:=Hi hbl;have one:((1:Int):Rat)=1:=rfl;have HN1:Hid (k≠2→∀ x,e≤x→x≤1→0≤evV L x):=Hi (fun h0 x h1 h2=>by
  have hi:alI k=false:=decide_eq_false h0;rw [hbl,if_neg h0,je,kf,hN,hQ,cQ,xF,one];have:=PR.out.band hi x h1 h2;grind)
 have HN2:Hid (k=2→∀ x,-1≤x→x≤e→0≤evV L x):=Hi (fun h0 x h1 h2=>by
  have hi:alI k=true:=decide_eq_true h0;rw [hbl,if_pos h0,je,kf,kf,hN,hQ,cQ,xF,one];have:=PR.out.stop hi x h1 h2;grind)
 have HK2:Hid (z0 % 4=(k:Nat)):=Hi (by rw [hk];omega);have HMD:=Hi (kE z0 4 · h0 k0 dZ dZ);rw [HK2.out] at HMD;have ZS:Hid (Sz 3 (((1:Int):Rat)+r)):=Hi ((Z1.out.add ZR.out).mono dZ);have SN:Hid (FrB 263 (aC N (((1:Int):Rat)+r))∧(aC N (((1:Int):Rat)+r)).length≤6):=Hi ⟨NZ.out.1.scP ZS.out dZ,bh _ _ NZ.out.2⟩;have SQ:Hid (FrB 451 (aC Q r)∧(aC Q r).length≤6):=Hi ⟨DZ.out.1.scP ZR.out dZ,bh _ _ DZ.out.2⟩;have HE1:Hid (e≤1∧-1≤e):=Hi ⟨Rat.le_of_lt EF.out.hi,Rat.le_of_lt EF.out.lo⟩;have HV1:Hid (loV e ((1:Int):Rat)=e∧hiV e ((1:Int):Rat)=1):=Hi ⟨k7 (by rw [one];exact HE1.out.1),by rw [k8 (by rw [one];exact HE1.out.1)];rfl⟩;have HV2:Hid (loV ((-1:Int):Rat) e=-1∧hiV ((-1:Int):Rat) e=e):=Hi ⟨by rw [k7 (show ((-1:Int):Rat)≤e from HE1.out.2)];rfl,k8 (show ((-1:Int):Rat)≤e from HE1.out.2)⟩;clear hbl hL one;clear hk hn he hr hq hg hE hP hD hN hQ;unfold ak;go_enter Tryz.func8,Tryz.ntmps8
 go_wp2_with fail
 refine cM (HAL.out _) fun x29 w29 hE G29=>?_
 replace HX:=hE.tr HX;have hs_w29:=hE.size;obtain ⟨⟨⟨gn,ga,gl,gc,gb,gm,gd⟩,⟨ea,en,ec⟩,gp,⟨da,dn,dc⟩⟩,⟨sn,sa,sl,sc,sb,sm,sd⟩,⟨tn,ta,tl,tc,tb,tm,td⟩⟩:=x29;obtain ⟨⟨pg,pe,pp,pd⟩,ge,gr⟩:=G29.out;simp only at pg pe pp pd ge gr;obtain ⟨y1,y2,y3,y4⟩:=HGE.out;rw [y1] at pg;rw [y2] at pe;rw [y3] at pp;rw [y4] at pd;have PG:=Hi pg;have PE':=Hi pe;have PP:=Hi pp;have PD:=Hi pd;have HS:=Hi ge;have HT:=Hi gr;have hdn:D.length=dn:=pd.len;have hen:E.length=en:=pe.len;have hd6:dn≤6:=by have:=PZ.out.ld;omega
 have he3:en≤3:=by have:=PZ.out.le;omega
 have HDK2:Hid (DnK 3500000 dn D):=Hi (by have h:=HDK.out;rw [hdn] at h;exact h);clear pg pe pp pd ge gr y1 y2 y3 y4 G29 hdn hen;simp only [AlV]
 go_upto_region 2 with fail
 refine pW ?_;intro w30 hE B11 B12 B13 hz_w30 hr_w30;refine mV6 hE ?_ PE' HX PG PD HS HT;clear PE' HX PG PD HS HT;intro PE' HX PG PD HS HT;replace b_B11:=bX3 B11;have HRP:Hid (m9 w30 ⟨⟨gn,ga,gl,gc,gb,gm,gd⟩,⟨ea,en,ec⟩,gp,⟨da,dn,dc⟩⟩ g E D):=Hi ⟨PG.out.raw PZ.out.zg dZ,PE'.out.raw PZ.out.fe.sz dZ,PD.out.raw PZ.out.fd.sz dZ⟩
 go_wp2_with fail
 refine cM (uv ⟨⟨gn,ga,gl,gc,gb,gm,gd⟩,⟨ea,en,ec⟩,gp,⟨da,dn,dc⟩⟩ g E D 3500000 115 3 _ HRP.out (show dn≤49 by omega) HDK2.out (show en≤25 by omega) PZ.out.fe dZ PZ.out.zg dZ) fun x36 w36 hE G36=>?_
 refine mV5 hE ?_ B12 B13 HX HS HT;clear B12 B13 HX HS HT;intro B12 B13 HX HS HT;have hs_w36:=hE.size;obtain ⟨⟨⟨na,nn,nc⟩,⟨qa,qn,qc⟩⟩,er⟩:=x36;obtain ⟨hee,hf⟩:=G36.out;rw [PP.out,HRT.out] at hee hf;simp only at hee hf;subst hee;have LN:=Hi hf.1;have LQ:=Hi hf.2;have hnn:nn≤6:=by have h:=hf.1.len;have h2:=NZ.out.2;simp only at h;omega
 have hqn:qn≤6:=by have h:=hf.2.len;have h2:=DZ.out.2;simp only at h;omega
 clear hf G36;clear PE';clear PD;simp only [FE]
 go_upto_region 3 with fail
 refine nmA ?_;intro w37 hE B15 hz_w37 hr_w37;refine mV7 hE ?_ B12 B13 HX HS HT LN LQ;clear B12 B13 HX HS HT LN LQ;intro B12 B13 HX HS HT LN LQ;replace b_B13:=bX3 B13
 go_upto_region 5 with fail
 refine wpG 4 (fun opIx=>match opIx with
  | 0=>sR (((1:Int):Rat))
  | 2=>sR (((1:Int):Rat)+r)
  | 3=>.alloc 34 #[.bool false,.slice none 0 0,.slice none 0 0]
  | _=>.quiet) (fun|2=>[0]|_=>[]) fun w0 he0 hz0 hc0 hf0=>?_
 refine wps he0 (fun w1 hW hG=>?_) fun x40=>?_
 ·exact spc [.int .i64 1] Tryz.func36 (ce 1 _ dZ dZ)
 refine qZ ?_;refine wps he0 (fun w1 hW hG=>?_) fun x41=>?_
 ·have g40:=gS (hG 0 dZ);exact spc [x40.v,RH.v ⟨tn,ta,tl,tc,tb,tm,td⟩] Tryz.func46 (eV x40 ⟨tn,ta,tl,tc,tb,tm,td⟩ ((1:Int):Rat) r _ (g40.raw Z1.out dZ) ((HT.out.ext hW).raw ZR.out dZ))
 refine qZ ?_;refine aM rfl rfl (fun w=>by simp [execOp,go_sem,ptr]) (fun b42 hb42 hl42=>?_);refine qZ ?_;refine aj ?_;intro w40 hI;have hE:=he0.out.trans hI.ext;have G41:=gT (hI.facts 2);have A42:Hid (w40.heap[b42]?=some (.cells #[.bool false,.slice none 0 0,.slice none 0 0] 34 (0,0))):=hI.facts 3;rw [hz0] at hl42;clear hI he0 hz0 hc0 hf0;refine mV8 hE ?_ B15 B12 B13 HX HS HT LN LQ;clear B15 B12 B13 HX HS HT LN LQ;intro B15 B12 B13 HX HS HT LN LQ;replace b_A42:=bX3 A42;simp only [pD,ptr];obtain ⟨un,ua,ul,uc,ub,um,ud⟩:=x41;have HU:Hid (aB w40 ⟨un,ua,ul,uc,ub,um,ud⟩ (((1:Int):Rat)+r)):=G41;have A1:=Hi (LN.out.apz3 A42.out);have A2:=Hi (LQ.out.apz3 A42.out);clear G41;clear HRP
 go_upto_region 6 with fail
 refine aU A42.out rfl ?_;intro w43 T;have LN1:=Hi (LN.out.puta A1.out T);have LQ1:=Hi (LQ.out.puta A2.out T);clear LN;clear LQ;replace HX:=Hi (T.ext HX.out zo);replace HS:=Hi (HS.out.keep T.keep);replace HT:=Hi (HT.out.keep T.keep);replace B12:=Hi (T.rest _ _ zo B12.out);replace B13:=Hi (T.rest _ _ zo B13.out);replace B15:=Hi (T.rest _ _ zo B15.out);replace A42:=Hi (T.bx);replace HU:=Hi (HU.out.keep T.keep);clear T;replace b_B15:=bX3 B15;replace b_A42:=bX3 A42;have LN:=LN1;have LQ:=LQ1;clear LN1 LQ1 A1 A2;refine wpG 7 (fun opIx=>match opIx with
  | 3=>.spec (SH) (default) (SH.v) (fun x w'=>aD w' x (aC N (((1:Int):Rat)+r)))
  | 6=>.spec (SH) (default) (SH.v) (fun x w'=>aD w' x (fL (aC N (((1:Int):Rat)+r)) Q))
  | _=>.quiet) (fun|6=>[3]|_=>[]) fun w0 he0 hz0 hc0 hf0=>?_
 refine wps he0 (fun w1 hW hG=>?_) fun x44=>?_
 ·exact spc [.slice na nn nc,RH.v ⟨un,ua,ul,uc,ub,um,ud⟩] Tryz.func51 ((dS na nn nc N ⟨un,ua,ul,uc,ub,um,ud⟩ (((1:Int):Rat)+r) _ ((LN.out.ext hW).raw NZ.out.1.sz dZ) ((HU.out.ext hW).raw ZS.out dZ) zo (NZ.out.1.sz.mono dZ) (ZS.out.mono dZ)).weak (fun _ _ _ h=>h.can))
 refine qZ ?_;refine wps he0 (fun w1 hW hG=>?_) fun x45=>?_
 ·have g44:=gS (hG 3 dZ);exact spc [x44.v,.slice qa qn qc] Tryz.func44 ((sH x44.a qa x44.n x44.c qn qc (aC N (((1:Int):Rat)+r)) Q _ (g44.raw SN.out.1.sz dZ) ((LQ.out.ext hW).raw DZ.out.1.sz dZ) (by have h:=g44.len;have h2:=SN.out.2;omega) zo (SN.out.1.sz.mono dZ) (DZ.out.1.sz.mono dZ)).weak (fun _ _ _ h=>h.can))
 refine qZ ?_;refine aj ?_;intro w44 hI;have hE:=he0.out.trans hI.ext;have G45:=gT (hI.facts 6);clear hI he0 hz0 hc0 hf0;refine mV8 hE ?_ HX HS HT B12 B13 B15 A42 HU;clear HX HS HT B12 B13 B15 A42 HU;intro HX HS HT B12 B13 B15 A42 HU;refine mV2 hE ?_ LN LQ;clear LN LQ;intro LN LQ;replace b_B12:=bX3 B12;replace b_A42:=bX3 A42;simp only [pD];obtain ⟨fa,fn,fc⟩:=x45;have LF:=Hi G45.out;clear G45;simp only [SH.v]
 go_upto_region 7 with fail
 have p42:b42<w44.heap.size:=b_A42.2.2;refine wpG 4 (fun opIx=>match opIx with
  | 1=>sR (((1:Int):Rat))
  | 2=>.spec (RH×RH) (default) (IvV) (fun x w'=>IvE w' x e 1)
  | 3=>.alloc 38 #[.bool false,.slice none 0 0,.slice none 0 0,.bool false,.slice none 0 0,.slice none 0 0]
  | _=>.quiet) (fun|2=>[1]|_=>[]) fun w0 he0 hz0 hc0 hf0=>?_
 refine wps he0 (fun w1 hW hG=>?_) fun x50=>?_
 ·exact spc [.int .i64 1] Tryz.func36 (ce 1 _ dZ dZ)
 refine qZ ?_;refine wps he0 (fun w1 hW hG=>?_) fun x51=>?_
 ·have g50:=gS (hG 1 dZ);exact spc [RH.v ⟨sn,sa,sl,sc,sb,sm,sd⟩,x50.v] Tryz.func52 ((by have h:=mK ⟨sn,sa,sl,sc,sb,sm,sd⟩ x50 e ((1:Int):Rat) _ ((HS.out.ext hW).raw ZE.out dZ) (g50.raw Z1.out dZ);rw [HV1.out.1,HV1.out.2] at h;exact h))
 refine qZ ?_;refine aM rfl rfl (fun w=>by simp [execOp,go_sem,ptr]) (fun b52 hb52 hl52=>?_);refine qZ ?_;refine aj ?_;intro w50 hI;have hE:=he0.out.trans hI.ext;have G51:=gT (hI.facts 2);have A52:Hid (w50.heap[b52]?=some (.cells #[.bool false,.slice none 0 0,.slice none 0 0,.bool false,.slice none 0 0,.slice none 0 0] 38 (0,0))):=hI.facts 3;rw [hz0] at hl52;clear hI he0 hz0 hc0 hf0;refine mV8 hE ?_ HX HS HT B12 B13 B15 A42 HU;clear HX HS HT B12 B13 B15 A42 HU;intro HX HS HT B12 B13 B15 A42 HU;refine mV3 hE ?_ LN LQ LF;clear LN LQ LF;intro LN LQ LF;replace b_A52:=bX3 A52;simp only [pD,ptr];obtain ⟨⟨ln,la,ll,lc,lb,lm,ld⟩,⟨hn',ha,hl,hc,hb,hm,hd⟩⟩:=x51;have HL:=Hi G51.out.1;have HH:=Hi G51.out.2;have A1:=Hi (LN.out.apz6 A52.out);have A2:=Hi (LQ.out.apz6 A52.out);have A3:=Hi (LF.out.apz6 A52.out);clear G51
 go_upto_region 8 with fail
 refine bi A52.out rfl ?_;intro w53 T;have LN1:=Hi (LN.out.puta A1.out T);have LQ1:=Hi (LQ.out.puta A2.out T);have LF1:=Hi (LF.out.puta A3.out T);clear LN;clear LQ;clear LF;replace HX:=Hi (T.ext HX.out zo);replace HS:=Hi (HS.out.keep T.keep);replace HT:=Hi (HT.out.keep T.keep);replace B12:=Hi (T.rest _ _ zo B12.out);replace B13:=Hi (T.rest _ _ zo B13.out);replace B15:=Hi (T.rest _ _ zo B15.out);replace A42:=Hi (T.rest _ _ zo A42.out);replace HU:=Hi (HU.out.keep T.keep);replace A52:=Hi (T.bx);replace HL:=Hi (HL.out.keep T.keep);replace HH:=Hi (HH.out.keep T.keep);clear T;have LN:=LN1;have LQ:=LQ1;have LF:=LF1;clear LN1 LQ1 LF1 A1 A2 A3
 go_wp2_with fail
 refine cM (HMD.out _) fun x58 w58 hE _=>?_
 refine mV8 hE ?_ HX HS HT B12 B13 B15 A42 HU;clear HX HS HT B12 B13 B15 A42 HU;intro HX HS HT B12 B13 B15 A42 HU;refine mV6 hE ?_ A52 HL HH LN LQ LF;clear A52 HL HH LN LQ LF;intro A52 HL HH LN LQ LF;replace b_B13:=bX3 B13;replace b_B15:=bX3 B15;replace b_A42:=bX3 A42;replace b_A52:=bX3 A52;have p52:b52<w58.heap.size:=b_A52.2.2;by_cases h2:k=2
 case neg =>
  have h2b:((k:Int) == 2)=false:=by rw [nXs];omega
  have HLF:Hid (fL (aC N (((1:Int):Rat)+r)) Q=L):=Hi (by have h:=HBL.out;rw [if_neg h2] at h;exact h.symm);have HNL:=Hi (HN1.out h2);rw [HLF.out] at LF
  go_wp2_with fail
  refine cM (mC fa fn fc (L) 450 6 1 3500000 ⟨ln,la,ll,lc,lb,lm,ld⟩ ⟨hn',ha,hl,hc,hb,hm,hd⟩ (e) (1) _ (LF.out.raw BZ.out.1.sz dZ) (HL.out.raw ZE.out dZ) (HH.out.raw ZH.out dZ) BZ.out.1 BZ.out.2 dZ ZE.out ZH.out HE1.out.1 dZ (by unfold KN;decide) dZ dZ dZ dZ HNL.out) fun x60 w60 hE _=>?_
  replace HX:=hE.tr HX
  go_wp2_with fail
  refine cM (mT _) fun x90 w90 hE _=>?_
  replace HX:=hE.tr HX;go_wp2
  go_ret
  exact ⟨(),rfl,HX.out,trivial⟩
 case pos =>
  have HLF:Hid (fL (aC Q r) (aC N (((1:Int):Rat)+r))=L):=Hi (by have h:=HBL.out;rw [if_pos h2] at h;exact h.symm);have HNL:=Hi (HN2.out h2);subst h2
  go_upto_region 9 with fail
  clear LF;refine wpG 9 (fun opIx=>match opIx with
   | 3=>.spec (SH) (default) (SH.v) (fun x w'=>aD w' x (aC Q r))
   | 7=>.spec (SH) (default) (SH.v) (fun x w'=>aD w' x (aC N (((1:Int):Rat)+r)))
   | 8=>.spec (SH) (default) (SH.v) (fun x w'=>bU w58.heap.size w' x L)
   | _=>.quiet) (fun|8=>[3,7]|_=>[]) fun w0 he0 hz0 hc0 hf0=>?_
  refine wps he0 (fun w1 hW hG=>?_) fun x60=>?_
  ·exact spc [.slice qa qn qc,RH.v ⟨tn,ta,tl,tc,tb,tm,td⟩] Tryz.func51 ((dS qa qn qc Q ⟨tn,ta,tl,tc,tb,tm,td⟩ r _ ((LQ.out.ext hW).raw DZ.out.1.sz dZ) ((HT.out.ext hW).raw ZR.out dZ) zo (DZ.out.1.sz.mono dZ) (ZR.out.mono dZ)).weak (fun _ _ _ h=>h.can))
  refine qZ ?_;refine wps he0 (fun w1 hW hG=>?_) fun x61=>?_
  ·exact spc [.slice na nn nc,RH.v ⟨un,ua,ul,uc,ub,um,ud⟩] Tryz.func51 ((dS na nn nc N ⟨un,ua,ul,uc,ub,um,ud⟩ (((1:Int):Rat)+r) _ ((LN.out.ext hW).raw NZ.out.1.sz dZ) ((HU.out.ext hW).raw ZS.out dZ) zo (NZ.out.1.sz.mono dZ) (ZS.out.mono dZ)).weak (fun _ _ _ h=>h.can))
  refine qZ ?_;refine wps he0 (fun w1 hW hG=>?_) fun x62=>?_
  ·have g60:=gS (hG 3 dZ);have g61:=gS (hG 7 dZ);exact spc [x60.v,x61.v] Tryz.func44 ((sH x60.a x61.a x60.n x60.c x61.n x61.c (aC Q r) (aC N (((1:Int):Rat)+r)) _ (g60.raw SQ.out.1.sz dZ) (g61.raw SN.out.1.sz dZ) (by have h:=g60.len;have h2:=SQ.out.2;omega) (by have h:=g61.len;have h2:=SN.out.2;omega) (SQ.out.1.sz.mono dZ) (SN.out.1.sz.mono dZ)).weak (fun _ _ _ h=>by rw [←HLF.out];exact h.mono hW.size))
  refine qZ ?_;refine aj ?_;intro w60 hI;have hE:=he0.out.trans hI.ext;have G62:=gT (hI.facts 8);clear hI he0 hz0 hc0 hf0;refine mV4 hE ?_ HS B12 A52 HX;clear HS B12 A52 HX;intro HS B12 A52 HX;replace b_B12:=bX3 B12;simp only [pD];obtain ⟨ia,in',ic⟩:=x62;have LI:Hid (LIn w60 ⟨ia,in',ic⟩ L w58.heap.size w60.heap.size):=Hi G62.out;clear G62;simp only [SH.v]
  go_upto_region 10 with fail
  refine wpG 3 (fun opIx=>match opIx with
   | 0=>sR (((-1:Int):Rat))
   | 2=>.spec (RH×RH) (default) (IvV) (fun x w'=>IvE w' x (-1) e)
   | _=>.quiet) (fun|2=>[0]|_=>[]) fun w0 he0 hz0 hc0 hf0=>?_
  refine wps he0 (fun w1 hW hG=>?_) fun x63=>?_
  ·exact spc [.int .i64 (-1)] Tryz.func36 (ce (-1) _ dZ dZ)
  refine qZ ?_;refine wps he0 (fun w1 hW hG=>?_) fun x64=>?_
  ·have g63:=gS (hG 0 dZ);exact spc [x63.v,RH.v ⟨sn,sa,sl,sc,sb,sm,sd⟩] Tryz.func52 ((by have h:=mK x63 ⟨sn,sa,sl,sc,sb,sm,sd⟩ ((-1:Int):Rat) e _ (g63.raw Zm.out dZ) ((HS.out.ext hW).raw ZE.out dZ);rw [HV2.out.1,HV2.out.2] at h;exact h))
  refine qZ ?_;refine aj ?_;intro w63 hI;have hE:=he0.out.trans hI.ext;have G64:=gT (hI.facts 2);clear hI he0 hz0 hc0 hf0;refine mV3 hE ?_ A52 HX LI;clear A52 HX LI;intro A52 HX LI;replace b_A52:=bX3 A52;simp only [pD];obtain ⟨⟨jn,ja,jl,jc,jb,jm,jd⟩,⟨on,oa,ol,oc,ob,om,od⟩⟩:=x64;have HL2:=Hi G64.out.1;have HH2:=Hi G64.out.2;clear G64;clear LN;clear LQ
  go_upto_region 11 with fail
  refine bi A52.out rfl ?_;intro w65 T;replace HX:=Hi (T.ext HX.out zo);replace A52:=Hi (T.bx);replace LI:=Hi (LI.out.put T zo);replace HL2:=Hi (HL2.out.keep T.keep);replace HH2:=Hi (HH2.out.keep T.keep);clear T;replace b_A52:=bX3 A52
  go_wp2_with fail
  refine cM (mC ia in' ic (L) 450 6 1 3500000 ⟨jn,ja,jl,jc,jb,jm,jd⟩ ⟨on,oa,ol,oc,ob,om,od⟩ (-1) (e) _ (LI.out.can.raw BZ.out.1.sz dZ) (HL2.out.raw ZL.out dZ) (HH2.out.raw ZE.out dZ) BZ.out.1 BZ.out.2 dZ ZL.out ZE.out HE1.out.2 dZ (by unfold KN;decide) dZ dZ dZ dZ HNL.out) fun x60 w60 hE _=>?_
  replace HX:=hE.tr HX
  go_wp2_with fail
  refine cM (mT _) fun x90 w90 hE _=>?_
  replace HX:=hE.tr HX;go_wp2
  go_ret
  exact ⟨(),rfl,HX.out,trivial⟩
end Go.Proofs.YtafgmcimcbhhjaaGreat
/- What all joins of this seat share. -/
namespace Go.Proofs.YtafgmcimcbhhjaaGreat
open Go.ChangeShapes Go.WideShapes Go.ChangeAt Go.RowKit Go.Front Go.Joins
theorem own:ownKnob Tryz.prog.godebug=none:=by kernel_rfl
theorem mJ:laidOutB Tryz.prog=true:=by kernel_rfl
theorem jF{n:Int}(h:(Lit.int .i64 n).wf=true):-9223372036854775808≤n∧n≤9223372036854775807:=by
 simp [Lit.wf] at h;exact ⟨h.1,h.2⟩
end Go.Proofs.YtafgmcimcbhhjaaGreat
