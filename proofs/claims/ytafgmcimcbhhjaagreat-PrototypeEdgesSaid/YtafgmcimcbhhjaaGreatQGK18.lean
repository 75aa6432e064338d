/- all and two of law17. -/
import Derived.Test.YtafgmcimcbhhjaaGreatQGK17
import Derived.Test.YtafgmcimcbhhjaaGreatQGPtE
import Derived.Test.YtafgmcimcbhhjaaGreatQGK15
import Derived.Test.YtafgmcimcbhhjaaGreatQGK6
import Derived.Test.YtafgmcimcbhhjaaGreatQGK16
import Derived.Test.YtafgmcimcbhhjaaGreatQGM7
import Derived.Test.YtafgmcimcbhhjaaGreatQGK3
import Derived.Test.YtafgmcimcbhhjaaGreatQGK10
import Derived.Deep.DeepCutAuto
import Derived.Test.YtafgmcimcbhhjaaGreatQGM12
import Derived.Test.YtafgmcimcbhhjaaGreatQGM6
import Derived.Test.YtafgmcimcbhhjaaGreatQGK14
set_option linter.unusedVariables false
namespace Go.Proofs.YtafgmcimcbhhjaaGreat
open Go.RowKit Go.Front Go.Num Stab
attribute [local go_sem] XW.cell XW.frozen
theorem aJ.apz3{w:World}{s:SH}{qs:List Rat}{B:Nat}{T:TypeId}(h:aJ w s qs)(hB:w.heap[B]?=some (.cells #[.bool false,.slice none 0 0,.slice none 0 0] T (0,0))):ApB s B:=by
 rcases Nat.eq_zero_or_pos s.n with h0|h0
 ·exact Or.inl h0
 right
 intro o ho;obtain ⟨sa,sn,sc⟩:=s;simp only at ho h0;obtain ⟨b,off,r,e,⟨c1,c2,c3⟩,hc⟩:=h.at (k:=0) h0;rw [ho] at e;simp only [Option.some.injEq,Addr.mk.injEq] at e;obtain ⟨rfl,rfl,-⟩:=e;rw [Nat.zero_mul,Nat.add_zero,ab hB] at c1 c3;rcases o with _|_|_|o <;> simp at c1 c3
 obtain ⟨rneg,ra,rn,rc,rb,rm,rd⟩:=r;simp only at c3;have h1:=hc.2.2.len;simp only at h1;rw [←c3.2.1] at h1;exact absurd (bE.1 (nXi.1 h1)) (Rat.den_nz _)
theorem vO{w1:World}{b b' b'':Nat}{T T' T'':TypeId}{a0 a1 a2 a3 a4 a5 u0 u1 u2 u3 u4 u5 c0 c1 c2 v0 v1 v2 d0 d1 d2 x0 x1 x2:Value}{F:World→Prop}(hb:w1.heap[b]?=some (.cells #[a0,a1,a2,a3,a4,a5] T (0,0)))(hn:#[a0,a1,a2,a3,a4,a5].toList.all f8=true)
 (hb':w1.heap[b']?=some (.cells #[c0,c1,c2] T' (0,0)))(hn':#[c0,c1,c2].toList.all f8=true)(hb'':w1.heap[b'']?=some (.cells #[d0,d1,d2] T'' (0,0)))(hn'':#[d0,d1,d2].toList.all f8=true)(h1:b'≠b)(h2:b''≠b)(h3:b''≠b')
 (H:∀ w2 w3 w4 w5,fs w1 b T #[u0,u1,u2,u3,u4,u5] w2→fs w2 b' T' #[v0,v1,v2] w3→fs w3 b'' T'' #[x0,x1,x2] w4→Ext w4 w5→F w5) :
  F ((((((((((((w1.setCell ⟨b,0,none⟩ u0).setCell ⟨b,1,none⟩ u1).setCell ⟨b,2,none⟩ u2).setCell ⟨b,3,none⟩ u3).setCell ⟨b,4,none⟩ u4).setCell ⟨b,5,none⟩ u5).setCell ⟨b',0,none⟩ v0).setCell ⟨b',1,none⟩ v1).setCell ⟨b',2,none⟩ v2).setCell ⟨b'',0,none⟩ x0).setCell ⟨b'',1,none⟩ x1).setCell ⟨b'',2,none⟩ x2).drew :=
 bN (v0:=u0) (v1:=u1) (v2:=u2) (v3:=u3) (v4:=u4) (v5:=u5) (F:=fun W=>F (((((((W.setCell ⟨b',0,none⟩ v0).setCell ⟨b',1,none⟩ v1).setCell ⟨b',2,none⟩ v2).setCell ⟨b'',0,none⟩ x0).setCell ⟨b'',1,none⟩ x1).setCell ⟨b'',2,none⟩ x2).drew)) hb hn fun w2 T2 =>
  aV (v0:=v0) (v1:=v1) (v2:=v2) (F:=fun W=>F ((((W.setCell ⟨b'',0,none⟩ x0).setCell ⟨b'',1,none⟩ x1).setCell ⟨b'',2,none⟩ x2).drew)) (T2.rest _ _ h1 hb') hn' fun w3 T3 =>
   aV (v0:=x0) (v1:=x1) (v2:=x2) (F:=fun W=>F W.drew) (T3.rest _ _ h3 (T2.rest _ _ h2 hb'')) hn'' fun w4 T4=>H w2 w3 w4 _ T2 T3 T4 (Ext.drew _)
abbrev AlV(x:PH×RH×RH):Value:=.tuple #[x.1.v,x.2.1.v,x.2.2.v,.bool true]
def AlP(k n:Nat)(e r q:Rat)(x:PH×RH×RH)(w:World):Prop:=ry w x.1 (alG k n e r) (alE k n e q) (alP k n) (alD k n e r q)∧aw w x.2.1 e∧aw w x.2.2 r
set_option maxRecDepth 8000 in
set_option maxHeartbeats 16000000 in
theorem uw(z0 z1 z2 z3 z4:Int)(w:World)(h0:-9223372036854775808≤z0)(k0:z0≤9223372036854775807)(h1:-9223372036854775808≤z1)(k1:z1≤9223372036854775807)(h2:-9223372036854775808≤z2)(k2:z2≤9223372036854775807)(h3:-9223372036854775808≤z3)(k3:z3≤9223372036854775807)(h4:-9223372036854775808≤z4)(k4:z4≤9223372036854775807) :
  aq 40 [.int .i64 z0,.int .i64 z1,.int .i64 z2,.int .i64 z3,.int .i64 z4] w AlV (AlP (z0 % 4).toNat (vJ z1) (edQ z2) (riQ z3) (seQ z4)):=by
 have HX:=Hi (Ext.refl w);obtain ⟨m0,e0,l0⟩:=eB z0 4 (by decide);obtain ⟨m1,e1,l1⟩:=eB z1 5 (by decide);obtain ⟨m2,e2,l2⟩:=eB z2 19 (by decide);obtain ⟨m3,e3,l3⟩:=eB z3 30 (by decide);obtain ⟨m4,e4,l4⟩:=eB z4 9 (by decide);have C0:=Hi (ja z0 4 · h0 k0 (by decide) (by decide));have C1:=Hi (ja z1 5 · h1 k1 (by decide) (by decide));have C2:=Hi (ja z2 19 · h2 k2 (by decide) (by decide));have C3:=Hi (ja z3 30 · h3 k3 (by decide) (by decide));have C4:=Hi (ja z4 9 · h4 k4 (by decide) (by decide));rw [e0] at C0;rw [e1] at C1;rw [e2] at C2;rw [e3] at C3;rw [e4] at C4;obtain ⟨n1,n5,-⟩:=sF z1;have hnz:vJ z1=1+m1:=by unfold vJ;omega
 obtain ⟨n,hn⟩:∃ n,n=vJ z1:=⟨_,rfl⟩;obtain ⟨e,he⟩:∃ e,e=edQ z2:=⟨_,rfl⟩;obtain ⟨r,hr⟩:∃ r,r=riQ z3:=⟨_,rfl⟩;obtain ⟨q,hq⟩:∃ q,q=seQ z4:=⟨_,rfl⟩;have EF:Hid (EdF e):=Hi (by rw [he];exact Bz z2);have HR:Hid (0<r∧Sz 1 r):=Hi (by rw [hr];exact AS z3);have HQ:Hid (0<q∧q<1∧Sz 1 q):=Hi (by rw [hq];exact AO z4);have HEE:Hid (e=(((m2:Int)-9:Int):Rat) / ((10:Int):Rat)):=Hi (by rw [he];unfold edQ;rw [e2]);have HRR:Hid (r=((1+(m3:Int):Int):Rat) / ((10:Int):Rat)):=Hi (by rw [hr];unfold riQ;rw [e3]);have HQQ:Hid (q=((1+(m4:Int):Int):Rat) / ((10:Int):Rat)):=Hi (by rw [hq];unfold seQ;rw [e4]);rw [←hn] at n1 n5 hnz;rw [←hn,←he,←hr,←hq,show (z0 % 4).toNat=m0 by omega];have HNZ:Hid ((1:Int)+(m1:Int)=(n:Int)):=Hi (by omega);have HWR:Hid (dl (n:Nat) e r=0):=Hi (oQ n1 (by omega) EF.out HR.out.1);clear e0 e1 e2 e3 e4 hn he hr hq hnz h0 k0 h1 k1 h2 k2 h3 k3 h4 k4;unfold aq;go_enter Tryz.func40,Tryz.ntmps40
 go_upto_region 1 with fail
 refine pC ?_;intro w1 hE B10 B11 B12 hz_w1 hr_w1;replace HX:=hE.tr HX;have hs_w1:=hE.size;clear hE;replace b_B10:=bX3 B10;replace b_B11:=bX3 B11;replace b_B12:=bX3 B12
 go_wp2_with fail
 refine cM (C1.out _) fun x20 w20 hE _=>?_
 refine mV4 hE ?_ B10 B11 B12 HX;clear B10 B11 B12 HX;intro B10 B11 B12 HX;have hs_w20:=hE.size;clear hE;replace b_B10:=bX3 B10;replace b_B11:=bX3 B11;replace b_B12:=bX3 B12
 go_wp2_with fail
 refine cM (C2.out _) fun x23 w23 hE _=>?_
 refine mV4 hE ?_ B10 B11 B12 HX;clear B10 B11 B12 HX;intro B10 B11 B12 HX;have hs_w23:=hE.size;clear hE;replace b_B10:=bX3 B10;replace b_B11:=bX3 B11;replace b_B12:=bX3 B12;rw [HNZ.out]
 go_wp2_with fail
 refine cM (fZ ((m2:Int)-9) 10 _ (by omega) (by omega) (by decide) (by decide)) fun x25 w25 hE G25=>?_
 refine mV4 hE ?_ B10 B11 B12 HX;clear B10 B11 B12 HX;intro B10 B11 B12 HX;have hs_w25:=hE.size;clear hE;replace b_B10:=bX3 B10;replace b_B11:=bX3 B11;replace b_B12:=bX3 B12;rw [←HEE.out] at G25;have GE:=Hi G25.out;clear G25
 go_wp2_with fail
 refine cM (C3.out _) fun x27 w27 hE _=>?_
 refine mV5 hE ?_ B10 B11 B12 HX GE;clear B10 B11 B12 HX GE;intro B10 B11 B12 HX GE;have hs_w27:=hE.size;clear hE;replace b_B10:=bX3 B10;replace b_B11:=bX3 B11;replace b_B12:=bX3 B12
 go_wp2_with fail
 refine cM (fZ (1+(m3:Int)) 10 _ (by omega) (by omega) (by decide) (by decide)) fun x29 w29 hE G29=>?_
 refine mV5 hE ?_ B10 B11 B12 HX GE;clear B10 B11 B12 HX GE;intro B10 B11 B12 HX GE;have hs_w29:=hE.size;clear hE;replace b_B10:=bX3 B10;replace b_B11:=bX3 B11;replace b_B12:=bX3 B12;rw [←HRR.out] at G29;have GR:=Hi G29.out;clear G29;obtain ⟨sn,sa,sl,sc,sb,sm,sd⟩:=x25;obtain ⟨tn,ta,tl,tc,tb,tm,td⟩:=x29
 go_upto_region 5 with fail
 refine pC ?_;intro w30 hE B15 B16 B17 hz_w30 hr_w30;refine mV6 hE ?_ B10 B11 B12 HX GE GR;clear B10 B11 B12 HX GE GR;intro B10 B11 B12 HX GE GR;have hs_w30:=hE.size;clear hE;replace b_B10:=bX3 B10;replace b_B11:=bX3 B11;replace b_B12:=bX3 B12;replace b_B15:=bX3 B15;replace b_B16:=bX3 B16;replace b_B17:=bX3 B17
 go_wp2_with fail
 refine cM (C0.out _) fun x31 w31 hE _=>?_
 refine mV8 hE ?_ B15 B16 B17 B10 B11 B12 HX GE;clear B15 B16 B17 B10 B11 B12 HX GE;intro B15 B16 B17 B10 B11 B12 HX GE;replace GR:=mV hE GR;have hs_w31:=hE.size;clear hE;replace b_B10:=bX3 B10;replace b_B11:=bX3 B11;replace b_B12:=bX3 B12;replace b_B15:=bX3 B15;replace b_B16:=bX3 B16;replace b_B17:=bX3 B17;have hk:m0=0∨m0=1∨m0=2∨m0=3:=by omega
 have hn8:(n:Int)≤5:=by omega
 have HS:Hid (aY w31 ⟨sn,sa,sl,sc,sb,sm,sd⟩ e):=Hi (GE.out.raw EF.out.z (by decide));have HT:Hid (aY w31 ⟨tn,ta,tl,tc,tb,tm,td⟩ r):=Hi (GR.out.raw HR.out.2 (by decide));rcases hk with rfl|rfl|rfl|rfl
 ·skip
  go_wp2_with fail
  refine cM (j0 (n:Nat) ⟨sn,sa,sl,sc,sb,sm,sd⟩ ⟨tn,ta,tl,tc,tb,tm,td⟩ e r 1 _ HS.out HT.out EF.out.z HR.out.2 (by decide) (by decide)) fun x52 w52 hE G52=>?_
  refine mV8 hE ?_ B15 B16 B17 B10 B11 B12 HX GE;clear B15 B16 B17 B10 B11 B12 HX GE;intro B15 B16 B17 B10 B11 B12 HX GE;replace GR:=mV hE GR;have hs_w52:=hE.size;clear hE;replace b_B10:=bX3 B10;replace b_B11:=bX3 B11;replace b_B12:=bX3 B12;replace b_B15:=bX3 B15;replace b_B16:=bX3 B16;replace b_B17:=bX3 B17;rw [HWR.out,Int.toNat_natCast] at G52;obtain ⟨⟨⟨gn,ga,gl,gc,gb,gm,gd⟩,⟨ea,en,ec⟩,gp,⟨da,dn,dc⟩⟩,ge⟩:=x52;obtain ⟨he,-,hp⟩:=G52.out;simp only at he;subst he;obtain ⟨pg,pe,pp,pd⟩:=hp rfl;simp only at pg pe pp pd;have PG:=Hi pg;have PE':=Hi pe;have PP:=Hi pp;have PD:=Hi pd;clear pg pe pp pd hp G52;have A1:=Hi (PE'.out.apz B17.out);have A2:=Hi (PD.out.apz B17.out);have A3:=Hi (PE'.out.apz B10.out);have A4:=Hi (PD.out.apz B10.out);have A5:=Hi (PE'.out.apz3 B11.out);have A6:=Hi (PD.out.apz3 B11.out);have A7:=Hi (PE'.out.apz3 B12.out);have A8:=Hi (PD.out.apz3 B12.out);clear HS HT;simp only [PE]
  go_upto_region 13 with fail
  refine bN B17.out rfl ?_;intro w80 T;have P1:=Hi (PE'.out.puta A1.out T);have D1:=Hi (PD.out.puta A2.out T);clear PE' PD;replace HX:=Hi (T.ext HX.out (by omega));replace B10:=Hi (T.rest _ _ (by omega) B10.out);replace B11:=Hi (T.rest _ _ (by omega) B11.out);replace B12:=Hi (T.rest _ _ (by omega) B12.out);replace GE:=Hi (GE.out.keep T.keep);replace GR:=Hi (GR.out.keep T.keep);replace B15:=Hi (T.rest _ _ (by omega) B15.out);replace B16:=Hi (T.rest _ _ (by omega) B16.out);replace B17:=Hi (T.bx);replace PG:=Hi (PG.out.keep T.keep);have hs_w80:=nle T.size;have hr_w80:=nle T.size.symm;clear T;replace b_B10:=bX3 B10;replace b_B11:=bX3 B11;replace b_B12:=bX3 B12;replace b_B15:=bX3 B15;replace b_B16:=bX3 B16;replace b_B17:=bX3 B17;have hl10:w.heap.size<w80.heap.size:=by omega
  go_region
  refine vO B10.out rfl B11.out rfl B12.out rfl (by omega) (by omega) (by omega) ?_;intro y2 y3 y4 y5 T2 T3 T4 hE5;have P2:=Hi (((((P1.out.puta A3.out T2).puta A5.out T3).puta A7.out T4)).ext hE5);have D2:=Hi (((((D1.out.puta A4.out T2).puta A6.out T3).puta A8.out T4)).ext hE5);have HX5:Hid (Ext w y5):=Hi ((T4.ext (T3.ext (T2.ext HX.out (by omega)) (by omega)) (by omega)).trans hE5);have PG5:=Hi ((((PG.out.keep T2.keep).keep T3.keep).keep T4.keep).ext hE5);have GE5:=Hi ((((GE.out.keep T2.keep).keep T3.keep).keep T4.keep).ext hE5);have GR5:=Hi ((((GR.out.keep T2.keep).keep T3.keep).keep T4.keep).ext hE5);have Z10:=Hi (hE5.block (T4.rest _ _ (by omega) (T3.rest _ _ (by omega) T2.bx)));have Z11:=Hi (hE5.block (T4.rest _ _ (by omega) T3.bx));have Z12:=Hi (hE5.block T4.bx);have c_Z10:=ab Z10.out;have c_Z11:=ab Z11.out;have c_Z12:=ab Z12.out;clear T2 T3 T4 hE5 b_B10 b_B11 b_B12 b_B15 b_B16 b_B17;go_wp2;exact bodyPost_ret (v:=AlV (⟨⟨gn,ga,gl,gc,gb,gm,gd⟩,⟨ea,en,ec⟩,gp,⟨da,dn,dc⟩⟩,⟨sn,sa,sl,sc,sb,sm,sd⟩,⟨tn,ta,tl,tc,tb,tm,td⟩)) (by simp [results,Tryz.results40,go_sem,c_Z10,c_Z11,c_Z12]) rfl
   ⟨(⟨⟨gn,ga,gl,gc,gb,gm,gd⟩,⟨ea,en,ec⟩,gp,⟨da,dn,dc⟩⟩,⟨sn,sa,sl,sc,sb,sm,sd⟩,⟨tn,ta,tl,tc,tb,tm,td⟩),rfl,HX5.out,⟨PG5.out,P2.out,PP.out,D2.out⟩,GE5.out,GR5.out⟩
 ·skip
  go_wp2_with fail
  refine cM (mX (n:Nat) ⟨sn,sa,sl,sc,sb,sm,sd⟩ ⟨tn,ta,tl,tc,tb,tm,td⟩ e r 1 _ HS.out HT.out EF.out.z HR.out.2 (by decide) (by decide)) fun x61 w61 hE G61=>?_
  refine mV8 hE ?_ HX B10 B11 B12 GE GR B15 B16;clear HX B10 B11 B12 GE GR B15 B16;intro HX B10 B11 B12 GE GR B15 B16;replace B17:=mV hE B17;have hs_w61:=hE.size;clear hE;replace b_B10:=bX3 B10;replace b_B11:=bX3 B11;replace b_B12:=bX3 B12;replace b_B15:=bX3 B15;replace b_B16:=bX3 B16;replace b_B17:=bX3 B17;rw [HWR.out,Int.toNat_natCast] at G61;obtain ⟨⟨⟨gn,ga,gl,gc,gb,gm,gd⟩,⟨ea,en,ec⟩,gp,⟨da,dn,dc⟩⟩,ge⟩:=x61;obtain ⟨he,-,hp⟩:=G61.out;simp only at he;subst he;obtain ⟨pg,pe,pp,pd⟩:=hp rfl;simp only at pg pe pp pd;have PG:=Hi pg;have PE':=Hi pe;have PP:=Hi pp;have PD:=Hi pd;clear pg pe pp pd hp G61;have A1:=Hi (PE'.out.apz B17.out);have A2:=Hi (PD.out.apz B17.out);have A3:=Hi (PE'.out.apz B10.out);have A4:=Hi (PD.out.apz B10.out);have A5:=Hi (PE'.out.apz3 B11.out);have A6:=Hi (PD.out.apz3 B11.out);have A7:=Hi (PE'.out.apz3 B12.out);have A8:=Hi (PD.out.apz3 B12.out);clear HS HT;simp only [PE]
  go_upto_region 13 with fail
  refine bN B17.out rfl ?_;intro w80 T;have P1:=Hi (PE'.out.puta A1.out T);have D1:=Hi (PD.out.puta A2.out T);clear PE' PD;replace HX:=Hi (T.ext HX.out (by omega));replace B10:=Hi (T.rest _ _ (by omega) B10.out);replace B11:=Hi (T.rest _ _ (by omega) B11.out);replace B12:=Hi (T.rest _ _ (by omega) B12.out);replace GE:=Hi (GE.out.keep T.keep);replace GR:=Hi (GR.out.keep T.keep);replace B15:=Hi (T.rest _ _ (by omega) B15.out);replace B16:=Hi (T.rest _ _ (by omega) B16.out);replace B17:=Hi (T.bx);replace PG:=Hi (PG.out.keep T.keep);have hs_w80:=nle T.size;have hr_w80:=nle T.size.symm;clear T;replace b_B10:=bX3 B10;replace b_B11:=bX3 B11;replace b_B12:=bX3 B12;replace b_B15:=bX3 B15;replace b_B16:=bX3 B16;replace b_B17:=bX3 B17;have hl10:w.heap.size<w80.heap.size:=by omega
  go_region
  refine vO B10.out rfl B11.out rfl B12.out rfl (by omega) (by omega) (by omega) ?_;intro y2 y3 y4 y5 T2 T3 T4 hE5;have P2:=Hi (((((P1.out.puta A3.out T2).puta A5.out T3).puta A7.out T4)).ext hE5);have D2:=Hi (((((D1.out.puta A4.out T2).puta A6.out T3).puta A8.out T4)).ext hE5);have HX5:Hid (Ext w y5):=Hi ((T4.ext (T3.ext (T2.ext HX.out (by omega)) (by omega)) (by omega)).trans hE5);have PG5:=Hi ((((PG.out.keep T2.keep).keep T3.keep).keep T4.keep).ext hE5);have GE5:=Hi ((((GE.out.keep T2.keep).keep T3.keep).keep T4.keep).ext hE5);have GR5:=Hi ((((GR.out.keep T2.keep).keep T3.keep).keep T4.keep).ext hE5);have Z10:=Hi (hE5.block (T4.rest _ _ (by omega) (T3.rest _ _ (by omega) T2.bx)));have Z11:=Hi (hE5.block (T4.rest _ _ (by omega) T3.bx));have Z12:=Hi (hE5.block T4.bx);have c_Z10:=ab Z10.out;have c_Z11:=ab Z11.out;have c_Z12:=ab Z12.out;clear T2 T3 T4 hE5 b_B10 b_B11 b_B12 b_B15 b_B16 b_B17;go_wp2;exact bodyPost_ret (v:=AlV (⟨⟨gn,ga,gl,gc,gb,gm,gd⟩,⟨ea,en,ec⟩,gp,⟨da,dn,dc⟩⟩,⟨sn,sa,sl,sc,sb,sm,sd⟩,⟨tn,ta,tl,tc,tb,tm,td⟩)) (by simp [results,Tryz.results40,go_sem,c_Z10,c_Z11,c_Z12]) rfl
   ⟨(⟨⟨gn,ga,gl,gc,gb,gm,gd⟩,⟨ea,en,ec⟩,gp,⟨da,dn,dc⟩⟩,⟨sn,sa,sl,sc,sb,sm,sd⟩,⟨tn,ta,tl,tc,tb,tm,td⟩),rfl,HX5.out,⟨PG5.out,P2.out,PP.out,D2.out⟩,GE5.out,GR5.out⟩
 ·skip
  go_wp2_with fail
  refine cM (pk (n:Nat) ⟨sn,sa,sl,sc,sb,sm,sd⟩ ⟨tn,ta,tl,tc,tb,tm,td⟩ e r 1 _ HS.out HT.out EF.out.z HR.out.2 (by decide) (by decide)) fun x70 w70 hE G70=>?_
  refine mV8 hE ?_ HX B10 B11 B12 GE GR B15 B16;clear HX B10 B11 B12 GE GR B15 B16;intro HX B10 B11 B12 GE GR B15 B16;replace B17:=mV hE B17;have hs_w70:=hE.size;clear hE;replace b_B10:=bX3 B10;replace b_B11:=bX3 B11;replace b_B12:=bX3 B12;replace b_B15:=bX3 B15;replace b_B16:=bX3 B16;replace b_B17:=bX3 B17;rw [HWR.out,Int.toNat_natCast] at G70;obtain ⟨⟨⟨gn,ga,gl,gc,gb,gm,gd⟩,⟨ea,en,ec⟩,gp,⟨da,dn,dc⟩⟩,ge⟩:=x70;obtain ⟨he,-,hp⟩:=G70.out;simp only at he;subst he;obtain ⟨pg,pe,pp,pd⟩:=hp rfl;simp only at pg pe pp pd;have PG:=Hi pg;have PE':=Hi pe;have PP:=Hi pp;have PD:=Hi pd;clear pg pe pp pd hp G70;have A1:=Hi (PE'.out.apz B17.out);have A2:=Hi (PD.out.apz B17.out);have A3:=Hi (PE'.out.apz B10.out);have A4:=Hi (PD.out.apz B10.out);have A5:=Hi (PE'.out.apz3 B11.out);have A6:=Hi (PD.out.apz3 B11.out);have A7:=Hi (PE'.out.apz3 B12.out);have A8:=Hi (PD.out.apz3 B12.out);clear HS HT;simp only [PE]
  go_upto_region 13 with fail
  refine bN B17.out rfl ?_;intro w80 T;have P1:=Hi (PE'.out.puta A1.out T);have D1:=Hi (PD.out.puta A2.out T);clear PE' PD;replace HX:=Hi (T.ext HX.out (by omega));replace B10:=Hi (T.rest _ _ (by omega) B10.out);replace B11:=Hi (T.rest _ _ (by omega) B11.out);replace B12:=Hi (T.rest _ _ (by omega) B12.out);replace GE:=Hi (GE.out.keep T.keep);replace GR:=Hi (GR.out.keep T.keep);replace B15:=Hi (T.rest _ _ (by omega) B15.out);replace B16:=Hi (T.rest _ _ (by omega) B16.out);replace B17:=Hi (T.bx);replace PG:=Hi (PG.out.keep T.keep);have hs_w80:=nle T.size;have hr_w80:=nle T.size.symm;clear T;replace b_B10:=bX3 B10;replace b_B11:=bX3 B11;replace b_B12:=bX3 B12;replace b_B15:=bX3 B15;replace b_B16:=bX3 B16;replace b_B17:=bX3 B17;have hl10:w.heap.size<w80.heap.size:=by omega
  go_region
  refine vO B10.out rfl B11.out rfl B12.out rfl (by omega) (by omega) (by omega) ?_;intro y2 y3 y4 y5 T2 T3 T4 hE5;have P2:=Hi (((((P1.out.puta A3.out T2).puta A5.out T3).puta A7.out T4)).ext hE5);have D2:=Hi (((((D1.out.puta A4.out T2).puta A6.out T3).puta A8.out T4)).ext hE5);have HX5:Hid (Ext w y5):=Hi ((T4.ext (T3.ext (T2.ext HX.out (by omega)) (by omega)) (by omega)).trans hE5);have PG5:=Hi ((((PG.out.keep T2.keep).keep T3.keep).keep T4.keep).ext hE5);have GE5:=Hi ((((GE.out.keep T2.keep).keep T3.keep).keep T4.keep).ext hE5);have GR5:=Hi ((((GR.out.keep T2.keep).keep T3.keep).keep T4.keep).ext hE5);have Z10:=Hi (hE5.block (T4.rest _ _ (by omega) (T3.rest _ _ (by omega) T2.bx)));have Z11:=Hi (hE5.block (T4.rest _ _ (by omega) T3.bx));have Z12:=Hi (hE5.block T4.bx);have c_Z10:=ab Z10.out;have c_Z11:=ab Z11.out;have c_Z12:=ab Z12.out;clear T2 T3 T4 hE5 b_B10 b_B11 b_B12 b_B15 b_B16 b_B17;go_wp2;exact bodyPost_ret (v:=AlV (⟨⟨gn,ga,gl,gc,gb,gm,gd⟩,⟨ea,en,ec⟩,gp,⟨da,dn,dc⟩⟩,⟨sn,sa,sl,sc,sb,sm,sd⟩,⟨tn,ta,tl,tc,tb,tm,td⟩)) (by simp [results,Tryz.results40,go_sem,c_Z10,c_Z11,c_Z12]) rfl
   ⟨(⟨⟨gn,ga,gl,gc,gb,gm,gd⟩,⟨ea,en,ec⟩,gp,⟨da,dn,dc⟩⟩,⟨sn,sa,sl,sc,sb,sm,sd⟩,⟨tn,ta,tl,tc,tb,tm,td⟩),rfl,HX5.out,⟨PG5.out,P2.out,PP.out,D2.out⟩,GE5.out,GR5.out⟩
 ·skip
  have hmod:(n:Int).tmod 2=((n % 2:Nat):Int):=rfl;obtain ⟨d2,hd2⟩:∃ d,d=n % 2:=⟨_,rfl⟩;rw [←hd2] at hmod;have hmod2:(n:Int) % 2=(d2:Int):=by omega
  have hd3:d2=0∨d2=1:=by omega
  have HEN:Hid ((2:Int)+2*(d2:Int)=((elN n:Nat):Int)):=Hi (by unfold elN;omega);have HWE:Hid (dl (elN n:Nat) e r=0):=Hi (oQ (by unfold elN;omega) (by unfold elN;omega) EF.out HR.out.1);clear hd2
  go_upto_region 6 with fail
  refine aQ [(14,13)] _ (by simp only [gA,kx,List.push_toArray,List.cons_append,List.nil_append];exact rfl) (by intro c a d v w h;cases d <;> exact h) 14 (fun opIx=>match opIx with
   | 7=>.spec Unit () (fun _=>.int .i64 (m4:Nat)) (fun _ _=>True)
   | 9=>.spec RH default RH.v (fun s w'=>aw w' s (q))
   | 10=>.spec (PH×Int) ((PH0,0)) (PE) (MkP 0 ((1:Int):Rat) (elE (elN n) e q) 0 (elD (elN n) e r q))
   | _=>.quiet) (fun|10=>[9]|_=>[]) (by kernel_rfl) (by kernel_rfl) (by kernel_rfl) (fun w0 he0 hz0 hc0 hf0=>?_)
  replace he0:=Hi he0;simp only [pT]
  repeat (refine wpq fun K h=>?_;go_big_quiet_op;refine h _ ?_;clear h K;(try simp only [hmod,hmod2]))
  refine wps he0.out rfl rfl (fun w1 hW hG=>?_) fun x40=>?_
  ·exact spc [.int .i64 z4,.int .i64 9] Tryz.func47 (C4.out _)
  simp only [pS]
  repeat (refine wpq fun K h=>?_;go_big_quiet_op;refine h _ ?_;clear h K;(try simp only [hmod,hmod2]))
  refine wps he0.out rfl rfl (fun w1 hW hG=>?_) fun x42=>?_
  ·exact spc [.int .i64 (1+(m4:Int)),.int .i64 10] Tryz.func54 ((by rw [HQQ.out];exact fZ (1+(m4:Int)) 10 _ (by omega) (by omega) (by decide) (by decide)))
  simp only [pS]
  repeat (refine wpq fun K h=>?_;go_big_quiet_op;refine h _ ?_;clear h K;(try simp only [hmod,hmod2]))
  refine wps he0.out rfl rfl (fun w1 hW hG=>?_) fun x43=>?_
  ·have g42:=(hG 9 (by decide):av _ _).get fun _ e g=>g.ext e
   exact spc [.int .i64 (2+2*(d2:Int)),RH.v ⟨sn,sa,sl,sc,sb,sm,sd⟩,RH.v ⟨tn,ta,tl,tc,tb,tm,td⟩,x42.v] Tryz.func55 ((by rw [HEN.out];exact yG (elN n) ⟨sn,sa,sl,sc,sb,sm,sd⟩ ⟨tn,ta,tl,tc,tb,tm,td⟩ x42 e r q 1 _ (tN n) (HS.out.ext hW) (HT.out.ext hW) (g42.raw HQ.out.2.2 (by decide)) EF.out.z HR.out.2 HQ.out.2.2 (by decide) (by decide) HWE.out HQ.out.1 HQ.out.2.1))
  simp only [pS]
  repeat (refine wpq fun K h=>?_;go_big_quiet_op;refine h _ ?_;clear h K;(try simp only [hmod,hmod2]))
  refine ak ?_;intro w43 hI;have hE:=he0.out.trans hI.ext;have G42:=gT (hI.facts 9);have G43:=gT (hI.facts 10);clear hI he0 hz0 hc0 hf0;refine mV8 hE ?_ HX B10 B11 B12 GE GR B15 B16;clear HX B10 B11 B12 GE GR B15 B16;intro HX B10 B11 B12 GE GR B15 B16;replace B17:=mV hE B17;have hs_w43:=hE.size;clear hE;replace b_B10:=bX3 B10;replace b_B11:=bX3 B11;replace b_B12:=bX3 B12;replace b_B15:=bX3 B15;replace b_B16:=bX3 B16;replace b_B17:=bX3 B17;simp only [pD];clear G42;obtain ⟨⟨⟨gn,ga,gl,gc,gb,gm,gd⟩,⟨ea,en,ec⟩,gp,⟨da,dn,dc⟩⟩,ge⟩:=x43;obtain ⟨he,-,hp⟩:=G43.out;simp only at he;subst he;obtain ⟨pg,pe,pp,pd⟩:=hp rfl;simp only at pg pe pp pd;have PG:=Hi pg;have PE':=Hi pe;have PP:=Hi pp;have PD:=Hi pd;clear pg pe pp pd hp G43;have A1:=Hi (PE'.out.apz B17.out);have A2:=Hi (PD.out.apz B17.out);have A3:=Hi (PE'.out.apz B10.out);have A4:=Hi (PD.out.apz B10.out);have A5:=Hi (PE'.out.apz3 B11.out);have A6:=Hi (PD.out.apz3 B11.out);have A7:=Hi (PE'.out.apz3 B12.out);have A8:=Hi (PD.out.apz3 B12.out);clear HS HT;simp only [PE]
  go_upto_region 13 with fail
  refine bN B17.out rfl ?_;intro w80 T;have P1:=Hi (PE'.out.puta A1.out T);have D1:=Hi (PD.out.puta A2.out T);clear PE' PD;replace HX:=Hi (T.ext HX.out (by omega));replace B10:=Hi (T.rest _ _ (by omega) B10.out);replace B11:=Hi (T.rest _ _ (by omega) B11.out);replace B12:=Hi (T.rest _ _ (by omega) B12.out);replace GE:=Hi (GE.out.keep T.keep);replace GR:=Hi (GR.out.keep T.keep);replace B15:=Hi (T.rest _ _ (by omega) B15.out);replace B16:=Hi (T.rest _ _ (by omega) B16.out);replace B17:=Hi (T.bx);replace PG:=Hi (PG.out.keep T.keep);have hs_w80:=nle T.size;have hr_w80:=nle T.size.symm;clear T;replace b_B10:=bX3 B10;replace b_B11:=bX3 B11;replace b_B12:=bX3 B12;replace b_B15:=bX3 B15;replace b_B16:=bX3 B16;replace b_B17:=bX3 B17;have hl10:w.heap.size<w80.heap.size:=by omega
  go_region
  refine vO B10.out rfl B11.out rfl B12.out rfl (by omega) (by omega) (by omega) ?_;intro y2 y3 y4 y5 T2 T3 T4 hE5;have P2:=Hi (((((P1.out.puta A3.out T2).puta A5.out T3).puta A7.out T4)).ext hE5);have D2:=Hi (((((D1.out.puta A4.out T2).puta A6.out T3).puta A8.out T4)).ext hE5);have HX5:Hid (Ext w y5):=Hi ((T4.ext (T3.ext (T2.ext HX.out (by omega)) (by omega)) (by omega)).trans hE5);have PG5:=Hi ((((PG.out.keep T2.keep).keep T3.keep).keep T4.keep).ext hE5);have GE5:=Hi ((((GE.out.keep T2.keep).keep T3.keep).keep T4.keep).ext hE5);have GR5:=Hi ((((GR.out.keep T2.keep).keep T3.keep).keep T4.keep).ext hE5);have Z10:=Hi (hE5.block (T4.rest _ _ (by omega) (T3.rest _ _ (by omega) T2.bx)));have Z11:=Hi (hE5.block (T4.rest _ _ (by omega) T3.bx));have Z12:=Hi (hE5.block T4.bx);have c_Z10:=ab Z10.out;have c_Z11:=ab Z11.out;have c_Z12:=ab Z12.out;clear T2 T3 T4 hE5 b_B10 b_B11 b_B12 b_B15 b_B16 b_B17;go_wp2;exact bodyPost_ret (v:=AlV (⟨⟨gn,ga,gl,gc,gb,gm,gd⟩,⟨ea,en,ec⟩,gp,⟨da,dn,dc⟩⟩,⟨sn,sa,sl,sc,sb,sm,sd⟩,⟨tn,ta,tl,tc,tb,tm,td⟩)) (by simp [results,Tryz.results40,go_sem,c_Z10,c_Z11,c_Z12]) rfl
   ⟨(⟨⟨gn,ga,gl,gc,gb,gm,gd⟩,⟨ea,en,ec⟩,gp,⟨da,dn,dc⟩⟩,⟨sn,sa,sl,sc,sb,sm,sd⟩,⟨tn,ta,tl,tc,tb,tm,td⟩),rfl,HX5.out,⟨PG5.out,P2.out,PP.out,D2.out⟩,GE5.out,GR5.out⟩
end Go.Proofs.YtafgmcimcbhhjaaGreat
/- Differences of the prototypes' polynomials in closed form, for their sizes. Plain facts. -/
namespace Go.Proofs.YtafgmcimcbhhjaaGreat
open Go.RowKit Go.Front Go.Num Stab Sg
theorem Cr{g:Rat}{e d:List Rat}{p:Int}(h:AlZ g e d p):FrB 260 (nuP g e p)∧(nuP g e p).length≤6:=by
 have hp:=h.p5;have h0:=h.p0;have hl:=h.lp;have hle:=h.le;have f:=((h.fe.mul h.fe (by omega)).mul (oh (n:=p.toNat) (by omega)) (by have:=bf (nXd e.length) (nXd e.length);omega)).scP h.zg (by omega);refine ⟨f.mono (by omega),nXe (bR _ _ (bf (bf (nXd e.length) (nXd e.length)) (fI p.toNat))) (by omega)⟩
end Go.Proofs.YtafgmcimcbhhjaaGreat
/- How near two roots can be: on a short interval the changes of sign in a chain fall by one at most. Plain facts. -/
namespace Go.Proofs.YtafgmcimcbhhjaaGreat.Sg
open Go.RowKit Go.Front Go.Num Go.Stab Go.Proofs.YtafgmcimcbhhjaaGreat
def v6(q:List Rat)(x:Rat):Nat:=iS (At q) x
end Go.Proofs.YtafgmcimcbhhjaaGreat.Sg
/- A list of intervals of one's own that grows: an interval is two numbers of three cells. -/
namespace Go.Proofs.YtafgmcimcbhhjaaGreat
open Go.RowKit Go.Front Go.Num
end Go.Proofs.YtafgmcimcbhhjaaGreat
/- Lists of intervals in memory. -/
namespace Go.Proofs.YtafgmcimcbhhjaaGreat
open Go.RowKit Go.Front Go.Num Stab
attribute [local go_sem] XW.cell XW.frozen
end Go.Proofs.YtafgmcimcbhhjaaGreat
/- split of package dspcompilerref06. -/
namespace Go.Proofs.YtafgmcimcbhhjaaGreat
open Go.RowKit Go.Front Go.Num Stab Sg
attribute [local go_sem] XW.cell XW.frozen
end Go.Proofs.YtafgmcimcbhhjaaGreat
/- Unit of package dspcompilerref03. -/
namespace Go.Proofs.YtafgmcimcbhhjaaGreat
open Go.RowKit Go.Front Go.Num Stab
attribute [local go_sem] XW.cell XW.frozen
end Go.Proofs.YtafgmcimcbhhjaaGreat
/- Isolate of package dspcompilerref06. -/
namespace Go.Proofs.YtafgmcimcbhhjaaGreat
open Go.RowKit Go.Front Go.Num Stab Sg
attribute [local go_sem] XW.cell XW.frozen
def AfZ(S D T n:Nat)(p:List Rat):Prop:=1≤S∧0<D∧D<W32 ^ S∧FrL S D p∧p.length≤n∧n≤100∧S+n+n*(T+1)≤8000000
theorem AfZ.ev{S D T n:Nat}{l:List Rat}(h:AfZ S D T n l){x:Rat}(hx:Sz T x):∀ k,k≤l.length→Sz 40000000 (evV (l.drop k) x):=fun k _=>(Br h.2.2.2.1 hx h.1 h.2.1 h.2.2.1 k).mono (by
 have h1:=h.2.2.2.2.2.2;have h2:l.length*(T+1)≤n*(T+1):=nXg _ h.2.2.2.2.1;omega)
theorem ug{a b:Rat}:dp a b=0↔a=b:=by
 unfold dp;by_cases h:a<b
 ·rw [if_pos h];exact ⟨fun k=>absurd k (by decide),fun k=>by exfalso;grind⟩
 ·rw [if_neg h];by_cases h2:a=b
  ·rw [if_pos h2];exact ⟨fun _=>h2,fun _=>rfl⟩
  ·rw [if_neg h2];exact ⟨fun k=>absurd k (by decide),fun k=>absurd k h2⟩
end Go.Proofs.YtafgmcimcbhhjaaGreat
/- Sizes for Isolate and Nonnegative. Plain facts. -/
namespace Go.Proofs.YtafgmcimcbhhjaaGreat
open Go.RowKit Go.Front Go.Num Stab Sg
theorem xU{l:List Rat}{S n T:Nat}(hf:FrB S l)(hl:l.length≤n)(hn:n≤49)(hS:S≤500000)(hT2:T≤150000):∃ D,AfZ S D T n l:=by
 obtain ⟨h1,D,h2,h3,h4⟩:=hf;have hnT:n*(T+1)≤49*150001:=nXw hn (by omega);exact ⟨D,h1,h2,h3,h4,hl,by omega,by omega⟩
end Go.Proofs.YtafgmcimcbhhjaaGreat
